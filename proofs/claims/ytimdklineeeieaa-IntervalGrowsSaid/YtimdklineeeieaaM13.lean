/- The chapter's examples. -/
import Derived.Test.YtimdklineeeieaaM12
namespace Go.Proofs.Ytimdklineeeieaa.M
theorem ex1 : imul (-1) 1 2 1 (-3) 1 1 1 = (-6, 1, 3, 1, 0) := by decide +kernel
theorem ex2 : isub 1 1 2 1 3 1 5 1 = (-4, 1, -1, 1, 0) := by decide +kernel
theorem ex3 : idiv 1 1 2 1 (-2) 1 = (-1, 1, -1, 2, 0) := by decide +kernel
theorem ex4 : imax 1 1 4 1 2 1 3 1 = (2, 1, 4, 1, 0) := by decide +kernel
theorem ex5 : isect 1 1 2 1 4 1 5 1 = (0, 0, 0, 0, 8) := by decide +kernel
theorem ex6 : imake 1 2 2 1 = (1, 2, 2, 1, 0) := by decide +kernel
theorem ex7 : icont 1 2 2 1 1 1 = true := by decide +kernel
theorem ex8 : iin 1 1 2 1 1 2 2 1 = true := by decide +kernel
end Go.Proofs.Ytimdklineeeieaa.M
