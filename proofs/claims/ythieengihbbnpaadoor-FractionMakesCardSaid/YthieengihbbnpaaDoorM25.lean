/- The chapter's examples. -/
import Derived.Test.YthieengihbbnpaaDoorM24
namespace Go.Proofs.YthieengihbbnpaaDoor.M
theorem y1 : makeF 6 (-4) = (-3, 2, 0) := by decide +kernel
theorem y2 : addF 1 3 1 6 = (1, 2, 0) := by decide +kernel
theorem y3 : mulF 2 3 9 4 = (3, 2, 0) := by decide +kernel
theorem y4 : addF 999999999999999999 1000000000000000000 1 1000000000000000000 = (1, 1, 0) := by decide +kernel
theorem y5 : addF 1000000000000000000 1 1 1 = (0, 0, 5) := by decide +kernel
theorem y6 : parseF [48, 46, 49, 50, 53] = (1, 8, 0) := by decide +kernel
theorem y7 : parseF [49, 46] = (0, 0, 2) := by decide +kernel
theorem i5 : Lib.itoa 5 = [53] := by unfold Lib.itoa; rw [if_neg (by decide)]; unfold Lib.decDigits; rfl
theorem i2 : Lib.itoa 2 = [50] := by unfold Lib.itoa; rw [if_neg (by decide)]; unfold Lib.decDigits; rfl
theorem i3 : Lib.itoa (-3) = [45, 51] := by unfold Lib.itoa; rw [if_pos (by decide)]; unfold Lib.decDigits; rfl
theorem y8 : decF (-5) 3 = ([45, 48, 46, 48, 48, 53], 0) := by
  unfold decF decL
  rw [if_neg (by decide), if_pos (by decide), show absI (-5) = 5 from rfl, i5]
  rfl
theorem y9 : textL (-3) 2 = [45, 51, 47, 50] := by
  unfold textL
  rw [if_pos (by decide +kernel), if_neg (by decide), i3, i2]
  rfl
theorem y10 : vld 0 1 = true := by decide +kernel
theorem y11 : vld 0 0 = false := by decide +kernel
theorem y12 : vld (-1) 8 = true := by decide +kernel
end Go.Proofs.YthieengihbbnpaaDoor.M
