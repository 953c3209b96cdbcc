/- The reference's extension of an operation. -/
import Derived.Test.YtimdklineeeieaaM11
namespace Go.Proofs.Ytimdklineeeieaa.M
def opF (k : Int) (a b c d : Int) : Int × Int × Int :=
  if k = 0 then addF a b c d else if k = 1 then subF a b c d else if k = 2 then mulF a b c d else if k = 3 then lessr a b c d else if k = 5 then divF a b c d else morer a b c d
def endsF (k a b c d e f g h : Int) : List (Int × Int × Int × Int) :=
  if k = 1 then [(a, b, g, h), (c, d, e, f)] else if k = 2 ∨ k = 5 then [(a, b, e, f), (a, b, g, h), (c, d, e, f), (c, d, g, h)] else [(a, b, e, f), (c, d, g, h)]
def rof (k a b c d e f g h : Int) : Int × Int × Int × Int × Int :=
  if (ivld a b c d && ivld e f g h && !((k == 5) && (e == 0))) = true then extF (opF k) (endsF k a b c d e f g h) else (0, 0, 0, 0, 1)
theorem ext_op {op op' : Int → Int → Int → Int → Int × Int × Int} (h : ∀ a b c d, op a b c d = op' a b c d) : op = op' := by
  funext a b c d; exact h a b c d
end Go.Proofs.Ytimdklineeeieaa.M
