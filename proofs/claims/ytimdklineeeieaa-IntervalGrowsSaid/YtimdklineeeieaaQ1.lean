/- Arguments that are fractions or intervals, opened. -/
import Derived.Test.YtimdklineeeieaaRows
import Derived.WalkKit
import Derived.ProofKit
import Derived.OpenShut
import Derived.Below
import Derived.Lib.SmallJoins
namespace Go.Proofs.Ytimdklineeeieaa
open Go.ChangeShapes Go.WideShapes Go.RowKit Go.Joins
set_option linter.unusedVariables false
theorem cells_F : Try.prog.cellsOf 23 = 2 := by kernel_rfl
theorem cells_I : Try.prog.cellsOf 25 = 4 := by kernel_rfl
section
variable {H : Type} {enc : TypeId × Value → H} {w : World} {base : Nat} {spare : Nat → Bool} {held : Bool}
theorem trod_F {n : Nat} {c0 c1 : Value} {x : DataW H × List MemPlace} (h : DataW.trod enc Try.prog w base spare held n 23 [c0, c1] = some x) : ∃ a b : Int, c0 = .int .i64 a ∧ c1 = .int .i64 b := by
  obtain ⟨y0, y1, m, _, _, h0, h1⟩ := trod_struct2 Try.underlying23 h
  obtain ⟨a, e0, _, _⟩ := DataW.trod_int Try.underlying2 h0
  obtain ⟨b, e1, _, _⟩ := DataW.trod_int Try.underlying2 h1
  have z : Try.prog.cellsOf 2 = 1 := by kernel_rfl
  rw [z] at e0 e1
  simp at e0 e1
  exact ⟨a, b, e0, e1⟩
theorem openF {r : Reach} {b0 : Nat} {v : Value} {d : DataW H} {p : List MemPlace} (hv : Value.okWide Try.prog w r b0 23 v) (h : DataW.Trod enc Try.prog w base spare held 23 v d p) :
    ∃ a b : Int, v = .agg #[.int .i64 a, .int .i64 b] := by
  obtain ⟨cs, rfl, hsz⟩ := okWide_struct Try.underlying23 hv
  obtain ⟨c0, c1, rfl⟩ := array2 (hsz.trans cells_F)
  obtain ⟨fuel, hf⟩ := h
  obtain ⟨a, b, rfl, rfl⟩ := trod_F hf
  exact ⟨a, b, rfl⟩
theorem openI {r : Reach} {b0 : Nat} {v : Value} {d : DataW H} {p : List MemPlace} (hv : Value.okWide Try.prog w r b0 25 v) (h : DataW.Trod enc Try.prog w base spare held 25 v d p) :
    ∃ a b c d : Int, v = .agg #[.int .i64 a, .int .i64 b, .int .i64 c, .int .i64 d] := by
  obtain ⟨cs, rfl, hsz⟩ := okWide_struct Try.underlying25 hv
  obtain ⟨c0, c1, c2, c3, rfl⟩ := array4 (hsz.trans cells_I)
  obtain ⟨fuel, hf⟩ := h
  obtain ⟨y0, y1, m, _, _, h0, h1⟩ := trod_struct2 Try.underlying25 hf
  have z := cells_F
  rw [z] at h0 h1
  obtain ⟨a, b, rfl, rfl⟩ := trod_F h0
  obtain ⟨c, d, rfl, rfl⟩ := trod_F h1
  exact ⟨a, b, c, d, rfl⟩
end
end Go.Proofs.Ytimdklineeeieaa
