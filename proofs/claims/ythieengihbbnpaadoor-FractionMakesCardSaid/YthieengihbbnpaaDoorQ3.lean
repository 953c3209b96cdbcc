/- Seat 01: arguments that are fractions, opened; the laid table of powers of ten. -/
import Derived.Test.YthieengihbbnpaaDoorRows
import Derived.Test.YthieengihbbnpaaDoorF3
import Derived.ProofKit
import Derived.OpenShut
import Derived.Lib.SmallJoins
import Derived.LaidMore
namespace Go.Proofs.YthieengihbbnpaaDoor
open Go.ChangeShapes Go.WideShapes Go.RowKit Go.Joins
set_option linter.unusedVariables false
theorem cells_F : Tryd.prog.cellsOf 27 = 2 := by kernel_rfl
section
variable {H : Type} {enc : TypeId × Value → H} {w : World} {base : Nat} {spare : Nat → Bool} {held : Bool}
theorem trod_F {n : Nat} {c0 c1 : Value} {x : DataW H × List MemPlace} (h : DataW.trod enc Tryd.prog w base spare held n 27 [c0, c1] = some x) : ∃ a b : Int, c0 = .int .i64 a ∧ c1 = .int .i64 b := by
  obtain ⟨y0, y1, m, _, _, h0, h1⟩ := trod_struct2 Tryd.underlying27 h
  obtain ⟨a, e0, _, _⟩ := DataW.trod_int Tryd.underlying2 h0
  obtain ⟨b, e1, _, _⟩ := DataW.trod_int Tryd.underlying2 h1
  have z : Tryd.prog.cellsOf 2 = 1 := by kernel_rfl
  rw [z] at e0 e1
  simp at e0 e1
  exact ⟨a, b, e0, e1⟩
set_option maxRecDepth 100000 in
theorem openF {r : Reach} {b0 : Nat} {v : Value} {d : DataW H} {p : List MemPlace} (hv : Value.okWide Tryd.prog w r b0 27 v) (h : DataW.Trod enc Tryd.prog w base spare held 27 v d p) :
    ∃ a b : Int, v = .agg #[.int .i64 a, .int .i64 b] := by
  obtain ⟨cs, rfl, hsz⟩ := okWide_struct Tryd.underlying27 hv
  obtain ⟨c0, c1, rfl⟩ := array2 (hsz.trans cells_F)
  obtain ⟨fuel, hf⟩ := h
  obtain ⟨a, b, rfl, rfl⟩ := trod_F hf
  exact ⟨a, b, rfl⟩
end
theorem wfI {a : Int} (h : (Lit.int .i64 a).wf = true) : M.isI a := by
  unfold M.isI
  simp [Lit.wf, IntKind.min, IntKind.max, IntKind.bits, IntKind.signed] at h
  omega
theorem tab_of_laid {W : World} (h : laidMetH Tryd.prog [("math/bits.deBruijn32tab", Rows.laid_math_bits_deBruijn32tab), ("math/bits.deBruijn64tab", Rows.laid_math_bits_deBruijn64tab), ("internal/strconv.uint64pow10", Rows.laid_internal_strconv_uint64pow10)] W) : Tab W := by
  rw [MakeChecks.laidMetH_plain _ _ _ (by kernel_rfl)] at h
  obtain ⟨ps, ⟨g0, t0, cs0, f0, p0, q0, hg0, ht0, hv0, hd0, ⟨g1, t1, cs1, f1, p1, q1, hg1, ht1, hv1, hd1, ⟨g2, t2, cs2, f2, p2, q2, hg2, ht2, hv2, hd2, _, _⟩, _⟩, _⟩, _⟩ := h
  obtain rfl := Option.some.inj ((by kernel_rfl : Tryd.prog.globalNamed "internal/strconv.uint64pow10" = some 2).symm.trans hg2)
  obtain rfl := Option.some.inj ((by kernel_rfl : (Tryd.prog.globals[2]?).map (·.type) = some 111).symm.trans ht2)
  unfold Tab Lib.TabIs
  rw [hv2, ← Lib.cells_of_tab Tryd.underlying111 Tryd.underlying47 (by kernel_rfl) (by kernel_rfl) hd2]
end Go.Proofs.YthieengihbbnpaaDoor
