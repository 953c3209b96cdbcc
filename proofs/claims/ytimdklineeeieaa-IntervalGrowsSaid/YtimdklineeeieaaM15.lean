/- The operations on intervals, and the reference's. -/
import Derived.Test.YtimdklineeeieaaM14
namespace Go.Proofs.Ytimdklineeeieaa.M
def dof (k a b c d e f g h : Int) : Int × Int × Int × Int × Int :=
  if k = 0 then iadd a b c d e f g h else if k = 1 then isub a b c d e f g h else if k = 2 then imul a b c d e f g h else if k = 3 then imin a b c d e f g h else imax a b c d e f g h
theorem dof_rof {k : Int} (h0 : 0 ≤ k) (h4 : k ≤ 4) (a b c d e f g h : Int) : dof k a b c d e f g h = rof k a b c d e f g h := by
  have hk : (k == 5) = false := by rw [beq_eq_false_iff_ne]; omega
  unfold rof
  rw [hk, Bool.false_and, Bool.not_false, Bool.and_true]
  rcases (by omega : k = 0 ∨ k = 1 ∨ k = 2 ∨ k = 3 ∨ k = 4) with rfl | rfl | rfl | rfl | rfl
  · show iadd a b c d e f g h = _; unfold iadd; rfl
  · show isub a b c d e f g h = _; unfold isub; rfl
  · show imul a b c d e f g h = _; unfold imul; rfl
  · show imin a b c d e f g h = _; unfold imin; rfl
  · show imax a b c d e f g h = _; unfold imax; rfl
theorem lessr_idem (a b c d : Int) : lessr (lessr a b c d).1 (lessr a b c d).2.1 c d = lessr a b c d := by
  unfold lessr
  by_cases h : cmpF a b c d ≤ 0
  · simp [h]
  · simp only [h, if_false]; split <;> rfl
theorem morer_idem (a b c d : Int) : morer (morer a b c d).1 (morer a b c d).2.1 c d = morer a b c d := by
  unfold morer
  by_cases h : 0 ≤ cmpF a b c d
  · simp [h]
  · simp only [h, if_false]; split <;> rfl
theorem span_twice (p q : Int × Int) : spanF [p, p, q, q] = spanF [p, q] := by
  obtain ⟨a, b⟩ := p
  obtain ⟨c, d⟩ := q
  simp only [spanF, List.drop_succ_cons, List.drop_zero, List.foldl_cons, List.foldl_nil, List.getD_cons_zero, spanStep, lessr_self, morer_self, lessr_idem, morer_idem]
theorem ext_twice (op : Int → Int → Int → Int → Int × Int × Int) (p q : Int × Int × Int × Int) : extF op [p, p, q, q] = extF op [p, q] := by
  unfold extF
  simp only [List.all_cons, List.all_nil, List.map_cons, List.map_nil, span_twice, Bool.and_true]
  have e : ∀ x y : Bool, (x && (x && (y && y))) = (x && y) := by decide
  rw [e]
theorem ivld_point (x y : Int) : ivld x y x y = vld x y := by
  unfold ivld
  have : cmpF x y x y = 0 := by unfold cmpF; by_cases h : vld x y = true <;> simp [h]
  rw [this]; simp
theorem iscale_rof (a b c d x y : Int) : iscale a b c d x y = rof 2 a b c d x y x y := by
  unfold iscale rof
  rw [ivld_point]
  have : (!(((2 : Int) == 5) && (x == 0))) = true := by simp
  rw [this, Bool.and_true]
  show _ = if (ivld a b c d && vld x y) = true then extF mulF [(a, b, x, y), (a, b, x, y), (c, d, x, y), (c, d, x, y)] else _
  rw [ext_twice]
theorem idiv_rof (a b c d x y : Int) : idiv a b c d x y = rof 5 a b c d x y x y := by
  unfold idiv rof
  rw [ivld_point]
  have : (((5 : Int) == 5) && (x == 0)) = (x == 0) := by simp
  rw [this]
  show _ = if (ivld a b c d && vld x y && !(x == 0)) = true then extF divF [(a, b, x, y), (a, b, x, y), (c, d, x, y), (c, d, x, y)] else _
  rw [ext_twice]
end Go.Proofs.Ytimdklineeeieaa.M
