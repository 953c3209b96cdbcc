/- Both ends of a result are results for ends of the operands. -/
import Derived.Test.YtimdklineeeieaaM16
namespace Go.Proofs.Ytimdklineeeieaa.M
theorem lessr_pick (a b c d : Int) : lessr a b c d = (a, b, 0) ∨ lessr a b c d = (c, d, 0) := by unfold lessr; split <;> simp
theorem morer_pick (a b c d : Int) : morer a b c d = (a, b, 0) ∨ morer a b c d = (c, d, 0) := by unfold morer; split <;> simp
theorem fold_pick (l : List (Int × Int)) : ∀ s : Int × Int × Int × Int, (((l.foldl spanStep s).1, (l.foldl spanStep s).2.1) = (s.1, s.2.1) ∨ ((l.foldl spanStep s).1, (l.foldl spanStep s).2.1) ∈ l) ∧
    ((l.foldl spanStep s).2.2 = s.2.2 ∨ (l.foldl spanStep s).2.2 ∈ l) := by
  induction l with
  | nil => intro s; exact ⟨.inl rfl, .inl rfl⟩
  | cons x l ih =>
    intro s
    obtain ⟨h1, h2⟩ := ih (spanStep s x)
    rw [List.foldl_cons]
    constructor
    · rcases h1 with h1 | h1
      · rw [h1]
        unfold spanStep
        rcases lessr_pick s.1 s.2.1 x.1 x.2 with e | e <;> rw [e]
        · exact .inl rfl
        · exact .inr (by simp)
      · exact .inr (List.mem_cons_of_mem _ h1)
    · rcases h2 with h2 | h2
      · rw [h2]
        unfold spanStep
        rcases morer_pick s.2.2.1 s.2.2.2 x.1 x.2 with e | e <;> rw [e]
        · exact .inl rfl
        · exact .inr (by simp)
      · exact .inr (List.mem_cons_of_mem _ h2)
theorem span_pick {l : List (Int × Int)} (h : l ≠ []) : ((spanF l).1, (spanF l).2.1) ∈ l ∧ (spanF l).2.2 ∈ l := by
  cases l with
  | nil => exact absurd rfl h
  | cons x l =>
    unfold spanF
    simp only [List.drop_succ_cons, List.drop_zero, List.getD_cons_zero]
    obtain ⟨h1, h2⟩ := fold_pick l (x.1, x.2, x.1, x.2)
    constructor
    · rcases h1 with h1 | h1
      · rw [h1]; simp
      · exact List.mem_cons_of_mem _ h1
    · rcases h2 with h2 | h2
      · rw [h2]; simp
      · exact List.mem_cons_of_mem _ h2
/-- the ends of an extension are results -/
theorem ext_pick {op : Int → Int → Int → Int → Int × Int × Int} {ps : List (Int × Int × Int × Int)} {x y z t : Int} (hp : ps ≠ []) (h : extF op ps = (x, y, z, t, 0)) :
    (∀ p ∈ ps, (op p.1 p.2.1 p.2.2.1 p.2.2.2).2.2 = 0) ∧ (∃ p ∈ ps, op p.1 p.2.1 p.2.2.1 p.2.2.2 = (x, y, 0)) ∧ ∃ p ∈ ps, op p.1 p.2.1 p.2.2.1 p.2.2.2 = (z, t, 0) := by
  unfold extF at h
  by_cases hall : ps.all (fun p => (op p.1 p.2.1 p.2.2.1 p.2.2.2).2.2 == 0) = true
  · rw [if_pos hall] at h
    rw [List.all_eq_true] at hall
    have hz : ∀ p ∈ ps, (op p.1 p.2.1 p.2.2.1 p.2.2.2).2.2 = 0 := fun p hp => by simpa using hall p hp
    obtain ⟨h1, h2⟩ := span_pick (l := ps.map fun p => ((op p.1 p.2.1 p.2.2.1 p.2.2.2).1, (op p.1 p.2.1 p.2.2.1 p.2.2.2).2.1)) (by simpa using hp)
    simp only [Prod.mk.injEq] at h
    obtain ⟨e1, e2, e3, e4, _⟩ := h
    refine ⟨hz, ?_, ?_⟩
    · obtain ⟨p, hp, e⟩ := List.mem_map.mp h1
      simp only [Prod.mk.injEq] at e
      refine ⟨p, hp, ?_⟩
      rw [← e1, ← e2, ← e.1, ← e.2, ← hz p hp]
    · obtain ⟨p, hp, e⟩ := List.mem_map.mp h2
      refine ⟨p, hp, ?_⟩
      rw [← e3, ← e4, ← e, ← hz p hp]
  · rw [if_neg hall] at h
    simp at h
theorem rof_valid {k a b c d e f g h x y z t : Int} (hr : rof k a b c d e f g h = (x, y, z, t, 0)) : ivld a b c d = true ∧ ivld e f g h = true ∧ extF (opF k) (endsF k a b c d e f g h) = (x, y, z, t, 0) := by
  unfold rof at hr
  by_cases hv : (ivld a b c d && ivld e f g h && !((k == 5) && (e == 0))) = true
  · rw [if_pos hv] at hr
    simp only [Bool.and_eq_true] at hv
    exact ⟨hv.1.1, hv.1.2, hr⟩
  · rw [if_neg hv] at hr
    simp at hr
theorem ends_ne (k a b c d e f g h : Int) : endsF k a b c d e f g h ≠ [] := by unfold endsF; split <;> (try split) <;> simp
theorem ends_mem {k a b c d e f g h : Int} {p : Int × Int × Int × Int} (hp : p ∈ endsF k a b c d e f g h) : p = (a, b, e, f) ∨ p = (c, d, e, f) ∨ p = (a, b, g, h) ∨ p = (c, d, g, h) := by
  unfold endsF at hp
  split at hp
  · simp at hp; rcases hp with rfl | rfl <;> simp
  · split at hp
    · simp at hp; rcases hp with rfl | rfl | rfl | rfl <;> simp
    · simp at hp; rcases hp with rfl | rfl <;> simp
/-- the operands of round j -/
def endAt (a b c d e f g h j : Int) : Int × Int × Int × Int := if j = 0 then (a, b, e, f) else if j = 1 then (c, d, e, f) else if j = 2 then (a, b, g, h) else (c, d, g, h)
def opAt (k : Int) (p : Int × Int × Int × Int) : Int × Int × Int := opF k p.1 p.2.1 p.2.2.1 p.2.2.2
theorem tight {k a b c d e f g h x y z t : Int} (hr : rof k a b c d e f g h = (x, y, z, t, 0)) :
    (∃ j : Int, 0 ≤ j ∧ j < 4 ∧ opAt k (endAt a b c d e f g h j) = (x, y, 0)) ∧ ∃ j : Int, 0 ≤ j ∧ j < 4 ∧ opAt k (endAt a b c d e f g h j) = (z, t, 0) := by
  obtain ⟨_, _, he⟩ := rof_valid hr
  obtain ⟨_, ⟨p, hp, h1⟩, ⟨q, hq, h2⟩⟩ := ext_pick (ends_ne _ _ _ _ _ _ _ _ _) he
  have key : ∀ p, p ∈ endsF k a b c d e f g h → ∃ j : Int, 0 ≤ j ∧ j < 4 ∧ endAt a b c d e f g h j = p := by
    intro p hp
    rcases ends_mem hp with rfl | rfl | rfl | rfl
    · exact ⟨0, by decide, by decide, rfl⟩
    · exact ⟨1, by decide, by decide, rfl⟩
    · exact ⟨2, by decide, by decide, rfl⟩
    · exact ⟨3, by decide, by decide, rfl⟩
  obtain ⟨i, i1, i2, i3⟩ := key p hp
  obtain ⟨j, j1, j2, j3⟩ := key q hq
  exact ⟨⟨i, i1, i2, by rw [i3]; exact h1⟩, ⟨j, j1, j2, by rw [j3]; exact h2⟩⟩
end Go.Proofs.Ytimdklineeeieaa.M
