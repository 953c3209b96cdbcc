/- Hull and intersection. -/
import Derived.Test.YtimdklineeeieaaM15
namespace Go.Proofs.Ytimdklineeeieaa.M
theorem lessr_le {a b c d : Int} (h1 : vld a b = true) (h2 : vld c d = true) (h : le a b c d) : lessr a b c d = (a, b, 0) := by unfold lessr; rw [if_pos ((cmpF_le h1 h2).mpr h)]
theorem lessr_ge {a b c d : Int} (h1 : vld a b = true) (h2 : vld c d = true) (h : le c d a b) : lessr a b c d = (c, d, 0) := by
  unfold lessr
  split
  · rename_i g
    obtain ⟨rfl, rfl⟩ := le_antisymm h1 h2 ((cmpF_le h1 h2).mp g) h
    rfl
  · rfl
theorem morer_ge {a b c d : Int} (h1 : vld a b = true) (h2 : vld c d = true) (h : le c d a b) : morer a b c d = (a, b, 0) := by unfold morer; rw [if_pos ((cmpF_ge h1 h2).mpr h)]
theorem morer_le {a b c d : Int} (h1 : vld a b = true) (h2 : vld c d = true) (h : le a b c d) : morer a b c d = (c, d, 0) := by
  unfold morer
  split
  · rename_i g
    obtain ⟨rfl, rfl⟩ := le_antisymm h1 h2 h ((cmpF_ge h1 h2).mp g)
    rfl
  · rfl
theorem le_tr {a b c d e f : Int} (h1 : vld a b = true) (h2 : vld c d = true) (h3 : vld e f = true) (h : le a b c d) (g : le c d e f) : le a b e f := le_trans (vld_pos h1) (vld_pos h2) (vld_pos h3) h g
theorem ihull_eq (a b c d e f g h : Int) : ihull a b c d e f g h = rhull a b c d e f g h := by
  unfold ihull rhull
  by_cases hv : (ivld a b c d && ivld e f g h) = true
  · rw [if_pos hv, if_pos hv]
    rw [Bool.and_eq_true, ivld_iff, ivld_iff] at hv
    obtain ⟨⟨va, vc, l1⟩, ve, vg, l2⟩ := hv
    simp only [spanF, List.drop_succ_cons, List.drop_zero, List.foldl_cons, List.foldl_nil, List.getD_cons_zero, spanStep]
    rw [lessr_le va vc l1, morer_le va vc l1]
    simp only
    have L : lessr (lessr a b e f).1 (lessr a b e f).2.1 g h = lessr a b e f := by
      rcases le_total a b e f with q | q
      · rw [lessr_le va ve q]; exact lessr_le va vg (le_tr va ve vg q l2)
      · rw [lessr_ge va ve q]; exact lessr_le ve vg l2
    have R : morer (morer c d e f).1 (morer c d e f).2.1 g h = morer c d g h := by
      rcases le_total e f c d with q | q
      · rw [morer_ge vc ve q]
      · rw [morer_le vc ve q]; exact (morer_le ve vg l2).trans (morer_le vc vg (le_tr vc ve vg q l2)).symm
    rw [L, R]
  · rw [if_neg hv, if_neg hv]
/-- both are in the hull; it lies in every interval that both lie in -/
theorem hull_law {a b c d e f g h : Int} (h1 : ivld a b c d = true) (h2 : ivld e f g h = true) : ∃ x y z t : Int, rhull a b c d e f g h = (x, y, z, t, 0) ∧ iin a b c d x y z t = true ∧ iin e f g h x y z t = true ∧
    ∀ p q r s : Int, iin a b c d p q r s = true → iin e f g h p q r s = true → iin x y z t p q r s = true := by
  unfold rhull
  rw [if_pos (by rw [h1, h2]; rfl)]
  obtain ⟨va, vc, l1⟩ := (ivld_iff _ _ _ _).mp h1
  obtain ⟨ve, vg, l2⟩ := (ivld_iff _ _ _ _).mp h2
  rcases le_total a b e f with q1 | q1 <;> rcases le_total c d g h with q2 | q2
  · rw [lessr_le va ve q1, morer_le vc vg q2]
    have hv : ivld a b g h = true := (ivld_iff _ _ _ _).mpr ⟨va, vg, le_tr va vc vg l1 q2⟩
    exact ⟨_, _, _, _, rfl, (iin_iff _ _ _ _ _ _ _ _).mpr ⟨h1, hv, le_refl _ _, q2⟩, (iin_iff _ _ _ _ _ _ _ _).mpr ⟨h2, hv, q1, le_refl _ _⟩, fun p q r s g1 g2 => by
      rw [iin_iff] at g1 g2 ⊢; exact ⟨hv, g1.2.1, g1.2.2.1, g2.2.2.2⟩⟩
  · rw [lessr_le va ve q1, morer_ge vc vg q2]
    exact ⟨_, _, _, _, rfl, (iin_iff _ _ _ _ _ _ _ _).mpr ⟨h1, h1, le_refl _ _, le_refl _ _⟩, (iin_iff _ _ _ _ _ _ _ _).mpr ⟨h2, h1, q1, q2⟩, fun p q r s g1 g2 => g1⟩
  · rw [lessr_ge va ve q1, morer_le vc vg q2]
    exact ⟨_, _, _, _, rfl, (iin_iff _ _ _ _ _ _ _ _).mpr ⟨h1, h2, q1, q2⟩, (iin_iff _ _ _ _ _ _ _ _).mpr ⟨h2, h2, le_refl _ _, le_refl _ _⟩, fun p q r s g1 g2 => g2⟩
  · rw [lessr_ge va ve q1, morer_ge vc vg q2]
    have hv : ivld e f c d = true := (ivld_iff _ _ _ _).mpr ⟨ve, vc, le_tr ve va vc q1 l1⟩
    exact ⟨_, _, _, _, rfl, (iin_iff _ _ _ _ _ _ _ _).mpr ⟨h1, hv, q1, le_refl _ _⟩, (iin_iff _ _ _ _ _ _ _ _).mpr ⟨h2, hv, le_refl _ _, q2⟩, fun p q r s g1 g2 => by
      rw [iin_iff] at g1 g2 ⊢; exact ⟨hv, g1.2.1, g2.2.2.1, g1.2.2.2⟩⟩
/-- the intersection: an interval is in both if and only if it is in the intersection -/
theorem sect_law {a b c d e f g h : Int} (h1 : ivld a b c d = true) (h2 : ivld e f g h = true) : (isect a b c d e f g h = (0, 0, 0, 0, 8) ∧ ∀ p q r s : Int, iin p q r s a b c d = true → iin p q r s e f g h = true → False) ∨
    ∃ x y z t : Int, isect a b c d e f g h = (x, y, z, t, 0) ∧ ∀ p q r s : Int, (iin p q r s a b c d && iin p q r s e f g h) = iin p q r s x y z t := by
  obtain ⟨va, vc, l1⟩ := (ivld_iff _ _ _ _).mp h1
  obtain ⟨ve, vg, l2⟩ := (ivld_iff _ _ _ _).mp h2
  have key : ∀ x y z t : Int, vld x y = true → vld z t = true → le a b x y → le e f x y → (x = a ∧ y = b ∨ x = e ∧ y = f) → le z t c d → le z t g h → (z = c ∧ t = d ∨ z = g ∧ t = h) → morer a b e f = (x, y, 0) → lessr c d g h = (z, t, 0) →
      (isect a b c d e f g h = (0, 0, 0, 0, 8) ∧ ∀ p q r s : Int, iin p q r s a b c d = true → iin p q r s e f g h = true → False) ∨
      ∃ x y z t : Int, isect a b c d e f g h = (x, y, z, t, 0) ∧ ∀ p q r s : Int, (iin p q r s a b c d && iin p q r s e f g h) = iin p q r s x y z t := by
    intro x y z t vx vz m1 m2 m3 m4 m5 m6 e1 e2
    unfold isect
    rw [if_pos (by rw [h1, h2]; rfl), e1, e2]
    dsimp only
    have both : ∀ p q r s : Int, iin p q r s a b c d = true → iin p q r s e f g h = true → ivld p q r s = true ∧ le x y p q ∧ le r s z t := by
      intro p q r s g1 g2
      rw [iin_iff] at g1 g2
      refine ⟨g1.1, ?_, ?_⟩
      · rcases m3 with ⟨rfl, rfl⟩ | ⟨rfl, rfl⟩
        · exact g1.2.2.1
        · exact g2.2.2.1
      · rcases m6 with ⟨rfl, rfl⟩ | ⟨rfl, rfl⟩
        · exact g1.2.2.2
        · exact g2.2.2.2
    by_cases hv : ivld x y z t = true
    · rw [if_pos hv]
      refine Or.inr ⟨x, y, z, t, rfl, fun p q r s => ?_⟩
      rw [Bool.eq_iff_iff, Bool.and_eq_true]
      constructor
      · rintro ⟨g1, g2⟩
        obtain ⟨k1, k2, k3⟩ := both p q r s g1 g2
        exact (iin_iff _ _ _ _ _ _ _ _).mpr ⟨k1, hv, k2, k3⟩
      · intro k
        obtain ⟨k1, k2, k3, k4⟩ := (iin_iff _ _ _ _ _ _ _ _).mp k
        obtain ⟨w1, w2, _⟩ := (ivld_iff _ _ _ _).mp k1
        exact ⟨(iin_iff _ _ _ _ _ _ _ _).mpr ⟨k1, h1, le_tr va vx w1 m1 k3, le_tr w2 vz vc k4 m4⟩, (iin_iff _ _ _ _ _ _ _ _).mpr ⟨k1, h2, le_tr ve vx w1 m2 k3, le_tr w2 vz vg k4 m5⟩⟩
    · rw [if_neg hv]
      refine Or.inl ⟨rfl, fun p q r s g1 g2 => hv ?_⟩
      obtain ⟨k1, k2, k3⟩ := both p q r s g1 g2
      obtain ⟨w1, w2, w3⟩ := (ivld_iff _ _ _ _).mp k1
      exact (ivld_iff _ _ _ _).mpr ⟨vx, vz, le_tr vx w1 vz k2 (le_tr w1 w2 vz w3 k3)⟩
  rcases le_total a b e f with q1 | q1 <;> rcases le_total c d g h with q2 | q2
  · exact key e f c d ve vc q1 (le_refl _ _) (.inr ⟨rfl, rfl⟩) (le_refl _ _) q2 (.inl ⟨rfl, rfl⟩) (morer_le va ve q1) (lessr_le vc vg q2)
  · exact key e f g h ve vg q1 (le_refl _ _) (.inr ⟨rfl, rfl⟩) q2 (le_refl _ _) (.inr ⟨rfl, rfl⟩) (morer_le va ve q1) (lessr_ge vc vg q2)
  · exact key a b c d va vc (le_refl _ _) q1 (.inl ⟨rfl, rfl⟩) (le_refl _ _) q2 (.inl ⟨rfl, rfl⟩) (morer_ge va ve q1) (lessr_le vc vg q2)
  · exact key a b g h va vg (le_refl _ _) q1 (.inl ⟨rfl, rfl⟩) q2 (le_refl _ _) (.inr ⟨rfl, rfl⟩) (morer_ge va ve q1) (lessr_ge vc vg q2)
end Go.Proofs.Ytimdklineeeieaa.M
