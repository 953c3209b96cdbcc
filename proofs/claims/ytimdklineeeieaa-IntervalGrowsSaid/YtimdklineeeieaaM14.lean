/- Fractions in order. -/
import Derived.Test.YtimdklineeeieaaM13
namespace Go.Proofs.Ytimdklineeeieaa.M
/-- a/b is at most c/d -/
def le (a b c d : Int) : Prop := a * d ≤ c * b
theorem cmpF_le {a b c d : Int} (h1 : vld a b = true) (h2 : vld c d = true) : cmpF a b c d ≤ 0 ↔ le a b c d := by
  unfold cmpF le
  rw [if_pos h1, if_pos h2]
  by_cases h : a = c ∧ b = d
  · obtain ⟨rfl, rfl⟩ := h
    simp
  · rw [if_neg h]
    have hne : a * d ≠ c * b := fun e => h (vld_unique h1 h2 e)
    split <;> omega
theorem cmpF_ge {a b c d : Int} (h1 : vld a b = true) (h2 : vld c d = true) : 0 ≤ cmpF a b c d ↔ le c d a b := by
  unfold cmpF le
  rw [if_pos h1, if_pos h2]
  by_cases h : a = c ∧ b = d
  · obtain ⟨rfl, rfl⟩ := h
    simp
  · rw [if_neg h]
    have hne : a * d ≠ c * b := fun e => h (vld_unique h1 h2 e)
    split <;> omega
theorem le_refl (a b : Int) : le a b a b := Int.le_refl _
theorem le_total (a b c d : Int) : le a b c d ∨ le c d a b := by unfold le; omega
theorem le_trans {a b c d e f : Int} (hb : 0 < b) (hd : 0 < d) (hf : 0 < f) (h1 : le a b c d) (h2 : le c d e f) : le a b e f := by
  unfold le at *
  have p := Int.mul_le_mul_of_nonneg_right h1 (Int.le_of_lt hf)
  have q := Int.mul_le_mul_of_nonneg_right h2 (Int.le_of_lt hb)
  have e1 : a * d * f = (a * f) * d := by rw [Int.mul_assoc, Int.mul_comm d, ← Int.mul_assoc]
  have e2 : c * b * f = c * f * b := by rw [Int.mul_assoc, Int.mul_comm b, ← Int.mul_assoc]
  have e3 : e * d * b = (e * b) * d := by rw [Int.mul_assoc, Int.mul_comm d, ← Int.mul_assoc]
  rw [e1, e2] at p
  rw [e3] at q
  exact Int.le_of_mul_le_mul_right (Int.le_trans p q) hd
theorem le_antisymm {a b c d : Int} (h1 : vld a b = true) (h2 : vld c d = true) (h : le a b c d) (g : le c d a b) : a = c ∧ b = d := vld_unique h1 h2 (by unfold le at *; omega)
theorem vld_pos {a b : Int} (h : vld a b = true) : 0 < b := by have := (vld_of h).1; omega
theorem ivld_iff (a b c d : Int) : ivld a b c d = true ↔ vld a b = true ∧ vld c d = true ∧ le a b c d := by
  unfold ivld
  constructor
  · intro h
    simp only [Bool.and_eq_true, decide_eq_true_eq] at h
    exact ⟨h.1.1, h.1.2, (cmpF_le h.1.1 h.1.2).mp h.2⟩
  · rintro ⟨h1, h2, h3⟩
    simp only [Bool.and_eq_true, decide_eq_true_eq]
    exact ⟨⟨h1, h2⟩, (cmpF_le h1 h2).mpr h3⟩
theorem icont_iff (a b c d x y : Int) : icont a b c d x y = true ↔ ivld a b c d = true ∧ vld x y = true ∧ le a b x y ∧ le x y c d := by
  unfold icont
  constructor
  · intro h
    simp only [Bool.and_eq_true, decide_eq_true_eq] at h
    obtain ⟨⟨⟨h1, h2⟩, h3⟩, h4⟩ := h
    obtain ⟨g1, g2, g3⟩ := (ivld_iff _ _ _ _).mp h1
    exact ⟨h1, h2, (cmpF_le g1 h2).mp h3, (cmpF_le h2 g2).mp h4⟩
  · rintro ⟨h1, h2, h3, h4⟩
    obtain ⟨g1, g2, g3⟩ := (ivld_iff _ _ _ _).mp h1
    simp only [Bool.and_eq_true, decide_eq_true_eq]
    exact ⟨⟨⟨h1, h2⟩, (cmpF_le g1 h2).mpr h3⟩, (cmpF_le h2 g2).mpr h4⟩
theorem iin_iff (a b c d e f g h : Int) : iin a b c d e f g h = true ↔ ivld a b c d = true ∧ ivld e f g h = true ∧ le e f a b ∧ le c d g h := by
  unfold iin
  simp only [Bool.and_eq_true, icont_iff]
  constructor
  · rintro ⟨⟨h1, h2, h3, h4, h5⟩, _, h6, h7, h8⟩
    exact ⟨h1, h2, h4, h8⟩
  · rintro ⟨h1, h2, h3, h4⟩
    obtain ⟨g1, g2, g3⟩ := (ivld_iff _ _ _ _).mp h1
    obtain ⟨k1, k2, k3⟩ := (ivld_iff _ _ _ _).mp h2
    have p1 := vld_pos g1
    have p2 := vld_pos g2
    have p3 := vld_pos k1
    have p4 := vld_pos k2
    exact ⟨⟨h1, h2, g1, h3, le_trans p1 p2 p4 g3 h4⟩, h2, g2, le_trans p3 p1 p2 h3 g3, h4⟩
theorem riin_iff (a b c d e f g h : Int) : riin a b c d e f g h = true ↔ ivld a b c d = true ∧ ivld e f g h = true ∧ le e f a b ∧ le c d g h := by
  unfold riin
  simp only [Bool.and_eq_true, decide_eq_true_eq]
  constructor
  · rintro ⟨⟨⟨h1, h2⟩, h3⟩, h4⟩
    obtain ⟨g1, g2, g3⟩ := (ivld_iff _ _ _ _).mp h1
    obtain ⟨k1, k2, k3⟩ := (ivld_iff _ _ _ _).mp h2
    exact ⟨h1, h2, (cmpF_le k1 g1).mp h3, (cmpF_le g2 k2).mp h4⟩
  · rintro ⟨h1, h2, h3, h4⟩
    obtain ⟨g1, g2, g3⟩ := (ivld_iff _ _ _ _).mp h1
    obtain ⟨k1, k2, k3⟩ := (ivld_iff _ _ _ _).mp h2
    exact ⟨⟨⟨h1, h2⟩, (cmpF_le k1 g1).mpr h3⟩, (cmpF_le g2 k2).mpr h4⟩
theorem riin_eq (a b c d e f g h : Int) : riin a b c d e f g h = iin a b c d e f g h := by
  rw [Bool.eq_iff_iff, riin_iff, iin_iff]
end Go.Proofs.Ytimdklineeeieaa.M
