/- The values of fractions, as rational numbers. -/
import Derived.Test.YtimdklineeeieaaM17
namespace Go.Proofs.Ytimdklineeeieaa.M
def val (n d : Int) : Rat := (n : Rat) * (d : Rat)⁻¹
theorem ratpos {d : Int} (h : 0 < d) : (0 : Rat) < (d : Rat) := by
  have := Rat.intCast_lt_intCast.mpr h
  simpa using this
theorem val_mul {n d : Int} (h : 0 < d) : val n d * (d : Rat) = (n : Rat) := by
  have := ratpos h
  unfold val
  rw [Rat.mul_assoc, Rat.inv_mul_cancel _ (by grind), Rat.mul_one]
theorem le_val {a b c d : Int} (hb : 0 < b) (hd : 0 < d) : le a b c d ↔ val a b ≤ val c d := by
  have pb := ratpos hb
  have pd := ratpos hd
  have eb := val_mul (n := a) hb
  have ed := val_mul (n := c) hd
  unfold le
  rw [← Rat.intCast_le_intCast, Rat.intCast_mul, Rat.intCast_mul, ← eb, ← ed]
  constructor
  · intro h
    rcases (Rat.le_total : val a b ≤ val c d ∨ val c d ≤ val a b) with q | q
    · exact q
    · have h1 := Rat.mul_le_mul_of_nonneg_right q (Rat.le_of_lt (Rat.mul_pos pb pd))
      by_cases e : val a b = val c d
      · rw [e]; exact Rat.le_refl
      · exfalso
        have h2 : val c d < val a b := by grind
        have h3 := Rat.mul_lt_mul_of_pos_right h2 (Rat.mul_pos pb pd)
        have e1 : val a b * (b : Rat) * (d : Rat) = val a b * ((b : Rat) * (d : Rat)) := Rat.mul_assoc ..
        have e2 : val c d * (d : Rat) * (b : Rat) = val c d * ((b : Rat) * (d : Rat)) := by rw [Rat.mul_assoc, Rat.mul_comm (d : Rat)]
        rw [e1, e2] at h
        grind
  · intro h
    have h1 := Rat.mul_le_mul_of_nonneg_right h (Rat.le_of_lt (Rat.mul_pos pb pd))
    have e1 : val a b * (b : Rat) * (d : Rat) = val a b * ((b : Rat) * (d : Rat)) := Rat.mul_assoc ..
    have e2 : val c d * (d : Rat) * (b : Rat) = val c d * ((b : Rat) * (d : Rat)) := by rw [Rat.mul_assoc, Rat.mul_comm (d : Rat)]
    rw [e1, e2]
    exact h1
theorem val_eq {p q n d : Int} (hq : 0 < q) (hd : 0 < d) (h : p * d = n * q) : val p q = val n d := by
  have h1 : le p q n d := by unfold le; omega
  have h2 : le n d p q := by unfold le; omega
  exact Rat.le_antisymm ((le_val hq hd).mp h1) ((le_val hd hq).mp h2)
theorem val_le {a b c d : Int} (h1 : vld a b = true) (h2 : vld c d = true) : le a b c d ↔ val a b ≤ val c d := le_val (vld_pos h1) (vld_pos h2)
theorem norm_ok {n d p q : Int} (hd : 0 < d) (h : norm n d = (p, q, 0)) : vld p q = true ∧ val p q = val n d := by
  unfold norm at h
  by_cases hc : -1000000000000000000 ≤ n / gcdI n d ∧ n / gcdI n d ≤ 1000000000000000000 ∧ d / gcdI n d ≤ 1000000000000000000
  · rw [if_pos hc] at h
    simp only [Prod.mk.injEq] at h
    obtain ⟨h1, h2, _⟩ := h
    have g0 := gcdI_pos_right (a := n) hd
    have e1 : gcdI n d * p = n := by rw [← h1]; exact Int.mul_ediv_cancel' (gcdI_dvd_left n d)
    have e2 : gcdI n d * q = d := by rw [← h2]; exact Int.mul_ediv_cancel' (gcdI_dvd_right n d)
    have q0 : 0 < q := by
      rcases Int.lt_or_le 0 q with q1 | q1
      · exact q1
      · exfalso
        have := Int.mul_le_mul_of_nonneg_left q1 (Int.le_of_lt g0)
        rw [e2] at this
        simp at this
        omega
    have e3 : gcdI p q = 1 := by
      have : gcdI (gcdI n d * p) (gcdI n d * q) = gcdI n d * gcdI p q := by
        unfold gcdI
        rw [Int.gcd_mul_left]
        simp
      rw [e1, e2] at this
      have h3 : gcdI n d * gcdI p q = gcdI n d * 1 := by rw [Int.mul_one]; exact this.symm
      exact Int.eq_of_mul_eq_mul_left (by omega) h3
    refine ⟨(vld_iff _ _).mpr ⟨by omega, by rw [← h2]; exact hc.2.2, by rw [← h1]; exact hc.1, by rw [← h1]; exact hc.2.1, e3⟩, val_eq q0 hd ?_⟩
    calc p * d = p * (gcdI n d * q) := by rw [e2]
      _ = (gcdI n d * p) * q := by rw [← Int.mul_assoc, Int.mul_comm p]
      _ = n * q := by rw [e1]
  · rw [if_neg hc] at h
    simp at h
def opQ (k : Int) (x y : Rat) : Rat := if k = 0 then x + y else if k = 1 then x - y else if k = 2 then x * y else if k = 3 then (if x ≤ y then x else y) else if k = 5 then x * y⁻¹ else (if y ≤ x then x else y)
theorem val_frac {a b c d : Int} (hb : 0 < b) (hd : 0 < d) : (a : Rat) = val a b * b ∧ (c : Rat) = val c d * d := ⟨(val_mul hb).symm, (val_mul hd).symm⟩
theorem val_of {n d : Int} {x : Rat} (hd : 0 < d) (h : (n : Rat) = x * d) : val n d = x := by
  have hd2 := ratpos hd
  unfold val
  rw [h, Rat.mul_assoc, Rat.mul_inv_cancel _ (by grind), Rat.mul_one]
theorem opF_ok {k a b c d p q : Int} (h1 : vld a b = true) (h2 : vld c d = true) (h : opF k a b c d = (p, q, 0)) : vld p q = true ∧ val p q = opQ k (val a b) (val c d) ∧ (k = 5 → c ≠ 0) := by
  have b0 := vld_pos h1
  have d0 := vld_pos h2
  have bd := Int.mul_pos b0 d0
  obtain ⟨ea, ec⟩ := val_frac (a := a) (c := c) b0 d0
  unfold opF at h
  unfold opQ
  by_cases k0 : k = 0
  · rw [if_pos k0] at h ⊢
    unfold addF at h
    rw [if_pos ⟨h1, h2⟩] at h
    obtain ⟨v, e⟩ := norm_ok bd h
    refine ⟨v, e.trans (val_of bd ?_), fun h => by omega⟩
    rw [Rat.intCast_add, Rat.intCast_mul, Rat.intCast_mul, Rat.intCast_mul, ea, ec]
    grind
  rw [if_neg k0] at h ⊢
  by_cases k1 : k = 1
  · rw [if_pos k1] at h ⊢
    unfold subF at h
    rw [if_pos ⟨h1, h2⟩] at h
    obtain ⟨v, e⟩ := norm_ok bd h
    refine ⟨v, e.trans (val_of bd ?_), fun h => by omega⟩
    rw [Rat.intCast_sub, Rat.intCast_mul, Rat.intCast_mul, Rat.intCast_mul, ea, ec]
    grind
  rw [if_neg k1] at h ⊢
  by_cases k2 : k = 2
  · rw [if_pos k2] at h ⊢
    unfold mulF at h
    rw [if_pos ⟨h1, h2⟩] at h
    obtain ⟨v, e⟩ := norm_ok bd h
    refine ⟨v, e.trans (val_of bd ?_), fun h => by omega⟩
    rw [Rat.intCast_mul, Rat.intCast_mul, ea, ec]
    grind
  rw [if_neg k2] at h ⊢
  by_cases k3 : k = 3
  · rw [if_pos k3] at h ⊢
    unfold lessr at h
    by_cases hc : cmpF a b c d ≤ 0
    · rw [if_pos hc] at h
      simp only [Prod.mk.injEq] at h
      obtain ⟨rfl, rfl, _⟩ := h
      rw [if_pos ((val_le h1 h2).mp ((cmpF_le h1 h2).mp hc))]
      exact ⟨h1, rfl, fun h => by omega⟩
    · rw [if_neg hc] at h
      simp only [Prod.mk.injEq] at h
      obtain ⟨rfl, rfl, _⟩ := h
      rw [if_neg (fun hh => hc ((cmpF_le h1 h2).mpr ((val_le h1 h2).mpr hh)))]
      exact ⟨h2, rfl, fun h => by omega⟩
  rw [if_neg k3] at h ⊢
  by_cases k5 : k = 5
  · rw [if_pos k5] at h ⊢
    unfold divF at h
    by_cases hc : c ≠ 0
    · rw [if_pos ⟨h1, h2, hc⟩] at h
      have c0 : (c : Rat) ≠ 0 := fun e => hc (by have := Rat.intCast_inj.mp (e.trans (Rat.intCast_zero).symm); exact this)
      have vc : val c d ≠ 0 := fun e => c0 (by rw [ec, e]; grind)
      have inv := Rat.mul_inv_cancel _ vc
      by_cases hp : 0 < c
      · rw [if_pos hp] at h
        have bc := Int.mul_pos b0 hp
        obtain ⟨v, e⟩ := norm_ok bc h
        refine ⟨v, e.trans (val_of bc ?_), fun _ => hc⟩
        rw [Rat.intCast_mul, Rat.intCast_mul, ea, ec]
        grind
      · rw [if_neg hp] at h
        have bc : 0 < -(b * c) := by
          have := Int.mul_pos b0 (show 0 < -c by omega)
          rwa [Int.mul_neg] at this
        obtain ⟨v, e⟩ := norm_ok bc h
        refine ⟨v, e.trans (val_of bc ?_), fun _ => hc⟩
        rw [Rat.intCast_neg, Rat.intCast_neg, Rat.intCast_mul, Rat.intCast_mul, ea, ec]
        grind
    · rw [if_neg (fun hh => hc hh.2.2)] at h
      simp at h
  · rw [if_neg k5] at h ⊢
    unfold morer at h
    by_cases hc : 0 ≤ cmpF a b c d
    · rw [if_pos hc] at h
      simp only [Prod.mk.injEq] at h
      obtain ⟨rfl, rfl, _⟩ := h
      rw [if_pos ((val_le h2 h1).mp ((cmpF_ge h1 h2).mp hc))]
      exact ⟨h1, rfl, fun h => by omega⟩
    · rw [if_neg hc] at h
      simp only [Prod.mk.injEq] at h
      obtain ⟨rfl, rfl, _⟩ := h
      rw [if_neg (fun hh => hc ((cmpF_ge h1 h2).mpr ((val_le h2 h1).mpr hh)))]
      exact ⟨h2, rfl, fun h => by omega⟩
end Go.Proofs.Ytimdklineeeieaa.M
