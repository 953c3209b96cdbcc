/- Comparison, product and sum of fractions: the program's ways come to the closed forms. -/
import Derived.Test.YthieengihbbnpaaDoorM3
namespace Go.Proofs.YthieengihbbnpaaDoor.M
set_option linter.unusedVariables false

theorem vld_of {n d : Int} (h : vld n d = true) : 1 ≤ d ∧ d ≤ 1000000000000000000 ∧ -1000000000000000000 ≤ n ∧ n ≤ 1000000000000000000 ∧ gcdI n d = 1 := (vld_iff n d).mp h

theorem dvd_of_mul {b a d : Int} (h : b ∣ a * d) (g : Int.gcd a b = 1) : b ∣ d := by
  rw [← Int.natAbs_dvd_natAbs] at h ⊢
  rw [Int.natAbs_mul] at h
  exact Nat.Coprime.dvd_of_dvd_mul_left (k := b.natAbs) (m := a.natAbs) (by rw [Nat.coprime_comm]; exact g) h
/-- of two normalized fractions with one value both parts are the same -/
theorem vld_unique {a b c d : Int} (h1 : vld a b = true) (h2 : vld c d = true) (h : a * d = c * b) : a = c ∧ b = d := by
  obtain ⟨p1, p2, p3, p4, p5⟩ := vld_of h1
  obtain ⟨q1, q2, q3, q4, q5⟩ := vld_of h2
  have g1 : Int.gcd a b = 1 := by unfold gcdI at p5; omega
  have g2 : Int.gcd c d = 1 := by unfold gcdI at q5; omega
  have e1 : b ∣ d := dvd_of_mul (show b ∣ a * d from ⟨c, by rw [h, Int.mul_comm]⟩) g1
  have e2 : d ∣ b := dvd_of_mul (show d ∣ c * b from ⟨a, by rw [← h, Int.mul_comm]⟩) g2
  have e : b = d := Int.dvd_antisymm (by omega) (by omega) e1 e2
  subst e
  exact ⟨Int.eq_of_mul_eq_mul_right (by omega) h, rfl⟩

/-- what Cmp returns -/
def cmpF (a b c d : Int) : Int :=
  if vld a b = true then (if vld c d = true then (if a = c ∧ b = d then 0 else if a * d < c * b then -1 else 1) else 1) else (if vld c d = true then -1 else 0)

/-- the order of two numbers of 128 bits, each in two halves -/
def wless (a b c d : Int) : Bool := decide (a < c) || ((a == c) && decide (b < d))
theorem wless_eq {x y : Int} : wless (x / 18446744073709551616) (x % 18446744073709551616) (y / 18446744073709551616) (y % 18446744073709551616) = decide (x < y) := by
  unfold wless
  by_cases h1 : x / 18446744073709551616 < y / 18446744073709551616
  · rw [decide_eq_true h1, decide_eq_true (show x < y by omega)]; rfl
  · rw [decide_eq_false h1]
    by_cases h2 : x / 18446744073709551616 = y / 18446744073709551616
    · rw [beq_iff_eq.mpr h2]
      by_cases h3 : x % 18446744073709551616 < y % 18446744073709551616
      · rw [decide_eq_true h3, decide_eq_true (show x < y by omega)]; rfl
      · rw [decide_eq_false h3, decide_eq_false (show ¬ x < y by omega)]; rfl
    · rw [beq_eq_false_iff_ne.mpr h2, decide_eq_false (show ¬ x < y by omega)]; rfl

theorem absI_of_nonneg {a : Int} (h : 0 ≤ a) : absI a = a := by unfold absI; omega
theorem absI_of_neg {a : Int} (h : a < 0) : absI a = -a := by unfold absI; omega
theorem absI_mul (a b : Int) : absI (a * b) = absI a * absI b := by unfold absI; rw [Int.natAbs_mul]; simp

/-- numbers of different signs -/
theorem cmpF_signs {a b c d : Int} (h1 : vld a b = true) (h2 : vld c d = true) (hs : (decide (a < 0) != decide (c < 0)) = true) : cmpF a b c d = if a < 0 then -1 else 1 := by
  obtain ⟨p1, p2, p3, p4, p5⟩ := vld_of h1
  obtain ⟨q1, q2, q3, q4, q5⟩ := vld_of h2
  unfold cmpF
  rw [if_pos h1, if_pos h2]
  by_cases ha : a < 0
  · have hc : 0 ≤ c := by
      by_cases hc : c < 0
      · simp [ha, hc] at hs
      · omega
    have m1 : a * d < 0 := Int.mul_neg_of_neg_of_pos ha (by omega)
    have m2 : 0 ≤ c * b := Int.mul_nonneg hc (by omega)
    rw [if_neg (by omega), if_pos (by omega), if_pos ha]
  · have hc : c < 0 := by
      by_cases hc : c < 0
      · exact hc
      · simp [ha, hc] at hs
    have m1 : 0 ≤ a * d := Int.mul_nonneg (by omega) (by omega)
    have m2 : c * b < 0 := Int.mul_neg_of_neg_of_pos hc (by omega)
    rw [if_neg (by omega), if_neg (by omega), if_neg ha]
/-- numbers of the same sign: by their absolute values -/
theorem cmpF_same {a b c d : Int} (h1 : vld a b = true) (h2 : vld c d = true) (hn : ¬ (a = c ∧ b = d)) (hs : (decide (a < 0) != decide (c < 0)) = false) :
    cmpF a b c d = if decide (absI a * d < absI c * b) = decide (a < 0) then 1 else -1 := by
  obtain ⟨p1, p2, p3, p4, p5⟩ := vld_of h1
  obtain ⟨q1, q2, q3, q4, q5⟩ := vld_of h2
  have hne : a * d ≠ c * b := fun h => hn (vld_unique h1 h2 h)
  unfold cmpF
  rw [if_pos h1, if_pos h2, if_neg hn]
  by_cases ha : a < 0
  · have hc : c < 0 := by
      by_cases hc : c < 0
      · exact hc
      · simp [ha, hc] at hs
    rw [absI_of_neg ha, absI_of_neg hc, Int.neg_mul, Int.neg_mul, decide_eq_true ha]
    by_cases hl : a * d < c * b
    · rw [if_pos hl, decide_eq_false (by omega)]; rfl
    · rw [if_neg hl, decide_eq_true (by omega)]; rfl
  · have hc : 0 ≤ c := by
      by_cases hc : c < 0
      · simp [ha, hc] at hs
      · omega
    rw [absI_of_nonneg (by omega), absI_of_nonneg hc, decide_eq_false ha]
    by_cases hl : a * d < c * b
    · rw [if_pos hl, decide_eq_true hl]; rfl
    · rw [if_neg hl, decide_eq_false hl]; rfl
end Go.Proofs.YthieengihbbnpaaDoor.M
