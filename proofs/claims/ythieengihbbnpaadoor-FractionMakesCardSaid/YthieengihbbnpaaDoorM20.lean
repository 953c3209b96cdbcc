/- Make: a quotient of two whole numbers, and powers of ten. -/
import Derived.Test.YthieengihbbnpaaDoorM10
namespace Go.Proofs.YthieengihbbnpaaDoor.M
theorem sgn_red {s : Bool} {n d : Int} (h0 : 0 ≤ n) (hd : 0 < d) : sgn s (n / gcdI n d) (d / gcdI n d) = norm (if s = true then -n else n) d := by
  rw [norm_sign s h0 hd]
  have g0 := gcdI_pos_right (a := n) hd
  generalize gcdI n d = g at g0 ⊢
  have n0 : 0 ≤ n / g := Int.ediv_nonneg h0 (by omega)
  have d0 : 0 ≤ d / g := Int.ediv_nonneg (by omega) (by omega)
  generalize n / g = x at n0 ⊢
  generalize d / g = y at d0 ⊢
  unfold sgn
  by_cases h1 : x ≤ 1000000000000000000
  · have e1 : ¬ x > 1000000000000000000 := by omega
    rw [if_neg e1]
    by_cases h2 : y ≤ 1000000000000000000
    · have e2 : ¬ y > 1000000000000000000 := by omega
      rw [if_neg e2, if_pos (And.intro h1 h2)]
    · have e2 : y > 1000000000000000000 := by omega
      have e3 : ¬ (x ≤ 1000000000000000000 ∧ y ≤ 1000000000000000000) := by omega
      rw [if_pos e2, if_neg e3]
  · have e1 : x > 1000000000000000000 := by omega
    have e3 : ¬ (x ≤ 1000000000000000000 ∧ y ≤ 1000000000000000000) := by omega
    rw [if_pos e1, if_neg e3]
theorem makeF_abs {n d : Int} (hd : d ≠ 0) : norm (if (decide (n < 0) != decide (d < 0)) = true then -(absI n) else absI n) (absI d) = makeF n d := by
  unfold makeF
  rw [if_neg hd]
  by_cases h1 : 0 < d
  · rw [if_pos h1, decide_eq_false (show ¬ d < 0 by omega), absI_of_nonneg (show 0 ≤ d by omega)]
    by_cases h2 : n < 0
    · rw [decide_eq_true h2, absI_of_neg h2]; simp
    · rw [decide_eq_false h2, absI_of_nonneg (by omega)]; simp
  · rw [if_neg h1, decide_eq_true (show d < 0 by omega), absI_of_neg (show d < 0 by omega)]
    by_cases h2 : n < 0
    · rw [decide_eq_true h2, absI_of_neg h2]; simp
    · rw [decide_eq_false h2, absI_of_nonneg (by omega)]; simp
def milliF (n : Int) : Int × Int := if n < -1000000000000000000 ∨ n > 1000000000000000000 then (0, 0) else ((makeF n 1000).1, (makeF n 1000).2.1)
theorem ten_step (k : Nat) : (10 : Int) ^ (k + 1) = 10 ^ k * 10 := Int.pow_succ ..
theorem ten_pos (k : Nat) : (1 : Int) ≤ 10 ^ k := by
  induction k with
  | zero => decide
  | succ k ih => rw [ten_step]; omega
theorem ten_le {k m : Nat} (h : k ≤ m) : (10 : Int) ^ k ≤ 10 ^ m := by
  induction h with
  | refl => exact Int.le_refl _
  | step _ ih => rw [ten_step]; have := ten_pos k; omega
end Go.Proofs.YthieengihbbnpaaDoor.M
