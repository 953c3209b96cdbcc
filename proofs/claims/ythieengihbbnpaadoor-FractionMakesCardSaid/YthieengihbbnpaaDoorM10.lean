/- The reference's normalized fraction. -/
import Derived.Test.YthieengihbbnpaaDoorM9
namespace Go.Proofs.YthieengihbbnpaaDoor.M
theorem norm_sign (s : Bool) {N D : Int} (h0 : 0 ≤ N) (h1 : 0 < D) : norm (if s = true then -N else N) D =
    if N / gcdI N D ≤ 1000000000000000000 ∧ D / gcdI N D ≤ 1000000000000000000 then (if s = true then -(N / gcdI N D) else N / gcdI N D, D / gcdI N D, 0) else (0, 0, 5) := by
  have hg : 0 < gcdI N D := gcdI_pos_right h1
  have hn : 0 ≤ N / gcdI N D := Int.ediv_nonneg h0 (by omega)
  unfold norm
  cases s
  · simp only [Bool.false_eq_true, if_false]
    by_cases h : N / gcdI N D ≤ 1000000000000000000 ∧ D / gcdI N D ≤ 1000000000000000000
    · rw [if_pos h, if_pos ⟨by omega, h.1, h.2⟩]
    · rw [if_neg h, if_neg (fun h' => h ⟨h'.2.1, h'.2.2⟩)]
  · simp only [if_true]
    rw [gcdI_neg, Int.neg_ediv_of_dvd (gcdI_dvd_left N D)]
    by_cases h : N / gcdI N D ≤ 1000000000000000000 ∧ D / gcdI N D ≤ 1000000000000000000
    · rw [if_pos h, if_pos ⟨by omega, by omega, h.2⟩]
    · rw [if_neg h, if_neg (fun h' => h ⟨by omega, h'.2.2⟩)]
theorem sign_mul (a c : Int) : (if (decide (a < 0) != decide (c < 0)) = true then -(absI a * absI c) else absI a * absI c) = a * c := by
  by_cases h1 : a < 0 <;> by_cases h2 : c < 0 <;> simp only [h1, h2, decide_true, decide_false, Bool.bne_false, Bool.false_bne, Bool.false_eq_true, if_true, if_false, bne_self_eq_false]
  · rw [absI_of_neg h1, absI_of_neg h2, Int.neg_mul_neg]
  · rw [absI_of_neg h1, absI_of_nonneg (by omega), Int.neg_mul, Int.neg_neg]
  · rw [absI_of_nonneg (by omega), absI_of_neg h2, Int.mul_neg, Int.neg_neg]
  · rw [absI_of_nonneg (by omega), absI_of_nonneg (by omega)]
theorem abs_signed (a : Int) : (if decide (a < 0) = true then -absI a else absI a) = a := by
  by_cases h : a < 0
  · rw [decide_eq_true h, if_pos rfl, absI_of_neg h, Int.neg_neg]
  · rw [decide_eq_false h, if_neg (by simp), absI_of_nonneg (by omega)]
/-- a number out of its sign and its size, times another -/
theorem sized_mul (a d : Int) : a * d = if decide (a < 0) = true then -(absI a * d) else absI a * d := by
  conv => lhs; rw [← abs_signed a]
  split
  · rw [Int.neg_mul]
  · rfl
theorem divF_sized {a b c d : Int} (h1 : vld a b = true) (h2 : vld c d = true) (hc : c ≠ 0) :
    divF a b c d = norm (if (!(decide (a < 0) == decide (c < 0))) = true then -(absI a * d) else absI a * d) (b * absI c) := by
  unfold divF
  rw [if_pos ⟨h1, h2, hc⟩]
  by_cases hp : 0 < c
  · rw [if_pos hp, absI_of_nonneg (show 0 ≤ c by omega), decide_eq_false (show ¬ c < 0 by omega), sized_mul a d]
    cases decide (a < 0) <;> simp
  · rw [if_neg hp, absI_of_neg (show c < 0 by omega), decide_eq_true (show c < 0 by omega), sized_mul a d, Int.mul_neg]
    cases decide (a < 0) <;> simp
end Go.Proofs.YthieengihbbnpaaDoor.M
