/- The product of fractions by the program's way: common divisors are taken out first. -/
import Derived.Test.YthieengihbbnpaaDoorM4
namespace Go.Proofs.YthieengihbbnpaaDoor.M
set_option linter.unusedVariables false

/-- what a number of 128 bits is narrowed to -/
def narrowI (v : Int) : Int := if v / 18446744073709551616 = 0 then v % 18446744073709551616 else 18446744073709551615
theorem narrowI_small {v : Int} (h0 : 0 ≤ v) (h : v ≤ 1000000000000000000) : narrowI v = v := by
  unfold narrowI; rw [if_pos (by omega)]; omega
theorem narrowI_great {v : Int} (h0 : 0 ≤ v) (h : ¬ v ≤ 1000000000000000000) : narrowI v > 1000000000000000000 := by
  unfold narrowI; split <;> omega

theorem sgn_norm {s : Bool} {num den : Int} (h0 : 0 ≤ num) (h1 : 0 ≤ den) : sgn s (narrowI num) (narrowI den) =
    if -1000000000000000000 ≤ (if s = true then -num else num) ∧ (if s = true then -num else num) ≤ 1000000000000000000 ∧ den ≤ 1000000000000000000 then (if s = true then -num else num, den, 0) else (0, 0, 5) := by
  unfold sgn
  by_cases hn : num ≤ 1000000000000000000
  · rw [narrowI_small h0 hn, if_neg (by omega)]
    by_cases hd : den ≤ 1000000000000000000
    · have hc : -1000000000000000000 ≤ (if s = true then -num else num) ∧ (if s = true then -num else num) ≤ 1000000000000000000 ∧ den ≤ 1000000000000000000 := by
        refine ⟨?_, ?_, hd⟩ <;> split <;> omega
      rw [narrowI_small h1 hd, if_neg (by omega), if_pos hc]
    · have hc : ¬ (-1000000000000000000 ≤ (if s = true then -num else num) ∧ (if s = true then -num else num) ≤ 1000000000000000000 ∧ den ≤ 1000000000000000000) := fun h => hd h.2.2
      rw [if_pos (narrowI_great h1 hd), if_neg hc]
  · have hc : ¬ (-1000000000000000000 ≤ (if s = true then -num else num) ∧ (if s = true then -num else num) ≤ 1000000000000000000 ∧ den ≤ 1000000000000000000) := by
      rintro ⟨h2, h3, _⟩
      split at h2 <;> split at h3 <;> first | omega | contradiction
    rw [if_pos (narrowI_great h0 hn), if_neg hc]

theorem coprime_int {a b : Int} : gcdI a b = 1 ↔ Nat.Coprime a.natAbs b.natAbs := by
  unfold gcdI Int.gcd Nat.Coprime; omega

theorem mul_parts {a b c d : Int} (v1 : vld a b = true) (v2 : vld c d = true) {g h m n x y : Int} (hg : gcdI (absI a) d = g) (hh : gcdI (absI c) b = h)
    (hm : absI a / g = m) (hn : absI c / h = n) (hx : b / h = x) (hy : d / g = y) :
    absI a = g * m ∧ d = g * y ∧ absI c = h * n ∧ b = h * x ∧ 0 < g ∧ 0 < h ∧ gcdI (m * n) (x * y) = 1 := by
  obtain ⟨p1, p2, p3, p4, p5⟩ := vld_of v1
  obtain ⟨q1, q2, q3, q4, q5⟩ := vld_of v2
  have g0 : 0 < g := by rw [← hg]; exact gcdI_pos_right (by omega)
  have h0 : 0 < h := by rw [← hh]; exact gcdI_pos_right (by omega)
  have e1 : absI a = g * m := by rw [← hm, Int.mul_ediv_cancel' (by rw [← hg]; exact gcdI_dvd_left ..)]
  have e2 : d = g * y := by rw [← hy, Int.mul_ediv_cancel' (by rw [← hg]; exact gcdI_dvd_right ..)]
  have e3 : absI c = h * n := by rw [← hn, Int.mul_ediv_cancel' (by rw [← hh]; exact gcdI_dvd_left ..)]
  have e4 : b = h * x := by rw [← hx, Int.mul_ediv_cancel' (by rw [← hh]; exact gcdI_dvd_right ..)]
  refine ⟨e1, e2, e3, e4, g0, h0, ?_⟩
  have cop : ∀ {k u v u' v' : Int}, u = k * u' → v = k * v' → 0 < k → gcdI u v = k → gcdI u' v' = 1 := by
    intro k u v u' v' hu hv hk hgc
    unfold gcdI at hgc ⊢
    rw [hu, hv, Int.gcd_mul_left] at hgc
    have : (k.natAbs : Int) = k := by omega
    rw [Int.natCast_mul, this] at hgc
    have : k * (Int.gcd u' v' : Int) = k * 1 := by omega
    exact Int.eq_of_mul_eq_mul_left (by omega) this
  have c1 : gcdI m y = 1 := cop e1 e2 g0 hg
  have c2 : gcdI n x = 1 := cop e3 e4 h0 hh
  have c3 : gcdI (absI a) b = 1 := by rw [gcdI_abs]; exact p5
  have c4 : gcdI (absI c) d = 1 := by rw [gcdI_abs]; exact q5
  rw [coprime_int] at c1 c2 c3 c4 ⊢
  rw [e1, e4, Int.natAbs_mul, Int.natAbs_mul] at c3
  rw [e3, e2, Int.natAbs_mul, Int.natAbs_mul] at c4
  have d1 : Nat.Coprime m.natAbs x.natAbs := (c3.coprime_dvd_left (Nat.dvd_mul_left ..)).coprime_dvd_right (Nat.dvd_mul_left ..)
  have d2 : Nat.Coprime n.natAbs y.natAbs := (c4.coprime_dvd_left (Nat.dvd_mul_left ..)).coprime_dvd_right (Nat.dvd_mul_left ..)
  rw [Int.natAbs_mul, Int.natAbs_mul]
  exact Nat.Coprime.mul_left (Nat.Coprime.mul_right d1 c1) (Nat.Coprime.mul_right c2 d2)

theorem mulF_eq {a b c d : Int} (v1 : vld a b = true) (v2 : vld c d = true) {g h m n x y : Int} (hg : gcdI (absI a) d = g) (hh : gcdI (absI c) b = h)
    (hm : absI a / g = m) (hn : absI c / h = n) (hx : b / h = x) (hy : d / g = y) :
    mulF a b c d = if m * n = 0 then (0, 1, 0) else sgn (decide (a < 0) != decide (c < 0)) (narrowI (m * n)) (narrowI (x * y)) := by
  obtain ⟨p1, p2, p3, p4, p5⟩ := vld_of v1
  obtain ⟨q1, q2, q3, q4, q5⟩ := vld_of v2
  obtain ⟨e1, e2, e3, e4, g0, h0, hc⟩ := mul_parts v1 v2 hg hh hm hn hx hy
  have a0 := absI_nonneg a
  have c0 := absI_nonneg c
  have m0 : 0 ≤ m := by rw [← hm]; exact Int.ediv_nonneg a0 (by omega)
  have n0 : 0 ≤ n := by rw [← hn]; exact Int.ediv_nonneg c0 (by omega)
  have x0 : 0 ≤ x := by rw [← hx]; exact Int.ediv_nonneg (by omega) (by omega)
  have y0 : 0 ≤ y := by rw [← hy]; exact Int.ediv_nonneg (by omega) (by omega)
  have hmn : 0 ≤ m * n := Int.mul_nonneg m0 n0
  have hxy : 0 ≤ x * y := Int.mul_nonneg x0 y0
  have hbd : b * d = (g * h) * (x * y) := by rw [e4, e2]; simp only [Int.mul_comm, Int.mul_left_comm]
  have hac : a * c = (g * h) * (if (decide (a < 0) != decide (c < 0)) = true then -(m * n) else m * n) := by
    have e5 : absI a * absI c = (g * h) * (m * n) := by rw [e1, e3]; simp only [Int.mul_comm, Int.mul_left_comm]
    by_cases ha : a < 0 <;> by_cases hcc : c < 0
    · rw [absI_of_neg ha, absI_of_neg hcc, Int.neg_mul_neg] at e5; simp [ha, hcc, e5]
    · rw [absI_of_neg ha, absI_of_nonneg (by omega), Int.neg_mul] at e5; simp [ha, hcc, Int.mul_neg]; omega
    · rw [absI_of_nonneg (by omega), absI_of_neg hcc, Int.mul_neg] at e5; simp [ha, hcc, Int.mul_neg]; omega
    · rw [absI_of_nonneg (by omega), absI_of_nonneg (by omega)] at e5; simp [ha, hcc, e5]
  have hcs : gcdI (if (decide (a < 0) != decide (c < 0)) = true then -(m * n) else m * n) (x * y) = 1 := by
    split
    · rw [gcdI_neg]; exact hc
    · exact hc
  unfold mulF
  rw [if_pos ⟨v1, v2⟩, norm_of (Int.mul_pos g0 h0) hac hbd hcs]
  by_cases hz : m * n = 0
  · rw [if_pos hz, hz]
    have : x * y = 1 := by
      rw [hz] at hc
      unfold gcdI at hc
      rw [Int.gcd_zero_left] at hc
      omega
    rw [this]; simp
  · rw [if_neg hz, sgn_norm hmn hxy]
end Go.Proofs.YthieengihbbnpaaDoor.M
