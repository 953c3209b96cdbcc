/- The sum of fractions by the program's way. -/
import Derived.Test.YthieengihbbnpaaDoorM5
namespace Go.Proofs.YthieengihbbnpaaDoor.M
set_option linter.unusedVariables false

/-- T / e, or the greatest number of 64 bits -/
def byI (T e : Int) : Int := if e ≤ T / 18446744073709551616 then 18446744073709551615 else T / e

theorem gcdI_eq_one {a b : Int} : gcdI a b = 1 ↔ Int.gcd a b = 1 := by unfold gcdI; omega

/-- the parts of a sum -/
structure Parts (a b c d g x y S : Int) : Prop where
  g0 : 0 < g
  hb : b = g * x
  hd : d = g * y
  hx : 0 < x
  hy : 0 < y
  hS : S = a * y + c * x
  cx : Int.gcd S x = 1
  cy : Int.gcd S y = 1
theorem add_parts {a b c d : Int} (v1 : vld a b = true) (v2 : vld c d = true) {g x y S : Int} (hg : gcdI b d = g) (hx : b / g = x) (hy : d / g = y) (hS : a * y + c * x = S) : Parts a b c d g x y S := by
  obtain ⟨p1, p2, p3, p4, p5⟩ := vld_of v1
  obtain ⟨q1, q2, q3, q4, q5⟩ := vld_of v2
  have g0 : 0 < g := by rw [← hg]; exact gcdI_pos_right (by omega)
  have e1 : b = g * x := by rw [← hx, Int.mul_ediv_cancel' (by rw [← hg]; exact gcdI_dvd_left ..)]
  have e2 : d = g * y := by rw [← hy, Int.mul_ediv_cancel' (by rw [← hg]; exact gcdI_dvd_right ..)]
  have x0 : 0 < x := by
    rcases Int.lt_or_le 0 x with h | h
    · exact h
    · have := Int.mul_nonneg (show 0 ≤ g by omega) (show 0 ≤ -x by omega)
      rw [Int.mul_neg] at this; omega
  have y0 : 0 < y := by
    rcases Int.lt_or_le 0 y with h | h
    · exact h
    · have := Int.mul_nonneg (show 0 ≤ g by omega) (show 0 ≤ -y by omega)
      rw [Int.mul_neg] at this; omega
  have cxy : Int.gcd x y = 1 := by
    have h1 : (Int.gcd b d : Int) = g := by unfold gcdI at hg; exact hg
    rw [e1, e2, Int.gcd_mul_left, Int.natCast_mul] at h1
    have h2 : (g.natAbs : Int) = g := by omega
    rw [h2] at h1
    have h3 : g * (Int.gcd x y : Int) = g * 1 := by omega
    have h4 : (Int.gcd x y : Int) = 1 := Int.eq_of_mul_eq_mul_left (by omega) h3
    omega
  have ca : Int.gcd a x = 1 := by
    rw [gcdI_eq_one] at p5
    rw [e1] at p5
    have := Nat.Coprime.coprime_dvd_right (k := a.natAbs) (n := x.natAbs) (m := (g * x).natAbs) (by rw [Int.natAbs_mul]; exact Nat.dvd_mul_left ..) p5
    exact this
  have cc : Int.gcd c y = 1 := by
    rw [gcdI_eq_one] at q5
    rw [e2] at q5
    have := Nat.Coprime.coprime_dvd_right (k := c.natAbs) (n := y.natAbs) (m := (g * y).natAbs) (by rw [Int.natAbs_mul]; exact Nat.dvd_mul_left ..) q5
    exact this
  refine ⟨g0, e1, e2, x0, y0, hS.symm, ?_, ?_⟩
  · rw [← hS, Int.gcd_add_mul_right_left, Int.gcd_comm, Int.gcd_mul_right_right_of_gcd_eq_one (by rw [Int.gcd_comm]; exact ca)]
    exact cxy
  · rw [← hS, Int.gcd_mul_right_add_left, Int.gcd_comm, Int.gcd_mul_right_right_of_gcd_eq_one (by rw [Int.gcd_comm]; exact cc), Int.gcd_comm]
    exact cxy

theorem byI_small {T e : Int} (h0 : 0 ≤ T) (he : 0 < e) (h : T / e ≤ 1000000000000000000) : byI T e = T / e := by
  unfold byI
  rw [if_neg]
  intro h2
  have h3 : e * 18446744073709551616 ≤ T := by omega
  have : 18446744073709551616 ≤ T / e := by
    rw [Int.le_ediv_iff_mul_le he, Int.mul_comm]; exact h3
  omega
theorem byI_great {T e : Int} (h : ¬ T / e ≤ 1000000000000000000) : byI T e > 1000000000000000000 := by
  unfold byI; split <;> omega
theorem byI_bounds {T e : Int} (h0 : 0 ≤ T) (he : 0 < e) (hT : T < 340282366920938463463374607431768211456) : 0 ≤ byI T e ∧ byI T e < 18446744073709551616 := by
  unfold byI
  split
  · omega
  · rename_i h
    refine ⟨Int.ediv_nonneg h0 (by omega), ?_⟩
    rw [Int.ediv_lt_iff_lt_mul he]
    omega

theorem sgn_by {s : Bool} {T e den : Int} (h0 : 0 ≤ T) (he : 0 < e) (h1 : 0 ≤ den) : sgn s (byI T e) (narrowI den) =
    if -1000000000000000000 ≤ (if s = true then -(T / e) else T / e) ∧ (if s = true then -(T / e) else T / e) ≤ 1000000000000000000 ∧ den ≤ 1000000000000000000 then (if s = true then -(T / e) else T / e, den, 0) else (0, 0, 5) := by
  have hq : 0 ≤ T / e := Int.ediv_nonneg h0 (by omega)
  unfold sgn
  by_cases hn : T / e ≤ 1000000000000000000
  · rw [byI_small h0 he hn, if_neg (by omega)]
    by_cases hd : den ≤ 1000000000000000000
    · have hc : -1000000000000000000 ≤ (if s = true then -(T / e) else T / e) ∧ (if s = true then -(T / e) else T / e) ≤ 1000000000000000000 ∧ den ≤ 1000000000000000000 := by
        refine ⟨?_, ?_, hd⟩ <;> split <;> omega
      rw [narrowI_small h1 hd, if_neg (by omega), if_pos hc]
    · have hc : ¬ (-1000000000000000000 ≤ (if s = true then -(T / e) else T / e) ∧ (if s = true then -(T / e) else T / e) ≤ 1000000000000000000 ∧ den ≤ 1000000000000000000) := fun h => hd h.2.2
      rw [if_pos (narrowI_great h1 hd), if_neg hc]
  · have hc : ¬ (-1000000000000000000 ≤ (if s = true then -(T / e) else T / e) ∧ (if s = true then -(T / e) else T / e) ≤ 1000000000000000000 ∧ den ≤ 1000000000000000000) := by
      rintro ⟨h2, h3, _⟩
      split at h2 <;> split at h3 <;> first | omega | contradiction
    rw [if_pos (byI_great hn), if_neg hc]

theorem addF_eq {a b c d : Int} (v1 : vld a b = true) (v2 : vld c d = true) {g x y S e : Int} (hg : gcdI b d = g) (hx : b / g = x) (hy : d / g = y) (hS : a * y + c * x = S) (he : gcdI (absI S) g = e) :
    addF a b c d = if S = 0 then (0, 1, 0) else sgn (decide (S < 0)) (byI (absI S) e) (narrowI (x * (d / e))) := by
  obtain ⟨g0, hb, hd, x0, y0, hS2, cx, cy⟩ := add_parts v1 v2 hg hx hy hS
  have e0 : 0 < e := by rw [← he]; exact gcdI_pos_right g0
  have dS : e ∣ S := by
    have : e ∣ absI S := by rw [← he]; exact gcdI_dvd_left ..
    rw [← Int.natAbs_dvd_natAbs] at this ⊢
    unfold absI at this
    simpa using this
  have dg : e ∣ g := by rw [← he]; exact gcdI_dvd_right ..
  obtain ⟨S', hS'⟩ := dS
  obtain ⟨g', hg'⟩ := dg
  have hde : d / e = g' * y := by rw [hd, hg', Int.mul_assoc, Int.mul_ediv_cancel_left _ (by omega)]
  have cSg : Int.gcd S' g' = 1 := by
    rw [gcdI_abs] at he
    unfold gcdI at he
    rw [hS', hg', Int.gcd_mul_left, Int.natCast_mul] at he
    have h2 : (e.natAbs : Int) = e := by omega
    rw [h2] at he
    have h3 : e * (Int.gcd S' g' : Int) = e * 1 := by omega
    have h4 : (Int.gcd S' g' : Int) = 1 := Int.eq_of_mul_eq_mul_left (by omega) h3
    omega
  have dvd : S'.natAbs ∣ S.natAbs := by rw [hS', Int.natAbs_mul]; exact Nat.dvd_mul_left ..
  have cSx : Int.gcd S' x = 1 := Nat.Coprime.coprime_dvd_left dvd cx
  have cSy : Int.gcd S' y = 1 := Nat.Coprime.coprime_dvd_left dvd cy
  have hc : gcdI S' (x * (g' * y)) = 1 := by
    rw [gcdI_eq_one, Int.gcd_mul_right_right_of_gcd_eq_one cSx, Int.gcd_mul_right_right_of_gcd_eq_one cSg]; exact cSy
  have g'0 : 0 < g' := by
    rcases Int.lt_or_le 0 g' with h | h
    · exact h
    · have := Int.mul_nonneg (show 0 ≤ e by omega) (show 0 ≤ -g' by omega)
      rw [Int.mul_neg] at this; omega
  have hden : 0 ≤ x * (g' * y) := Int.mul_nonneg (by omega) (Int.mul_nonneg (by omega) (by omega))
  have hn : a * d + c * b = (g * e) * S' := by
    have : a * d + c * b = g * S := by rw [hd, hb, hS2, Int.mul_add]; simp only [Int.mul_left_comm]
    rw [this, hS', Int.mul_assoc]
  have hd2 : b * d = (g * e) * (x * (g' * y)) := by
    rw [hb]
    have : d = e * (g' * y) := by rw [hd, hg', Int.mul_assoc]
    rw [this]; simp only [Int.mul_comm, Int.mul_left_comm]
  unfold addF
  rw [if_pos ⟨v1, v2⟩, norm_of (Int.mul_pos g0 e0) hn hd2 hc]
  by_cases hz : S = 0
  · have : S' = 0 := by
      rw [hz] at hS'
      rcases Int.mul_eq_zero.mp hS'.symm with h | h
      · omega
      · exact h
    rw [if_pos hz]
    subst this
    have h1 : x * (g' * y) = 1 := by
      rw [gcdI_eq_one, Int.gcd_zero_left] at hc
      omega
    rw [h1]; simp
  · rw [if_neg hz, hde, sgn_by (absI_nonneg S) e0 hden]
    have hq : (if decide (S < 0) = true then -(absI S / e) else absI S / e) = S' := by
      by_cases hs : S < 0
      · rw [if_pos (by simpa using hs), absI_of_neg hs, hS', ← Int.mul_neg, Int.mul_ediv_cancel_left _ (by omega)]; omega
      · rw [if_neg (by simpa using hs), absI_of_nonneg (by omega), hS', Int.mul_ediv_cancel_left _ (by omega)]
    rw [hq]

/-- a difference of numbers of 128 bits, in two halves -/
theorem minus_halves {A B bo : Int} (hb : bo = if A % 18446744073709551616 < B % 18446744073709551616 + 0 then 1 else 0) (h0 : 0 ≤ B) (h1 : B ≤ A) (h2 : A < 340282366920938463463374607431768211456) :
    (A / 18446744073709551616 - B / 18446744073709551616 - bo) % 18446744073709551616 = (A - B) / 18446744073709551616 ∧ (A % 18446744073709551616 - B % 18446744073709551616) % 18446744073709551616 = (A - B) % 18446744073709551616 := by
  split at hb <;> omega
theorem plus_halves {A B : Int} (h0 : 0 ≤ A) (h1 : 0 ≤ B) (h2 : A + B < 340282366920938463463374607431768211456) :
    (A / 18446744073709551616 + B / 18446744073709551616 + (A % 18446744073709551616 + B % 18446744073709551616) / 18446744073709551616) % 18446744073709551616 = (A + B) / 18446744073709551616 ∧
      (A % 18446744073709551616 + B % 18446744073709551616) % 18446744073709551616 = (A + B) % 18446744073709551616 := by omega
end Go.Proofs.YthieengihbbnpaaDoor.M
