/- The estimate of a digit of a quotient (for math/bits.Div64), in whole numbers; b is 2^32. -/
import Derived.Test.YthieengihbbnpaaDoorM2
namespace Go.Proofs.YthieengihbbnpaaDoor.M

/-- one digit: the quotient of U * 2^32 + u by Y = y1 * 2^32 + y0 -/
structure Dig (U u y1 y0 : Int) : Prop where
  U0 : 0 ≤ U
  u0 : 0 ≤ u
  u1 : u < 4294967296
  y1l : 2147483648 ≤ y1
  y1u : y1 < 4294967296
  y0l : 0 ≤ y0
  y0u : y0 < 4294967296
  lt : U < y1 * 4294967296 + y0
def quot (U u y1 y0 : Int) : Int := (U * 4294967296 + u) / (y1 * 4294967296 + y0)

theorem quot_nonneg {U u y1 y0 : Int} (h : Dig U u y1 y0) : 0 ≤ quot U u y1 y0 := by
  obtain ⟨h1, h2, h3, h4, h5, h6, h7, h8⟩ := h
  unfold quot
  exact Int.ediv_nonneg (by omega) (by omega)
theorem quot_lt {U u y1 y0 : Int} (h : Dig U u y1 y0) : quot U u y1 y0 < 4294967296 := by
  obtain ⟨h1, h2, h3, h4, h5, h6, h7, h8⟩ := h
  unfold quot
  rw [Int.ediv_lt_iff_lt_mul (by omega)]
  omega
theorem quot_mul_le {U u y1 y0 : Int} (h : Dig U u y1 y0) : quot U u y1 y0 * (y1 * 4294967296 + y0) ≤ U * 4294967296 + u := by
  obtain ⟨h1, h2, h3, h4, h5, h6, h7, h8⟩ := h
  exact Int.ediv_mul_le _ (by omega)
theorem quot_first {U u y1 y0 : Int} (h : Dig U u y1 y0) : quot U u y1 y0 ≤ U / y1 := by
  have hm := quot_mul_le h
  have hq := quot_nonneg h
  obtain ⟨h1, h2, h3, h4, h5, h6, h7, h8⟩ := h
  rw [Int.le_ediv_iff_mul_le (by omega)]
  have e : quot U u y1 y0 * (y1 * 4294967296 + y0) = quot U u y1 y0 * y1 * 4294967296 + quot U u y1 y0 * y0 := by
    rw [Int.mul_add, Int.mul_assoc]
  have p : 0 ≤ quot U u y1 y0 * y0 := Int.mul_nonneg hq h6
  omega
theorem first_le {U u y1 y0 : Int} (h : Dig U u y1 y0) : U / y1 ≤ 4294967297 := by
  obtain ⟨h1, h2, h3, h4, h5, h6, h7, h8⟩ := h
  have : U / y1 < 4294967298 := by
    rw [Int.ediv_lt_iff_lt_mul (by omega)]
    omega
  omega
/-- a greater estimate fails the test, or is no digit -/
theorem quot_dec {U u y1 y0 q r : Int} (h : Dig U u y1 y0) (hr : q * y1 + r = U) (ht : 4294967296 ≤ q ∨ 4294967296 * r + u < q * y0) : quot U u y1 y0 ≤ q - 1 := by
  have hl := quot_lt h
  rcases ht with ht | ht
  · omega
  · have : quot U u y1 y0 < q := by
      obtain ⟨h1, h2, h3, h4, h5, h6, h7, h8⟩ := h
      unfold quot
      rw [Int.ediv_lt_iff_lt_mul (by omega)]
      have e : q * (y1 * 4294967296 + y0) = q * y1 * 4294967296 + q * y0 := by rw [Int.mul_add, Int.mul_assoc]
      rw [e]
      omega
    omega
/-- an estimate that passes is the quotient -/
theorem quot_eq {U u y1 y0 q r : Int} (h : Dig U u y1 y0) (hr : q * y1 + r = U) (hq : quot U u y1 y0 ≤ q) (ht : q * y0 ≤ 4294967296 * r + u) : q = quot U u y1 y0 := by
  have : q ≤ quot U u y1 y0 := by
    obtain ⟨h1, h2, h3, h4, h5, h6, h7, h8⟩ := h
    unfold quot
    rw [Int.le_ediv_iff_mul_le (by omega)]
    have e : q * (y1 * 4294967296 + y0) = q * y1 * 4294967296 + q * y0 := by rw [Int.mul_add, Int.mul_assoc]
    rw [e]
    omega
  omega
theorem quot_break {U u y1 y0 q r : Int} (h : Dig U u y1 y0) (hq : q ≤ 4294967296) (hr : 4294967296 ≤ r) : q * y0 ≤ 4294967296 * r + u := by
  obtain ⟨h1, h2, h3, h4, h5, h6, h7, h8⟩ := h
  have : q * y0 ≤ 4294967296 * y0 := Int.mul_le_mul_of_nonneg_right hq h6
  omega
theorem quot_rest {U u y1 y0 : Int} : U * 4294967296 + u - quot U u y1 y0 * (y1 * 4294967296 + y0) = (U * 4294967296 + u) % (y1 * 4294967296 + y0) := by
  unfold quot
  rw [Int.emod_def, Int.mul_comm (y1 * 4294967296 + y0)]

/-- two digits: what Div64 returns -/
theorem two_digits {n Y U u1 u0 : Int} (hY : 0 < Y) (hn : n = (U * 4294967296 + u1) * 4294967296 + u0) :
    (U * 4294967296 + u1) / Y * 4294967296 + ((U * 4294967296 + u1) % Y * 4294967296 + u0) / Y = n / Y ∧ ((U * 4294967296 + u1) % Y * 4294967296 + u0) % Y = n % Y := by
  have e : n = ((U * 4294967296 + u1) % Y * 4294967296 + u0) + Y * ((U * 4294967296 + u1) / Y * 4294967296) := by
    have := Int.emod_add_mul_ediv (U * 4294967296 + u1) Y
    rw [hn]
    have e2 : Y * ((U * 4294967296 + u1) / Y * 4294967296) = Y * ((U * 4294967296 + u1) / Y) * 4294967296 := by rw [Int.mul_assoc]
    omega
  constructor
  · rw [e, Int.add_mul_ediv_left _ _ (by omega)]
    omega
  · rw [e, Int.add_mul_emod_self_left]

/-- shifting both parts of a number of 128 bits by a power p of 2 (p * p' = 2^64) -/
theorem shift_low {lo p p' : Int} (hp : 0 < p) (hp' : 0 < p') (hpp : p * p' = 18446744073709551616) (h0 : 0 ≤ lo) (hlo : lo < 18446744073709551616) :
    0 ≤ lo / p' ∧ lo / p' < p ∧ lo * p = lo / p' * 18446744073709551616 + lo * p % 18446744073709551616 := by
  have a1 := Int.emod_nonneg lo (show p' ≠ 0 by omega)
  have a2 := Int.emod_lt_of_pos lo hp'
  have a3 := Int.emod_add_mul_ediv lo p'
  have b1 : 0 ≤ lo % p' * p := Int.mul_nonneg a1 (by omega)
  have b2 : lo % p' * p < p' * p := Int.mul_lt_mul_of_pos_right a2 hp
  have e : lo * p = lo / p' * 18446744073709551616 + lo % p' * p := by
    rw [← hpp]
    have : lo * p = (lo % p' + p' * (lo / p')) * p := by rw [a3]
    rw [this, Int.add_mul]
    have : p' * (lo / p') * p = lo / p' * (p * p') := by
      rw [Int.mul_comm p', Int.mul_assoc, Int.mul_comm p']
    omega
  have c : p' * p = 18446744073709551616 := by rw [Int.mul_comm]; exact hpp
  refine ⟨Int.ediv_nonneg h0 (by omega), ?_, by omega⟩
  rw [Int.ediv_lt_iff_lt_mul hp']
  omega

theorem or_add (a b : Int) (i : Nat) (hi : i ≤ 64) (ha : 0 ≤ a) (ha2 : a * 2 ^ i < 18446744073709551616) (hb : 0 ≤ b) (hb2 : b < 2 ^ i) :
    bits .or .u64 (a * 2 ^ i) b = a * 2 ^ i + b := by
  obtain ⟨A, rfl⟩ := Int.eq_ofNat_of_zero_le ha
  obtain ⟨B, rfl⟩ := Int.eq_ofNat_of_zero_le hb
  have e : ((A : Int) * 2 ^ i) = ((A * 2 ^ i : Nat) : Int) := by simp
  have hB : B < 2 ^ i := by exact_mod_cast hb2
  have hA : A * 2 ^ i < 2 ^ 64 := by
    have : ((A * 2 ^ i : Nat) : Int) < 18446744073709551616 := by rw [← e]; exact ha2
    omega
  have hB2 : B < 2 ^ 64 := Nat.lt_of_lt_of_le hB (Nat.pow_le_pow_right (by decide) hi)
  rw [e, (bits_nat .u64 64 (by decide) (fun n h1 h2 => by rw [wrapU]; omega) (A * 2 ^ i) B hA hB2).2]
  rw [Nat.mul_comm, ← Nat.two_pow_add_eq_or_of_lt hB]
  simp

theorem div_shift {n y p : Int} (hp : 0 < p) : n * p / (y * p) = n / y ∧ n * p % (y * p) / p = n % y := by
  constructor
  · exact Int.mul_ediv_mul_of_pos_left _ _ hp
  · rw [Int.mul_comm n, Int.mul_comm y, Int.mul_emod_mul_of_pos _ _ hp, Int.mul_ediv_cancel_left _ (by omega)]
end Go.Proofs.YthieengihbbnpaaDoor.M
