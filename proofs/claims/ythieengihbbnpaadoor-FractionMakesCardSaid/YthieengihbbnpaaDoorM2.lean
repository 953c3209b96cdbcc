/- Plain arithmetic of fractions: normalization, sum, product; the algorithms that avoid great numbers. -/
import Derived.Test.YthieengihbbnpaaDoorM1
namespace Go.Proofs.YthieengihbbnpaaDoor.M

/-- the normalized fraction n / d (d greater than 0), or the error 5 (out of range) -/
def norm (n d : Int) : Int × Int × Int :=
  if -1000000000000000000 ≤ n / gcdI n d ∧ n / gcdI n d ≤ 1000000000000000000 ∧ d / gcdI n d ≤ 1000000000000000000 then (n / gcdI n d, d / gcdI n d, 0) else (0, 0, 5)
def addF (a b c d : Int) : Int × Int × Int := if vld a b = true ∧ vld c d = true then norm (a * d + c * b) (b * d) else (0, 0, 1)
def subF (a b c d : Int) : Int × Int × Int := if vld a b = true ∧ vld c d = true then norm (a * d - c * b) (b * d) else (0, 0, 1)
def mulF (a b c d : Int) : Int × Int × Int := if vld a b = true ∧ vld c d = true then norm (a * c) (b * d) else (0, 0, 1)
def divF (a b c d : Int) : Int × Int × Int :=
  if vld a b = true ∧ vld c d = true ∧ c ≠ 0 then (if 0 < c then norm (a * d) (b * c) else norm (-(a * d)) (-(b * c))) else (0, 0, 1)
def negF (a b : Int) : Int × Int := if vld a b = true then (-a, b) else (0, 0)
def makeF (n d : Int) : Int × Int × Int := if d = 0 then (0, 0, 1) else if 0 < d then norm n d else norm (-n) (-d)
/-- what the program's 'signed' returns -/
def sgn (neg : Bool) (num den : Int) : Int × Int × Int :=
  if num > 1000000000000000000 then (0, 0, 5) else if den > 1000000000000000000 then (0, 0, 5) else (if neg = true then -num else num, den, 0)

theorem gcdI_pos_right {a b : Int} (h : 0 < b) : 0 < gcdI a b := by
  unfold gcdI
  have : Int.gcd a b ≠ 0 := by
    intro h0
    have := (Int.gcd_eq_zero_iff.mp h0).2
    omega
  omega
theorem gcdI_dvd_left (a b : Int) : gcdI a b ∣ a := Int.gcd_dvd_left ..
theorem gcdI_dvd_right (a b : Int) : gcdI a b ∣ b := Int.gcd_dvd_right ..
theorem gcdI_abs (a b : Int) : gcdI (absI a) b = gcdI a b := by unfold gcdI absI Int.gcd; simp
theorem gcdI_neg (a b : Int) : gcdI (-a) b = gcdI a b := by unfold gcdI; rw [Int.neg_gcd]

/-- a quotient that is known by its reduced form -/
theorem norm_of {n d g p q : Int} (hg : 0 < g) (hn : n = g * p) (hd : d = g * q) (hc : gcdI p q = 1) :
    norm n d = if -1000000000000000000 ≤ p ∧ p ≤ 1000000000000000000 ∧ q ≤ 1000000000000000000 then (p, q, 0) else (0, 0, 5) := by
  have e : gcdI n d = g := by
    subst hn hd
    unfold gcdI at hc ⊢
    rw [Int.gcd_mul_left]
    have : Int.gcd p q = 1 := by omega
    rw [this]; omega
  unfold norm
  rw [e, hn, hd, Int.mul_ediv_cancel_left _ (by omega), Int.mul_ediv_cancel_left _ (by omega)]

end Go.Proofs.YthieengihbbnpaaDoor.M
