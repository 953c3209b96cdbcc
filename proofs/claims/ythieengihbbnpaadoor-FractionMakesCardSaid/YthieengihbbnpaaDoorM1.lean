/- Plain arithmetic of fractions: the closed forms of the small functions of package fraction. -/
import Derived.RowKit
import Derived.Laws.BitsLemmas
namespace Go.Proofs.YthieengihbbnpaaDoor.M
open Go Go.RowKit

def isU (a : Int) : Prop := 0 ≤ a ∧ a < 18446744073709551616
def isI (a : Int) : Prop := -9223372036854775808 ≤ a ∧ a < 9223372036854775808
instance (a : Int) : Decidable (isU a) := by unfold isU; infer_instance
instance (a : Int) : Decidable (isI a) := by unfold isI; infer_instance

theorem wrapU (n : Int) : IntKind.u64.wrap n = n % 18446744073709551616 := by simp [IntKind.wrap, IntKind.bits, IntKind.signed]
theorem wrapU_of {n : Int} (h : isU n) : IntKind.u64.wrap n = n := by rw [wrapU]; unfold isU at h; omega
theorem wrapI_of {n : Int} (h : isI n) : wrap64 n = n := by unfold isI at h; unfold wrap64; omega

/-- the absolute value -/
def absI (a : Int) : Int := (a.natAbs : Int)
theorem absI_isU {a : Int} (h : isI a) : isU (absI a) := by unfold isI at h; unfold isU absI; omega
theorem absI_nonneg (a : Int) : 0 ≤ absI a := by unfold absI; omega
theorem absI_neg (a : Int) : absI (-a) = absI a := by unfold absI; omega

/-- the greatest common divisor, of numbers that are not negative -/
def gcdI (a b : Int) : Int := (Int.gcd a b : Int)
theorem gcdI_zero (a : Int) (h : 0 ≤ a) : gcdI a 0 = a := by unfold gcdI; simp [Int.gcd]; omega
theorem gcdI_step (a b : Int) : gcdI a b = gcdI b (a.tmod b) := by
  unfold gcdI
  rw [Int.gcd_comm a b]
  have : Int.gcd b (a.tmod b) = Int.gcd b a := by
    unfold Int.gcd
    rw [Int.natAbs_tmod, Nat.gcd_comm, ← Nat.gcd_rec]
  rw [this]
theorem gcdI_nonneg (a b : Int) : 0 ≤ gcdI a b := by unfold gcdI; omega

/-- is n / d in normalized form, and within the bounds? -/
def vld (n d : Int) : Bool := decide (1 ≤ d) && decide (d ≤ 1000000000000000000) && decide (-1000000000000000000 ≤ n) && decide (n ≤ 1000000000000000000) && (gcdI n d == 1)
theorem vld_iff (n d : Int) : vld n d = true ↔ 1 ≤ d ∧ d ≤ 1000000000000000000 ∧ -1000000000000000000 ≤ n ∧ n ≤ 1000000000000000000 ∧ gcdI n d = 1 := by
  unfold vld; simp [and_assoc]

end Go.Proofs.YthieengihbbnpaaDoor.M
