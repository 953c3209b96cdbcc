/- Decimal numbers: what Decimal writes. -/
import Derived.Test.YthieengihbbnpaaDoorM20
namespace Go.Proofs.YthieengihbbnpaaDoor.M
def pad (k : Nat) (l : List UInt8) : List UInt8 := List.replicate (k + 1 - l.length) 48 ++ l
def dot (k : Nat) (l : List UInt8) : List UInt8 := if k = 0 then l else l.take (l.length - k) ++ 46 :: l.drop (l.length - k)
def decL (n : Int) (k : Nat) : List UInt8 := if n < 0 then 45 :: dot k (pad k (Lib.itoa (absI n))) else dot k (pad k (Lib.itoa (absI n)))
def decF (n d : Int) : List UInt8 × Int := if d < 0 ∨ d > 6 then ([], 1) else (decL n d.toNat, 0)
/-- what Text writes -/
def textL (a b : Int) : List UInt8 := if vld a b = true then (if b = 1 then Lib.itoa a else Lib.itoa a ++ 47 :: Lib.itoa b) else []
theorem bytes_ext {a b : ByteArray} (h : a.data.toList = b.data.toList) : a = b := by
  obtain ⟨⟨x⟩⟩ := a
  obtain ⟨⟨y⟩⟩ := b
  have h : x = y := h
  subst h
  rfl
theorem bytes_append (a b : ByteArray) : (a ++ b).data.toList = a.data.toList ++ b.data.toList := by rw [ByteArray.data_append, Array.toList_append]
theorem bytes_size (a : ByteArray) : a.size = a.data.toList.length := rfl
theorem bytes_mk (l : List UInt8) : (ByteArray.mk l.toArray).data.toList = l := rfl
theorem bytes_extract (a : ByteArray) (i j : Nat) : (a.extract i j).data.toList = (a.data.toList.drop i).take (j - i) := by
  simp
theorem nDigits_le : ∀ (k u : Nat), u < 10 ^ (k + 1) → Lib.nDigits u ≤ k + 1 := by
  intro k
  induction k with
  | zero => intro u h; unfold Lib.nDigits; rw [dif_pos (by simpa using h)]; exact Nat.le_refl _
  | succ k ih =>
    intro u h
    unfold Lib.nDigits
    split
    · omega
    · have : u / 10 < 10 ^ (k + 1) := by rw [Nat.div_lt_iff_lt_mul (by omega)]; rw [Nat.pow_succ] at h; exact h
      have := ih (u / 10) this
      omega
theorem nDigits_pos (u : Nat) : 1 ≤ Lib.nDigits u := by unfold Lib.nDigits; split <;> omega
theorem itoa_len {n : Int} (h0 : 0 ≤ n) (h1 : n < 18446744073709551616) : 1 ≤ (Lib.itoa n).length ∧ (Lib.itoa n).length ≤ 20 := by
  obtain ⟨u, rfl⟩ := Int.eq_ofNat_of_zero_le h0
  have e : Lib.itoa (u : Int) = Lib.decDigits u := by unfold Lib.itoa; rw [if_neg (by omega)]; simp
  rw [e, Lib.decDigits_length]
  exact ⟨nDigits_pos u, nDigits_le 19 u (by have : (10:Nat) ^ (19 + 1) = 100000000000000000000 := by decide
                                            omega)⟩
theorem itoa_len2 {n : Int} (h0 : -9223372036854775808 ≤ n) (h1 : n < 9223372036854775808) : (Lib.itoa n).length ≤ 21 := by
  rcases Int.lt_or_le n 0 with h | h
  · have e : Lib.itoa n = 45 :: Lib.decDigits n.natAbs := by unfold Lib.itoa; rw [if_pos h]
    rw [e, List.length_cons, Lib.decDigits_length]
    have := nDigits_le 19 n.natAbs (by have : (10:Nat) ^ (19 + 1) = 100000000000000000000 := by decide
                                       omega)
    omega
  · have := (itoa_len h (by omega)).2; omega
end Go.Proofs.YthieengihbbnpaaDoor.M
