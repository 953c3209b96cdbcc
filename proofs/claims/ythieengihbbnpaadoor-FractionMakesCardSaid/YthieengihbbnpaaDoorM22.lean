/- Numerals: what a run of digits is worth. -/
import Derived.Test.YthieengihbbnpaaDoorM21
namespace Go.Proofs.YthieengihbbnpaaDoor.M
def isDig (c : UInt8) : Bool := decide (48 ≤ (c.toNat : Int)) && decide ((c.toNat : Int) ≤ 57)
def valD (l : List UInt8) : Int := l.foldl (fun n c => 10 * n + ((c.toNat : Int) - 48)) 0
/-- a run of 1 to most digits -/
def numF (most : Nat) (l : List UInt8) : Int × Bool := if 1 ≤ l.length ∧ l.length ≤ most ∧ l.all isDig = true then (valD l, true) else (0, false)
theorem isDig_iff (c : UInt8) : isDig c = true ↔ 48 ≤ (c.toNat : Int) ∧ (c.toNat : Int) ≤ 57 := by unfold isDig; simp
theorem valD_snoc (l : List UInt8) (c : UInt8) : valD (l ++ [c]) = 10 * valD l + ((c.toNat : Int) - 48) := by unfold valD; simp
theorem snoc_induction {P : List UInt8 → Prop} (h0 : P []) (h1 : ∀ l c, P l → P (l ++ [c])) (l : List UInt8) : P l := by
  rw [← List.reverse_reverse l]
  induction l.reverse with
  | nil => exact h0
  | cons c l ih => rw [List.reverse_cons]; exact h1 _ _ ih
theorem valD_bounds (l : List UInt8) : l.all isDig = true → 0 ≤ valD l ∧ valD l < 10 ^ l.length := by
  refine snoc_induction (P := fun l => l.all isDig = true → 0 ≤ valD l ∧ valD l < 10 ^ l.length) (fun _ => by decide) (fun l c ih h => ?_) l
  rw [List.all_append, Bool.and_eq_true] at h
  obtain ⟨i1, i2⟩ := ih h.1
  have hc : isDig c = true := by simpa using h.2
  rw [isDig_iff] at hc
  rw [valD_snoc, List.length_append, List.length_singleton, ten_step]
  omega
theorem valD_append (l m : List UInt8) : valD (l ++ m) = valD l * 10 ^ m.length + valD m := by
  refine snoc_induction (P := fun m => valD (l ++ m) = valD l * 10 ^ m.length + valD m) (by simp [valD]) (fun m c ih => ?_) m
  rw [← List.append_assoc, valD_snoc, ih, valD_snoc, List.length_append, List.length_singleton, ten_step, ← Int.mul_assoc]
  omega
theorem take_snoc (s : ByteArray) (k : Nat) (h : k < s.size) : s.data.toList.take (k + 1) = s.data.toList.take k ++ [s[k]] := by
  rw [List.take_succ_eq_append_getElem (by simpa using h)]; rfl
theorem dig_at (s : ByteArray) (k : Nat) (h : k < s.size) (hd : isDig s[k] = false) : s.data.toList.all isDig = false := by
  rw [Bool.eq_false_iff]
  intro hall
  rw [List.all_eq_true] at hall
  have := hall s[k] (by
    have : s[k] = s.data.toList[k]'(by simpa using h) := rfl
    rw [this]
    exact List.getElem_mem _)
  rw [hd] at this
  cases this
end Go.Proofs.YthieengihbbnpaaDoor.M
