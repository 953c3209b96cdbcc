/- What Parse returns. -/
import Derived.Test.YthieengihbbnpaaDoorM23
import Derived.Lib.Strings
namespace Go.Proofs.YthieengihbbnpaaDoor.M
/-- numerator, denominator, and whether the text is one of a fraction -/
def parts (t : List UInt8) : Int × Int × Bool :=
  if (cutC 47 t).2.2 = true then ((numF 19 (cutC 47 t).1).1, (numF 19 (cutC 47 t).2.1).1, (numF 19 (cutC 47 t).1).2 && (numF 19 (cutC 47 t).2.1).2)
  else if (cutC 46 t).2.2 = true then ((numF 18 ((cutC 46 t).1 ++ (cutC 46 t).2.1)).1, 10 ^ (min (cutC 46 t).2.1.length 18), (numF 18 ((cutC 46 t).1 ++ (cutC 46 t).2.1)).2 && !(cutC 46 t).1.isEmpty && !(cutC 46 t).2.1.isEmpty)
  else ((numF 19 t).1, 1, (numF 19 t).2)
def parseF (l : List UInt8) : Int × Int × Int :=
  if (parts (Lib.trimPrefix l [45])).2.2 = true then
    (if (parts (Lib.trimPrefix l [45])).2.1 = 0 then (0, 0, 1) else norm (if Lib.hasPrefix l [45] = true then -(parts (Lib.trimPrefix l [45])).1 else (parts (Lib.trimPrefix l [45])).1) (parts (Lib.trimPrefix l [45])).2.1)
  else (0, 0, 2)
theorem numF_isU (m : Nat) (hm : m ≤ 19) (l : List UInt8) : isU (numF m l).1 := by
  unfold numF isU
  by_cases h : 1 ≤ l.length ∧ l.length ≤ m ∧ l.all isDig = true
  · rw [if_pos h]
    have := valD_bounds l h.2.2
    have h2 := ten_le (show l.length ≤ 19 by omega)
    have : (10 : Int) ^ 19 = 10000000000000000000 := by decide
    dsimp only
    omega
  · rw [if_neg h]; decide
theorem cutC_len (c : UInt8) (l : List UInt8) : (cutC c l).1.length ≤ l.length ∧ (cutC c l).2.1.length ≤ l.length := by
  unfold cutC
  split
  · exact ⟨by rw [List.length_take]; omega, by rw [List.length_drop]; omega⟩
  · exact ⟨Nat.le_refl _, Nat.zero_le _⟩
theorem trim_len (l p : List UInt8) : (Lib.trimPrefix l p).length ≤ l.length := by
  unfold Lib.trimPrefix
  split
  · rw [List.length_drop]; omega
  · exact Nat.le_refl _
theorem parts_isU (t : List UInt8) : isU (parts t).1 ∧ isU (parts t).2.1 := by
  have h10 : ∀ n : Nat, n ≤ 18 → isU (10 ^ n : Int) := by
    intro n hn
    have h1 := ten_pos n
    have h2 := ten_le hn
    have : (10 : Int) ^ 18 = 1000000000000000000 := by decide
    unfold isU
    omega
  unfold parts
  split
  · exact ⟨numF_isU 19 (by decide) _, numF_isU 19 (by decide) _⟩
  · split
    · exact ⟨numF_isU 18 (by decide) _, h10 _ (Nat.min_le_right _ _)⟩
    · exact ⟨numF_isU 19 (by decide) _, by unfold isU; dsimp only; omega⟩
end Go.Proofs.YthieengihbbnpaaDoor.M
