/- A text cut at a byte. -/
import Derived.Test.YthieengihbbnpaaDoorM22
import Derived.Lib.Bytealg
namespace Go.Proofs.YthieengihbbnpaaDoor.M
def cutC (c : UInt8) (l : List UInt8) : List UInt8 × List UInt8 × Bool := if 0 ≤ Lib.indexByte l c then (l.take (Lib.indexByte l c).toNat, l.drop ((Lib.indexByte l c).toNat + 1), true) else (l, [], false)
theorem indexByte_lt (l : List UInt8) (c : UInt8) : Lib.indexByte l c < l.length := by
  induction l with
  | nil => simp [Lib.indexByte]
  | cons b l ih =>
    simp only [Lib.indexByte, List.length_cons]
    split
    · omega
    · split <;> omega
theorem indexByte_neg (l : List UInt8) (c : UInt8) : Lib.indexByte l c < 0 ↔ c ∉ l := by
  induction l with
  | nil => simp [Lib.indexByte]
  | cons b l ih =>
    have hg := Lib.indexByte_ge l c
    simp only [Lib.indexByte, List.mem_cons, not_or]
    by_cases h : b = c
    · subst h; simp
    · have h1 : (b == c) = false := beq_eq_false_iff_ne.mpr h
      rw [h1]
      simp only [Bool.false_eq_true, if_false]
      by_cases h2 : Lib.indexByte l c = -1
      · rw [h2]
        simp only [beq_self_eq_true, if_true]
        have := ih.mp (by omega)
        constructor
        · intro _; exact ⟨fun e => h e.symm, this⟩
        · intro _; omega
      · have h3 : (Lib.indexByte l c == -1) = false := beq_eq_false_iff_ne.mpr h2
        rw [h3]
        simp only [Bool.false_eq_true, if_false]
        constructor
        · intro h4; omega
        · rintro ⟨_, h4⟩; have := ih.mpr h4; omega
/-- the first c in l: what is ahead of it holds no c -/
theorem cutC_some {c : UInt8} {l : List UInt8} (h : c ∈ l) : ∃ a b, l = a ++ c :: b ∧ c ∉ a ∧ cutC c l = (a, b, true) := by
  induction l with
  | nil => simp at h
  | cons x l ih =>
    by_cases hx : x = c
    · subst hx
      refine ⟨[], l, rfl, by simp, ?_⟩
      unfold cutC Lib.indexByte
      simp
    · have hm : c ∈ l := by rcases List.mem_cons.mp h with e | e; exact absurd e.symm hx; exact e
      obtain ⟨a, b, e1, e2, e3⟩ := ih hm
      refine ⟨x :: a, b, by rw [e1]; rfl, by simp [e2]; exact fun e => hx e.symm, ?_⟩
      have hge : 0 ≤ Lib.indexByte l c := by
        rcases Int.lt_or_le (Lib.indexByte l c) 0 with h4 | h4
        · exact absurd hm ((indexByte_neg l c).mp h4)
        · exact h4
      unfold cutC at e3 ⊢
      rw [if_pos hge] at e3
      have hi : Lib.indexByte (x :: l) c = Lib.indexByte l c + 1 := by
        simp only [Lib.indexByte]
        rw [beq_eq_false_iff_ne.mpr hx, beq_eq_false_iff_ne.mpr (show Lib.indexByte l c ≠ -1 by omega)]
        rfl
      rw [hi, if_pos (by omega), show (Lib.indexByte l c + 1).toNat = (Lib.indexByte l c).toNat + 1 by omega]
      simp only [Prod.mk.injEq] at e3 ⊢
      exact ⟨by rw [List.take_succ_cons, e3.1], by rw [List.drop_succ_cons, e3.2.1], trivial⟩
theorem cutC_none {c : UInt8} {l : List UInt8} (h : c ∉ l) : cutC c l = (l, [], false) := by
  unfold cutC
  rw [if_neg (by have := (indexByte_neg l c).mpr h; omega)]
end Go.Proofs.YthieengihbbnpaaDoor.M
