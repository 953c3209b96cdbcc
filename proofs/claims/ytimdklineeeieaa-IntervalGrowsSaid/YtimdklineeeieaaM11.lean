/- The reference's intervals: what its functions return. -/
import Derived.Test.YtimdklineeeieaaM10
namespace Go.Proofs.Ytimdklineeeieaa.M
def riin (a b c d e f g h : Int) : Bool := ivld a b c d && ivld e f g h && decide (cmpF e f a b ≤ 0) && decide (cmpF c d g h ≤ 0)
def rhull (a b c d e f g h : Int) : Int × Int × Int × Int × Int :=
  if (ivld a b c d && ivld e f g h) = true then ((lessr a b e f).1, (lessr a b e f).2.1, (morer c d g h).1, (morer c d g h).2.1, 0) else (0, 0, 0, 0, 1)
/-- what the reference's loop has before round i -/
def outAt (rs : List (Int × Int)) (i : Nat) : Int × Int × Int × Int := if i = 0 then (0, 0, 0, 0) else spanF (rs.take i)
theorem lessr_self (a b : Int) : lessr a b a b = (a, b, 0) := by unfold lessr; split <;> rfl
theorem morer_self (a b : Int) : morer a b a b = (a, b, 0) := by unfold morer; split <;> rfl
theorem outAt_one {rs : List (Int × Int)} (h : 0 < rs.length) : outAt rs 1 = ((rs.getD 0 (0, 0)).1, (rs.getD 0 (0, 0)).2, (rs.getD 0 (0, 0)).1, (rs.getD 0 (0, 0)).2) := by
  cases rs with
  | nil => simp at h
  | cons x l => simp [outAt, spanF]
theorem outAt_succ {rs : List (Int × Int)} {i : Nat} (h0 : 1 ≤ i) (h : i < rs.length) : outAt rs (i + 1) = spanStep (outAt rs i) (rs.getD i (0, 0)) := by
  cases rs with
  | nil => simp at h
  | cons x l =>
    obtain ⟨j, rfl⟩ : ∃ j, i = j + 1 := ⟨i - 1, by omega⟩
    have hj : j < l.length := by simpa using h
    unfold outAt
    rw [if_neg (by omega), if_neg (by omega)]
    simp only [List.take_succ_cons, spanF, List.drop_succ_cons, List.drop_zero, List.getD_cons_zero, List.getD_cons_succ]
    rw [List.take_succ_eq_append_getElem hj, List.foldl_append, List.getD_eq_getElem?_getD, List.getElem?_eq_getElem hj]
    rfl
end Go.Proofs.Ytimdklineeeieaa.M
