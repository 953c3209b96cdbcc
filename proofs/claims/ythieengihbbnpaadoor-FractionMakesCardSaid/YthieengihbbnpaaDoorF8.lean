/- strings.Cut at one byte. -/
import Derived.Test.YthieengihbbnpaaDoorF7
import Derived.Test.YthieengihbbnpaaDoorM23
namespace Go.Proofs.YthieengihbbnpaaDoor
open Go.RowKit Go.Sort
set_option linter.unusedVariables false
theorem retC {X Y : ByteArray} {b : Bool} {l m : List UInt8} (h : X.data.toList = l) (h2 : Y.data.toList = m) : Ending.returned (.tuple #[.string X, .string Y, .bool b]) = .returned (.tuple #[.string ⟨l.toArray⟩, .string ⟨m.toArray⟩, .bool b]) := by
  rw [show X = ⟨l.toArray⟩ from M.bytes_ext (by rw [h]), show Y = ⟨m.toArray⟩ from M.bytes_ext (by rw [h2])]
set_option maxRecDepth 100000 in
set_option maxHeartbeats 4000000 in
theorem cutIn_gw (s : ByteArray) (c : UInt8) (hs : s.size ≤ 140737488355328) (w W : World) (p : Regrown) (hB : Below w.heap.size w W) :
    Calls Tryd.prog 79 #[.string s, .string ⟨#[c]⟩] (gw W p) fun e w' => e = .returned (.tuple #[.string ⟨(M.cutC c s.data.toList).1.toArray⟩, .string ⟨(M.cutC c s.data.toList).2.1.toArray⟩, .bool (M.cutC c s.data.toList).2.2]) ∧ Below w.heap.size w w' := by
  have hlt := M.indexByte_lt s.data.toList c
  rw [← M.bytes_size] at hlt
  unfold M.cutC
  by_cases h0 : 0 ≤ Lib.indexByte s.data.toList c
  · rw [if_pos h0]
    have cI := fun w => quietBelow (Tryd.stringslite_Index_one s c w)
    obtain ⟨i, hi⟩ := Int.eq_ofNat_of_zero_le h0
    rw [hi] at cI hlt ⊢
    rw [Int.toNat_natCast]
    have h1 : i < s.size := by omega
    have h2 : i ≤ s.size := by omega
    have h3 : i + 1 ≤ s.size := by omega
    have h4 : (i : Int) + 1 ≤ s.size := by omega
    have hw : IntKind.i64.wrap ((i : Int) + 1) = (i : Int) + 1 := IntWalk.i64_in _ (by omega)
    have hw2 : ((i : Int) + 1).toNat = i + 1 := by omega
    have hw3 : (0 : Int) ≤ (i : Int) + 1 := by omega
    have e1 : (s.extract 0 i).data.toList = s.data.toList.take i := by rw [M.bytes_extract]; simp
    have e2 : (s.extract (i + 1) s.size).data.toList = s.data.toList.drop (i + 1) := by
      rw [M.bytes_extract]; apply List.take_of_length_le; rw [List.length_drop, M.bytes_size]; exact Nat.le_refl _
    have E1 := Lib.hid e1
    have E2 := Lib.hid e2
    clear hi h0 hlt e1 e2
    go_enter Tryd.func79, Tryd.ntmps79
    go_upto_region 3 with (go_at_call 95; with_reducible refine (callsGw (cI _)).mono ?_; rintro e w1 ⟨rfl, q, rfl⟩)
    refine wp_gw _ (by kernel_rfl) (by kernel_rfl) ?_
    repeat (quiet_step (fail))
    refine wpQuiet_nil ?_
    intro _ hw'
    obtain ⟨p, hw''⟩ := hw'
    subst hw''
    go_wp2
    go_ret3
    exact ⟨retC E1.out E2.out, below_gw hB _⟩
  · rw [if_neg h0]
    have cI := fun w => quietBelow (Tryd.stringslite_Index_one s c w)
    obtain ⟨i, hi⟩ : ∃ i, Lib.indexByte s.data.toList c = i := ⟨_, rfl⟩
    rw [hi] at cI h0
    have hd : decide (0 ≤ i) = false := decide_eq_false h0
    clear hi hlt
    go_enter Tryd.func79, Tryd.ntmps79
    go_wp2_with (go_at_call 95; with_reducible refine (callsGw (cI _)).mono ?_; rintro e w1 ⟨rfl, q, rfl⟩)
    go_ret3
    exact ⟨retC rfl rfl, below_gw hB _⟩
theorem cutIn_any (s : ByteArray) (c : UInt8) (hs : s.size ≤ 140737488355328) (w : World) :
    Calls Tryd.prog 79 #[.string s, .string ⟨#[c]⟩] w fun e w' => e = .returned (.tuple #[.string ⟨(M.cutC c s.data.toList).1.toArray⟩, .string ⟨(M.cutC c s.data.toList).2.1.toArray⟩, .bool (M.cutC c s.data.toList).2.2]) ∧ Below w.heap.size w w' := by
  obtain ⟨p0, hp0⟩ := gw_start w
  have h := cutIn_gw s c hs w w p0 (belowRefl w)
  rwa [← hp0] at h
set_option maxRecDepth 100000 in
theorem cut_any (s : ByteArray) (c : UInt8) (hs : s.size ≤ 140737488355328) (w : World) :
    Calls Tryd.prog 48 #[.string s, .string ⟨#[c]⟩] w fun e w' => e = .returned (.tuple #[.string ⟨(M.cutC c s.data.toList).1.toArray⟩, .string ⟨(M.cutC c s.data.toList).2.1.toArray⟩, .bool (M.cutC c s.data.toList).2.2]) ∧ Below w.heap.size w w' := by
  have cI := cutIn_any s c hs w
  generalize M.cutC c s.data.toList = R at cI ⊢
  go_enter Tryd.func48, Tryd.ntmps48
  go_wp2_with (go_at_call 79; (with_reducible refine cI.mono ?_); rintro e w1 ⟨rfl, hb⟩)
  go_ret3
  exact ⟨rfl, hb⟩
end Go.Proofs.YthieengihbbnpaaDoor
