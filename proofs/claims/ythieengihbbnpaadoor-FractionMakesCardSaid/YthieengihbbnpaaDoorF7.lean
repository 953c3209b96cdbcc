/- Runs of digits, of the program and of the reference. -/
import Derived.Test.YthieengihbbnpaaDoorF6
import Derived.Test.YthieengihbbnpaaDoorM22
namespace Go.Proofs.YthieengihbbnpaaDoor
open Go.RowKit Go.Sort
set_option linter.unusedVariables false
set_option maxRecDepth 100000 in
set_option maxHeartbeats 4000000 in
theorem number_any (s : ByteArray) (m : Nat) (hm : m ≤ 19) (w : World) :
    Calls Tryd.prog 49 #[.string s, .int .i64 m] w fun e w' => e = .returned (.tuple #[.int .u64 (M.numF m s.data.toList).1, .bool (M.numF m s.data.toList).2]) ∧ w = w' := by
  by_cases h1 : s.size < 1
  · have hd : s.size = 0 := by omega
    have e : M.numF m s.data.toList = (0, false) := by unfold M.numF; rw [if_neg]; rw [← M.bytes_size]; omega
    rw [e]
    clear e h1
    go_enter Tryd.func49, Tryd.ntmps49
    go_wp2
    go_ret2
    exact ⟨rfl, rfl⟩
  · have hd1 : decide ((s.size : Int) < 1) = false := decide_eq_false (by omega)
    have hp : 0 < s.size := by omega
    by_cases h2 : s.size > m
    · have e : M.numF m s.data.toList = (0, false) := by unfold M.numF; rw [if_neg]; rw [← M.bytes_size]; omega
      rw [e]
      clear e
      have hd2 : decide (m < s.size) = true := decide_eq_true h2
      go_enter Tryd.func49, Tryd.ntmps49
      go_wp2
      go_ret2
      exact ⟨rfl, rfl⟩
    · have hd2 : decide (m < s.size) = false := decide_eq_false h2
      have hs : s.size ≤ 19 := by omega
      have hs2 : (s.size : Int) ≤ 19 := by omega
      have hs3 : s.size ≤ m := by omega
      obtain ⟨R, hR⟩ : ∃ R, M.numF m s.data.toList = R := ⟨_, rfl⟩
      rw [hR]
      have HR := Lib.hid hR
      clear hR h1 h2
      go_enter Tryd.func49, Tryd.ntmps49
      go_wp2
      go_loop [6, 19] (fun x i => ∃ (k : Nat) (n : Int), k ≤ s.size ∧ i = .int .i64 k ∧ x = .int .u64 n ∧ Hid (n = M.valD (s.data.toList.take k) ∧ (s.data.toList.take k).all M.isDig = true)) (fun _ i => s.size - (intOf i).toNat)
      case atStart => exact ⟨0, 0, Nat.zero_le _, rfl, rfl, Lib.hid ⟨rfl, rfl⟩⟩
      case round =>
        obtain ⟨k, n, hk, rfl, rfl, hn⟩ := hrel
        by_cases hlt : k < s.size
        · have hv := M.valD_bounds _ hn.out.2
          rw [← hn.out.1] at hv
          have hl : (s.data.toList.take k).length ≤ k := List.length_take_le _ _
          have hten := M.ten_le (show (s.data.toList.take k).length ≤ 18 by omega)
          have hn0 : 0 ≤ n := hv.1
          have hn1 : n < 1000000000000000000 := by
            have : (10 : Int) ^ 18 = 1000000000000000000 := by decide
            omega
          clear hv hten hl
          by_cases c1 : (s[k].toNat : Int) < 48
          · have e : R = (0, false) := by
              rw [← HR.out]
              unfold M.numF
              rw [if_neg]
              rintro ⟨_, _, h⟩
              rw [M.dig_at s k hlt (by unfold M.isDig; rw [decide_eq_false (by omega)]; rfl)] at h
              cases h
            subst e
            clear HR hn
            go_wp2
            go_ret2
            exact ⟨rfl, rfl⟩
          · by_cases c2 : (s[k].toNat : Int) > 57
            · have e : R = (0, false) := by
                rw [← HR.out]
                unfold M.numF
                rw [if_neg]
                rintro ⟨_, _, h⟩
                rw [M.dig_at s k hlt (by unfold M.isDig; rw [decide_eq_false (show ¬ (s[k].toNat : Int) ≤ 57 by omega), Bool.and_false])] at h
                cases h
              subst e
              clear HR hn
              have c1' : decide ((s[k].toNat : Int) < 48) = false := decide_eq_false c1
              have c2' : decide (57 < (s[k].toNat : Int)) = true := decide_eq_true c2
              go_wp2
              go_ret2
              exact ⟨rfl, rfl⟩
            · have c1' : decide ((s[k].toNat : Int) < 48) = false := decide_eq_false c1
              have c2' : decide (57 < (s[k].toNat : Int)) = false := decide_eq_false c2
              have c3 : 48 ≤ (s[k].toNat : Int) := by omega
              have c4 : (s[k].toNat : Int) ≤ 57 := by omega
              have hnx : Hid (10 * n + ((s[k].toNat : Int) - 48) = M.valD (s.data.toList.take (k + 1)) ∧ (s.data.toList.take (k + 1)).all M.isDig = true) := Lib.hid (by
                rw [M.take_snoc s k hlt, M.valD_snoc, ← hn.out.1, List.all_append, hn.out.2]
                refine ⟨rfl, ?_⟩
                have := (M.isDig_iff s[k]).mpr ⟨c3, c4⟩
                simp [this])
              clear c1 c2 hn
              go_wp2
              go_round
              case rel => exact ⟨k + 1, 10 * n + ((s[k].toNat : Int) - 48), by omega, by go_num, by first | rfl | go_num, hnx⟩
              case measure => simp [intOf]; omega
        · have e : R = (n, true) := by
            rw [← HR.out]
            unfold M.numF
            have ht : s.data.toList.take k = s.data.toList := List.take_of_length_le (by rw [← M.bytes_size]; omega)
            have h1 := hn.out
            rw [ht] at h1
            rw [if_pos ⟨by rw [← M.bytes_size]; omega, by rw [← M.bytes_size]; omega, h1.2⟩, ← h1.1]
          subst e
          clear HR hn
          go_wp2
          go_ret2
          exact ⟨rfl, rfl⟩
set_option maxRecDepth 100000 in
set_option maxHeartbeats 4000000 in
theorem digits_any (s : ByteArray) (w : World) :
    Calls Tryd.prog 53 #[.string s] w fun e w' => e = .returned (.tuple #[.int .u64 (M.numF 19 s.data.toList).1, .bool (M.numF 19 s.data.toList).2]) ∧ w = w' := by
  by_cases h1 : s.size < 1
  · have hd : s.size = 0 := by omega
    have e : M.numF 19 s.data.toList = (0, false) := by unfold M.numF; rw [if_neg]; rw [← M.bytes_size]; omega
    rw [e]
    clear e h1
    go_enter Tryd.func53, Tryd.ntmps53
    go_wp2
    go_ret2
    exact ⟨rfl, rfl⟩
  · have hd1 : decide ((s.size : Int) < 1) = false := decide_eq_false (by omega)
    have hp : 0 < s.size := by omega
    by_cases h2 : s.size > 19
    · have e : M.numF 19 s.data.toList = (0, false) := by unfold M.numF; rw [if_neg]; rw [← M.bytes_size]; omega
      rw [e]
      clear e
      have hd2 : decide (19 < s.size) = true := decide_eq_true h2
      go_enter Tryd.func53, Tryd.ntmps53
      go_wp2
      go_ret2
      exact ⟨rfl, rfl⟩
    · have hd2 : decide (19 < s.size) = false := decide_eq_false h2
      have hs : s.size ≤ 19 := by omega
      have hs2 : (s.size : Int) ≤ 19 := by omega
      have hs3 : s.size ≤ 19 := by omega
      obtain ⟨R, hR⟩ : ∃ R, M.numF 19 s.data.toList = R := ⟨_, rfl⟩
      rw [hR]
      have HR := Lib.hid hR
      clear hR h1 h2
      go_enter Tryd.func53, Tryd.ntmps53
      go_wp2
      go_loop [4, 5] (fun x i => ∃ (k : Nat) (n : Int), k ≤ s.size ∧ i = .int .i64 k ∧ x = .int .u64 n ∧ Hid (n = M.valD (s.data.toList.take k) ∧ (s.data.toList.take k).all M.isDig = true)) (fun _ i => s.size - (intOf i).toNat)
      case atStart => exact ⟨0, 0, Nat.zero_le _, rfl, rfl, Lib.hid ⟨rfl, rfl⟩⟩
      case round =>
        obtain ⟨k, n, hk, rfl, rfl, hn⟩ := hrel
        by_cases hlt : k < s.size
        · have hv := M.valD_bounds _ hn.out.2
          rw [← hn.out.1] at hv
          have hl : (s.data.toList.take k).length ≤ k := List.length_take_le _ _
          have hten := M.ten_le (show (s.data.toList.take k).length ≤ 18 by omega)
          have hn0 : 0 ≤ n := hv.1
          have hn1 : n < 1000000000000000000 := by
            have : (10 : Int) ^ 18 = 1000000000000000000 := by decide
            omega
          clear hv hten hl
          by_cases c1 : (s[k].toNat : Int) < 48
          · have e : R = (0, false) := by
              rw [← HR.out]
              unfold M.numF
              rw [if_neg]
              rintro ⟨_, _, h⟩
              rw [M.dig_at s k hlt (by unfold M.isDig; rw [decide_eq_false (by omega)]; rfl)] at h
              cases h
            subst e
            clear HR hn
            go_wp2
            go_ret2
            exact ⟨rfl, rfl⟩
          · by_cases c2 : (s[k].toNat : Int) > 57
            · have e : R = (0, false) := by
                rw [← HR.out]
                unfold M.numF
                rw [if_neg]
                rintro ⟨_, _, h⟩
                rw [M.dig_at s k hlt (by unfold M.isDig; rw [decide_eq_false (show ¬ (s[k].toNat : Int) ≤ 57 by omega), Bool.and_false])] at h
                cases h
              subst e
              clear HR hn
              have c1' : decide ((s[k].toNat : Int) < 48) = false := decide_eq_false c1
              have c2' : decide (57 < (s[k].toNat : Int)) = true := decide_eq_true c2
              go_wp2
              go_ret2
              exact ⟨rfl, rfl⟩
            · have c1' : decide ((s[k].toNat : Int) < 48) = false := decide_eq_false c1
              have c2' : decide (57 < (s[k].toNat : Int)) = false := decide_eq_false c2
              have c3 : 48 ≤ (s[k].toNat : Int) := by omega
              have c4 : (s[k].toNat : Int) ≤ 57 := by omega
              have hnx : Hid (10 * n + ((s[k].toNat : Int) - 48) = M.valD (s.data.toList.take (k + 1)) ∧ (s.data.toList.take (k + 1)).all M.isDig = true) := Lib.hid (by
                rw [M.take_snoc s k hlt, M.valD_snoc, ← hn.out.1, List.all_append, hn.out.2]
                refine ⟨rfl, ?_⟩
                have := (M.isDig_iff s[k]).mpr ⟨c3, c4⟩
                simp [this])
              clear c1 c2 hn
              go_wp2
              go_round
              case rel => exact ⟨k + 1, 10 * n + ((s[k].toNat : Int) - 48), by omega, by go_num, by first | rfl | go_num, hnx⟩
              case measure => simp [intOf]; omega
        · have e : R = (n, true) := by
            rw [← HR.out]
            unfold M.numF
            have ht : s.data.toList.take k = s.data.toList := List.take_of_length_le (by rw [← M.bytes_size]; omega)
            have h1 := hn.out
            rw [ht] at h1
            rw [if_pos ⟨by rw [← M.bytes_size]; omega, by rw [← M.bytes_size]; omega, h1.2⟩, ← h1.1]
          subst e
          clear HR hn
          go_wp2
          go_ret2
          exact ⟨rfl, rfl⟩
end Go.Proofs.YthieengihbbnpaaDoor
