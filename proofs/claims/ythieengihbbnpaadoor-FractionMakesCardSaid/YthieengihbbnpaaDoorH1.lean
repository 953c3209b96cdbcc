/- The small functions of package fraction: each call returns what the closed form says. -/
import Derived.Test.YthieengihbbnpaaDoorProg
import Derived.Test.YthieengihbbnpaaDoorM4
import Derived.Test.YthieengihbbnpaaDoorH0
import Derived.Test.YthieengihbbnpaaDoorK1
namespace Go.Proofs.YthieengihbbnpaaDoor
open Go.RowKit Go.Sort

theorem size_any (a : Int) (h1 : -9223372036854775808 ≤ a) (h2 : a < 9223372036854775808) (w : World) :
    Calls Tryd.prog 43 #[.int .i64 a] w fun e w' => e = .returned (.int .u64 (M.absI a)) ∧ w' = w := by
  go_enter Tryd.func43, Tryd.ntmps43
  go_wp2
  · go_ret
    refine ⟨retI ?_, rfl⟩
    simp only [M.wrapU]; unfold M.absI; omega
  · go_ret
    refine ⟨retI ?_, rfl⟩
    unfold M.absI; omega

theorem gcd_any (a b : Int) (ha : 0 ≤ a) (ha2 : a < 18446744073709551616) (hb : 0 ≤ b) (hb2 : b < 18446744073709551616) (w : World) :
    Calls Tryd.prog 57 #[.int .u64 a, .int .u64 b] w fun e w' => e = .returned (.int .u64 (M.gcdI a b)) ∧ ∃ n, w' = w.drewN n := by
  go_enter Tryd.func57, Tryd.ntmps57
  go_wp2
  have H0 : Hid (M.gcdI a b = M.gcdI a b) := Lib.hid rfl
  go_loopw [0, 1] (fun v0 v1 wr => ∃ x y : Int, v0 = .int .u64 x ∧ v1 = .int .u64 y ∧ 0 ≤ x ∧ x < 18446744073709551616 ∧ 0 ≤ y ∧ y < 18446744073709551616 ∧ Hid (M.gcdI a b = M.gcdI x y) ∧ ∃ n, wr = w.drewN n) (fun _ v1 _ => (intOf v1).toNat)
  case atStart => exact ⟨a, b, rfl, rfl, ha, ha2, hb, hb2, H0, 0, rfl⟩
  case round =>
    obtain ⟨x, y, rfl, rfl, hx, hx2, hy, hy2, H, n, rfl⟩ := hrel
    clear H0
    by_cases h0 : y = 0
    · have h1 : (y != 0) = false := by simp [h0]
      have e : M.gcdI a b = x := by rw [H.out, h0, M.gcdI_zero x hx]
      have E := Lib.hid e
      clear h0 e H
      go_wp2
      go_ret
      exact ⟨retI E.out.symm, n, rfl⟩
    · have h1 : (y != 0) = true := by simpa using h0
      have h3 := Int.emod_nonneg x h0
      have h4 := Int.emod_lt_of_pos x (show 0 < y by omega)
      have H2 : Hid (M.gcdI a b = M.gcdI y (x % y)) := by
        refine Lib.hid ?_
        rw [H.out, M.gcdI_step x y, Int.tmod_eq_emod_of_nonneg hx]
      have h5 : 0 < y := by omega
      clear h0 H
      go_wp2
      go_quiet (fail)
      go_wp2
      go_roundw
      case rel => exact ⟨y, x % y, rfl, rfl, hy, hy2, h3, by omega, H2, _, World.drewN_drewN ..⟩
      case measure => simp [intOf]; omega

theorem valid_any (n d : Int) (w : World) :
    Calls Tryd.prog 30 #[.agg #[.int .i64 n, .int .i64 d]] w fun e w' => e = .returned (.bool (M.vld n d)) ∧ Below w.heap.size w w' := by
  by_cases c1 : 1 ≤ d
  · by_cases c2 : d ≤ 1000000000000000000
    · by_cases c3 : -1000000000000000000 ≤ n
      · by_cases c4 : n ≤ 1000000000000000000
        · have e : M.vld n d = (M.gcdI (M.absI n) d == 1) := by
            unfold M.vld; rw [decide_eq_true c1, decide_eq_true c2, decide_eq_true c3, decide_eq_true c4, M.gcdI_abs]; rfl
          rw [e]; clear e
          have hs : 0 ≤ M.absI n := M.absI_nonneg n
          have hs2 : M.absI n < 18446744073709551616 := by unfold M.absI; omega
          go_enter Tryd.func30, Tryd.ntmps30
          go_wp2_with fail
          go_quiet (first | (go_at_call 43; exact Calls.quiet_of_same (size_any _ (by omega) (by omega) _)) | (go_at_call 57; exact Calls.quiet_of (gcd_any _ _ hs hs2 (by omega) (by omega) _)))
          go_wp2
          go_ret
          exact ⟨rfl, (by repeat (first | exact Below.refl _ _ | apply belowAlloc | apply belowDrewN | apply belowDrew | refine belowSet ?_ (by simp; done) | refine belowSet ?_ (by simp; omega)))⟩
        · have e : M.vld n d = false := by unfold M.vld; rw [decide_eq_true c1, decide_eq_true c2, decide_eq_true c3, decide_eq_false c4]; rfl
          rw [e]; clear e
          have hd := decide_eq_false c4
          clear c4
          go_enter Tryd.func30, Tryd.ntmps30
          go_wp2_with fail
          go_quiet (fail)
          go_wp2
          go_ret
          exact ⟨rfl, (by repeat (first | exact Below.refl _ _ | apply belowAlloc | apply belowDrewN | apply belowDrew | refine belowSet ?_ (by simp; done) | refine belowSet ?_ (by simp; omega)))⟩
      · have e : M.vld n d = false := by unfold M.vld; rw [decide_eq_true c1, decide_eq_true c2, decide_eq_false c3]; rfl
        rw [e]; clear e
        have hd := decide_eq_false c3
        clear c3
        go_enter Tryd.func30, Tryd.ntmps30
        go_wp2_with fail
        go_quiet (fail)
        go_wp2
        go_ret
        exact ⟨rfl, (by repeat (first | exact Below.refl _ _ | apply belowAlloc | apply belowDrewN | apply belowDrew | refine belowSet ?_ (by simp; done) | refine belowSet ?_ (by simp; omega)))⟩
    · have e : M.vld n d = false := by unfold M.vld; rw [decide_eq_true c1, decide_eq_false c2]; rfl
      rw [e]; clear e
      have hd := decide_eq_false c2
      clear c2
      go_enter Tryd.func30, Tryd.ntmps30
      go_wp2_with fail
      go_quiet (fail)
      go_wp2
      go_ret
      exact ⟨rfl, (by repeat (first | exact Below.refl _ _ | apply belowAlloc | apply belowDrewN | apply belowDrew | refine belowSet ?_ (by simp; done) | refine belowSet ?_ (by simp; omega)))⟩
  · have e : M.vld n d = false := by unfold M.vld; rw [decide_eq_false c1]; rfl
    rw [e]; clear e
    have hd := decide_eq_false c1
    clear c1
    go_enter Tryd.func30, Tryd.ntmps30
    go_wp2_with fail
    go_quiet (fail)
    go_wp2
    go_ret
    exact ⟨rfl, (by repeat (first | exact Below.refl _ _ | apply belowAlloc | apply belowDrewN | apply belowDrew | refine belowSet ?_ (by simp; done) | refine belowSet ?_ (by simp; omega)))⟩

theorem times_any (x y : Int) (hx : 0 ≤ x) (hx2 : x < 18446744073709551616) (hy : 0 ≤ y) (hy2 : y < 18446744073709551616) (w : World) :
    Calls Tryd.prog 58 #[.int .u64 x, .int .u64 y] w fun e w' => e = .returned (.agg #[.int .u64 (x * y / 18446744073709551616), .int .u64 (x * y % 18446744073709551616)]) ∧ Below w.heap.size w w' := by
  go_enter Tryd.func58, Tryd.ntmps58
  go_wp2_with (go_at_call 83; refine (mul64_any _ _ hx hx2 hy hy2 _).mono ?_; rintro e w' ⟨rfl, rfl⟩)
  exact bodyPost_ret (v := .agg #[.int .u64 (x * y / 18446744073709551616), .int .u64 (x * y % 18446744073709551616)]) (by simp [results, Tryd.results58, go_sem]) rfl ⟨rfl, (by repeat (first | exact Below.refl _ _ | apply belowAlloc | apply belowDrewN | apply belowDrew | refine belowSet ?_ (by simp; done) | refine belowSet ?_ (by simp; omega)))⟩

theorem plus_any (a b c d : Int) (h0 : 0 ≤ a) (h1 : 0 ≤ b) (h2 : 0 ≤ c) (h3 : 0 ≤ d) (g1 : b < 18446744073709551616) (g3 : d < 18446744073709551616) (w : World) :
    Calls Tryd.prog 62 #[.agg #[.int .u64 a, .int .u64 b], .agg #[.int .u64 c, .int .u64 d]] w fun e w' => e = .returned (.agg #[.int .u64 ((a + c + ((b + d) / 18446744073709551616)) % 18446744073709551616), .int .u64 ((b + d) % 18446744073709551616)]) ∧ Below w.heap.size w w' := by
  have hd : 0 ≤ (b + d) / 18446744073709551616 := by omega
  have hd1 : (b + d) / 18446744073709551616 ≤ 1 := by omega
  have ha : ∀ w : World, _ := run_add b d 0 h1 h3 (by omega) (by omega)
  rw [Int.add_zero] at ha
  have hb := run_add a c ((b + d) / 18446744073709551616) h0 h2 hd hd1
  go_enter Tryd.func62, Tryd.ntmps62
  go_wp2
  exact bodyPost_ret (v := .agg #[.int .u64 ((a + c + ((b + d) / 18446744073709551616)) % 18446744073709551616), .int .u64 ((b + d) % 18446744073709551616)]) (by simp [results, Tryd.results62, go_sem]) rfl ⟨rfl, (by repeat (first | exact Below.refl _ _ | apply belowAlloc | apply belowDrewN | apply belowDrew | refine belowSet ?_ (by simp; done) | refine belowSet ?_ (by simp; omega)))⟩

theorem minus_any (a b c d : Int) (h0 : 0 ≤ a) (h1 : 0 ≤ b) (h2 : 0 ≤ c) (h3 : 0 ≤ d) (g1 : c < 18446744073709551616) (g3 : d < 18446744073709551616) (w : World) :
    Calls Tryd.prog 64 #[.agg #[.int .u64 a, .int .u64 b], .agg #[.int .u64 c, .int .u64 d]] w fun e w' => e = .returned (.agg #[.int .u64 ((a - c - borrow b d 0) % 18446744073709551616), .int .u64 ((b - d) % 18446744073709551616)]) ∧ Below w.heap.size w w' := by
  have hd : 0 ≤ borrow b d 0 := by unfold borrow; split <;> omega
  have hd1 : borrow b d 0 ≤ 1 := by unfold borrow; split <;> omega
  have ha : ∀ w : World, _ := run_sub b d 0 h1 h3 g3 (by omega) (by omega)
  rw [Int.sub_zero] at ha
  have hb := run_sub a c (borrow b d 0) h0 h2 g1 hd hd1
  go_enter Tryd.func64, Tryd.ntmps64
  go_wp2
  exact bodyPost_ret (v := .agg #[.int .u64 ((a - c - borrow b d 0) % 18446744073709551616), .int .u64 ((b - d) % 18446744073709551616)]) (by simp [results, Tryd.results64, go_sem]) rfl ⟨rfl, (by repeat (first | exact Below.refl _ _ | apply belowAlloc | apply belowDrewN | apply belowDrew | refine belowSet ?_ (by simp; done) | refine belowSet ?_ (by simp; omega)))⟩

theorem narrow_any (a b : Int) (w : World) :
    Calls Tryd.prog 60 #[.agg #[.int .u64 a, .int .u64 b]] w fun e w' => e = .returned (.int .u64 (if a = 0 then b else 18446744073709551615)) ∧ Below w.heap.size w w' := by
  by_cases h : a = 0
  · subst h
    go_enter Tryd.func60, Tryd.ntmps60
    go_wp2
    go_ret
    exact ⟨rfl, (by repeat (first | exact Below.refl _ _ | apply belowAlloc | apply belowDrewN | apply belowDrew | refine belowSet ?_ (by simp; done) | refine belowSet ?_ (by simp; omega)))⟩
  · rw [if_neg h]
    have h1 : (a != 0) = true := by simpa using h
    clear h
    go_enter Tryd.func60, Tryd.ntmps60
    go_wp2
    go_ret
    exact ⟨rfl, (by repeat (first | exact Below.refl _ _ | apply belowAlloc | apply belowDrewN | apply belowDrew | refine belowSet ?_ (by simp; done) | refine belowSet ?_ (by simp; omega)))⟩

theorem less_any (a b c d : Int) (w : World) :
    Calls Tryd.prog 63 #[.agg #[.int .u64 a, .int .u64 b], .agg #[.int .u64 c, .int .u64 d]] w fun e w' => e = .returned (.bool (M.wless a b c d)) ∧ Below w.heap.size w w' := by
  by_cases h : a < c
  · have e : M.wless a b c d = true := by unfold M.wless; rw [decide_eq_true h]; rfl
    rw [e]; clear e
    have hd := decide_eq_true h
    clear h
    go_enter Tryd.func63, Tryd.ntmps63
    go_wp2
    go_ret
    exact ⟨rfl, (by repeat (first | exact Below.refl _ _ | apply belowAlloc | apply belowDrewN | apply belowDrew | refine belowSet ?_ (by simp; done) | refine belowSet ?_ (by simp; omega)))⟩
  · have hd := decide_eq_false h
    by_cases h2 : a = c
    · have e : M.wless a b c d = decide (b < d) := by unfold M.wless; rw [hd, beq_iff_eq.mpr h2]; rfl
      rw [e]; clear e
      have hc := beq_iff_eq.mpr h2
      clear h h2
      go_enter Tryd.func63, Tryd.ntmps63
      go_wp2
      go_ret
      exact ⟨rfl, (by repeat (first | exact Below.refl _ _ | apply belowAlloc | apply belowDrewN | apply belowDrew | refine belowSet ?_ (by simp; done) | refine belowSet ?_ (by simp; omega)))⟩
    · have hc := beq_eq_false_iff_ne.mpr h2
      have e : M.wless a b c d = false := by unfold M.wless; rw [hd, hc]; rfl
      rw [e]; clear e
      clear h h2
      go_enter Tryd.func63, Tryd.ntmps63
      go_wp2
      go_ret
      exact ⟨rfl, (by repeat (first | exact Below.refl _ _ | apply belowAlloc | apply belowDrewN | apply belowDrew | refine belowSet ?_ (by simp; done) | refine belowSet ?_ (by simp; omega)))⟩
end Go.Proofs.YthieengihbbnpaaDoor
