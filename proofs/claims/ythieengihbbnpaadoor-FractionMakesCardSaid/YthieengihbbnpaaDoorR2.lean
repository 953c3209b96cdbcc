/- The reference's division of wide numbers, and its divisor. -/
import Derived.Test.YthieengihbbnpaaDoorR1
namespace Go.Proofs.YthieengihbbnpaaDoor
open Go.RowKit Go.Sort
set_option linter.unusedVariables false
set_option maxRecDepth 100000 in
set_option maxHeartbeats 4000000 in
theorem divide_any (A B : Int) (hA0 : 0 ≤ A) (hA1 : A < 340282366920938463463374607431768211456) (hB0 : 0 < B) (hB1 : B ≤ 170141183460469231731687303715884105728) (w : World) :
    Calls Tryd.prog 80 #[.agg #[.int .u64 (A / 18446744073709551616), .int .u64 (A % 18446744073709551616)], .agg #[.int .u64 (B / 18446744073709551616), .int .u64 (B % 18446744073709551616)]] w fun e w' => e = .returned (.tuple #[.agg #[.int .u64 ((A / B) / 18446744073709551616), .int .u64 ((A / B) % 18446744073709551616)], .agg #[.int .u64 ((A % B) / 18446744073709551616), .int .u64 ((A % B) % 18446744073709551616)]]) ∧ Below w.heap.size w w' := by
  obtain ⟨W, hW, hB, hS, b0, b1, b2, b3, b4, b5⟩ := lay6 w #[.int .u64 (A / 18446744073709551616), .int .u64 (A % 18446744073709551616)] 62 #[.int .u64 (B / 18446744073709551616), .int .u64 (B % 18446744073709551616)] 62 #[.int .u64 0, .int .u64 0] 62 #[.int .u64 0, .int .u64 0] 62 #[.int .u64 0, .int .u64 0] 62 #[.int .u64 0, .int .u64 0] 62
  obtain ⟨p0, hp0⟩ := gw_start W
  have HW := Lib.hid (hW.trans hp0)
  clear hW hp0
  have c_b0_0 : ∀ q, (gw W q).cell? ⟨w.heap.size, 0, none⟩ = some (.int .u64 (A / 18446744073709551616)) := cell_gw (blk_cell b0 0 _ rfl)
  have c_b0_1 : ∀ q, (gw W q).cell? ⟨w.heap.size, 1, none⟩ = some (.int .u64 (A % 18446744073709551616)) := cell_gw (blk_cell b0 1 _ rfl)
  have f_b0 := blk_frozen b0
  have c_b1_0 : ∀ q, (gw W q).cell? ⟨w.heap.size + 1, 0, none⟩ = some (.int .u64 (B / 18446744073709551616)) := cell_gw (blk_cell b1 0 _ rfl)
  have c_b1_1 : ∀ q, (gw W q).cell? ⟨w.heap.size + 1, 1, none⟩ = some (.int .u64 (B % 18446744073709551616)) := cell_gw (blk_cell b1 1 _ rfl)
  have f_b1 := blk_frozen b1
  have c_b2_0 : ∀ q, (gw W q).cell? ⟨w.heap.size + 1 + 1, 0, none⟩ = some (.int .u64 0) := cell_gw (blk_cell b2 0 _ rfl)
  have c_b2_1 : ∀ q, (gw W q).cell? ⟨w.heap.size + 1 + 1, 1, none⟩ = some (.int .u64 0) := cell_gw (blk_cell b2 1 _ rfl)
  have f_b2 := blk_frozen b2
  have c_b3_0 : ∀ q, (gw W q).cell? ⟨w.heap.size + 1 + 1 + 1, 0, none⟩ = some (.int .u64 0) := cell_gw (blk_cell b3 0 _ rfl)
  have c_b3_1 : ∀ q, (gw W q).cell? ⟨w.heap.size + 1 + 1 + 1, 1, none⟩ = some (.int .u64 0) := cell_gw (blk_cell b3 1 _ rfl)
  have f_b3 := blk_frozen b3
  have c_b4_0 : ∀ q, (gw W q).cell? ⟨w.heap.size + 1 + 1 + 1 + 1, 0, none⟩ = some (.int .u64 0) := cell_gw (blk_cell b4 0 _ rfl)
  have c_b4_1 : ∀ q, (gw W q).cell? ⟨w.heap.size + 1 + 1 + 1 + 1, 1, none⟩ = some (.int .u64 0) := cell_gw (blk_cell b4 1 _ rfl)
  have f_b4 := blk_frozen b4
  have c_b5_0 : ∀ q, (gw W q).cell? ⟨w.heap.size + 1 + 1 + 1 + 1 + 1, 0, none⟩ = some (.int .u64 0) := cell_gw (blk_cell b5 0 _ rfl)
  have c_b5_1 : ∀ q, (gw W q).cell? ⟨w.heap.size + 1 + 1 + 1 + 1 + 1, 1, none⟩ = some (.int .u64 0) := cell_gw (blk_cell b5 1 _ rfl)
  have f_b5 := blk_frozen b5
  go_enter Tryd.func80, Tryd.ntmps80
  go_wp2_with fail
  rw [HW.out]
  clear HW
  clear c_b0_0 c_b0_1 f_b0 c_b1_0 c_b1_1 f_b1 c_b2_0 c_b2_1 f_b2 c_b3_0 c_b3_1 f_b3 c_b4_0 c_b4_1 f_b4 c_b5_0 c_b5_1 f_b5
  go_loopw [8] (fun v wr => ∃ (n : Nat) (Y : World) (N Q R : Int) (q : Regrown), v = .int .i64 ((n : Int) - 1) ∧ n ≤ 128 ∧ Hid (A / 2 ^ n = N) ∧ Hid (N / B = Q) ∧ Hid (N % B = R) ∧ wr = gw Y q ∧ Below w.heap.size w Y ∧ w.heap.size + 6 ≤ Y.heap.size ∧
    Y.heap[w.heap.size]? = some (.cells #[.int .u64 (A / 18446744073709551616), .int .u64 (A % 18446744073709551616)] 62) ∧ Y.heap[w.heap.size + 1]? = some (.cells #[.int .u64 (B / 18446744073709551616), .int .u64 (B % 18446744073709551616)] 62) ∧
    Y.heap[w.heap.size + 1 + 1]? = some (.cells #[.int .u64 0, .int .u64 0] 62) ∧ Y.heap[w.heap.size + 1 + 1 + 1]? = some (.cells #[.int .u64 0, .int .u64 0] 62) ∧
    Y.heap[w.heap.size + 1 + 1 + 1 + 1]? = some (.cells #[.int .u64 (Q / 18446744073709551616), .int .u64 (Q % 18446744073709551616)] 62) ∧ Y.heap[w.heap.size + 1 + 1 + 1 + 1 + 1]? = some (.cells #[.int .u64 (R / 18446744073709551616), .int .u64 (R % 18446744073709551616)] 62)) (fun v _ => (intOf v + 1).toNat)
  case atStart =>
    refine ⟨128, W, 0, 0, 0, p0, rfl, Nat.le_refl _, Lib.hid ?_, Lib.hid (by simp), Lib.hid (by simp), rfl, hB, by omega, b0, b1, b2, b3, b4, b5⟩
    exact Int.ediv_eq_zero_of_lt hA0 hA1
  case round =>
    clear b0 b1 b2 b3 b4 b5 hB
    obtain ⟨n, Y, N, Q, R, q, rfl, hn, hN, hQ, hR, rfl, hB, hY, b0, b1, b2, b3, b4, b5⟩ := hrel
    rcases n with _ | m
    · have eN : N = A := by rw [← hN.out]; simp
      subst eN
      have hQ1 := hQ.out
      have hR1 := hR.out
      subst hQ1 hR1
      clear hN hQ hR
      have c_b2_0 : ∀ q, (gw Y q).cell? ⟨w.heap.size + 1 + 1, 0, none⟩ = some (.int .u64 0) := cell_gw (blk_cell b2 0 _ rfl)
      have c_b2_1 : ∀ q, (gw Y q).cell? ⟨w.heap.size + 1 + 1, 1, none⟩ = some (.int .u64 0) := cell_gw (blk_cell b2 1 _ rfl)
      have f_b2 := blk_frozen b2
      have c_b3_0 : ∀ q, (gw Y q).cell? ⟨w.heap.size + 1 + 1 + 1, 0, none⟩ = some (.int .u64 0) := cell_gw (blk_cell b3 0 _ rfl)
      have c_b3_1 : ∀ q, (gw Y q).cell? ⟨w.heap.size + 1 + 1 + 1, 1, none⟩ = some (.int .u64 0) := cell_gw (blk_cell b3 1 _ rfl)
      have f_b3 := blk_frozen b3
      have c_b4_0 : ∀ q, (gw Y q).cell? ⟨w.heap.size + 1 + 1 + 1 + 1, 0, none⟩ = some (.int .u64 ((N / B) / 18446744073709551616)) := cell_gw (blk_cell b4 0 _ rfl)
      have c_b4_1 : ∀ q, (gw Y q).cell? ⟨w.heap.size + 1 + 1 + 1 + 1, 1, none⟩ = some (.int .u64 ((N / B) % 18446744073709551616)) := cell_gw (blk_cell b4 1 _ rfl)
      have f_b4 := blk_frozen b4
      have c_b5_0 : ∀ q, (gw Y q).cell? ⟨w.heap.size + 1 + 1 + 1 + 1 + 1, 0, none⟩ = some (.int .u64 ((N % B) / 18446744073709551616)) := cell_gw (blk_cell b5 0 _ rfl)
      have c_b5_1 : ∀ q, (gw Y q).cell? ⟨w.heap.size + 1 + 1 + 1 + 1 + 1, 1, none⟩ = some (.int .u64 ((N % B) % 18446744073709551616)) := cell_gw (blk_cell b5 1 _ rfl)
      have f_b5 := blk_frozen b5
      rw [show (((0 : Nat) : Int) - 1) = -1 by omega]
      go_wp2_with fail
      go_region
      all_goals
        go_wp2_with fail
        refine bodyPost_ret (v := .tuple #[.agg #[.int .u64 ((N / B) / 18446744073709551616), .int .u64 ((N / B) % 18446744073709551616)], .agg #[.int .u64 ((N % B) / 18446744073709551616), .int .u64 ((N % B) % 18446744073709551616)]]) (by simp [results, Tryd.results80, go_sem, c_b2_0, c_b2_1, c_b3_0, c_b3_1]) rfl ⟨rfl, ?_⟩
        refine belowDrew ?_
        repeat (refine belowSet ?_ (by omega))
        exact below_gw hB _
    · rw [show (((m + 1 : Nat) : Int) - 1) = (m : Int) by omega]
      have c_b0_0 : ∀ q, (gw Y q).cell? ⟨w.heap.size, 0, none⟩ = some (.int .u64 (A / 18446744073709551616)) := cell_gw (blk_cell b0 0 _ rfl)
      have c_b0_1 : ∀ q, (gw Y q).cell? ⟨w.heap.size, 1, none⟩ = some (.int .u64 (A % 18446744073709551616)) := cell_gw (blk_cell b0 1 _ rfl)
      have f_b0 := blk_frozen b0
      have c_b1_0 : ∀ q, (gw Y q).cell? ⟨w.heap.size + 1, 0, none⟩ = some (.int .u64 (B / 18446744073709551616)) := cell_gw (blk_cell b1 0 _ rfl)
      have c_b1_1 : ∀ q, (gw Y q).cell? ⟨w.heap.size + 1, 1, none⟩ = some (.int .u64 (B % 18446744073709551616)) := cell_gw (blk_cell b1 1 _ rfl)
      have f_b1 := blk_frozen b1
      have c_b4_0 : ∀ q, (gw Y q).cell? ⟨w.heap.size + 1 + 1 + 1 + 1, 0, none⟩ = some (.int .u64 (Q / 18446744073709551616)) := cell_gw (blk_cell b4 0 _ rfl)
      have c_b4_1 : ∀ q, (gw Y q).cell? ⟨w.heap.size + 1 + 1 + 1 + 1, 1, none⟩ = some (.int .u64 (Q % 18446744073709551616)) := cell_gw (blk_cell b4 1 _ rfl)
      have f_b4 := blk_frozen b4
      have c_b5_0 : ∀ q, (gw Y q).cell? ⟨w.heap.size + 1 + 1 + 1 + 1 + 1, 0, none⟩ = some (.int .u64 (R / 18446744073709551616)) := cell_gw (blk_cell b5 0 _ rfl)
      have c_b5_1 : ∀ q, (gw Y q).cell? ⟨w.heap.size + 1 + 1 + 1 + 1 + 1, 1, none⟩ = some (.int .u64 (R % 18446744073709551616)) := cell_gw (blk_cell b5 1 _ rfl)
      have f_b5 := blk_frozen b5
      obtain ⟨t, ht⟩ : ∃ t, A / 2 ^ m % 2 = t := ⟨_, rfl⟩
      have t0 : 0 ≤ t := by omega
      have t1 : t ≤ 1 := by omega
      have hm : m < 128 := by omega
      have em : Int.tmod (m : Int) 64 = ((m % 64 : Nat) : Int) := by rw [Int.tmod_eq_emod_of_nonneg (by omega)]; omega
      have ew : IntKind.u64.wrap ((m % 64 : Nat) : Int) = ((m % 64 : Nat) : Int) := by rw [M.wrapU]; omega
      have hN0 : 0 ≤ N := by rw [← hN.out]; exact Int.ediv_nonneg hA0 (by have := M.pow_pos2 (m + 1); omega)
      have hN1 : N < 170141183460469231731687303715884105728 := by
        have h2 : N ≤ A / 2 := by
          rw [← hN.out, Int.pow_succ, Int.mul_comm, ← Int.ediv_ediv_of_nonneg (by omega)]
          exact Int.ediv_le_self _ (by omega)
        omega
      have hR0 : 0 ≤ R := by rw [← hR.out]; exact Int.emod_nonneg _ (by omega)
      have hR1 : R < B := by rw [← hR.out]; exact Int.emod_lt_of_pos _ hB0
      have hQ0 : 0 ≤ Q := by rw [← hQ.out]; exact Int.ediv_nonneg hN0 (by omega)
      have hQ1 : Q ≤ N := by rw [← hQ.out]; exact Int.ediv_le_self _ hN0
      have HN2 : Hid (A / 2 ^ m = 2 * N + t) := Lib.hid (by have := M.half_step A m; rw [ht, hN.out] at this; exact this)
      have HST := Lib.hid (M.div_step (N := N) hB0 t0 t1)
      rw [hQ.out, hR.out] at HST
      have e1 := M.dbl_hi2 hR0 (show R < 170141183460469231731687303715884105728 by omega) t0 t1
      have e2 := M.dbl_lo hR0 t0 t1
      have e3 := M.dbl_hi2 (t := 0) hQ0 (show Q < 170141183460469231731687303715884105728 by omega) (by omega) (by omega)
      have e4 := M.dbl_lo0 Q
      have e5 := M.or_one Q
      have e6 : (2 * Q + 1) / 18446744073709551616 = 2 * Q / 18446744073709551616 := by omega
      rw [Int.add_zero] at e3
      obtain ⟨Q2, hQ2⟩ : ∃ x, 2 * Q = x := ⟨_, rfl⟩
      obtain ⟨X, hX⟩ : ∃ x, 2 * R + t = x := ⟨_, rfl⟩
      have hX1 : 0 ≤ X := by omega
      have hX2 : X < 340282366920938463463374607431768211456 := by omega
      rw [hQ2, hX] at HST
      rw [hX] at e1 e2
      rw [hQ2] at e3 e4 e5 e6
      have HE6 := Lib.hid e6
      have cL := fun w => rless2_any X B w
      have cM := fun (h : ¬ X < B) w => rminus2_any X B (by omega) (by omega) hX2 w
      have hsel : (((64 : Int) ≤ (m : Int)) ∧ bits .and .u64 (A / 18446744073709551616 / 2 ^ (m % 64)) 1 = t) ∨ (¬ ((64 : Int) ≤ (m : Int)) ∧ bits .and .u64 (A % 18446744073709551616 / 2 ^ (m % 64)) 1 = t) := by
        by_cases h64 : 64 ≤ m
        · left
          refine ⟨by omega, ?_⟩
          rw [show m % 64 = m - 64 by omega, M.bit_hi hA0 hA1 h64]; exact ht
        · right
          refine ⟨by omega, ?_⟩
          rw [show m % 64 = m by omega, M.bit_lo hA0 (by omega)]; exact ht
      obtain ⟨v, hv⟩ : ∃ v, decide (X < B) = v := ⟨_, rfl⟩
      rw [hv] at cL
      have HV := Lib.hid hv
      clear hv ht hQ2 hX e6 hN hQ hR
      rcases hsel with ⟨h64, hb⟩ | ⟨h64, hb⟩ <;> cases v
      all_goals
        go_upto_region 9 with fail
        obtain ⟨Y1, eY1, sY1, nb, kY1, lY1⟩ := storedS2 q b5 (.int .u64 (X / 18446744073709551616)) (.int .u64 (X % 18446744073709551616))
        rw [eY1]
        have b0 := kY1 _ _ (by omega) b0
        have b1 := kY1 _ _ (by omega) b1
        have b2 := kY1 _ _ (by omega) b2
        have b3 := kY1 _ _ (by omega) b3
        have b4 := kY1 _ _ (by omega) b4
        have hB := lY1 _ (by omega) hB
        have b5 := nb
        clear nb
        have c_b5_0 : ∀ q, (gw Y1 q).cell? ⟨w.heap.size + 1 + 1 + 1 + 1 + 1, 0, none⟩ = some (.int .u64 (X / 18446744073709551616)) := cell_gw (blk_cell b5 0 _ rfl)
        have c_b5_1 : ∀ q, (gw Y1 q).cell? ⟨w.heap.size + 1 + 1 + 1 + 1 + 1, 1, none⟩ = some (.int .u64 (X % 18446744073709551616)) := cell_gw (blk_cell b5 1 _ rfl)
        have f_b5 := blk_frozen b5
        have c_b1_0 : ∀ q, (gw Y1 q).cell? ⟨w.heap.size + 1, 0, none⟩ = some (.int .u64 (B / 18446744073709551616)) := cell_gw (blk_cell b1 0 _ rfl)
        have c_b1_1 : ∀ q, (gw Y1 q).cell? ⟨w.heap.size + 1, 1, none⟩ = some (.int .u64 (B % 18446744073709551616)) := cell_gw (blk_cell b1 1 _ rfl)
        have f_b1 := blk_frozen b1
        have c_b4_0 : ∀ q, (gw Y1 q).cell? ⟨w.heap.size + 1 + 1 + 1 + 1, 0, none⟩ = some (.int .u64 (Q / 18446744073709551616)) := cell_gw (blk_cell b4 0 _ rfl)
        have c_b4_1 : ∀ q, (gw Y1 q).cell? ⟨w.heap.size + 1 + 1 + 1 + 1, 1, none⟩ = some (.int .u64 (Q % 18446744073709551616)) := cell_gw (blk_cell b4 1 _ rfl)
        have f_b4 := blk_frozen b4
        go_upto_region 10 with fail
        obtain ⟨Y2, eY2, sY2, nb, kY2, lY2⟩ := storedS2 q b4 (.int .u64 (Q2 / 18446744073709551616)) (.int .u64 (Q2 % 18446744073709551616))
        rw [eY2]
        have b0 := kY2 _ _ (by omega) b0
        have b1 := kY2 _ _ (by omega) b1
        have b2 := kY2 _ _ (by omega) b2
        have b3 := kY2 _ _ (by omega) b3
        have b5 := kY2 _ _ (by omega) b5
        have hB := lY2 _ (by omega) hB
        have b4 := nb
        clear nb
        have c_b4_0 : ∀ q, (gw Y2 q).cell? ⟨w.heap.size + 1 + 1 + 1 + 1, 0, none⟩ = some (.int .u64 (Q2 / 18446744073709551616)) := cell_gw (blk_cell b4 0 _ rfl)
        have c_b4_1 : ∀ q, (gw Y2 q).cell? ⟨w.heap.size + 1 + 1 + 1 + 1, 1, none⟩ = some (.int .u64 (Q2 % 18446744073709551616)) := cell_gw (blk_cell b4 1 _ rfl)
        have f_b4 := blk_frozen b4
        have c_b1_0 : ∀ q, (gw Y2 q).cell? ⟨w.heap.size + 1, 0, none⟩ = some (.int .u64 (B / 18446744073709551616)) := cell_gw (blk_cell b1 0 _ rfl)
        have c_b1_1 : ∀ q, (gw Y2 q).cell? ⟨w.heap.size + 1, 1, none⟩ = some (.int .u64 (B % 18446744073709551616)) := cell_gw (blk_cell b1 1 _ rfl)
        have f_b1 := blk_frozen b1
        have c_b5_0 : ∀ q, (gw Y2 q).cell? ⟨w.heap.size + 1 + 1 + 1 + 1 + 1, 0, none⟩ = some (.int .u64 (X / 18446744073709551616)) := cell_gw (blk_cell b5 0 _ rfl)
        have c_b5_1 : ∀ q, (gw Y2 q).cell? ⟨w.heap.size + 1 + 1 + 1 + 1 + 1, 1, none⟩ = some (.int .u64 (X % 18446744073709551616)) := cell_gw (blk_cell b5 1 _ rfl)
        have f_b5 := blk_frozen b5
        clear e1 e2 e3 e4
      · have hlt := of_decide_eq_false HV.out
        have H1 := HST.out.2 hlt
        have HQ3 := Lib.hid H1.1
        have HR3 := Lib.hid H1.2
        have cM2 := cM hlt
        clear cM
        clear H1 hlt
        go_upto_region 12 with (first | (go_at_call 68; with_reducible refine (callsGw (cL _)).mono ?_; rintro e w1 ⟨rfl, q, rfl⟩) | (go_at_call 69; with_reducible refine (callsGw (cM2 _)).mono ?_; rintro e w1 ⟨rfl, q, rfl⟩))
        obtain ⟨Y3, eY3, sY3, nb, kY3, lY3⟩ := storedS2 q b5 (.int .u64 ((X - B) / 18446744073709551616)) (.int .u64 ((X - B) % 18446744073709551616))
        rw [eY3]
        have b0 := kY3 _ _ (by omega) b0
        have b1 := kY3 _ _ (by omega) b1
        have b2 := kY3 _ _ (by omega) b2
        have b3 := kY3 _ _ (by omega) b3
        have b4 := kY3 _ _ (by omega) b4
        have hB := lY3 _ (by omega) hB
        have b5 := nb
        clear nb
        have c_b5_0 : ∀ q, (gw Y3 q).cell? ⟨w.heap.size + 1 + 1 + 1 + 1 + 1, 0, none⟩ = some (.int .u64 ((X - B) / 18446744073709551616)) := cell_gw (blk_cell b5 0 _ rfl)
        have c_b5_1 : ∀ q, (gw Y3 q).cell? ⟨w.heap.size + 1 + 1 + 1 + 1 + 1, 1, none⟩ = some (.int .u64 ((X - B) % 18446744073709551616)) := cell_gw (blk_cell b5 1 _ rfl)
        have f_b5 := blk_frozen b5
        have c_b4_0 : ∀ q, (gw Y3 q).cell? ⟨w.heap.size + 1 + 1 + 1 + 1, 0, none⟩ = some (.int .u64 (Q2 / 18446744073709551616)) := cell_gw (blk_cell b4 0 _ rfl)
        have c_b4_1 : ∀ q, (gw Y3 q).cell? ⟨w.heap.size + 1 + 1 + 1 + 1, 1, none⟩ = some (.int .u64 (Q2 % 18446744073709551616)) := cell_gw (blk_cell b4 1 _ rfl)
        have f_b4 := blk_frozen b4
        go_wp2_with fail
        obtain ⟨Y4, eY4, sY4, nb, kY4, lY4⟩ := storedP1 (A' := #[.int .u64 (Q2 / 18446744073709551616), .int .u64 ((Q2 + 1) % 18446744073709551616)]) q b4 1 (.int .u64 ((Q2 + 1) % 18446744073709551616)) rfl
        rw [eY4]
        have b0 := kY4 _ _ (by omega) b0
        have b1 := kY4 _ _ (by omega) b1
        have b2 := kY4 _ _ (by omega) b2
        have b3 := kY4 _ _ (by omega) b3
        have b5 := kY4 _ _ (by omega) b5
        have hB := lY4 _ (by omega) hB
        have b4 := nb
        clear nb
        have c_b4_0 : ∀ q, (gw Y4 q).cell? ⟨w.heap.size + 1 + 1 + 1 + 1, 0, none⟩ = some (.int .u64 (Q2 / 18446744073709551616)) := cell_gw (blk_cell b4 0 _ rfl)
        have c_b4_1 : ∀ q, (gw Y4 q).cell? ⟨w.heap.size + 1 + 1 + 1 + 1, 1, none⟩ = some (.int .u64 ((Q2 + 1) % 18446744073709551616)) := cell_gw (blk_cell b4 1 _ rfl)
        have f_b4 := blk_frozen b4
        rw [← HE6.out] at b4
        go_roundw
        case rel => exact ⟨m, Y4, 2 * N + t, Q2 + 1, X - B, q, by go_num, by omega, HN2, HQ3, HR3, rfl, hB, by omega, b0, b1, b2, b3, b4, b5⟩
        case measure => (simp [intOf]; try omega)
      · have hlt := of_decide_eq_true HV.out
        have H1 := HST.out.1 hlt
        have HQ3 := Lib.hid H1.1
        have HR3 := Lib.hid H1.2
        clear H1 hlt
        go_wp2_with (go_at_call 68; with_reducible refine (callsGw (cL _)).mono ?_; rintro e w1 ⟨rfl, q, rfl⟩)
        go_roundw
        case rel => exact ⟨m, Y2, 2 * N + t, Q2, X, q, by go_num, by omega, HN2, HQ3, HR3, rfl, hB, by omega, b0, b1, b2, b3, b4, b5⟩
        case measure => (simp [intOf]; try omega)
      · have hlt := of_decide_eq_false HV.out
        have H1 := HST.out.2 hlt
        have HQ3 := Lib.hid H1.1
        have HR3 := Lib.hid H1.2
        have cM2 := cM hlt
        clear cM
        clear H1 hlt
        go_upto_region 12 with (first | (go_at_call 68; with_reducible refine (callsGw (cL _)).mono ?_; rintro e w1 ⟨rfl, q, rfl⟩) | (go_at_call 69; with_reducible refine (callsGw (cM2 _)).mono ?_; rintro e w1 ⟨rfl, q, rfl⟩))
        obtain ⟨Y3, eY3, sY3, nb, kY3, lY3⟩ := storedS2 q b5 (.int .u64 ((X - B) / 18446744073709551616)) (.int .u64 ((X - B) % 18446744073709551616))
        rw [eY3]
        have b0 := kY3 _ _ (by omega) b0
        have b1 := kY3 _ _ (by omega) b1
        have b2 := kY3 _ _ (by omega) b2
        have b3 := kY3 _ _ (by omega) b3
        have b4 := kY3 _ _ (by omega) b4
        have hB := lY3 _ (by omega) hB
        have b5 := nb
        clear nb
        have c_b5_0 : ∀ q, (gw Y3 q).cell? ⟨w.heap.size + 1 + 1 + 1 + 1 + 1, 0, none⟩ = some (.int .u64 ((X - B) / 18446744073709551616)) := cell_gw (blk_cell b5 0 _ rfl)
        have c_b5_1 : ∀ q, (gw Y3 q).cell? ⟨w.heap.size + 1 + 1 + 1 + 1 + 1, 1, none⟩ = some (.int .u64 ((X - B) % 18446744073709551616)) := cell_gw (blk_cell b5 1 _ rfl)
        have f_b5 := blk_frozen b5
        have c_b4_0 : ∀ q, (gw Y3 q).cell? ⟨w.heap.size + 1 + 1 + 1 + 1, 0, none⟩ = some (.int .u64 (Q2 / 18446744073709551616)) := cell_gw (blk_cell b4 0 _ rfl)
        have c_b4_1 : ∀ q, (gw Y3 q).cell? ⟨w.heap.size + 1 + 1 + 1 + 1, 1, none⟩ = some (.int .u64 (Q2 % 18446744073709551616)) := cell_gw (blk_cell b4 1 _ rfl)
        have f_b4 := blk_frozen b4
        go_wp2_with fail
        obtain ⟨Y4, eY4, sY4, nb, kY4, lY4⟩ := storedP1 (A' := #[.int .u64 (Q2 / 18446744073709551616), .int .u64 ((Q2 + 1) % 18446744073709551616)]) q b4 1 (.int .u64 ((Q2 + 1) % 18446744073709551616)) rfl
        rw [eY4]
        have b0 := kY4 _ _ (by omega) b0
        have b1 := kY4 _ _ (by omega) b1
        have b2 := kY4 _ _ (by omega) b2
        have b3 := kY4 _ _ (by omega) b3
        have b5 := kY4 _ _ (by omega) b5
        have hB := lY4 _ (by omega) hB
        have b4 := nb
        clear nb
        have c_b4_0 : ∀ q, (gw Y4 q).cell? ⟨w.heap.size + 1 + 1 + 1 + 1, 0, none⟩ = some (.int .u64 (Q2 / 18446744073709551616)) := cell_gw (blk_cell b4 0 _ rfl)
        have c_b4_1 : ∀ q, (gw Y4 q).cell? ⟨w.heap.size + 1 + 1 + 1 + 1, 1, none⟩ = some (.int .u64 ((Q2 + 1) % 18446744073709551616)) := cell_gw (blk_cell b4 1 _ rfl)
        have f_b4 := blk_frozen b4
        rw [← HE6.out] at b4
        go_roundw
        case rel => exact ⟨m, Y4, 2 * N + t, Q2 + 1, X - B, q, by go_num, by omega, HN2, HQ3, HR3, rfl, hB, by omega, b0, b1, b2, b3, b4, b5⟩
        case measure => (simp [intOf]; try omega)
      · have hlt := of_decide_eq_true HV.out
        have H1 := HST.out.1 hlt
        have HQ3 := Lib.hid H1.1
        have HR3 := Lib.hid H1.2
        clear H1 hlt
        go_wp2_with (go_at_call 68; with_reducible refine (callsGw (cL _)).mono ?_; rintro e w1 ⟨rfl, q, rfl⟩)
        go_roundw
        case rel => exact ⟨m, Y2, 2 * N + t, Q2, X, q, by go_num, by omega, HN2, HQ3, HR3, rfl, hB, by omega, b0, b1, b2, b3, b4, b5⟩
        case measure => (simp [intOf]; try omega)
end Go.Proofs.YthieengihbbnpaaDoor
