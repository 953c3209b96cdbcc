/- The statements on intervals: do, Operates. -/
import Derived.Test.YtimdklineeeieaaL1
import Derived.Test.YtimdklineeeieaaM15
namespace Go.Proofs.Ytimdklineeeieaa
open Go.RowKit Go.Sort
set_option linter.unusedVariables false
set_option maxRecDepth 100000 in
set_option maxHeartbeats 8000000 in
theorem ldo_any (k : Int) (h0 : 0 ≤ k) (h4 : k ≤ 4) (a b c d e f g h : Int) (w : World) :
    Calls Try.prog 22 #[.int .i64 k, .agg #[.int .i64 a, .int .i64 b, .int .i64 c, .int .i64 d], .agg #[.int .i64 e, .int .i64 f, .int .i64 g, .int .i64 h]] w fun x w' => x = .returned (.tuple #[.agg #[.int .i64 (M.dof k a b c d e f g h).1, .int .i64 (M.dof k a b c d e f g h).2.1, .int .i64 (M.dof k a b c d e f g h).2.2.1, .int .i64 (M.dof k a b c d e f g h).2.2.2.1], .int .i64 (M.dof k a b c d e f g h).2.2.2.2]) ∧ Below w.heap.size w w' := by
  obtain ⟨W, hW, hB, hS, b0, b1, b2⟩ := lay3 w #[.int .i64 a, .int .i64 b, .int .i64 c, .int .i64 d] 25 #[.int .i64 e, .int .i64 f, .int .i64 g, .int .i64 h] 25 #[.int .i64 0, .int .i64 0, .int .i64 0, .int .i64 0] 25
  obtain ⟨p0, hp0⟩ := gw_start W
  have HW := Lib.hid (hW.trans hp0)
  clear hW hp0
  have c_b0_0 : ∀ q, (gw W q).cell? ⟨w.heap.size, 0, none⟩ = some (.int .i64 a) := cell_gw (blk_cell b0 0 _ rfl)
  have c_b0_1 : ∀ q, (gw W q).cell? ⟨w.heap.size, 1, none⟩ = some (.int .i64 b) := cell_gw (blk_cell b0 1 _ rfl)
  have c_b0_2 : ∀ q, (gw W q).cell? ⟨w.heap.size, 2, none⟩ = some (.int .i64 c) := cell_gw (blk_cell b0 2 _ rfl)
  have c_b0_3 : ∀ q, (gw W q).cell? ⟨w.heap.size, 3, none⟩ = some (.int .i64 d) := cell_gw (blk_cell b0 3 _ rfl)
  have f_b0 := blk_frozen b0
  have c_b1_0 : ∀ q, (gw W q).cell? ⟨w.heap.size + 1, 0, none⟩ = some (.int .i64 e) := cell_gw (blk_cell b1 0 _ rfl)
  have c_b1_1 : ∀ q, (gw W q).cell? ⟨w.heap.size + 1, 1, none⟩ = some (.int .i64 f) := cell_gw (blk_cell b1 1 _ rfl)
  have c_b1_2 : ∀ q, (gw W q).cell? ⟨w.heap.size + 1, 2, none⟩ = some (.int .i64 g) := cell_gw (blk_cell b1 2 _ rfl)
  have c_b1_3 : ∀ q, (gw W q).cell? ⟨w.heap.size + 1, 3, none⟩ = some (.int .i64 h) := cell_gw (blk_cell b1 3 _ rfl)
  have f_b1 := blk_frozen b1
  have c_b2_0 : ∀ q, (gw W q).cell? ⟨w.heap.size + 1 + 1, 0, none⟩ = some (.int .i64 0) := cell_gw (blk_cell b2 0 _ rfl)
  have c_b2_1 : ∀ q, (gw W q).cell? ⟨w.heap.size + 1 + 1, 1, none⟩ = some (.int .i64 0) := cell_gw (blk_cell b2 1 _ rfl)
  have c_b2_2 : ∀ q, (gw W q).cell? ⟨w.heap.size + 1 + 1, 2, none⟩ = some (.int .i64 0) := cell_gw (blk_cell b2 2 _ rfl)
  have c_b2_3 : ∀ q, (gw W q).cell? ⟨w.heap.size + 1 + 1, 3, none⟩ = some (.int .i64 0) := cell_gw (blk_cell b2 3 _ rfl)
  have f_b2 := blk_frozen b2
  have c0 := fun w => iadd_any a b c d e f g h w
  have c1 := fun w => isub_any a b c d e f g h w
  have c2 := fun w => imul_any a b c d e f g h w
  have c3 := fun w => imin_any a b c d e f g h w
  have c4 := fun w => imax_any a b c d e f g h w
  unfold M.dof
  generalize M.iadd a b c d e f g h = R0 at c0 ⊢
  generalize M.isub a b c d e f g h = R1 at c1 ⊢
  generalize M.imul a b c d e f g h = R2 at c2 ⊢
  generalize M.imin a b c d e f g h = R3 at c3 ⊢
  generalize M.imax a b c d e f g h = R4 at c4 ⊢
  rcases (by omega : k = 0 ∨ k = 1 ∨ k = 2 ∨ k = 3 ∨ k = 4) with rfl | rfl | rfl | rfl | rfl
  · rw [if_pos rfl]
    go_enter Try.func22, Try.ntmps22
    go_wp2_with fail
    rw [HW.out]
    go_wp2_with (go_at_call 48; with_reducible refine (callsGw (c0 _)).mono ?_; rintro e w1 ⟨rfl, q, rfl⟩)
    refine bodyPost_ret (v := .tuple #[.agg #[.int .i64 R0.1, .int .i64 R0.2.1, .int .i64 R0.2.2.1, .int .i64 R0.2.2.2.1], .int .i64 R0.2.2.2.2]) (by simp [results, Try.results22, go_sem, c_b2_0, c_b2_1, c_b2_2, c_b2_3]) rfl ⟨rfl, ?_⟩
    repeat (refine belowSet ?_ (by omega))
    exact below_gw hB _
  · rw [if_neg (by decide), if_pos rfl]
    go_enter Try.func22, Try.ntmps22
    go_wp2_with fail
    rw [HW.out]
    go_wp2_with (go_at_call 37; with_reducible refine (callsGw (c1 _)).mono ?_; rintro e w1 ⟨rfl, q, rfl⟩)
    refine bodyPost_ret (v := .tuple #[.agg #[.int .i64 R1.1, .int .i64 R1.2.1, .int .i64 R1.2.2.1, .int .i64 R1.2.2.2.1], .int .i64 R1.2.2.2.2]) (by simp [results, Try.results22, go_sem, c_b2_0, c_b2_1, c_b2_2, c_b2_3]) rfl ⟨rfl, ?_⟩
    repeat (refine belowSet ?_ (by omega))
    exact below_gw hB _
  · rw [if_neg (by decide), if_neg (by decide), if_pos rfl]
    go_enter Try.func22, Try.ntmps22
    go_wp2_with fail
    rw [HW.out]
    go_wp2_with (go_at_call 35; with_reducible refine (callsGw (c2 _)).mono ?_; rintro e w1 ⟨rfl, q, rfl⟩)
    refine bodyPost_ret (v := .tuple #[.agg #[.int .i64 R2.1, .int .i64 R2.2.1, .int .i64 R2.2.2.1, .int .i64 R2.2.2.2.1], .int .i64 R2.2.2.2.2]) (by simp [results, Try.results22, go_sem, c_b2_0, c_b2_1, c_b2_2, c_b2_3]) rfl ⟨rfl, ?_⟩
    repeat (refine belowSet ?_ (by omega))
    exact below_gw hB _
  · rw [if_neg (by decide), if_neg (by decide), if_neg (by decide), if_pos rfl]
    go_enter Try.func22, Try.ntmps22
    go_wp2_with fail
    rw [HW.out]
    go_wp2_with (go_at_call 49; with_reducible refine (callsGw (c3 _)).mono ?_; rintro e w1 ⟨rfl, q, rfl⟩)
    refine bodyPost_ret (v := .tuple #[.agg #[.int .i64 R3.1, .int .i64 R3.2.1, .int .i64 R3.2.2.1, .int .i64 R3.2.2.2.1], .int .i64 R3.2.2.2.2]) (by simp [results, Try.results22, go_sem, c_b2_0, c_b2_1, c_b2_2, c_b2_3]) rfl ⟨rfl, ?_⟩
    repeat (refine belowSet ?_ (by omega))
    exact below_gw hB _
  · rw [if_neg (by decide), if_neg (by decide), if_neg (by decide), if_neg (by decide)]
    go_enter Try.func22, Try.ntmps22
    go_wp2_with fail
    rw [HW.out]
    go_wp2_with (go_at_call 38; with_reducible refine (callsGw (c4 _)).mono ?_; rintro e w1 ⟨rfl, q, rfl⟩)
    refine bodyPost_ret (v := .tuple #[.agg #[.int .i64 R4.1, .int .i64 R4.2.1, .int .i64 R4.2.2.1, .int .i64 R4.2.2.2.1], .int .i64 R4.2.2.2.2]) (by simp [results, Try.results22, go_sem, c_b2_0, c_b2_1, c_b2_2, c_b2_3]) rfl ⟨rfl, ?_⟩
    repeat (refine belowSet ?_ (by omega))
    exact below_gw hB _
set_option maxRecDepth 100000 in
set_option maxHeartbeats 8000000 in
theorem operates_any (a b c d e f g h : Int) (w : World) :
    Calls Try.prog 5 #[.agg #[.int .i64 a, .int .i64 b, .int .i64 c, .int .i64 d], .agg #[.int .i64 e, .int .i64 f, .int .i64 g, .int .i64 h]] w fun r w' => r = .returned (.bool true) ∧ Below w.heap.size w w' := by
  obtain ⟨W, hW, hB, hS, b0, b1⟩ := lay2 w #[.int .i64 a, .int .i64 b, .int .i64 c, .int .i64 d] 25 #[.int .i64 e, .int .i64 f, .int .i64 g, .int .i64 h] 25
  obtain ⟨p0, hp0⟩ := gw_start W
  have HW := Lib.hid (hW.trans hp0)
  clear hW hp0
  have c_b0_0 : ∀ q, (gw W q).cell? ⟨w.heap.size, 0, none⟩ = some (.int .i64 a) := cell_gw (blk_cell b0 0 _ rfl)
  have c_b0_1 : ∀ q, (gw W q).cell? ⟨w.heap.size, 1, none⟩ = some (.int .i64 b) := cell_gw (blk_cell b0 1 _ rfl)
  have c_b0_2 : ∀ q, (gw W q).cell? ⟨w.heap.size, 2, none⟩ = some (.int .i64 c) := cell_gw (blk_cell b0 2 _ rfl)
  have c_b0_3 : ∀ q, (gw W q).cell? ⟨w.heap.size, 3, none⟩ = some (.int .i64 d) := cell_gw (blk_cell b0 3 _ rfl)
  have f_b0 := blk_frozen b0
  have c_b1_0 : ∀ q, (gw W q).cell? ⟨w.heap.size + 1, 0, none⟩ = some (.int .i64 e) := cell_gw (blk_cell b1 0 _ rfl)
  have c_b1_1 : ∀ q, (gw W q).cell? ⟨w.heap.size + 1, 1, none⟩ = some (.int .i64 f) := cell_gw (blk_cell b1 1 _ rfl)
  have c_b1_2 : ∀ q, (gw W q).cell? ⟨w.heap.size + 1, 2, none⟩ = some (.int .i64 g) := cell_gw (blk_cell b1 2 _ rfl)
  have c_b1_3 : ∀ q, (gw W q).cell? ⟨w.heap.size + 1, 3, none⟩ = some (.int .i64 h) := cell_gw (blk_cell b1 3 _ rfl)
  have f_b1 := blk_frozen b1
  have cA := fun w => awake_any w
  go_enter Try.func5, Try.ntmps5
  go_wp2_with fail
  rw [HW.out]
  go_wp2_with (go_at_call 10; with_reducible refine (callsGw (cA _)).mono ?_; rintro e w1 ⟨rfl, q, rfl⟩)
  clear HW c_b0_0 c_b0_1 c_b0_2 c_b0_3 f_b0 c_b1_0 c_b1_1 c_b1_2 c_b1_3 f_b1
  go_loopw [5] (fun v wr => ∃ (i : Nat) (Y : World) (q : Regrown), v = .int .i64 i ∧ i ≤ 5 ∧ wr = gw Y q ∧ Below w.heap.size w Y ∧ Y.heap[w.heap.size]? = some (.cells #[.int .i64 a, .int .i64 b, .int .i64 c, .int .i64 d] 25) ∧ Y.heap[w.heap.size + 1]? = some (.cells #[.int .i64 e, .int .i64 f, .int .i64 g, .int .i64 h] 25)) (fun v _ => 5 - (intOf v).toNat)
  case atStart => exact ⟨0, W, _, rfl, Nat.zero_le _, rfl, hB, b0, b1⟩
  case round =>
    clear b0 b1 hB
    obtain ⟨i, Y, q, rfl, hi, rfl, hB, b0, b1⟩ := hrel
    have c_b0_0 : ∀ q, (gw Y q).cell? ⟨w.heap.size, 0, none⟩ = some (.int .i64 a) := cell_gw (blk_cell b0 0 _ rfl)
    have c_b0_1 : ∀ q, (gw Y q).cell? ⟨w.heap.size, 1, none⟩ = some (.int .i64 b) := cell_gw (blk_cell b0 1 _ rfl)
    have c_b0_2 : ∀ q, (gw Y q).cell? ⟨w.heap.size, 2, none⟩ = some (.int .i64 c) := cell_gw (blk_cell b0 2 _ rfl)
    have c_b0_3 : ∀ q, (gw Y q).cell? ⟨w.heap.size, 3, none⟩ = some (.int .i64 d) := cell_gw (blk_cell b0 3 _ rfl)
    have f_b0 := blk_frozen b0
    have c_b1_0 : ∀ q, (gw Y q).cell? ⟨w.heap.size + 1, 0, none⟩ = some (.int .i64 e) := cell_gw (blk_cell b1 0 _ rfl)
    have c_b1_1 : ∀ q, (gw Y q).cell? ⟨w.heap.size + 1, 1, none⟩ = some (.int .i64 f) := cell_gw (blk_cell b1 1 _ rfl)
    have c_b1_2 : ∀ q, (gw Y q).cell? ⟨w.heap.size + 1, 2, none⟩ = some (.int .i64 g) := cell_gw (blk_cell b1 2 _ rfl)
    have c_b1_3 : ∀ q, (gw Y q).cell? ⟨w.heap.size + 1, 3, none⟩ = some (.int .i64 h) := cell_gw (blk_cell b1 3 _ rfl)
    have f_b1 := blk_frozen b1
    by_cases hlt : i < 5
    · have h4 : decide ((i : Int) ≤ 4) = true := decide_eq_true (by omega)
      have h04 : (i : Int) ≤ 4 := by omega
      have h00 : 0 ≤ (i : Int) := by omega
      have cD := fun w => ldo_any i h00 h04 a b c d e f g h w
      have cO := fun w => of_any i h00 (by omega) a b c d e f g h w
      rw [M.dof_rof h00 h04] at cD
      obtain ⟨R, hR⟩ : ∃ R, M.rof i a b c d e f g h = R := ⟨_, rfl⟩
      rw [hR] at cD cO
      clear hR
      go_upto_region 7 with (go_at_call 22; with_reducible refine (callsGw (cD _)).mono ?_; rintro e w1 ⟨rfl, q, rfl⟩)
      obtain ⟨X, n, en, hnn, gen, ltn, bn, kn, ln⟩ := laid Y #[.int .i64 R.1, .int .i64 R.2.1, .int .i64 R.2.2.1, .int .i64 R.2.2.2.1] 25 q
      rw [en]
      simp only [hnn]
      have b0 := kn _ _ b0
      have b1 := kn _ _ b1
      have hB := ln _ hB
      clear en hnn
      have c_bn_0 : ∀ q, (gw X q).cell? ⟨n, 0, none⟩ = some (.int .i64 R.1) := cell_gw (blk_cell bn 0 _ rfl)
      have c_bn_1 : ∀ q, (gw X q).cell? ⟨n, 1, none⟩ = some (.int .i64 R.2.1) := cell_gw (blk_cell bn 1 _ rfl)
      have c_bn_2 : ∀ q, (gw X q).cell? ⟨n, 2, none⟩ = some (.int .i64 R.2.2.1) := cell_gw (blk_cell bn 2 _ rfl)
      have c_bn_3 : ∀ q, (gw X q).cell? ⟨n, 3, none⟩ = some (.int .i64 R.2.2.2.1) := cell_gw (blk_cell bn 3 _ rfl)
      have f_bn := blk_frozen bn
      have c_b0_0 : ∀ q, (gw X q).cell? ⟨w.heap.size, 0, none⟩ = some (.int .i64 a) := cell_gw (blk_cell b0 0 _ rfl)
      have c_b0_1 : ∀ q, (gw X q).cell? ⟨w.heap.size, 1, none⟩ = some (.int .i64 b) := cell_gw (blk_cell b0 1 _ rfl)
      have c_b0_2 : ∀ q, (gw X q).cell? ⟨w.heap.size, 2, none⟩ = some (.int .i64 c) := cell_gw (blk_cell b0 2 _ rfl)
      have c_b0_3 : ∀ q, (gw X q).cell? ⟨w.heap.size, 3, none⟩ = some (.int .i64 d) := cell_gw (blk_cell b0 3 _ rfl)
      have f_b0 := blk_frozen b0
      have c_b1_0 : ∀ q, (gw X q).cell? ⟨w.heap.size + 1, 0, none⟩ = some (.int .i64 e) := cell_gw (blk_cell b1 0 _ rfl)
      have c_b1_1 : ∀ q, (gw X q).cell? ⟨w.heap.size + 1, 1, none⟩ = some (.int .i64 f) := cell_gw (blk_cell b1 1 _ rfl)
      have c_b1_2 : ∀ q, (gw X q).cell? ⟨w.heap.size + 1, 2, none⟩ = some (.int .i64 g) := cell_gw (blk_cell b1 2 _ rfl)
      have c_b1_3 : ∀ q, (gw X q).cell? ⟨w.heap.size + 1, 3, none⟩ = some (.int .i64 h) := cell_gw (blk_cell b1 3 _ rfl)
      have f_b1 := blk_frozen b1
      go_upto_region 8 with (go_at_call 23; with_reducible refine (callsGw (cO _)).mono ?_; rintro e w1 ⟨rfl, q, rfl⟩)
      obtain ⟨Z, m, em, hnm, gem, ltm, bm, km, lm⟩ := laid X #[.int .i64 R.1, .int .i64 R.2.1, .int .i64 R.2.2.1, .int .i64 R.2.2.2.1] 25 q
      rw [em]
      simp only [hnm]
      have b0 := km _ _ b0
      have b1 := km _ _ b1
      have bn := km _ _ bn
      have hB := lm _ hB
      clear em hnm
      have c_bm_0 : ∀ q, (gw Z q).cell? ⟨m, 0, none⟩ = some (.int .i64 R.1) := cell_gw (blk_cell bm 0 _ rfl)
      have c_bm_1 : ∀ q, (gw Z q).cell? ⟨m, 1, none⟩ = some (.int .i64 R.2.1) := cell_gw (blk_cell bm 1 _ rfl)
      have c_bm_2 : ∀ q, (gw Z q).cell? ⟨m, 2, none⟩ = some (.int .i64 R.2.2.1) := cell_gw (blk_cell bm 2 _ rfl)
      have c_bm_3 : ∀ q, (gw Z q).cell? ⟨m, 3, none⟩ = some (.int .i64 R.2.2.2.1) := cell_gw (blk_cell bm 3 _ rfl)
      have f_bm := blk_frozen bm
      have c_bn_0 : ∀ q, (gw Z q).cell? ⟨n, 0, none⟩ = some (.int .i64 R.1) := cell_gw (blk_cell bn 0 _ rfl)
      have c_bn_1 : ∀ q, (gw Z q).cell? ⟨n, 1, none⟩ = some (.int .i64 R.2.1) := cell_gw (blk_cell bn 1 _ rfl)
      have c_bn_2 : ∀ q, (gw Z q).cell? ⟨n, 2, none⟩ = some (.int .i64 R.2.2.1) := cell_gw (blk_cell bn 2 _ rfl)
      have c_bn_3 : ∀ q, (gw Z q).cell? ⟨n, 3, none⟩ = some (.int .i64 R.2.2.2.1) := cell_gw (blk_cell bn 3 _ rfl)
      have f_bn := blk_frozen bn
      go_wp2_with fail
      go_roundw
      case rel => exact ⟨i + 1, Z, _, by go_num, by omega, rfl, hB, b0, b1⟩
      case measure => simp [intOf]; omega
    · have h4 : decide ((i : Int) ≤ 4) = false := decide_eq_false (by omega)
      have h04 : ¬ (i : Int) ≤ 4 := by omega
      go_wp2_with fail
      go_ret
      exact ⟨rfl, below_gw hB _⟩
end Go.Proofs.Ytimdklineeeieaa
