/- Package interval: Scale, Div, Neg, Hull, Intersect, Width. -/
import Derived.Test.YtimdklineeeieaaI4
namespace Go.Proofs.Ytimdklineeeieaa
open Go.RowKit Go.Sort
set_option linter.unusedVariables false
set_option maxRecDepth 100000 in
set_option maxHeartbeats 4000000 in
theorem iscale_any (a b c d x y : Int) (w : World) :
    Calls Try.prog 25 #[.agg #[.int .i64 a, .int .i64 b, .int .i64 c, .int .i64 d], .agg #[.int .i64 x, .int .i64 y]] w fun r w' => r = .returned (.tuple #[.agg #[.int .i64 (M.iscale a b c d x y).1, .int .i64 (M.iscale a b c d x y).2.1, .int .i64 (M.iscale a b c d x y).2.2.1, .int .i64 (M.iscale a b c d x y).2.2.2.1], .int .i64 (M.iscale a b c d x y).2.2.2.2]) ∧ Below w.heap.size w w' := by
  obtain ⟨W, hW, hB, hS, b0, b1, b2⟩ := lay3 w #[.int .i64 a, .int .i64 b, .int .i64 c, .int .i64 d] 25 #[.int .i64 x, .int .i64 y] 23 #[.int .i64 0, .int .i64 0, .int .i64 0, .int .i64 0] 25
  obtain ⟨p0, hp0⟩ := gw_start W
  have HW := Lib.hid (hW.trans hp0)
  clear hW hp0
  have c_b0_0 : ∀ q, (gw W q).cell? ⟨w.heap.size, 0, none⟩ = some (.int .i64 a) := cell_gw (blk_cell b0 0 _ rfl)
  have c_b0_1 : ∀ q, (gw W q).cell? ⟨w.heap.size, 1, none⟩ = some (.int .i64 b) := cell_gw (blk_cell b0 1 _ rfl)
  have c_b0_2 : ∀ q, (gw W q).cell? ⟨w.heap.size, 2, none⟩ = some (.int .i64 c) := cell_gw (blk_cell b0 2 _ rfl)
  have c_b0_3 : ∀ q, (gw W q).cell? ⟨w.heap.size, 3, none⟩ = some (.int .i64 d) := cell_gw (blk_cell b0 3 _ rfl)
  have f_b0 := blk_frozen b0
  have c_b1_0 : ∀ q, (gw W q).cell? ⟨w.heap.size + 1, 0, none⟩ = some (.int .i64 x) := cell_gw (blk_cell b1 0 _ rfl)
  have c_b1_1 : ∀ q, (gw W q).cell? ⟨w.heap.size + 1, 1, none⟩ = some (.int .i64 y) := cell_gw (blk_cell b1 1 _ rfl)
  have f_b1 := blk_frozen b1
  have c_b2_0 : ∀ q, (gw W q).cell? ⟨w.heap.size + 1 + 1, 0, none⟩ = some (.int .i64 0) := cell_gw (blk_cell b2 0 _ rfl)
  have c_b2_1 : ∀ q, (gw W q).cell? ⟨w.heap.size + 1 + 1, 1, none⟩ = some (.int .i64 0) := cell_gw (blk_cell b2 1 _ rfl)
  have c_b2_2 : ∀ q, (gw W q).cell? ⟨w.heap.size + 1 + 1, 2, none⟩ = some (.int .i64 0) := cell_gw (blk_cell b2 2 _ rfl)
  have c_b2_3 : ∀ q, (gw W q).cell? ⟨w.heap.size + 1 + 1, 3, none⟩ = some (.int .i64 0) := cell_gw (blk_cell b2 3 _ rfl)
  have f_b2 := blk_frozen b2
  have cV := fun w => ivalid_any a b c d w
  have cF := fun w => valid_any x y w
  have cE := fun n w T hb => ext2 _ M.mulF ent_mul mul_any a b x y c d x y n w T hb
  unfold M.iscale
  generalize M.extF M.mulF [(a, b, x, y), (c, d, x, y)] = R at cE ⊢
  generalize M.ivld a b c d = v1 at cV ⊢
  generalize M.vld x y = v2 at cF ⊢
  cases v1 <;> cases v2
  any_goals
    rw [if_neg (by simp)]
    go_enter Try.func25, Try.ntmps25
    go_wp2_with fail
    rw [HW.out]
    go_wp2_with (first | (go_at_call 13; with_reducible refine (callsGw (cV _)).mono ?_; rintro e w1 ⟨rfl, q, rfl⟩) | (go_at_call 40; with_reducible refine (callsGw (cF _)).mono ?_; rintro e w1 ⟨rfl, q, rfl⟩))
    refine bodyPost_ret (v := .tuple #[.agg #[.int .i64 0, .int .i64 0, .int .i64 0, .int .i64 0], .int .i64 1]) (by simp [results, Try.results25, go_sem, c_b2_0, c_b2_1, c_b2_2, c_b2_3]) rfl ⟨rfl, ?_⟩
    repeat (refine belowSet ?_ (by omega))
    exact below_gw hB _
  · rw [if_pos (by simp)]
    go_enter Try.func25, Try.ntmps25
    go_wp2_with fail
    rw [HW.out]
    go_wp2_with (first | (go_at_call 13; with_reducible refine (callsGw (cV _)).mono ?_; rintro e w1 ⟨rfl, q, rfl⟩) | (go_at_call 40; with_reducible refine (callsGw (cF _)).mono ?_; rintro e w1 ⟨rfl, q, rfl⟩))
    clear c_b0_0 c_b0_1 c_b0_2 c_b0_3 f_b0 c_b1_0 c_b1_1 f_b1 c_b2_0 c_b2_1 c_b2_2 c_b2_3 f_b2
    obtain ⟨X, n, en, hnn, gen, ltn, bn, kn, ln⟩ := laid W #[.int .i64 a, .int .i64 b, .int .i64 x, .int .i64 y, .int .i64 c, .int .i64 d, .int .i64 x, .int .i64 y] 55 q
    rw [en]
    simp only [hnn]
    have b0 := kn _ _ b0
    have b1 := kn _ _ b1
    have b2 := kn _ _ b2
    have hB := ln _ hB
    clear en hnn
    have c_bn_0 : ∀ q, (gw X q).cell? ⟨n, 0, none⟩ = some (.int .i64 a) := cell_gw (blk_cell bn 0 _ rfl)
    have c_bn_1 : ∀ q, (gw X q).cell? ⟨n, 1, none⟩ = some (.int .i64 b) := cell_gw (blk_cell bn 1 _ rfl)
    have c_bn_2 : ∀ q, (gw X q).cell? ⟨n, 2, none⟩ = some (.int .i64 x) := cell_gw (blk_cell bn 2 _ rfl)
    have c_bn_3 : ∀ q, (gw X q).cell? ⟨n, 3, none⟩ = some (.int .i64 y) := cell_gw (blk_cell bn 3 _ rfl)
    have c_bn_4 : ∀ q, (gw X q).cell? ⟨n, 4, none⟩ = some (.int .i64 c) := cell_gw (blk_cell bn 4 _ rfl)
    have c_bn_5 : ∀ q, (gw X q).cell? ⟨n, 5, none⟩ = some (.int .i64 d) := cell_gw (blk_cell bn 5 _ rfl)
    have c_bn_6 : ∀ q, (gw X q).cell? ⟨n, 6, none⟩ = some (.int .i64 x) := cell_gw (blk_cell bn 6 _ rfl)
    have c_bn_7 : ∀ q, (gw X q).cell? ⟨n, 7, none⟩ = some (.int .i64 y) := cell_gw (blk_cell bn 7 _ rfl)
    have f_bn := blk_frozen bn
    have c_b2_0 : ∀ q, (gw X q).cell? ⟨w.heap.size + 1 + 1, 0, none⟩ = some (.int .i64 0) := cell_gw (blk_cell b2 0 _ rfl)
    have c_b2_1 : ∀ q, (gw X q).cell? ⟨w.heap.size + 1 + 1, 1, none⟩ = some (.int .i64 0) := cell_gw (blk_cell b2 1 _ rfl)
    have c_b2_2 : ∀ q, (gw X q).cell? ⟨w.heap.size + 1 + 1, 2, none⟩ = some (.int .i64 0) := cell_gw (blk_cell b2 2 _ rfl)
    have c_b2_3 : ∀ q, (gw X q).cell? ⟨w.heap.size + 1 + 1, 3, none⟩ = some (.int .i64 0) := cell_gw (blk_cell b2 3 _ rfl)
    have f_b2 := blk_frozen b2
    refine (callsGw (cE n _ _ (block_gw bn _))).mono ?_
    rintro r w1 ⟨rfl, q1, rfl⟩
    go_wp2_with fail
    refine bodyPost_ret (v := .tuple #[.agg #[.int .i64 R.1, .int .i64 R.2.1, .int .i64 R.2.2.1, .int .i64 R.2.2.2.1], .int .i64 R.2.2.2.2]) (by simp [results, Try.results25, go_sem, c_b2_0, c_b2_1, c_b2_2, c_b2_3]) rfl ⟨rfl, ?_⟩
    repeat (refine belowSet ?_ (by omega))
    exact below_gw hB _
set_option maxRecDepth 100000 in
set_option maxHeartbeats 4000000 in
theorem idiv_any (a b c d x y : Int) (w : World) :
    Calls Try.prog 27 #[.agg #[.int .i64 a, .int .i64 b, .int .i64 c, .int .i64 d], .agg #[.int .i64 x, .int .i64 y]] w fun r w' => r = .returned (.tuple #[.agg #[.int .i64 (M.idiv a b c d x y).1, .int .i64 (M.idiv a b c d x y).2.1, .int .i64 (M.idiv a b c d x y).2.2.1, .int .i64 (M.idiv a b c d x y).2.2.2.1], .int .i64 (M.idiv a b c d x y).2.2.2.2]) ∧ Below w.heap.size w w' := by
  obtain ⟨W, hW, hB, hS, b0, b1, b2⟩ := lay3 w #[.int .i64 a, .int .i64 b, .int .i64 c, .int .i64 d] 25 #[.int .i64 x, .int .i64 y] 23 #[.int .i64 0, .int .i64 0, .int .i64 0, .int .i64 0] 25
  obtain ⟨p0, hp0⟩ := gw_start W
  have HW := Lib.hid (hW.trans hp0)
  clear hW hp0
  have c_b0_0 : ∀ q, (gw W q).cell? ⟨w.heap.size, 0, none⟩ = some (.int .i64 a) := cell_gw (blk_cell b0 0 _ rfl)
  have c_b0_1 : ∀ q, (gw W q).cell? ⟨w.heap.size, 1, none⟩ = some (.int .i64 b) := cell_gw (blk_cell b0 1 _ rfl)
  have c_b0_2 : ∀ q, (gw W q).cell? ⟨w.heap.size, 2, none⟩ = some (.int .i64 c) := cell_gw (blk_cell b0 2 _ rfl)
  have c_b0_3 : ∀ q, (gw W q).cell? ⟨w.heap.size, 3, none⟩ = some (.int .i64 d) := cell_gw (blk_cell b0 3 _ rfl)
  have f_b0 := blk_frozen b0
  have c_b1_0 : ∀ q, (gw W q).cell? ⟨w.heap.size + 1, 0, none⟩ = some (.int .i64 x) := cell_gw (blk_cell b1 0 _ rfl)
  have c_b1_1 : ∀ q, (gw W q).cell? ⟨w.heap.size + 1, 1, none⟩ = some (.int .i64 y) := cell_gw (blk_cell b1 1 _ rfl)
  have f_b1 := blk_frozen b1
  have c_b2_0 : ∀ q, (gw W q).cell? ⟨w.heap.size + 1 + 1, 0, none⟩ = some (.int .i64 0) := cell_gw (blk_cell b2 0 _ rfl)
  have c_b2_1 : ∀ q, (gw W q).cell? ⟨w.heap.size + 1 + 1, 1, none⟩ = some (.int .i64 0) := cell_gw (blk_cell b2 1 _ rfl)
  have c_b2_2 : ∀ q, (gw W q).cell? ⟨w.heap.size + 1 + 1, 2, none⟩ = some (.int .i64 0) := cell_gw (blk_cell b2 2 _ rfl)
  have c_b2_3 : ∀ q, (gw W q).cell? ⟨w.heap.size + 1 + 1, 3, none⟩ = some (.int .i64 0) := cell_gw (blk_cell b2 3 _ rfl)
  have f_b2 := blk_frozen b2
  have cV := fun w => ivalid_any a b c d w
  have cF := fun w => valid_any x y w
  have cE := fun n w T hb => ext2 _ M.divF ent_div div_any a b x y c d x y n w T hb
  unfold M.idiv
  generalize M.extF M.divF [(a, b, x, y), (c, d, x, y)] = R at cE ⊢
  generalize M.ivld a b c d = v1 at cV ⊢
  generalize M.vld x y = v2 at cF ⊢
  obtain ⟨v3, hv3⟩ : ∃ v, (x == 0) = v := ⟨_, rfl⟩
  rw [hv3]
  cases v1 <;> cases v2 <;> cases v3
  any_goals
    rw [if_neg (by simp)]
    go_enter Try.func27, Try.ntmps27
    go_wp2_with fail
    rw [HW.out]
    go_wp2_with (first | (go_at_call 13; with_reducible refine (callsGw (cV _)).mono ?_; rintro e w1 ⟨rfl, q, rfl⟩) | (go_at_call 40; with_reducible refine (callsGw (cF _)).mono ?_; rintro e w1 ⟨rfl, q, rfl⟩))
    refine bodyPost_ret (v := .tuple #[.agg #[.int .i64 0, .int .i64 0, .int .i64 0, .int .i64 0], .int .i64 1]) (by simp [results, Try.results27, go_sem, c_b2_0, c_b2_1, c_b2_2, c_b2_3]) rfl ⟨rfl, ?_⟩
    repeat (refine belowSet ?_ (by omega))
    exact below_gw hB _
  · rw [if_pos (by simp)]
    go_enter Try.func27, Try.ntmps27
    go_wp2_with fail
    rw [HW.out]
    go_wp2_with (first | (go_at_call 13; with_reducible refine (callsGw (cV _)).mono ?_; rintro e w1 ⟨rfl, q, rfl⟩) | (go_at_call 40; with_reducible refine (callsGw (cF _)).mono ?_; rintro e w1 ⟨rfl, q, rfl⟩))
    clear c_b0_0 c_b0_1 c_b0_2 c_b0_3 f_b0 c_b1_0 c_b1_1 f_b1 c_b2_0 c_b2_1 c_b2_2 c_b2_3 f_b2
    obtain ⟨X, n, en, hnn, gen, ltn, bn, kn, ln⟩ := laid W #[.int .i64 a, .int .i64 b, .int .i64 x, .int .i64 y, .int .i64 c, .int .i64 d, .int .i64 x, .int .i64 y] 55 q
    rw [en]
    simp only [hnn]
    have b0 := kn _ _ b0
    have b1 := kn _ _ b1
    have b2 := kn _ _ b2
    have hB := ln _ hB
    clear en hnn
    have c_bn_0 : ∀ q, (gw X q).cell? ⟨n, 0, none⟩ = some (.int .i64 a) := cell_gw (blk_cell bn 0 _ rfl)
    have c_bn_1 : ∀ q, (gw X q).cell? ⟨n, 1, none⟩ = some (.int .i64 b) := cell_gw (blk_cell bn 1 _ rfl)
    have c_bn_2 : ∀ q, (gw X q).cell? ⟨n, 2, none⟩ = some (.int .i64 x) := cell_gw (blk_cell bn 2 _ rfl)
    have c_bn_3 : ∀ q, (gw X q).cell? ⟨n, 3, none⟩ = some (.int .i64 y) := cell_gw (blk_cell bn 3 _ rfl)
    have c_bn_4 : ∀ q, (gw X q).cell? ⟨n, 4, none⟩ = some (.int .i64 c) := cell_gw (blk_cell bn 4 _ rfl)
    have c_bn_5 : ∀ q, (gw X q).cell? ⟨n, 5, none⟩ = some (.int .i64 d) := cell_gw (blk_cell bn 5 _ rfl)
    have c_bn_6 : ∀ q, (gw X q).cell? ⟨n, 6, none⟩ = some (.int .i64 x) := cell_gw (blk_cell bn 6 _ rfl)
    have c_bn_7 : ∀ q, (gw X q).cell? ⟨n, 7, none⟩ = some (.int .i64 y) := cell_gw (blk_cell bn 7 _ rfl)
    have f_bn := blk_frozen bn
    have c_b2_0 : ∀ q, (gw X q).cell? ⟨w.heap.size + 1 + 1, 0, none⟩ = some (.int .i64 0) := cell_gw (blk_cell b2 0 _ rfl)
    have c_b2_1 : ∀ q, (gw X q).cell? ⟨w.heap.size + 1 + 1, 1, none⟩ = some (.int .i64 0) := cell_gw (blk_cell b2 1 _ rfl)
    have c_b2_2 : ∀ q, (gw X q).cell? ⟨w.heap.size + 1 + 1, 2, none⟩ = some (.int .i64 0) := cell_gw (blk_cell b2 2 _ rfl)
    have c_b2_3 : ∀ q, (gw X q).cell? ⟨w.heap.size + 1 + 1, 3, none⟩ = some (.int .i64 0) := cell_gw (blk_cell b2 3 _ rfl)
    have f_b2 := blk_frozen b2
    refine (callsGw (cE n _ _ (block_gw bn _))).mono ?_
    rintro r w1 ⟨rfl, q1, rfl⟩
    go_wp2_with fail
    refine bodyPost_ret (v := .tuple #[.agg #[.int .i64 R.1, .int .i64 R.2.1, .int .i64 R.2.2.1, .int .i64 R.2.2.2.1], .int .i64 R.2.2.2.2]) (by simp [results, Try.results27, go_sem, c_b2_0, c_b2_1, c_b2_2, c_b2_3]) rfl ⟨rfl, ?_⟩
    repeat (refine belowSet ?_ (by omega))
    exact below_gw hB _
set_option maxRecDepth 100000 in
set_option maxHeartbeats 4000000 in
theorem ineg_any (a b c d : Int) (w : World) :
    Calls Try.prog 30 #[.agg #[.int .i64 a, .int .i64 b, .int .i64 c, .int .i64 d]] w fun x w' => x = .returned (.tuple #[.agg #[.int .i64 (M.ineg a b c d).1, .int .i64 (M.ineg a b c d).2.1, .int .i64 (M.ineg a b c d).2.2.1, .int .i64 (M.ineg a b c d).2.2.2.1], .int .i64 (M.ineg a b c d).2.2.2.2]) ∧ Below w.heap.size w w' := by
  obtain ⟨W, hW, hB, hS, b0, b1⟩ := lay2 w #[.int .i64 a, .int .i64 b, .int .i64 c, .int .i64 d] 25 #[.int .i64 0, .int .i64 0, .int .i64 0, .int .i64 0] 25
  obtain ⟨p0, hp0⟩ := gw_start W
  have HW := Lib.hid (hW.trans hp0)
  clear hW hp0
  have c_b0_0 : ∀ q, (gw W q).cell? ⟨w.heap.size, 0, none⟩ = some (.int .i64 a) := cell_gw (blk_cell b0 0 _ rfl)
  have c_b0_1 : ∀ q, (gw W q).cell? ⟨w.heap.size, 1, none⟩ = some (.int .i64 b) := cell_gw (blk_cell b0 1 _ rfl)
  have c_b0_2 : ∀ q, (gw W q).cell? ⟨w.heap.size, 2, none⟩ = some (.int .i64 c) := cell_gw (blk_cell b0 2 _ rfl)
  have c_b0_3 : ∀ q, (gw W q).cell? ⟨w.heap.size, 3, none⟩ = some (.int .i64 d) := cell_gw (blk_cell b0 3 _ rfl)
  have f_b0 := blk_frozen b0
  have c_b1_0 : ∀ q, (gw W q).cell? ⟨w.heap.size + 1, 0, none⟩ = some (.int .i64 0) := cell_gw (blk_cell b1 0 _ rfl)
  have c_b1_1 : ∀ q, (gw W q).cell? ⟨w.heap.size + 1, 1, none⟩ = some (.int .i64 0) := cell_gw (blk_cell b1 1 _ rfl)
  have c_b1_2 : ∀ q, (gw W q).cell? ⟨w.heap.size + 1, 2, none⟩ = some (.int .i64 0) := cell_gw (blk_cell b1 2 _ rfl)
  have c_b1_3 : ∀ q, (gw W q).cell? ⟨w.heap.size + 1, 3, none⟩ = some (.int .i64 0) := cell_gw (blk_cell b1 3 _ rfl)
  have f_b1 := blk_frozen b1
  have cV := fun w => ivalid_any a b c d w
  have cN := fun w => neg_any a b w
  have cM := fun w => neg_any c d w
  unfold M.ineg
  generalize M.ivld a b c d = v1 at cV ⊢
  generalize M.negF a b = N1 at cN ⊢
  generalize M.negF c d = N2 at cM ⊢
  cases v1
  · rw [if_neg (by simp)]
    go_enter Try.func30, Try.ntmps30
    go_wp2_with fail
    rw [HW.out]
    go_wp2_with (go_at_call 13; with_reducible refine (callsGw (cV _)).mono ?_; rintro e w1 ⟨rfl, q, rfl⟩)
    refine bodyPost_ret (v := .tuple #[.agg #[.int .i64 0, .int .i64 0, .int .i64 0, .int .i64 0], .int .i64 1]) (by simp [results, Try.results30, go_sem, c_b1_0, c_b1_1, c_b1_2, c_b1_3]) rfl ⟨rfl, ?_⟩
    repeat (refine belowSet ?_ (by omega))
    exact below_gw hB _
  · rw [if_pos rfl]
    go_enter Try.func30, Try.ntmps30
    go_wp2_with fail
    rw [HW.out]
    go_wp2_with (go_at_call 13; with_reducible refine (callsGw (cV _)).mono ?_; rintro e w1 ⟨rfl, q, rfl⟩)
    refine wp_alo0 7 2 (by kernel_rfl) rfl (by kernel_rfl) (by kernel_rfl) ?_
    simp only [List.take_succ_cons, List.take_zero, List.drop_succ_cons, List.drop_zero]
    repeat (refine wpQb_step (fun K hK => ?_); go_simp; first | (refine hK _ ?_; clear hK K) | (apply Exists.intro; refine ⟨fun _ => ?_, hK _ ?_⟩; (first | (go_at_call 63; with_reducible exact cN _) | (go_at_call 63; with_reducible exact cM _)); clear hK K))
    refine wpQb_nil ?_
    intro q
    go_wp2
    refine bodyPost_ret (v := .tuple #[.agg #[.int .i64 N2.1, .int .i64 N2.2, .int .i64 N1.1, .int .i64 N1.2], .int .i64 0]) (by simp [results, Try.results30, go_sem, c_b1_0, c_b1_1, c_b1_2, c_b1_3]) rfl ⟨rfl, ?_⟩
    repeat (refine belowSet ?_ (by omega))
    exact below_gw hB _
theorem span4 (a b c d e f g h : Int) (n : Nat) (w : World) (T : TypeId) (hb : w.heap[n]? = some (.cells #[.int .i64 a, .int .i64 b, .int .i64 c, .int .i64 d, .int .i64 e, .int .i64 f, .int .i64 g, .int .i64 h] T)) :
    Calls Try.prog 43 #[.slice (some ⟨n, 0, none⟩) 4 4] w fun x w' => x = .returned (.agg #[.int .i64 (M.spanF [(a, b), (c, d), (e, f), (g, h)]).1, .int .i64 (M.spanF [(a, b), (c, d), (e, f), (g, h)]).2.1, .int .i64 (M.spanF [(a, b), (c, d), (e, f), (g, h)]).2.2.1, .int .i64 (M.spanF [(a, b), (c, d), (e, f), (g, h)]).2.2.2]) ∧ Below w.heap.size w w' := by
  refine span_any [(a, b), (c, d), (e, f), (g, h)] n 0 4 w (by simp) (by simp) (by simp) (by simp) ?_ ?_
  all_goals
    intro x hx
    rcases x with _ | _ | _ | _ | x
    · exact blk_cell hb _ _ rfl
    · exact blk_cell hb _ _ rfl
    · exact blk_cell hb _ _ rfl
    · exact blk_cell hb _ _ rfl
    · simp at hx; omega
set_option maxRecDepth 100000 in
set_option maxHeartbeats 4000000 in
theorem ihull_any (a b c d e f g h : Int) (w : World) :
    Calls Try.prog 18 #[.agg #[.int .i64 a, .int .i64 b, .int .i64 c, .int .i64 d], .agg #[.int .i64 e, .int .i64 f, .int .i64 g, .int .i64 h]] w fun x w' => x = .returned (.tuple #[.agg #[.int .i64 (M.ihull a b c d e f g h).1, .int .i64 (M.ihull a b c d e f g h).2.1, .int .i64 (M.ihull a b c d e f g h).2.2.1, .int .i64 (M.ihull a b c d e f g h).2.2.2.1], .int .i64 (M.ihull a b c d e f g h).2.2.2.2]) ∧ Below w.heap.size w w' := by
  obtain ⟨W, hW, hB, hS, b0, b1, b2⟩ := lay3 w #[.int .i64 a, .int .i64 b, .int .i64 c, .int .i64 d] 25 #[.int .i64 e, .int .i64 f, .int .i64 g, .int .i64 h] 25 #[.int .i64 0, .int .i64 0, .int .i64 0, .int .i64 0] 25
  obtain ⟨p0, hp0⟩ := gw_start W
  have HW := Lib.hid (hW.trans hp0)
  clear hW hp0
  have c_b0_0 : ∀ q, (gw W q).cell? ⟨w.heap.size, 0, none⟩ = some (.int .i64 a) := cell_gw (blk_cell b0 0 _ rfl)
  have c_b0_1 : ∀ q, (gw W q).cell? ⟨w.heap.size, 1, none⟩ = some (.int .i64 b) := cell_gw (blk_cell b0 1 _ rfl)
  have c_b0_2 : ∀ q, (gw W q).cell? ⟨w.heap.size, 2, none⟩ = some (.int .i64 c) := cell_gw (blk_cell b0 2 _ rfl)
  have c_b0_3 : ∀ q, (gw W q).cell? ⟨w.heap.size, 3, none⟩ = some (.int .i64 d) := cell_gw (blk_cell b0 3 _ rfl)
  have f_b0 := blk_frozen b0
  have c_b1_0 : ∀ q, (gw W q).cell? ⟨w.heap.size + 1, 0, none⟩ = some (.int .i64 e) := cell_gw (blk_cell b1 0 _ rfl)
  have c_b1_1 : ∀ q, (gw W q).cell? ⟨w.heap.size + 1, 1, none⟩ = some (.int .i64 f) := cell_gw (blk_cell b1 1 _ rfl)
  have c_b1_2 : ∀ q, (gw W q).cell? ⟨w.heap.size + 1, 2, none⟩ = some (.int .i64 g) := cell_gw (blk_cell b1 2 _ rfl)
  have c_b1_3 : ∀ q, (gw W q).cell? ⟨w.heap.size + 1, 3, none⟩ = some (.int .i64 h) := cell_gw (blk_cell b1 3 _ rfl)
  have f_b1 := blk_frozen b1
  have c_b2_0 : ∀ q, (gw W q).cell? ⟨w.heap.size + 1 + 1, 0, none⟩ = some (.int .i64 0) := cell_gw (blk_cell b2 0 _ rfl)
  have c_b2_1 : ∀ q, (gw W q).cell? ⟨w.heap.size + 1 + 1, 1, none⟩ = some (.int .i64 0) := cell_gw (blk_cell b2 1 _ rfl)
  have c_b2_2 : ∀ q, (gw W q).cell? ⟨w.heap.size + 1 + 1, 2, none⟩ = some (.int .i64 0) := cell_gw (blk_cell b2 2 _ rfl)
  have c_b2_3 : ∀ q, (gw W q).cell? ⟨w.heap.size + 1 + 1, 3, none⟩ = some (.int .i64 0) := cell_gw (blk_cell b2 3 _ rfl)
  have f_b2 := blk_frozen b2
  have cV := fun w => both_any a b c d e f g h w
  have cE := fun n w T hb => span4 a b c d e f g h n w T hb
  unfold M.ihull
  generalize (M.ivld a b c d && M.ivld e f g h) = v1 at cV ⊢
  generalize M.spanF [(a, b), (c, d), (e, f), (g, h)] = R at cE ⊢
  cases v1
  · rw [if_neg (by simp)]
    go_enter Try.func18, Try.ntmps18
    go_wp2_with fail
    rw [HW.out]
    go_wp2_with (go_at_call 42; with_reducible refine (callsGw (cV _)).mono ?_; rintro e w1 ⟨rfl, q, rfl⟩)
    refine bodyPost_ret (v := .tuple #[.agg #[.int .i64 0, .int .i64 0, .int .i64 0, .int .i64 0], .int .i64 1]) (by simp [results, Try.results18, go_sem, c_b2_0, c_b2_1, c_b2_2, c_b2_3]) rfl ⟨rfl, ?_⟩
    repeat (refine belowSet ?_ (by omega))
    exact below_gw hB _
  · rw [if_pos rfl]
    go_enter Try.func18, Try.ntmps18
    go_wp2_with fail
    rw [HW.out]
    go_wp2_with (go_at_call 42; with_reducible refine (callsGw (cV _)).mono ?_; rintro e w1 ⟨rfl, q, rfl⟩)
    clear c_b0_0 c_b0_1 c_b0_2 c_b0_3 f_b0 c_b1_0 c_b1_1 c_b1_2 c_b1_3 f_b1 c_b2_0 c_b2_1 c_b2_2 c_b2_3 f_b2
    obtain ⟨X, n, en, hnn, gen, ltn, bn, kn, ln⟩ := laid W #[.int .i64 a, .int .i64 b, .int .i64 c, .int .i64 d, .int .i64 e, .int .i64 f, .int .i64 g, .int .i64 h] 23 q
    rw [en]
    simp only [hnn]
    have b0 := kn _ _ b0
    have b1 := kn _ _ b1
    have b2 := kn _ _ b2
    have hB := ln _ hB
    clear en hnn
    have c_bn_0 : ∀ q, (gw X q).cell? ⟨n, 0, none⟩ = some (.int .i64 a) := cell_gw (blk_cell bn 0 _ rfl)
    have c_bn_1 : ∀ q, (gw X q).cell? ⟨n, 1, none⟩ = some (.int .i64 b) := cell_gw (blk_cell bn 1 _ rfl)
    have c_bn_2 : ∀ q, (gw X q).cell? ⟨n, 2, none⟩ = some (.int .i64 c) := cell_gw (blk_cell bn 2 _ rfl)
    have c_bn_3 : ∀ q, (gw X q).cell? ⟨n, 3, none⟩ = some (.int .i64 d) := cell_gw (blk_cell bn 3 _ rfl)
    have c_bn_4 : ∀ q, (gw X q).cell? ⟨n, 4, none⟩ = some (.int .i64 e) := cell_gw (blk_cell bn 4 _ rfl)
    have c_bn_5 : ∀ q, (gw X q).cell? ⟨n, 5, none⟩ = some (.int .i64 f) := cell_gw (blk_cell bn 5 _ rfl)
    have c_bn_6 : ∀ q, (gw X q).cell? ⟨n, 6, none⟩ = some (.int .i64 g) := cell_gw (blk_cell bn 6 _ rfl)
    have c_bn_7 : ∀ q, (gw X q).cell? ⟨n, 7, none⟩ = some (.int .i64 h) := cell_gw (blk_cell bn 7 _ rfl)
    have f_bn := blk_frozen bn
    have c_b2_0 : ∀ q, (gw X q).cell? ⟨w.heap.size + 1 + 1, 0, none⟩ = some (.int .i64 0) := cell_gw (blk_cell b2 0 _ rfl)
    have c_b2_1 : ∀ q, (gw X q).cell? ⟨w.heap.size + 1 + 1, 1, none⟩ = some (.int .i64 0) := cell_gw (blk_cell b2 1 _ rfl)
    have c_b2_2 : ∀ q, (gw X q).cell? ⟨w.heap.size + 1 + 1, 2, none⟩ = some (.int .i64 0) := cell_gw (blk_cell b2 2 _ rfl)
    have c_b2_3 : ∀ q, (gw X q).cell? ⟨w.heap.size + 1 + 1, 3, none⟩ = some (.int .i64 0) := cell_gw (blk_cell b2 3 _ rfl)
    have f_b2 := blk_frozen b2
    refine (callsGw (cE n _ _ (block_gw bn _))).mono ?_
    rintro r w1 ⟨rfl, q1, rfl⟩
    go_wp2_with fail
    refine bodyPost_ret (v := .tuple #[.agg #[.int .i64 R.1, .int .i64 R.2.1, .int .i64 R.2.2.1, .int .i64 R.2.2.2], .int .i64 0]) (by simp [results, Try.results18, go_sem, c_b2_0, c_b2_1, c_b2_2, c_b2_3]) rfl ⟨rfl, ?_⟩
    repeat (refine belowSet ?_ (by omega))
    exact below_gw hB _
set_option maxRecDepth 100000 in
set_option maxHeartbeats 4000000 in
theorem isect_any (a b c d e f g h : Int) (w : World) :
    Calls Try.prog 19 #[.agg #[.int .i64 a, .int .i64 b, .int .i64 c, .int .i64 d], .agg #[.int .i64 e, .int .i64 f, .int .i64 g, .int .i64 h]] w fun x w' => x = .returned (.tuple #[.agg #[.int .i64 (M.isect a b c d e f g h).1, .int .i64 (M.isect a b c d e f g h).2.1, .int .i64 (M.isect a b c d e f g h).2.2.1, .int .i64 (M.isect a b c d e f g h).2.2.2.1], .int .i64 (M.isect a b c d e f g h).2.2.2.2]) ∧ Below w.heap.size w w' := by
  obtain ⟨W, hW, hB, hS, b0, b1, b2⟩ := lay3 w #[.int .i64 a, .int .i64 b, .int .i64 c, .int .i64 d] 25 #[.int .i64 e, .int .i64 f, .int .i64 g, .int .i64 h] 25 #[.int .i64 0, .int .i64 0, .int .i64 0, .int .i64 0] 25
  obtain ⟨p0, hp0⟩ := gw_start W
  have HW := Lib.hid (hW.trans hp0)
  clear hW hp0
  have c_b0_0 : ∀ q, (gw W q).cell? ⟨w.heap.size, 0, none⟩ = some (.int .i64 a) := cell_gw (blk_cell b0 0 _ rfl)
  have c_b0_1 : ∀ q, (gw W q).cell? ⟨w.heap.size, 1, none⟩ = some (.int .i64 b) := cell_gw (blk_cell b0 1 _ rfl)
  have c_b0_2 : ∀ q, (gw W q).cell? ⟨w.heap.size, 2, none⟩ = some (.int .i64 c) := cell_gw (blk_cell b0 2 _ rfl)
  have c_b0_3 : ∀ q, (gw W q).cell? ⟨w.heap.size, 3, none⟩ = some (.int .i64 d) := cell_gw (blk_cell b0 3 _ rfl)
  have f_b0 := blk_frozen b0
  have c_b1_0 : ∀ q, (gw W q).cell? ⟨w.heap.size + 1, 0, none⟩ = some (.int .i64 e) := cell_gw (blk_cell b1 0 _ rfl)
  have c_b1_1 : ∀ q, (gw W q).cell? ⟨w.heap.size + 1, 1, none⟩ = some (.int .i64 f) := cell_gw (blk_cell b1 1 _ rfl)
  have c_b1_2 : ∀ q, (gw W q).cell? ⟨w.heap.size + 1, 2, none⟩ = some (.int .i64 g) := cell_gw (blk_cell b1 2 _ rfl)
  have c_b1_3 : ∀ q, (gw W q).cell? ⟨w.heap.size + 1, 3, none⟩ = some (.int .i64 h) := cell_gw (blk_cell b1 3 _ rfl)
  have f_b1 := blk_frozen b1
  have c_b2_0 : ∀ q, (gw W q).cell? ⟨w.heap.size + 1 + 1, 0, none⟩ = some (.int .i64 0) := cell_gw (blk_cell b2 0 _ rfl)
  have c_b2_1 : ∀ q, (gw W q).cell? ⟨w.heap.size + 1 + 1, 1, none⟩ = some (.int .i64 0) := cell_gw (blk_cell b2 1 _ rfl)
  have c_b2_2 : ∀ q, (gw W q).cell? ⟨w.heap.size + 1 + 1, 2, none⟩ = some (.int .i64 0) := cell_gw (blk_cell b2 2 _ rfl)
  have c_b2_3 : ∀ q, (gw W q).cell? ⟨w.heap.size + 1 + 1, 3, none⟩ = some (.int .i64 0) := cell_gw (blk_cell b2 3 _ rfl)
  have f_b2 := blk_frozen b2
  have cV := fun w => both_any a b c d e f g h w
  have cL := fun w => morer_any a b e f w
  have cM := fun w => lessr_any c d g h w
  have cI := fun (l m : Int × Int × Int) w => ivalid_any l.1 l.2.1 m.1 m.2.1 w
  unfold M.isect
  generalize (M.ivld a b c d && M.ivld e f g h) = v1 at cV ⊢
  generalize M.morer a b e f = l at cL ⊢
  generalize M.lessr c d g h = m at cM ⊢
  have cI := cI l m
  cases v1
  · rw [if_neg (by simp)]
    go_enter Try.func19, Try.ntmps19
    go_wp2_with fail
    rw [HW.out]
    go_wp2_with (go_at_call 42; with_reducible refine (callsGw (cV _)).mono ?_; rintro e w1 ⟨rfl, q, rfl⟩)
    refine bodyPost_ret (v := .tuple #[.agg #[.int .i64 0, .int .i64 0, .int .i64 0, .int .i64 0], .int .i64 1]) (by simp [results, Try.results19, go_sem, c_b2_0, c_b2_1, c_b2_2, c_b2_3]) rfl ⟨rfl, ?_⟩
    repeat (refine belowSet ?_ (by omega))
    exact below_gw hB _
  · rw [if_pos rfl]
    dsimp only
    generalize M.ivld l.1 l.2.1 m.1 m.2.1 = v2 at cI ⊢
    cases v2
    · rw [if_neg (by simp)]
      go_enter Try.func19, Try.ntmps19
      go_wp2_with fail
      rw [HW.out]
      go_upto_region 4 with (go_at_call 42; with_reducible refine (callsGw (cV _)).mono ?_; rintro e w1 ⟨rfl, q, rfl⟩)
      obtain ⟨X, n, en, hnn, gen, ltn, bn, kn, ln⟩ := laid W #[.int .i64 0, .int .i64 0, .int .i64 0, .int .i64 0] 25 q
      rw [en]
      simp only [hnn]
      have b0 := kn _ _ b0
      have b1 := kn _ _ b1
      have b2 := kn _ _ b2
      have hB := ln _ hB
      clear en hnn
      have c_bn_0 : ∀ q, (gw X q).cell? ⟨n, 0, none⟩ = some (.int .i64 0) := cell_gw (blk_cell bn 0 _ rfl)
      have c_bn_1 : ∀ q, (gw X q).cell? ⟨n, 1, none⟩ = some (.int .i64 0) := cell_gw (blk_cell bn 1 _ rfl)
      have c_bn_2 : ∀ q, (gw X q).cell? ⟨n, 2, none⟩ = some (.int .i64 0) := cell_gw (blk_cell bn 2 _ rfl)
      have c_bn_3 : ∀ q, (gw X q).cell? ⟨n, 3, none⟩ = some (.int .i64 0) := cell_gw (blk_cell bn 3 _ rfl)
      have f_bn := blk_frozen bn
      have c_b0_0 : ∀ q, (gw X q).cell? ⟨w.heap.size, 0, none⟩ = some (.int .i64 a) := cell_gw (blk_cell b0 0 _ rfl)
      have c_b0_1 : ∀ q, (gw X q).cell? ⟨w.heap.size, 1, none⟩ = some (.int .i64 b) := cell_gw (blk_cell b0 1 _ rfl)
      have c_b0_2 : ∀ q, (gw X q).cell? ⟨w.heap.size, 2, none⟩ = some (.int .i64 c) := cell_gw (blk_cell b0 2 _ rfl)
      have c_b0_3 : ∀ q, (gw X q).cell? ⟨w.heap.size, 3, none⟩ = some (.int .i64 d) := cell_gw (blk_cell b0 3 _ rfl)
      have f_b0 := blk_frozen b0
      have c_b1_0 : ∀ q, (gw X q).cell? ⟨w.heap.size + 1, 0, none⟩ = some (.int .i64 e) := cell_gw (blk_cell b1 0 _ rfl)
      have c_b1_1 : ∀ q, (gw X q).cell? ⟨w.heap.size + 1, 1, none⟩ = some (.int .i64 f) := cell_gw (blk_cell b1 1 _ rfl)
      have c_b1_2 : ∀ q, (gw X q).cell? ⟨w.heap.size + 1, 2, none⟩ = some (.int .i64 g) := cell_gw (blk_cell b1 2 _ rfl)
      have c_b1_3 : ∀ q, (gw X q).cell? ⟨w.heap.size + 1, 3, none⟩ = some (.int .i64 h) := cell_gw (blk_cell b1 3 _ rfl)
      have f_b1 := blk_frozen b1
      go_upto_region 5 with (go_at_call 44; with_reducible refine (callsGw (cL _)).mono ?_; rintro e w1 ⟨rfl, q, rfl⟩)
      obtain ⟨Y, eY, sY, nb, kY, lY⟩ := storedP2 (A' := #[.int .i64 l.1, .int .i64 l.2.1, .int .i64 0, .int .i64 0]) q bn 0 1 (.int .i64 l.1) (.int .i64 l.2.1) rfl
      rw [eY]
      have b0 := kY _ _ (by omega) b0
      have b1 := kY _ _ (by omega) b1
      have b2 := kY _ _ (by omega) b2
      have hB := lY _ (by omega) hB
      have bn := nb
      clear nb
      have c_bn_0 : ∀ q, (gw Y q).cell? ⟨n, 0, none⟩ = some (.int .i64 l.1) := cell_gw (blk_cell bn 0 _ rfl)
      have c_bn_1 : ∀ q, (gw Y q).cell? ⟨n, 1, none⟩ = some (.int .i64 l.2.1) := cell_gw (blk_cell bn 1 _ rfl)
      have c_bn_2 : ∀ q, (gw Y q).cell? ⟨n, 2, none⟩ = some (.int .i64 0) := cell_gw (blk_cell bn 2 _ rfl)
      have c_bn_3 : ∀ q, (gw Y q).cell? ⟨n, 3, none⟩ = some (.int .i64 0) := cell_gw (blk_cell bn 3 _ rfl)
      have f_bn := blk_frozen bn
      have c_b0_0 : ∀ q, (gw Y q).cell? ⟨w.heap.size, 0, none⟩ = some (.int .i64 a) := cell_gw (blk_cell b0 0 _ rfl)
      have c_b0_1 : ∀ q, (gw Y q).cell? ⟨w.heap.size, 1, none⟩ = some (.int .i64 b) := cell_gw (blk_cell b0 1 _ rfl)
      have c_b0_2 : ∀ q, (gw Y q).cell? ⟨w.heap.size, 2, none⟩ = some (.int .i64 c) := cell_gw (blk_cell b0 2 _ rfl)
      have c_b0_3 : ∀ q, (gw Y q).cell? ⟨w.heap.size, 3, none⟩ = some (.int .i64 d) := cell_gw (blk_cell b0 3 _ rfl)
      have f_b0 := blk_frozen b0
      have c_b1_0 : ∀ q, (gw Y q).cell? ⟨w.heap.size + 1, 0, none⟩ = some (.int .i64 e) := cell_gw (blk_cell b1 0 _ rfl)
      have c_b1_1 : ∀ q, (gw Y q).cell? ⟨w.heap.size + 1, 1, none⟩ = some (.int .i64 f) := cell_gw (blk_cell b1 1 _ rfl)
      have c_b1_2 : ∀ q, (gw Y q).cell? ⟨w.heap.size + 1, 2, none⟩ = some (.int .i64 g) := cell_gw (blk_cell b1 2 _ rfl)
      have c_b1_3 : ∀ q, (gw Y q).cell? ⟨w.heap.size + 1, 3, none⟩ = some (.int .i64 h) := cell_gw (blk_cell b1 3 _ rfl)
      have f_b1 := blk_frozen b1
      go_upto_region 6 with (go_at_call 45; with_reducible refine (callsGw (cM _)).mono ?_; rintro e w1 ⟨rfl, q, rfl⟩)
      obtain ⟨Z, eZ, sZ, nb, kZ, lZ⟩ := storedP2 (A' := #[.int .i64 l.1, .int .i64 l.2.1, .int .i64 m.1, .int .i64 m.2.1]) q bn 2 3 (.int .i64 m.1) (.int .i64 m.2.1) rfl
      rw [eZ]
      have b0 := kZ _ _ (by omega) b0
      have b1 := kZ _ _ (by omega) b1
      have b2 := kZ _ _ (by omega) b2
      have hB := lZ _ (by omega) hB
      have bn := nb
      clear nb
      have c_bn_0 : ∀ q, (gw Z q).cell? ⟨n, 0, none⟩ = some (.int .i64 l.1) := cell_gw (blk_cell bn 0 _ rfl)
      have c_bn_1 : ∀ q, (gw Z q).cell? ⟨n, 1, none⟩ = some (.int .i64 l.2.1) := cell_gw (blk_cell bn 1 _ rfl)
      have c_bn_2 : ∀ q, (gw Z q).cell? ⟨n, 2, none⟩ = some (.int .i64 m.1) := cell_gw (blk_cell bn 2 _ rfl)
      have c_bn_3 : ∀ q, (gw Z q).cell? ⟨n, 3, none⟩ = some (.int .i64 m.2.1) := cell_gw (blk_cell bn 3 _ rfl)
      have f_bn := blk_frozen bn
      have c_b2_0 : ∀ q, (gw Z q).cell? ⟨w.heap.size + 1 + 1, 0, none⟩ = some (.int .i64 0) := cell_gw (blk_cell b2 0 _ rfl)
      have c_b2_1 : ∀ q, (gw Z q).cell? ⟨w.heap.size + 1 + 1, 1, none⟩ = some (.int .i64 0) := cell_gw (blk_cell b2 1 _ rfl)
      have c_b2_2 : ∀ q, (gw Z q).cell? ⟨w.heap.size + 1 + 1, 2, none⟩ = some (.int .i64 0) := cell_gw (blk_cell b2 2 _ rfl)
      have c_b2_3 : ∀ q, (gw Z q).cell? ⟨w.heap.size + 1 + 1, 3, none⟩ = some (.int .i64 0) := cell_gw (blk_cell b2 3 _ rfl)
      have f_b2 := blk_frozen b2
      go_wp2_with (go_at_call 13; with_reducible refine (callsGw (cI _)).mono ?_; rintro e w1 ⟨rfl, q, rfl⟩)
      refine bodyPost_ret (v := .tuple #[.agg #[.int .i64 0, .int .i64 0, .int .i64 0, .int .i64 0], .int .i64 8]) (by simp [results, Try.results19, go_sem, c_b2_0, c_b2_1, c_b2_2, c_b2_3]) rfl ⟨rfl, ?_⟩
      repeat (refine belowSet ?_ (by omega))
      exact below_gw hB _
    · rw [if_pos rfl]
      go_enter Try.func19, Try.ntmps19
      go_wp2_with fail
      rw [HW.out]
      go_upto_region 4 with (go_at_call 42; with_reducible refine (callsGw (cV _)).mono ?_; rintro e w1 ⟨rfl, q, rfl⟩)
      obtain ⟨X, n, en, hnn, gen, ltn, bn, kn, ln⟩ := laid W #[.int .i64 0, .int .i64 0, .int .i64 0, .int .i64 0] 25 q
      rw [en]
      simp only [hnn]
      have b0 := kn _ _ b0
      have b1 := kn _ _ b1
      have b2 := kn _ _ b2
      have hB := ln _ hB
      clear en hnn
      have c_bn_0 : ∀ q, (gw X q).cell? ⟨n, 0, none⟩ = some (.int .i64 0) := cell_gw (blk_cell bn 0 _ rfl)
      have c_bn_1 : ∀ q, (gw X q).cell? ⟨n, 1, none⟩ = some (.int .i64 0) := cell_gw (blk_cell bn 1 _ rfl)
      have c_bn_2 : ∀ q, (gw X q).cell? ⟨n, 2, none⟩ = some (.int .i64 0) := cell_gw (blk_cell bn 2 _ rfl)
      have c_bn_3 : ∀ q, (gw X q).cell? ⟨n, 3, none⟩ = some (.int .i64 0) := cell_gw (blk_cell bn 3 _ rfl)
      have f_bn := blk_frozen bn
      have c_b0_0 : ∀ q, (gw X q).cell? ⟨w.heap.size, 0, none⟩ = some (.int .i64 a) := cell_gw (blk_cell b0 0 _ rfl)
      have c_b0_1 : ∀ q, (gw X q).cell? ⟨w.heap.size, 1, none⟩ = some (.int .i64 b) := cell_gw (blk_cell b0 1 _ rfl)
      have c_b0_2 : ∀ q, (gw X q).cell? ⟨w.heap.size, 2, none⟩ = some (.int .i64 c) := cell_gw (blk_cell b0 2 _ rfl)
      have c_b0_3 : ∀ q, (gw X q).cell? ⟨w.heap.size, 3, none⟩ = some (.int .i64 d) := cell_gw (blk_cell b0 3 _ rfl)
      have f_b0 := blk_frozen b0
      have c_b1_0 : ∀ q, (gw X q).cell? ⟨w.heap.size + 1, 0, none⟩ = some (.int .i64 e) := cell_gw (blk_cell b1 0 _ rfl)
      have c_b1_1 : ∀ q, (gw X q).cell? ⟨w.heap.size + 1, 1, none⟩ = some (.int .i64 f) := cell_gw (blk_cell b1 1 _ rfl)
      have c_b1_2 : ∀ q, (gw X q).cell? ⟨w.heap.size + 1, 2, none⟩ = some (.int .i64 g) := cell_gw (blk_cell b1 2 _ rfl)
      have c_b1_3 : ∀ q, (gw X q).cell? ⟨w.heap.size + 1, 3, none⟩ = some (.int .i64 h) := cell_gw (blk_cell b1 3 _ rfl)
      have f_b1 := blk_frozen b1
      go_upto_region 5 with (go_at_call 44; with_reducible refine (callsGw (cL _)).mono ?_; rintro e w1 ⟨rfl, q, rfl⟩)
      obtain ⟨Y, eY, sY, nb, kY, lY⟩ := storedP2 (A' := #[.int .i64 l.1, .int .i64 l.2.1, .int .i64 0, .int .i64 0]) q bn 0 1 (.int .i64 l.1) (.int .i64 l.2.1) rfl
      rw [eY]
      have b0 := kY _ _ (by omega) b0
      have b1 := kY _ _ (by omega) b1
      have b2 := kY _ _ (by omega) b2
      have hB := lY _ (by omega) hB
      have bn := nb
      clear nb
      have c_bn_0 : ∀ q, (gw Y q).cell? ⟨n, 0, none⟩ = some (.int .i64 l.1) := cell_gw (blk_cell bn 0 _ rfl)
      have c_bn_1 : ∀ q, (gw Y q).cell? ⟨n, 1, none⟩ = some (.int .i64 l.2.1) := cell_gw (blk_cell bn 1 _ rfl)
      have c_bn_2 : ∀ q, (gw Y q).cell? ⟨n, 2, none⟩ = some (.int .i64 0) := cell_gw (blk_cell bn 2 _ rfl)
      have c_bn_3 : ∀ q, (gw Y q).cell? ⟨n, 3, none⟩ = some (.int .i64 0) := cell_gw (blk_cell bn 3 _ rfl)
      have f_bn := blk_frozen bn
      have c_b0_0 : ∀ q, (gw Y q).cell? ⟨w.heap.size, 0, none⟩ = some (.int .i64 a) := cell_gw (blk_cell b0 0 _ rfl)
      have c_b0_1 : ∀ q, (gw Y q).cell? ⟨w.heap.size, 1, none⟩ = some (.int .i64 b) := cell_gw (blk_cell b0 1 _ rfl)
      have c_b0_2 : ∀ q, (gw Y q).cell? ⟨w.heap.size, 2, none⟩ = some (.int .i64 c) := cell_gw (blk_cell b0 2 _ rfl)
      have c_b0_3 : ∀ q, (gw Y q).cell? ⟨w.heap.size, 3, none⟩ = some (.int .i64 d) := cell_gw (blk_cell b0 3 _ rfl)
      have f_b0 := blk_frozen b0
      have c_b1_0 : ∀ q, (gw Y q).cell? ⟨w.heap.size + 1, 0, none⟩ = some (.int .i64 e) := cell_gw (blk_cell b1 0 _ rfl)
      have c_b1_1 : ∀ q, (gw Y q).cell? ⟨w.heap.size + 1, 1, none⟩ = some (.int .i64 f) := cell_gw (blk_cell b1 1 _ rfl)
      have c_b1_2 : ∀ q, (gw Y q).cell? ⟨w.heap.size + 1, 2, none⟩ = some (.int .i64 g) := cell_gw (blk_cell b1 2 _ rfl)
      have c_b1_3 : ∀ q, (gw Y q).cell? ⟨w.heap.size + 1, 3, none⟩ = some (.int .i64 h) := cell_gw (blk_cell b1 3 _ rfl)
      have f_b1 := blk_frozen b1
      go_upto_region 6 with (go_at_call 45; with_reducible refine (callsGw (cM _)).mono ?_; rintro e w1 ⟨rfl, q, rfl⟩)
      obtain ⟨Z, eZ, sZ, nb, kZ, lZ⟩ := storedP2 (A' := #[.int .i64 l.1, .int .i64 l.2.1, .int .i64 m.1, .int .i64 m.2.1]) q bn 2 3 (.int .i64 m.1) (.int .i64 m.2.1) rfl
      rw [eZ]
      have b0 := kZ _ _ (by omega) b0
      have b1 := kZ _ _ (by omega) b1
      have b2 := kZ _ _ (by omega) b2
      have hB := lZ _ (by omega) hB
      have bn := nb
      clear nb
      have c_bn_0 : ∀ q, (gw Z q).cell? ⟨n, 0, none⟩ = some (.int .i64 l.1) := cell_gw (blk_cell bn 0 _ rfl)
      have c_bn_1 : ∀ q, (gw Z q).cell? ⟨n, 1, none⟩ = some (.int .i64 l.2.1) := cell_gw (blk_cell bn 1 _ rfl)
      have c_bn_2 : ∀ q, (gw Z q).cell? ⟨n, 2, none⟩ = some (.int .i64 m.1) := cell_gw (blk_cell bn 2 _ rfl)
      have c_bn_3 : ∀ q, (gw Z q).cell? ⟨n, 3, none⟩ = some (.int .i64 m.2.1) := cell_gw (blk_cell bn 3 _ rfl)
      have f_bn := blk_frozen bn
      have c_b2_0 : ∀ q, (gw Z q).cell? ⟨w.heap.size + 1 + 1, 0, none⟩ = some (.int .i64 0) := cell_gw (blk_cell b2 0 _ rfl)
      have c_b2_1 : ∀ q, (gw Z q).cell? ⟨w.heap.size + 1 + 1, 1, none⟩ = some (.int .i64 0) := cell_gw (blk_cell b2 1 _ rfl)
      have c_b2_2 : ∀ q, (gw Z q).cell? ⟨w.heap.size + 1 + 1, 2, none⟩ = some (.int .i64 0) := cell_gw (blk_cell b2 2 _ rfl)
      have c_b2_3 : ∀ q, (gw Z q).cell? ⟨w.heap.size + 1 + 1, 3, none⟩ = some (.int .i64 0) := cell_gw (blk_cell b2 3 _ rfl)
      have f_b2 := blk_frozen b2
      go_wp2_with (go_at_call 13; with_reducible refine (callsGw (cI _)).mono ?_; rintro e w1 ⟨rfl, q, rfl⟩)
      refine bodyPost_ret (v := .tuple #[.agg #[.int .i64 l.1, .int .i64 l.2.1, .int .i64 m.1, .int .i64 m.2.1], .int .i64 0]) (by simp [results, Try.results19, go_sem, c_b2_0, c_b2_1, c_b2_2, c_b2_3]) rfl ⟨rfl, ?_⟩
      repeat (refine belowSet ?_ (by omega))
      exact below_gw hB _
set_option maxRecDepth 100000 in
set_option maxHeartbeats 4000000 in
theorem iwidth_any (a b c d : Int) (w : World) :
    Calls Try.prog 29 #[.agg #[.int .i64 a, .int .i64 b, .int .i64 c, .int .i64 d]] w fun x w' => x = .returned (.tuple #[.agg #[.int .i64 (M.iwidth a b c d).1, .int .i64 (M.iwidth a b c d).2.1], .int .i64 (M.iwidth a b c d).2.2]) ∧ Below w.heap.size w w' := by
  obtain ⟨W, hW, hB, hS, b0, b1⟩ := lay2 w #[.int .i64 a, .int .i64 b, .int .i64 c, .int .i64 d] 25 #[.int .i64 0, .int .i64 0] 23
  obtain ⟨p0, hp0⟩ := gw_start W
  have HW := Lib.hid (hW.trans hp0)
  clear hW hp0
  have c_b0_0 : ∀ q, (gw W q).cell? ⟨w.heap.size, 0, none⟩ = some (.int .i64 a) := cell_gw (blk_cell b0 0 _ rfl)
  have c_b0_1 : ∀ q, (gw W q).cell? ⟨w.heap.size, 1, none⟩ = some (.int .i64 b) := cell_gw (blk_cell b0 1 _ rfl)
  have c_b0_2 : ∀ q, (gw W q).cell? ⟨w.heap.size, 2, none⟩ = some (.int .i64 c) := cell_gw (blk_cell b0 2 _ rfl)
  have c_b0_3 : ∀ q, (gw W q).cell? ⟨w.heap.size, 3, none⟩ = some (.int .i64 d) := cell_gw (blk_cell b0 3 _ rfl)
  have f_b0 := blk_frozen b0
  have c_b1_0 : ∀ q, (gw W q).cell? ⟨w.heap.size + 1, 0, none⟩ = some (.int .i64 0) := cell_gw (blk_cell b1 0 _ rfl)
  have c_b1_1 : ∀ q, (gw W q).cell? ⟨w.heap.size + 1, 1, none⟩ = some (.int .i64 0) := cell_gw (blk_cell b1 1 _ rfl)
  have f_b1 := blk_frozen b1
  have cV := fun w => ivalid_any a b c d w
  have cN := fun w => sub_any c d a b w
  unfold M.iwidth
  generalize M.ivld a b c d = v1 at cV ⊢
  generalize M.subF c d a b = R at cN ⊢
  cases v1
  · rw [if_neg (by simp)]
    go_enter Try.func29, Try.ntmps29
    go_wp2_with fail
    rw [HW.out]
    go_wp2_with (go_at_call 13; with_reducible refine (callsGw (cV _)).mono ?_; rintro e w1 ⟨rfl, q, rfl⟩)
    refine bodyPost_ret (v := .tuple #[.agg #[.int .i64 0, .int .i64 0], .int .i64 1]) (by simp [results, Try.results29, go_sem, c_b1_0, c_b1_1]) rfl ⟨rfl, ?_⟩
    repeat (refine belowSet ?_ (by omega))
    exact below_gw hB _
  · rw [if_pos rfl]
    obtain ⟨r1, r2, r3⟩ := R
    dsimp only at cN ⊢
    by_cases h0 : r3 = 0
    · subst h0
      rw [if_pos rfl]
      go_enter Try.func29, Try.ntmps29
      go_wp2_with fail
      rw [HW.out]
      go_upto_region 4 with (first | (go_at_call 13; with_reducible refine (callsGw (cV _)).mono ?_; rintro e w1 ⟨rfl, q, rfl⟩) | (go_at_call 62; with_reducible refine (callsGw (cN _)).mono ?_; rintro e w1 ⟨rfl, q, rfl⟩))
      obtain ⟨X, n, en, hnn, gen, ltn, bn, kn, ln⟩ := laid W #[.int .i64 r1, .int .i64 r2] 23 q
      rw [en]
      simp only [hnn]
      have b0 := kn _ _ b0
      have b1 := kn _ _ b1
      have hB := ln _ hB
      clear en hnn
      have c_bn_0 : ∀ q, (gw X q).cell? ⟨n, 0, none⟩ = some (.int .i64 r1) := cell_gw (blk_cell bn 0 _ rfl)
      have c_bn_1 : ∀ q, (gw X q).cell? ⟨n, 1, none⟩ = some (.int .i64 r2) := cell_gw (blk_cell bn 1 _ rfl)
      have f_bn := blk_frozen bn
      have c_b1_0 : ∀ q, (gw X q).cell? ⟨w.heap.size + 1, 0, none⟩ = some (.int .i64 0) := cell_gw (blk_cell b1 0 _ rfl)
      have c_b1_1 : ∀ q, (gw X q).cell? ⟨w.heap.size + 1, 1, none⟩ = some (.int .i64 0) := cell_gw (blk_cell b1 1 _ rfl)
      have f_b1 := blk_frozen b1
      go_wp2_with fail
      refine bodyPost_ret (v := .tuple #[.agg #[.int .i64 r1, .int .i64 r2], .int .i64 0]) (by simp [results, Try.results29, go_sem, c_b1_0, c_b1_1]) rfl ⟨rfl, ?_⟩
      repeat (refine belowSet ?_ (by omega))
      exact below_gw hB _
    · rw [if_neg h0]
      have h02 : (r3 == 0) = false := beq_eq_false_iff_ne.mpr h0
      go_enter Try.func29, Try.ntmps29
      go_wp2_with fail
      rw [HW.out]
      go_upto_region 4 with (first | (go_at_call 13; with_reducible refine (callsGw (cV _)).mono ?_; rintro e w1 ⟨rfl, q, rfl⟩) | (go_at_call 62; with_reducible refine (callsGw (cN _)).mono ?_; rintro e w1 ⟨rfl, q, rfl⟩))
      obtain ⟨X, n, en, hnn, gen, ltn, bn, kn, ln⟩ := laid W #[.int .i64 r1, .int .i64 r2] 23 q
      rw [en]
      simp only [hnn]
      have b0 := kn _ _ b0
      have b1 := kn _ _ b1
      have hB := ln _ hB
      clear en hnn
      have c_bn_0 : ∀ q, (gw X q).cell? ⟨n, 0, none⟩ = some (.int .i64 r1) := cell_gw (blk_cell bn 0 _ rfl)
      have c_bn_1 : ∀ q, (gw X q).cell? ⟨n, 1, none⟩ = some (.int .i64 r2) := cell_gw (blk_cell bn 1 _ rfl)
      have f_bn := blk_frozen bn
      have c_b1_0 : ∀ q, (gw X q).cell? ⟨w.heap.size + 1, 0, none⟩ = some (.int .i64 0) := cell_gw (blk_cell b1 0 _ rfl)
      have c_b1_1 : ∀ q, (gw X q).cell? ⟨w.heap.size + 1, 1, none⟩ = some (.int .i64 0) := cell_gw (blk_cell b1 1 _ rfl)
      have f_b1 := blk_frozen b1
      go_wp2_with fail
      refine bodyPost_ret (v := .tuple #[.agg #[.int .i64 0, .int .i64 0], .int .i64 5]) (by simp [results, Try.results29, go_sem, c_b1_0, c_b1_1]) rfl ⟨rfl, ?_⟩
      repeat (refine belowSet ?_ (by omega))
      exact below_gw hB _
end Go.Proofs.Ytimdklineeeieaa
