/- The reference's intervals: Point, Hull, Neg, Width, Intersect. -/
import Derived.Test.YtimdklineeeieaaR9
namespace Go.Proofs.Ytimdklineeeieaa
open Go.RowKit Go.Sort
set_option linter.unusedVariables false
set_option maxRecDepth 100000 in
theorem point_any (a b : Int) (w : World) :
    Calls Try.prog 31 #[.agg #[.int .i64 a, .int .i64 b]] w fun x w' => x = .returned (.agg #[.int .i64 a, .int .i64 b, .int .i64 a, .int .i64 b]) ∧ Below w.heap.size w w' := by
  obtain ⟨W, hW, hB, hS, b0, b1⟩ := lay2 w #[.int .i64 a, .int .i64 b] 23 #[.int .i64 a, .int .i64 b, .int .i64 a, .int .i64 b] 25
  obtain ⟨p0, hp0⟩ := gw_start W
  have HW := Lib.hid (hW.trans hp0)
  clear hW hp0
  have c_b0_0 : ∀ q, (gw W q).cell? ⟨w.heap.size, 0, none⟩ = some (.int .i64 a) := cell_gw (blk_cell b0 0 _ rfl)
  have c_b0_1 : ∀ q, (gw W q).cell? ⟨w.heap.size, 1, none⟩ = some (.int .i64 b) := cell_gw (blk_cell b0 1 _ rfl)
  have f_b0 := blk_frozen b0
  have c_b1_0 : ∀ q, (gw W q).cell? ⟨w.heap.size + 1, 0, none⟩ = some (.int .i64 a) := cell_gw (blk_cell b1 0 _ rfl)
  have c_b1_1 : ∀ q, (gw W q).cell? ⟨w.heap.size + 1, 1, none⟩ = some (.int .i64 b) := cell_gw (blk_cell b1 1 _ rfl)
  have c_b1_2 : ∀ q, (gw W q).cell? ⟨w.heap.size + 1, 2, none⟩ = some (.int .i64 a) := cell_gw (blk_cell b1 2 _ rfl)
  have c_b1_3 : ∀ q, (gw W q).cell? ⟨w.heap.size + 1, 3, none⟩ = some (.int .i64 b) := cell_gw (blk_cell b1 3 _ rfl)
  have f_b1 := blk_frozen b1
  go_enter Try.func31, Try.ntmps31
  go_wp2_with fail
  rw [HW.out]
  refine bodyPost_ret (v := .agg #[.int .i64 a, .int .i64 b, .int .i64 a, .int .i64 b]) (by simp [results, Try.results31, go_sem, c_b1_0, c_b1_1, c_b1_2, c_b1_3]) rfl ⟨rfl, ?_⟩
  repeat (refine belowSet ?_ (by omega))
  exact below_gw hB _
set_option maxRecDepth 100000 in
set_option maxHeartbeats 4000000 in
theorem rineg_any (a b c d : Int) (w : World) :
    Calls Try.prog 33 #[.agg #[.int .i64 a, .int .i64 b, .int .i64 c, .int .i64 d]] w fun x w' => x = .returned (.tuple #[.agg #[.int .i64 (M.ineg a b c d).1, .int .i64 (M.ineg a b c d).2.1, .int .i64 (M.ineg a b c d).2.2.1, .int .i64 (M.ineg a b c d).2.2.2.1], .int .i64 (M.ineg a b c d).2.2.2.2]) ∧ Below w.heap.size w w' := by
  obtain ⟨W, hW, hB, hS, b0, b1⟩ := lay2 w #[.int .i64 a, .int .i64 b, .int .i64 c, .int .i64 d] 25 #[.int .i64 0, .int .i64 0, .int .i64 0, .int .i64 0] 25
  obtain ⟨p0, hp0⟩ := gw_start W
  have HW := Lib.hid (hW.trans hp0)
  clear hW hp0
  have c_b0_0 : ∀ q, (gw W q).cell? ⟨w.heap.size, 0, none⟩ = some (.int .i64 a) := cell_gw (blk_cell b0 0 _ rfl)
  have c_b0_1 : ∀ q, (gw W q).cell? ⟨w.heap.size, 1, none⟩ = some (.int .i64 b) := cell_gw (blk_cell b0 1 _ rfl)
  have c_b0_2 : ∀ q, (gw W q).cell? ⟨w.heap.size, 2, none⟩ = some (.int .i64 c) := cell_gw (blk_cell b0 2 _ rfl)
  have c_b0_3 : ∀ q, (gw W q).cell? ⟨w.heap.size, 3, none⟩ = some (.int .i64 d) := cell_gw (blk_cell b0 3 _ rfl)
  have f_b0 := blk_frozen b0
  have c_b1_0 : ∀ q, (gw W q).cell? ⟨w.heap.size + 1, 0, none⟩ = some (.int .i64 0) := cell_gw (blk_cell b1 0 _ rfl)
  have c_b1_1 : ∀ q, (gw W q).cell? ⟨w.heap.size + 1, 1, none⟩ = some (.int .i64 0) := cell_gw (blk_cell b1 1 _ rfl)
  have c_b1_2 : ∀ q, (gw W q).cell? ⟨w.heap.size + 1, 2, none⟩ = some (.int .i64 0) := cell_gw (blk_cell b1 2 _ rfl)
  have c_b1_3 : ∀ q, (gw W q).cell? ⟨w.heap.size + 1, 3, none⟩ = some (.int .i64 0) := cell_gw (blk_cell b1 3 _ rfl)
  have f_b1 := blk_frozen b1
  have cV := fun w => rivalid_any a b c d w
  have cN := fun w => rneg_any a b w
  have cM := fun w => rneg_any c d w
  unfold M.ineg
  generalize M.ivld a b c d = v1 at cV ⊢
  generalize M.negF a b = N1 at cN ⊢
  generalize M.negF c d = N2 at cM ⊢
  cases v1
  · rw [if_neg (by simp)]
    go_enter Try.func33, Try.ntmps33
    go_wp2_with fail
    rw [HW.out]
    go_wp2_with (go_at_call 12; with_reducible refine (callsGw (cV _)).mono ?_; rintro e w1 ⟨rfl, q, rfl⟩)
    refine bodyPost_ret (v := .tuple #[.agg #[.int .i64 0, .int .i64 0, .int .i64 0, .int .i64 0], .int .i64 1]) (by simp [results, Try.results33, go_sem, c_b1_0, c_b1_1, c_b1_2, c_b1_3]) rfl ⟨rfl, ?_⟩
    repeat (refine belowSet ?_ (by omega))
    exact below_gw hB _
  · rw [if_pos rfl]
    go_enter Try.func33, Try.ntmps33
    go_wp2_with fail
    rw [HW.out]
    go_wp2_with (go_at_call 12; with_reducible refine (callsGw (cV _)).mono ?_; rintro e w1 ⟨rfl, q, rfl⟩)
    refine wp_alo0 7 2 (by kernel_rfl) rfl (by kernel_rfl) (by kernel_rfl) ?_
    simp only [List.take_succ_cons, List.take_zero, List.drop_succ_cons, List.drop_zero]
    repeat (refine wpQb_step (fun K hK => ?_); go_simp; first | (refine hK _ ?_; clear hK K) | (apply Exists.intro; refine ⟨fun _ => ?_, hK _ ?_⟩; (first | (go_at_call 64; with_reducible exact cN _) | (go_at_call 64; with_reducible exact cM _)); clear hK K))
    refine wpQb_nil ?_
    intro q
    go_wp2
    refine bodyPost_ret (v := .tuple #[.agg #[.int .i64 N2.1, .int .i64 N2.2, .int .i64 N1.1, .int .i64 N1.2], .int .i64 0]) (by simp [results, Try.results33, go_sem, c_b1_0, c_b1_1, c_b1_2, c_b1_3]) rfl ⟨rfl, ?_⟩
    repeat (refine belowSet ?_ (by omega))
    exact below_gw hB _
set_option maxRecDepth 100000 in
set_option maxHeartbeats 4000000 in
theorem riwidth_any (a b c d : Int) (w : World) :
    Calls Try.prog 32 #[.agg #[.int .i64 a, .int .i64 b, .int .i64 c, .int .i64 d]] w fun x w' => x = .returned (.tuple #[.agg #[.int .i64 (M.iwidth a b c d).1, .int .i64 (M.iwidth a b c d).2.1], .int .i64 (M.iwidth a b c d).2.2]) ∧ Below w.heap.size w w' := by
  obtain ⟨W, hW, hB, hS, b0, b1⟩ := lay2 w #[.int .i64 a, .int .i64 b, .int .i64 c, .int .i64 d] 25 #[.int .i64 0, .int .i64 0] 23
  obtain ⟨p0, hp0⟩ := gw_start W
  have HW := Lib.hid (hW.trans hp0)
  clear hW hp0
  have c_b0_0 : ∀ q, (gw W q).cell? ⟨w.heap.size, 0, none⟩ = some (.int .i64 a) := cell_gw (blk_cell b0 0 _ rfl)
  have c_b0_1 : ∀ q, (gw W q).cell? ⟨w.heap.size, 1, none⟩ = some (.int .i64 b) := cell_gw (blk_cell b0 1 _ rfl)
  have c_b0_2 : ∀ q, (gw W q).cell? ⟨w.heap.size, 2, none⟩ = some (.int .i64 c) := cell_gw (blk_cell b0 2 _ rfl)
  have c_b0_3 : ∀ q, (gw W q).cell? ⟨w.heap.size, 3, none⟩ = some (.int .i64 d) := cell_gw (blk_cell b0 3 _ rfl)
  have f_b0 := blk_frozen b0
  have c_b1_0 : ∀ q, (gw W q).cell? ⟨w.heap.size + 1, 0, none⟩ = some (.int .i64 0) := cell_gw (blk_cell b1 0 _ rfl)
  have c_b1_1 : ∀ q, (gw W q).cell? ⟨w.heap.size + 1, 1, none⟩ = some (.int .i64 0) := cell_gw (blk_cell b1 1 _ rfl)
  have f_b1 := blk_frozen b1
  have cV := fun w => rivalid_any a b c d w
  have cN := fun w => rsub_any c d a b w
  unfold M.iwidth
  generalize M.ivld a b c d = v1 at cV ⊢
  generalize M.subF c d a b = R at cN ⊢
  cases v1
  · rw [if_neg (by simp)]
    go_enter Try.func32, Try.ntmps32
    go_wp2_with fail
    rw [HW.out]
    go_wp2_with (go_at_call 12; with_reducible refine (callsGw (cV _)).mono ?_; rintro e w1 ⟨rfl, q, rfl⟩)
    refine bodyPost_ret (v := .tuple #[.agg #[.int .i64 0, .int .i64 0], .int .i64 1]) (by simp [results, Try.results32, go_sem, c_b1_0, c_b1_1]) rfl ⟨rfl, ?_⟩
    repeat (refine belowSet ?_ (by omega))
    exact below_gw hB _
  · rw [if_pos rfl]
    obtain ⟨r1, r2, r3⟩ := R
    dsimp only at cN ⊢
    by_cases h0 : r3 = 0
    · subst h0
      rw [if_pos rfl]
      go_enter Try.func32, Try.ntmps32
      go_wp2_with fail
      rw [HW.out]
      go_upto_region 4 with (first | (go_at_call 12; with_reducible refine (callsGw (cV _)).mono ?_; rintro e w1 ⟨rfl, q, rfl⟩) | (go_at_call 52; with_reducible refine (callsGw (cN _)).mono ?_; rintro e w1 ⟨rfl, q, rfl⟩))
      obtain ⟨X, n, en, hnn, gen, ltn, bn, kn, ln⟩ := laid W #[.int .i64 r1, .int .i64 r2] 23 q
      rw [en]
      simp only [hnn]
      have b0 := kn _ _ b0
      have b1 := kn _ _ b1
      have hB := ln _ hB
      clear en hnn
      have c_bn_0 : ∀ q, (gw X q).cell? ⟨n, 0, none⟩ = some (.int .i64 r1) := cell_gw (blk_cell bn 0 _ rfl)
      have c_bn_1 : ∀ q, (gw X q).cell? ⟨n, 1, none⟩ = some (.int .i64 r2) := cell_gw (blk_cell bn 1 _ rfl)
      have f_bn := blk_frozen bn
      have c_b1_0 : ∀ q, (gw X q).cell? ⟨w.heap.size + 1, 0, none⟩ = some (.int .i64 0) := cell_gw (blk_cell b1 0 _ rfl)
      have c_b1_1 : ∀ q, (gw X q).cell? ⟨w.heap.size + 1, 1, none⟩ = some (.int .i64 0) := cell_gw (blk_cell b1 1 _ rfl)
      have f_b1 := blk_frozen b1
      go_wp2_with fail
      refine bodyPost_ret (v := .tuple #[.agg #[.int .i64 r1, .int .i64 r2], .int .i64 0]) (by simp [results, Try.results32, go_sem, c_b1_0, c_b1_1]) rfl ⟨rfl, ?_⟩
      repeat (refine belowSet ?_ (by omega))
      exact below_gw hB _
    · rw [if_neg h0]
      have h02 : (r3 == 0) = false := beq_eq_false_iff_ne.mpr h0
      go_enter Try.func32, Try.ntmps32
      go_wp2_with fail
      rw [HW.out]
      go_upto_region 4 with (first | (go_at_call 12; with_reducible refine (callsGw (cV _)).mono ?_; rintro e w1 ⟨rfl, q, rfl⟩) | (go_at_call 52; with_reducible refine (callsGw (cN _)).mono ?_; rintro e w1 ⟨rfl, q, rfl⟩))
      obtain ⟨X, n, en, hnn, gen, ltn, bn, kn, ln⟩ := laid W #[.int .i64 r1, .int .i64 r2] 23 q
      rw [en]
      simp only [hnn]
      have b0 := kn _ _ b0
      have b1 := kn _ _ b1
      have hB := ln _ hB
      clear en hnn
      have c_bn_0 : ∀ q, (gw X q).cell? ⟨n, 0, none⟩ = some (.int .i64 r1) := cell_gw (blk_cell bn 0 _ rfl)
      have c_bn_1 : ∀ q, (gw X q).cell? ⟨n, 1, none⟩ = some (.int .i64 r2) := cell_gw (blk_cell bn 1 _ rfl)
      have f_bn := blk_frozen bn
      have c_b1_0 : ∀ q, (gw X q).cell? ⟨w.heap.size + 1, 0, none⟩ = some (.int .i64 0) := cell_gw (blk_cell b1 0 _ rfl)
      have c_b1_1 : ∀ q, (gw X q).cell? ⟨w.heap.size + 1, 1, none⟩ = some (.int .i64 0) := cell_gw (blk_cell b1 1 _ rfl)
      have f_b1 := blk_frozen b1
      go_wp2_with fail
      refine bodyPost_ret (v := .tuple #[.agg #[.int .i64 0, .int .i64 0], .int .i64 5]) (by simp [results, Try.results32, go_sem, c_b1_0, c_b1_1]) rfl ⟨rfl, ?_⟩
      repeat (refine belowSet ?_ (by omega))
      exact below_gw hB _

set_option maxRecDepth 100000 in
set_option maxHeartbeats 4000000 in
theorem rhull_any (a b c d e f g h : Int) (w : World) :
    Calls Try.prog 20 #[.agg #[.int .i64 a, .int .i64 b, .int .i64 c, .int .i64 d], .agg #[.int .i64 e, .int .i64 f, .int .i64 g, .int .i64 h]] w fun x w' => x = .returned (.tuple #[.agg #[.int .i64 (M.rhull a b c d e f g h).1, .int .i64 (M.rhull a b c d e f g h).2.1, .int .i64 (M.rhull a b c d e f g h).2.2.1, .int .i64 (M.rhull a b c d e f g h).2.2.2.1], .int .i64 (M.rhull a b c d e f g h).2.2.2.2]) ∧ Below w.heap.size w w' := by
  obtain ⟨W, hW, hB, hS, b0, b1, b2⟩ := lay3 w #[.int .i64 a, .int .i64 b, .int .i64 c, .int .i64 d] 25 #[.int .i64 e, .int .i64 f, .int .i64 g, .int .i64 h] 25 #[.int .i64 0, .int .i64 0, .int .i64 0, .int .i64 0] 25
  obtain ⟨p0, hp0⟩ := gw_start W
  have HW := Lib.hid (hW.trans hp0)
  clear hW hp0
  have c_b0_0 : ∀ q, (gw W q).cell? ⟨w.heap.size, 0, none⟩ = some (.int .i64 a) := cell_gw (blk_cell b0 0 _ rfl)
  have c_b0_1 : ∀ q, (gw W q).cell? ⟨w.heap.size, 1, none⟩ = some (.int .i64 b) := cell_gw (blk_cell b0 1 _ rfl)
  have c_b0_2 : ∀ q, (gw W q).cell? ⟨w.heap.size, 2, none⟩ = some (.int .i64 c) := cell_gw (blk_cell b0 2 _ rfl)
  have c_b0_3 : ∀ q, (gw W q).cell? ⟨w.heap.size, 3, none⟩ = some (.int .i64 d) := cell_gw (blk_cell b0 3 _ rfl)
  have f_b0 := blk_frozen b0
  have c_b1_0 : ∀ q, (gw W q).cell? ⟨w.heap.size + 1, 0, none⟩ = some (.int .i64 e) := cell_gw (blk_cell b1 0 _ rfl)
  have c_b1_1 : ∀ q, (gw W q).cell? ⟨w.heap.size + 1, 1, none⟩ = some (.int .i64 f) := cell_gw (blk_cell b1 1 _ rfl)
  have c_b1_2 : ∀ q, (gw W q).cell? ⟨w.heap.size + 1, 2, none⟩ = some (.int .i64 g) := cell_gw (blk_cell b1 2 _ rfl)
  have c_b1_3 : ∀ q, (gw W q).cell? ⟨w.heap.size + 1, 3, none⟩ = some (.int .i64 h) := cell_gw (blk_cell b1 3 _ rfl)
  have f_b1 := blk_frozen b1
  have c_b2_0 : ∀ q, (gw W q).cell? ⟨w.heap.size + 1 + 1, 0, none⟩ = some (.int .i64 0) := cell_gw (blk_cell b2 0 _ rfl)
  have c_b2_1 : ∀ q, (gw W q).cell? ⟨w.heap.size + 1 + 1, 1, none⟩ = some (.int .i64 0) := cell_gw (blk_cell b2 1 _ rfl)
  have c_b2_2 : ∀ q, (gw W q).cell? ⟨w.heap.size + 1 + 1, 2, none⟩ = some (.int .i64 0) := cell_gw (blk_cell b2 2 _ rfl)
  have c_b2_3 : ∀ q, (gw W q).cell? ⟨w.heap.size + 1 + 1, 3, none⟩ = some (.int .i64 0) := cell_gw (blk_cell b2 3 _ rfl)
  have f_b2 := blk_frozen b2
  have cV := fun w => rivalid_any a b c d w
  have cW := fun w => rivalid_any e f g h w
  have cL := fun w => rlessr_any a b e f w
  have cM := fun w => rmorer_any c d g h w
  unfold M.rhull
  generalize M.ivld a b c d = v1 at cV ⊢
  generalize M.ivld e f g h = v2 at cW ⊢
  generalize M.lessr a b e f = L at cL ⊢
  generalize M.morer c d g h = R at cM ⊢
  cases v1 <;> cases v2
  any_goals
    rw [if_neg (by simp)]
    go_enter Try.func20, Try.ntmps20
    go_wp2_with fail
    rw [HW.out]
    go_wp2_with (first | (go_at_call 12; with_reducible refine (callsGw (cV _)).mono ?_; rintro e w1 ⟨rfl, q, rfl⟩) | (go_at_call 12; with_reducible refine (callsGw (cW _)).mono ?_; rintro e w1 ⟨rfl, q, rfl⟩))
    refine bodyPost_ret (v := .tuple #[.agg #[.int .i64 0, .int .i64 0, .int .i64 0, .int .i64 0], .int .i64 1]) (by simp [results, Try.results20, go_sem, c_b2_0, c_b2_1, c_b2_2, c_b2_3]) rfl ⟨rfl, ?_⟩
    repeat (refine belowSet ?_ (by omega))
    exact below_gw hB _
  · rw [if_pos (by simp)]
    go_enter Try.func20, Try.ntmps20
    go_wp2_with fail
    rw [HW.out]
    go_wp2_with (first | (go_at_call 12; with_reducible refine (callsGw (cV _)).mono ?_; rintro e w1 ⟨rfl, q, rfl⟩) | (go_at_call 12; with_reducible refine (callsGw (cW _)).mono ?_; rintro e w1 ⟨rfl, q, rfl⟩))
    refine wp_alo0 11 2 (by kernel_rfl) rfl (by kernel_rfl) (by kernel_rfl) ?_
    simp only [List.take_succ_cons, List.take_zero, List.drop_succ_cons, List.drop_zero]
    repeat (refine wpQb_step (fun K hK => ?_); go_simp; first | (refine hK _ ?_; clear hK K) | (apply Exists.intro; refine ⟨fun _ => ?_, hK _ ?_⟩; (first | (go_at_call 46; with_reducible exact cL _) | (go_at_call 47; with_reducible exact cM _)); clear hK K))
    refine wpQb_nil ?_
    intro q
    go_wp2
    refine bodyPost_ret (v := .tuple #[.agg #[.int .i64 L.1, .int .i64 L.2.1, .int .i64 R.1, .int .i64 R.2.1], .int .i64 0]) (by simp [results, Try.results20, go_sem, c_b2_0, c_b2_1, c_b2_2, c_b2_3]) rfl ⟨rfl, ?_⟩
    repeat (refine belowSet ?_ (by omega))
    exact below_gw hB _
set_option maxRecDepth 100000 in
set_option maxHeartbeats 4000000 in
theorem risect_any (a b c d e f g h : Int) (w : World) :
    Calls Try.prog 21 #[.agg #[.int .i64 a, .int .i64 b, .int .i64 c, .int .i64 d], .agg #[.int .i64 e, .int .i64 f, .int .i64 g, .int .i64 h]] w fun x w' => x = .returned (.tuple #[.agg #[.int .i64 (M.isect a b c d e f g h).1, .int .i64 (M.isect a b c d e f g h).2.1, .int .i64 (M.isect a b c d e f g h).2.2.1, .int .i64 (M.isect a b c d e f g h).2.2.2.1], .int .i64 (M.isect a b c d e f g h).2.2.2.2]) ∧ Below w.heap.size w w' := by
  obtain ⟨W, hW, hB, hS, b0, b1, b2⟩ := lay3 w #[.int .i64 a, .int .i64 b, .int .i64 c, .int .i64 d] 25 #[.int .i64 e, .int .i64 f, .int .i64 g, .int .i64 h] 25 #[.int .i64 0, .int .i64 0, .int .i64 0, .int .i64 0] 25
  obtain ⟨p0, hp0⟩ := gw_start W
  have HW := Lib.hid (hW.trans hp0)
  clear hW hp0
  have c_b0_0 : ∀ q, (gw W q).cell? ⟨w.heap.size, 0, none⟩ = some (.int .i64 a) := cell_gw (blk_cell b0 0 _ rfl)
  have c_b0_1 : ∀ q, (gw W q).cell? ⟨w.heap.size, 1, none⟩ = some (.int .i64 b) := cell_gw (blk_cell b0 1 _ rfl)
  have c_b0_2 : ∀ q, (gw W q).cell? ⟨w.heap.size, 2, none⟩ = some (.int .i64 c) := cell_gw (blk_cell b0 2 _ rfl)
  have c_b0_3 : ∀ q, (gw W q).cell? ⟨w.heap.size, 3, none⟩ = some (.int .i64 d) := cell_gw (blk_cell b0 3 _ rfl)
  have f_b0 := blk_frozen b0
  have c_b1_0 : ∀ q, (gw W q).cell? ⟨w.heap.size + 1, 0, none⟩ = some (.int .i64 e) := cell_gw (blk_cell b1 0 _ rfl)
  have c_b1_1 : ∀ q, (gw W q).cell? ⟨w.heap.size + 1, 1, none⟩ = some (.int .i64 f) := cell_gw (blk_cell b1 1 _ rfl)
  have c_b1_2 : ∀ q, (gw W q).cell? ⟨w.heap.size + 1, 2, none⟩ = some (.int .i64 g) := cell_gw (blk_cell b1 2 _ rfl)
  have c_b1_3 : ∀ q, (gw W q).cell? ⟨w.heap.size + 1, 3, none⟩ = some (.int .i64 h) := cell_gw (blk_cell b1 3 _ rfl)
  have f_b1 := blk_frozen b1
  have c_b2_0 : ∀ q, (gw W q).cell? ⟨w.heap.size + 1 + 1, 0, none⟩ = some (.int .i64 0) := cell_gw (blk_cell b2 0 _ rfl)
  have c_b2_1 : ∀ q, (gw W q).cell? ⟨w.heap.size + 1 + 1, 1, none⟩ = some (.int .i64 0) := cell_gw (blk_cell b2 1 _ rfl)
  have c_b2_2 : ∀ q, (gw W q).cell? ⟨w.heap.size + 1 + 1, 2, none⟩ = some (.int .i64 0) := cell_gw (blk_cell b2 2 _ rfl)
  have c_b2_3 : ∀ q, (gw W q).cell? ⟨w.heap.size + 1 + 1, 3, none⟩ = some (.int .i64 0) := cell_gw (blk_cell b2 3 _ rfl)
  have f_b2 := blk_frozen b2
  have cV := fun w => rivalid_any a b c d w
  have cW := fun w => rivalid_any e f g h w
  have cL := fun w => rmorer_any a b e f w
  have cM := fun w => rlessr_any c d g h w
  have cI := fun (l m : Int × Int × Int) w => rivalid_any l.1 l.2.1 m.1 m.2.1 w
  unfold M.isect
  generalize M.ivld a b c d = v1 at cV ⊢
  generalize M.ivld e f g h = v2 at cW ⊢
  generalize M.morer a b e f = l at cL ⊢
  generalize M.lessr c d g h = m at cM ⊢
  have cI := cI l m
  cases v1 <;> cases v2
  any_goals
    rw [if_neg (by simp)]
    go_enter Try.func21, Try.ntmps21
    go_wp2_with fail
    rw [HW.out]
    go_wp2_with (first | (go_at_call 12; with_reducible refine (callsGw (cV _)).mono ?_; rintro e w1 ⟨rfl, q, rfl⟩) | (go_at_call 12; with_reducible refine (callsGw (cW _)).mono ?_; rintro e w1 ⟨rfl, q, rfl⟩))
    refine bodyPost_ret (v := .tuple #[.agg #[.int .i64 0, .int .i64 0, .int .i64 0, .int .i64 0], .int .i64 1]) (by simp [results, Try.results21, go_sem, c_b2_0, c_b2_1, c_b2_2, c_b2_3]) rfl ⟨rfl, ?_⟩
    repeat (refine belowSet ?_ (by omega))
    exact below_gw hB _
  · rw [if_pos (by simp)]
    dsimp only
    generalize M.ivld l.1 l.2.1 m.1 m.2.1 = v3 at cI ⊢
    cases v3
    · rw [if_neg (by simp)]
      go_enter Try.func21, Try.ntmps21
      go_wp2_with fail
      rw [HW.out]
      go_wp2_with (first | (go_at_call 12; with_reducible refine (callsGw (cV _)).mono ?_; rintro e w1 ⟨rfl, q, rfl⟩) | (go_at_call 12; with_reducible refine (callsGw (cW _)).mono ?_; rintro e w1 ⟨rfl, q, rfl⟩))
      refine wp_alo1 11 1 #[.int .i64 0, .int .i64 0, .int .i64 0, .int .i64 0] 25 6 (by kernel_rfl) ⟨_, rfl, rfl, rfl, fun _ _ => by kernel_rfl⟩ rfl (by kernel_rfl) (by kernel_rfl) ?_
      simp only [List.take_succ_cons, List.take_zero, List.drop_succ_cons, List.drop_zero]
      repeat (refine wpQb_step (fun K hK => ?_); go_simp; first | (refine hK _ ?_; clear hK K) | (apply Exists.intro; refine ⟨fun _ => ?_, hK _ ?_⟩; (first | (go_at_call 46; with_reducible exact cM _) | (go_at_call 47; with_reducible exact cL _)); clear hK K))
      refine wpQb_nil ?_
      intro g X hKX hBX hg hge q
      have b2 := hKX _ _ b2
      have hB := hBX _ hB
      have c_hg_0 : ∀ q, (gw X q).cell? ⟨g, 0, none⟩ = some (.int .i64 0) := cell_gw (blk_cell hg 0 _ rfl)
      have c_hg_1 : ∀ q, (gw X q).cell? ⟨g, 1, none⟩ = some (.int .i64 0) := cell_gw (blk_cell hg 1 _ rfl)
      have c_hg_2 : ∀ q, (gw X q).cell? ⟨g, 2, none⟩ = some (.int .i64 0) := cell_gw (blk_cell hg 2 _ rfl)
      have c_hg_3 : ∀ q, (gw X q).cell? ⟨g, 3, none⟩ = some (.int .i64 0) := cell_gw (blk_cell hg 3 _ rfl)
      have f_hg := blk_frozen hg
      clear hKX hBX
      go_upto_region 4 with fail
      obtain ⟨Y, eY, sY, nb, kY, lY⟩ := storedS4 q hg (.int .i64 l.1) (.int .i64 l.2.1) (.int .i64 m.1) (.int .i64 m.2.1)
      rw [eY]
      have b2 := kY _ _ (by omega) b2
      have hB := lY _ (by omega) hB
      have hg := nb
      clear nb
      have c_hg_0 : ∀ q, (gw Y q).cell? ⟨g, 0, none⟩ = some (.int .i64 l.1) := cell_gw (blk_cell hg 0 _ rfl)
      have c_hg_1 : ∀ q, (gw Y q).cell? ⟨g, 1, none⟩ = some (.int .i64 l.2.1) := cell_gw (blk_cell hg 1 _ rfl)
      have c_hg_2 : ∀ q, (gw Y q).cell? ⟨g, 2, none⟩ = some (.int .i64 m.1) := cell_gw (blk_cell hg 2 _ rfl)
      have c_hg_3 : ∀ q, (gw Y q).cell? ⟨g, 3, none⟩ = some (.int .i64 m.2.1) := cell_gw (blk_cell hg 3 _ rfl)
      have f_hg := blk_frozen hg
      have c_b2_0 : ∀ q, (gw Y q).cell? ⟨w.heap.size + 1 + 1, 0, none⟩ = some (.int .i64 0) := cell_gw (blk_cell b2 0 _ rfl)
      have c_b2_1 : ∀ q, (gw Y q).cell? ⟨w.heap.size + 1 + 1, 1, none⟩ = some (.int .i64 0) := cell_gw (blk_cell b2 1 _ rfl)
      have c_b2_2 : ∀ q, (gw Y q).cell? ⟨w.heap.size + 1 + 1, 2, none⟩ = some (.int .i64 0) := cell_gw (blk_cell b2 2 _ rfl)
      have c_b2_3 : ∀ q, (gw Y q).cell? ⟨w.heap.size + 1 + 1, 3, none⟩ = some (.int .i64 0) := cell_gw (blk_cell b2 3 _ rfl)
      have f_b2 := blk_frozen b2
      go_wp2_with (go_at_call 12; with_reducible refine (callsGw (cI _)).mono ?_; rintro e w1 ⟨rfl, q, rfl⟩)
      refine bodyPost_ret (v := .tuple #[.agg #[.int .i64 0, .int .i64 0, .int .i64 0, .int .i64 0], .int .i64 8]) (by simp [results, Try.results21, go_sem, c_b2_0, c_b2_1, c_b2_2, c_b2_3]) rfl ⟨rfl, ?_⟩
      repeat (refine belowSet ?_ (by omega))
      exact below_gw hB _
    · rw [if_pos rfl]
      go_enter Try.func21, Try.ntmps21
      go_wp2_with fail
      rw [HW.out]
      go_wp2_with (first | (go_at_call 12; with_reducible refine (callsGw (cV _)).mono ?_; rintro e w1 ⟨rfl, q, rfl⟩) | (go_at_call 12; with_reducible refine (callsGw (cW _)).mono ?_; rintro e w1 ⟨rfl, q, rfl⟩))
      refine wp_alo1 11 1 #[.int .i64 0, .int .i64 0, .int .i64 0, .int .i64 0] 25 6 (by kernel_rfl) ⟨_, rfl, rfl, rfl, fun _ _ => by kernel_rfl⟩ rfl (by kernel_rfl) (by kernel_rfl) ?_
      simp only [List.take_succ_cons, List.take_zero, List.drop_succ_cons, List.drop_zero]
      repeat (refine wpQb_step (fun K hK => ?_); go_simp; first | (refine hK _ ?_; clear hK K) | (apply Exists.intro; refine ⟨fun _ => ?_, hK _ ?_⟩; (first | (go_at_call 46; with_reducible exact cM _) | (go_at_call 47; with_reducible exact cL _)); clear hK K))
      refine wpQb_nil ?_
      intro g X hKX hBX hg hge q
      have b2 := hKX _ _ b2
      have hB := hBX _ hB
      have c_hg_0 : ∀ q, (gw X q).cell? ⟨g, 0, none⟩ = some (.int .i64 0) := cell_gw (blk_cell hg 0 _ rfl)
      have c_hg_1 : ∀ q, (gw X q).cell? ⟨g, 1, none⟩ = some (.int .i64 0) := cell_gw (blk_cell hg 1 _ rfl)
      have c_hg_2 : ∀ q, (gw X q).cell? ⟨g, 2, none⟩ = some (.int .i64 0) := cell_gw (blk_cell hg 2 _ rfl)
      have c_hg_3 : ∀ q, (gw X q).cell? ⟨g, 3, none⟩ = some (.int .i64 0) := cell_gw (blk_cell hg 3 _ rfl)
      have f_hg := blk_frozen hg
      clear hKX hBX
      go_upto_region 4 with fail
      obtain ⟨Y, eY, sY, nb, kY, lY⟩ := storedS4 q hg (.int .i64 l.1) (.int .i64 l.2.1) (.int .i64 m.1) (.int .i64 m.2.1)
      rw [eY]
      have b2 := kY _ _ (by omega) b2
      have hB := lY _ (by omega) hB
      have hg := nb
      clear nb
      have c_hg_0 : ∀ q, (gw Y q).cell? ⟨g, 0, none⟩ = some (.int .i64 l.1) := cell_gw (blk_cell hg 0 _ rfl)
      have c_hg_1 : ∀ q, (gw Y q).cell? ⟨g, 1, none⟩ = some (.int .i64 l.2.1) := cell_gw (blk_cell hg 1 _ rfl)
      have c_hg_2 : ∀ q, (gw Y q).cell? ⟨g, 2, none⟩ = some (.int .i64 m.1) := cell_gw (blk_cell hg 2 _ rfl)
      have c_hg_3 : ∀ q, (gw Y q).cell? ⟨g, 3, none⟩ = some (.int .i64 m.2.1) := cell_gw (blk_cell hg 3 _ rfl)
      have f_hg := blk_frozen hg
      have c_b2_0 : ∀ q, (gw Y q).cell? ⟨w.heap.size + 1 + 1, 0, none⟩ = some (.int .i64 0) := cell_gw (blk_cell b2 0 _ rfl)
      have c_b2_1 : ∀ q, (gw Y q).cell? ⟨w.heap.size + 1 + 1, 1, none⟩ = some (.int .i64 0) := cell_gw (blk_cell b2 1 _ rfl)
      have c_b2_2 : ∀ q, (gw Y q).cell? ⟨w.heap.size + 1 + 1, 2, none⟩ = some (.int .i64 0) := cell_gw (blk_cell b2 2 _ rfl)
      have c_b2_3 : ∀ q, (gw Y q).cell? ⟨w.heap.size + 1 + 1, 3, none⟩ = some (.int .i64 0) := cell_gw (blk_cell b2 3 _ rfl)
      have f_b2 := blk_frozen b2
      go_wp2_with (go_at_call 12; with_reducible refine (callsGw (cI _)).mono ?_; rintro e w1 ⟨rfl, q, rfl⟩)
      refine bodyPost_ret (v := .tuple #[.agg #[.int .i64 l.1, .int .i64 l.2.1, .int .i64 m.1, .int .i64 m.2.1], .int .i64 0]) (by simp [results, Try.results21, go_sem, c_b2_0, c_b2_1, c_b2_2, c_b2_3]) rfl ⟨rfl, ?_⟩
      repeat (refine belowSet ?_ (by omega))
      exact below_gw hB _
end Go.Proofs.Ytimdklineeeieaa
