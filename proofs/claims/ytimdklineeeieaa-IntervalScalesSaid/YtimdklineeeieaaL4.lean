/- The statements on intervals: Scales. -/
import Derived.Test.YtimdklineeeieaaL1
import Derived.Test.YtimdklineeeieaaM15
namespace Go.Proofs.Ytimdklineeeieaa
open Go.RowKit Go.Sort
set_option linter.unusedVariables false
set_option maxRecDepth 100000 in
set_option maxHeartbeats 8000000 in
theorem scales_any (a b c d x y : Int) (w : World) :
    Calls Try.prog 8 #[.agg #[.int .i64 a, .int .i64 b, .int .i64 c, .int .i64 d], .agg #[.int .i64 x, .int .i64 y]] w fun r w' => r = .returned (.bool true) ∧ Below w.heap.size w w' := by
  obtain ⟨W, hW, hB, hS, b0, b1⟩ := lay2 w #[.int .i64 a, .int .i64 b, .int .i64 c, .int .i64 d] 25 #[.int .i64 x, .int .i64 y] 23
  obtain ⟨p0, hp0⟩ := gw_start W
  have HW := Lib.hid (hW.trans hp0)
  clear hW hp0
  have c_b0_0 : ∀ q, (gw W q).cell? ⟨w.heap.size, 0, none⟩ = some (.int .i64 a) := cell_gw (blk_cell b0 0 _ rfl)
  have c_b0_1 : ∀ q, (gw W q).cell? ⟨w.heap.size, 1, none⟩ = some (.int .i64 b) := cell_gw (blk_cell b0 1 _ rfl)
  have c_b0_2 : ∀ q, (gw W q).cell? ⟨w.heap.size, 2, none⟩ = some (.int .i64 c) := cell_gw (blk_cell b0 2 _ rfl)
  have c_b0_3 : ∀ q, (gw W q).cell? ⟨w.heap.size, 3, none⟩ = some (.int .i64 d) := cell_gw (blk_cell b0 3 _ rfl)
  have f_b0 := blk_frozen b0
  have c_b1_0 : ∀ q, (gw W q).cell? ⟨w.heap.size + 1, 0, none⟩ = some (.int .i64 x) := cell_gw (blk_cell b1 0 _ rfl)
  have c_b1_1 : ∀ q, (gw W q).cell? ⟨w.heap.size + 1, 1, none⟩ = some (.int .i64 y) := cell_gw (blk_cell b1 1 _ rfl)
  have f_b1 := blk_frozen b1
  have cA := fun w => awake_any w
  have c1 := fun w => iscale_any a b c d x y w
  have c2 := fun w => idiv_any a b c d x y w
  have c3 := fun w => iwidth_any a b c d w
  have c4 := fun w => ineg_any a b c d w
  have c5 := fun w => of_any 2 (by decide) (by decide) a b c d x y x y w
  have c6 := fun w => of_any 5 (by decide) (by decide) a b c d x y x y w
  have c7 := fun w => riwidth_any a b c d w
  have c8 := fun w => rineg_any a b c d w
  have cP := fun w => point_any x y w
  rw [M.iscale_rof] at c1
  rw [M.idiv_rof] at c2
  generalize M.rof 2 a b c d x y x y = R1 at c1 c5
  generalize M.rof 5 a b c d x y x y = R2 at c2 c6
  generalize M.iwidth a b c d = R3 at c3 c7
  generalize M.ineg a b c d = R4 at c4 c8
  go_enter Try.func8, Try.ntmps8
  go_wp2_with fail
  rw [HW.out]
  go_upto_region 4 with (first | (go_at_call 10; with_reducible refine (callsGw (cA _)).mono ?_; rintro e w1 ⟨rfl, q, rfl⟩) | (go_at_call 25; with_reducible refine (callsGw (c1 _)).mono ?_; rintro e w1 ⟨rfl, q, rfl⟩))
  obtain ⟨X1, n1, en1, hnn1, gen1, ltn1, bn1, kn1, ln1⟩ := laid W #[.int .i64 R1.1, .int .i64 R1.2.1, .int .i64 R1.2.2.1, .int .i64 R1.2.2.2.1] 25 q
  rw [en1]
  simp only [hnn1]
  have b0 := kn1 _ _ b0
  have b1 := kn1 _ _ b1
  have hB := ln1 _ hB
  clear en1 hnn1
  have c_bn1_0 : ∀ q, (gw X1 q).cell? ⟨n1, 0, none⟩ = some (.int .i64 R1.1) := cell_gw (blk_cell bn1 0 _ rfl)
  have c_bn1_1 : ∀ q, (gw X1 q).cell? ⟨n1, 1, none⟩ = some (.int .i64 R1.2.1) := cell_gw (blk_cell bn1 1 _ rfl)
  have c_bn1_2 : ∀ q, (gw X1 q).cell? ⟨n1, 2, none⟩ = some (.int .i64 R1.2.2.1) := cell_gw (blk_cell bn1 2 _ rfl)
  have c_bn1_3 : ∀ q, (gw X1 q).cell? ⟨n1, 3, none⟩ = some (.int .i64 R1.2.2.2.1) := cell_gw (blk_cell bn1 3 _ rfl)
  have f_bn1 := blk_frozen bn1
  have c_b0_0 : ∀ q, (gw X1 q).cell? ⟨w.heap.size, 0, none⟩ = some (.int .i64 a) := cell_gw (blk_cell b0 0 _ rfl)
  have c_b0_1 : ∀ q, (gw X1 q).cell? ⟨w.heap.size, 1, none⟩ = some (.int .i64 b) := cell_gw (blk_cell b0 1 _ rfl)
  have c_b0_2 : ∀ q, (gw X1 q).cell? ⟨w.heap.size, 2, none⟩ = some (.int .i64 c) := cell_gw (blk_cell b0 2 _ rfl)
  have c_b0_3 : ∀ q, (gw X1 q).cell? ⟨w.heap.size, 3, none⟩ = some (.int .i64 d) := cell_gw (blk_cell b0 3 _ rfl)
  have f_b0 := blk_frozen b0
  have c_b1_0 : ∀ q, (gw X1 q).cell? ⟨w.heap.size + 1, 0, none⟩ = some (.int .i64 x) := cell_gw (blk_cell b1 0 _ rfl)
  have c_b1_1 : ∀ q, (gw X1 q).cell? ⟨w.heap.size + 1, 1, none⟩ = some (.int .i64 y) := cell_gw (blk_cell b1 1 _ rfl)
  have f_b1 := blk_frozen b1
  go_upto_region 5 with (first | (go_at_call 27; with_reducible refine (callsGw (c2 _)).mono ?_; rintro e w1 ⟨rfl, q, rfl⟩))
  obtain ⟨X2, n2, en2, hnn2, gen2, ltn2, bn2, kn2, ln2⟩ := laid X1 #[.int .i64 R2.1, .int .i64 R2.2.1, .int .i64 R2.2.2.1, .int .i64 R2.2.2.2.1] 25 q
  rw [en2]
  simp only [hnn2]
  have b0 := kn2 _ _ b0
  have b1 := kn2 _ _ b1
  have bn1 := kn2 _ _ bn1
  have hB := ln2 _ hB
  clear en2 hnn2
  have c_bn2_0 : ∀ q, (gw X2 q).cell? ⟨n2, 0, none⟩ = some (.int .i64 R2.1) := cell_gw (blk_cell bn2 0 _ rfl)
  have c_bn2_1 : ∀ q, (gw X2 q).cell? ⟨n2, 1, none⟩ = some (.int .i64 R2.2.1) := cell_gw (blk_cell bn2 1 _ rfl)
  have c_bn2_2 : ∀ q, (gw X2 q).cell? ⟨n2, 2, none⟩ = some (.int .i64 R2.2.2.1) := cell_gw (blk_cell bn2 2 _ rfl)
  have c_bn2_3 : ∀ q, (gw X2 q).cell? ⟨n2, 3, none⟩ = some (.int .i64 R2.2.2.2.1) := cell_gw (blk_cell bn2 3 _ rfl)
  have f_bn2 := blk_frozen bn2
  have c_b0_0 : ∀ q, (gw X2 q).cell? ⟨w.heap.size, 0, none⟩ = some (.int .i64 a) := cell_gw (blk_cell b0 0 _ rfl)
  have c_b0_1 : ∀ q, (gw X2 q).cell? ⟨w.heap.size, 1, none⟩ = some (.int .i64 b) := cell_gw (blk_cell b0 1 _ rfl)
  have c_b0_2 : ∀ q, (gw X2 q).cell? ⟨w.heap.size, 2, none⟩ = some (.int .i64 c) := cell_gw (blk_cell b0 2 _ rfl)
  have c_b0_3 : ∀ q, (gw X2 q).cell? ⟨w.heap.size, 3, none⟩ = some (.int .i64 d) := cell_gw (blk_cell b0 3 _ rfl)
  have f_b0 := blk_frozen b0
  go_upto_region 6 with (first | (go_at_call 29; with_reducible refine (callsGw (c3 _)).mono ?_; rintro e w1 ⟨rfl, q, rfl⟩))
  obtain ⟨X3, n3, en3, hnn3, gen3, ltn3, bn3, kn3, ln3⟩ := laid X2 #[.int .i64 R3.1, .int .i64 R3.2.1] 23 q
  rw [en3]
  simp only [hnn3]
  have b0 := kn3 _ _ b0
  have b1 := kn3 _ _ b1
  have bn1 := kn3 _ _ bn1
  have bn2 := kn3 _ _ bn2
  have hB := ln3 _ hB
  clear en3 hnn3
  have c_bn3_0 : ∀ q, (gw X3 q).cell? ⟨n3, 0, none⟩ = some (.int .i64 R3.1) := cell_gw (blk_cell bn3 0 _ rfl)
  have c_bn3_1 : ∀ q, (gw X3 q).cell? ⟨n3, 1, none⟩ = some (.int .i64 R3.2.1) := cell_gw (blk_cell bn3 1 _ rfl)
  have f_bn3 := blk_frozen bn3
  have c_b0_0 : ∀ q, (gw X3 q).cell? ⟨w.heap.size, 0, none⟩ = some (.int .i64 a) := cell_gw (blk_cell b0 0 _ rfl)
  have c_b0_1 : ∀ q, (gw X3 q).cell? ⟨w.heap.size, 1, none⟩ = some (.int .i64 b) := cell_gw (blk_cell b0 1 _ rfl)
  have c_b0_2 : ∀ q, (gw X3 q).cell? ⟨w.heap.size, 2, none⟩ = some (.int .i64 c) := cell_gw (blk_cell b0 2 _ rfl)
  have c_b0_3 : ∀ q, (gw X3 q).cell? ⟨w.heap.size, 3, none⟩ = some (.int .i64 d) := cell_gw (blk_cell b0 3 _ rfl)
  have f_b0 := blk_frozen b0
  go_upto_region 7 with (first | (go_at_call 30; with_reducible refine (callsGw (c4 _)).mono ?_; rintro e w1 ⟨rfl, q, rfl⟩))
  obtain ⟨X4, n4, en4, hnn4, gen4, ltn4, bn4, kn4, ln4⟩ := laid X3 #[.int .i64 R4.1, .int .i64 R4.2.1, .int .i64 R4.2.2.1, .int .i64 R4.2.2.2.1] 25 q
  rw [en4]
  simp only [hnn4]
  have b0 := kn4 _ _ b0
  have b1 := kn4 _ _ b1
  have bn1 := kn4 _ _ bn1
  have bn2 := kn4 _ _ bn2
  have bn3 := kn4 _ _ bn3
  have hB := ln4 _ hB
  clear en4 hnn4
  have c_bn4_0 : ∀ q, (gw X4 q).cell? ⟨n4, 0, none⟩ = some (.int .i64 R4.1) := cell_gw (blk_cell bn4 0 _ rfl)
  have c_bn4_1 : ∀ q, (gw X4 q).cell? ⟨n4, 1, none⟩ = some (.int .i64 R4.2.1) := cell_gw (blk_cell bn4 1 _ rfl)
  have c_bn4_2 : ∀ q, (gw X4 q).cell? ⟨n4, 2, none⟩ = some (.int .i64 R4.2.2.1) := cell_gw (blk_cell bn4 2 _ rfl)
  have c_bn4_3 : ∀ q, (gw X4 q).cell? ⟨n4, 3, none⟩ = some (.int .i64 R4.2.2.2.1) := cell_gw (blk_cell bn4 3 _ rfl)
  have f_bn4 := blk_frozen bn4
  have c_b0_0 : ∀ q, (gw X4 q).cell? ⟨w.heap.size, 0, none⟩ = some (.int .i64 a) := cell_gw (blk_cell b0 0 _ rfl)
  have c_b0_1 : ∀ q, (gw X4 q).cell? ⟨w.heap.size, 1, none⟩ = some (.int .i64 b) := cell_gw (blk_cell b0 1 _ rfl)
  have c_b0_2 : ∀ q, (gw X4 q).cell? ⟨w.heap.size, 2, none⟩ = some (.int .i64 c) := cell_gw (blk_cell b0 2 _ rfl)
  have c_b0_3 : ∀ q, (gw X4 q).cell? ⟨w.heap.size, 3, none⟩ = some (.int .i64 d) := cell_gw (blk_cell b0 3 _ rfl)
  have f_b0 := blk_frozen b0
  have c_b1_0 : ∀ q, (gw X4 q).cell? ⟨w.heap.size + 1, 0, none⟩ = some (.int .i64 x) := cell_gw (blk_cell b1 0 _ rfl)
  have c_b1_1 : ∀ q, (gw X4 q).cell? ⟨w.heap.size + 1, 1, none⟩ = some (.int .i64 y) := cell_gw (blk_cell b1 1 _ rfl)
  have f_b1 := blk_frozen b1
  have z0 := blk_lt b0
  have z1 := blk_lt b1
  have z2 := blk_lt bn1
  have z3 := blk_lt bn2
  have z4 := blk_lt bn3
  have z5 := blk_lt bn4
  refine wp_alo1L 7 2 [6] #[.int .i64 0, .int .i64 0, .int .i64 0, .int .i64 0] 25 13 (by kernel_rfl) ⟨_, rfl, rfl, rfl, fun _ _ => by kernel_rfl⟩ rfl (by kernel_rfl) (by kernel_rfl) (fun l hl o ho a w w' v h => by (obtain rfl : l = 6 := by simpa using hl); cases ho; exact pure_extract rfl a w w' v h) (fun _ d _ _ _ h => by cases d <;> exact h) ?_
  simp only [List.take_succ_cons, List.take_zero, List.drop_succ_cons, List.drop_zero]
  repeat (refine wpQb_step (fun K hK => ?_); go_simp; first | (refine hK _ ?_; clear hK K) | (apply Exists.intro; refine ⟨fun _ => ?_, hK _ ?_⟩; (first | (go_at_call 31; with_reducible exact cP _) | (go_at_call 23; with_reducible exact c5 _)); clear hK K))
  refine wpQb_nil ?_
  intro g5 X5 hKX hBX hg5 hge5 q
  have b0 := hKX _ _ b0
  have b1 := hKX _ _ b1
  have bn1 := hKX _ _ bn1
  have bn2 := hKX _ _ bn2
  have bn3 := hKX _ _ bn3
  have bn4 := hKX _ _ bn4
  have hB := hBX _ hB
  have c_hg5_0 : ∀ q, (gw X5 q).cell? ⟨g5, 0, none⟩ = some (.int .i64 0) := cell_gw (blk_cell hg5 0 _ rfl)
  have c_hg5_1 : ∀ q, (gw X5 q).cell? ⟨g5, 1, none⟩ = some (.int .i64 0) := cell_gw (blk_cell hg5 1 _ rfl)
  have c_hg5_2 : ∀ q, (gw X5 q).cell? ⟨g5, 2, none⟩ = some (.int .i64 0) := cell_gw (blk_cell hg5 2 _ rfl)
  have c_hg5_3 : ∀ q, (gw X5 q).cell? ⟨g5, 3, none⟩ = some (.int .i64 0) := cell_gw (blk_cell hg5 3 _ rfl)
  have f_hg5 := blk_frozen hg5
  clear hKX hBX
  go_upto_region 8 with fail
  obtain ⟨Y5, eY5, sY5, nb, kY5, lY5⟩ := storedS4 q hg5 (.int .i64 R1.1) (.int .i64 R1.2.1) (.int .i64 R1.2.2.1) (.int .i64 R1.2.2.2.1)
  rw [eY5]
  have b0 := kY5 _ _ (by omega) b0
  have b1 := kY5 _ _ (by omega) b1
  have bn1 := kY5 _ _ (by omega) bn1
  have bn2 := kY5 _ _ (by omega) bn2
  have bn3 := kY5 _ _ (by omega) bn3
  have bn4 := kY5 _ _ (by omega) bn4
  have hB := lY5 _ (by omega) hB
  have hg5 := nb
  clear nb
  have c_hg5_0 : ∀ q, (gw Y5 q).cell? ⟨g5, 0, none⟩ = some (.int .i64 R1.1) := cell_gw (blk_cell hg5 0 _ rfl)
  have c_hg5_1 : ∀ q, (gw Y5 q).cell? ⟨g5, 1, none⟩ = some (.int .i64 R1.2.1) := cell_gw (blk_cell hg5 1 _ rfl)
  have c_hg5_2 : ∀ q, (gw Y5 q).cell? ⟨g5, 2, none⟩ = some (.int .i64 R1.2.2.1) := cell_gw (blk_cell hg5 2 _ rfl)
  have c_hg5_3 : ∀ q, (gw Y5 q).cell? ⟨g5, 3, none⟩ = some (.int .i64 R1.2.2.2.1) := cell_gw (blk_cell hg5 3 _ rfl)
  have f_hg5 := blk_frozen hg5
  have c_b0_0 : ∀ q, (gw Y5 q).cell? ⟨w.heap.size, 0, none⟩ = some (.int .i64 a) := cell_gw (blk_cell b0 0 _ rfl)
  have c_b0_1 : ∀ q, (gw Y5 q).cell? ⟨w.heap.size, 1, none⟩ = some (.int .i64 b) := cell_gw (blk_cell b0 1 _ rfl)
  have c_b0_2 : ∀ q, (gw Y5 q).cell? ⟨w.heap.size, 2, none⟩ = some (.int .i64 c) := cell_gw (blk_cell b0 2 _ rfl)
  have c_b0_3 : ∀ q, (gw Y5 q).cell? ⟨w.heap.size, 3, none⟩ = some (.int .i64 d) := cell_gw (blk_cell b0 3 _ rfl)
  have f_b0 := blk_frozen b0
  have c_b1_0 : ∀ q, (gw Y5 q).cell? ⟨w.heap.size + 1, 0, none⟩ = some (.int .i64 x) := cell_gw (blk_cell b1 0 _ rfl)
  have c_b1_1 : ∀ q, (gw Y5 q).cell? ⟨w.heap.size + 1, 1, none⟩ = some (.int .i64 y) := cell_gw (blk_cell b1 1 _ rfl)
  have f_b1 := blk_frozen b1
  clear z0 z1 z2 z3 z4 z5
  have z0 := blk_lt b0
  have z1 := blk_lt b1
  have z2 := blk_lt bn1
  have z3 := blk_lt bn2
  have z4 := blk_lt bn3
  have z5 := blk_lt bn4
  have z6 := blk_lt hg5
  refine wp_alo1L 7 2 [6] #[.int .i64 0, .int .i64 0, .int .i64 0, .int .i64 0] 25 15 (by kernel_rfl) ⟨_, rfl, rfl, rfl, fun _ _ => by kernel_rfl⟩ rfl (by kernel_rfl) (by kernel_rfl) (fun l hl o ho a w w' v h => by (obtain rfl : l = 6 := by simpa using hl); cases ho; exact pure_extract rfl a w w' v h) (fun _ d _ _ _ h => by cases d <;> exact h) ?_
  simp only [List.take_succ_cons, List.take_zero, List.drop_succ_cons, List.drop_zero]
  repeat (refine wpQb_step (fun K hK => ?_); go_simp; first | (refine hK _ ?_; clear hK K) | (apply Exists.intro; refine ⟨fun _ => ?_, hK _ ?_⟩; (first | (go_at_call 31; with_reducible exact cP _) | (go_at_call 23; with_reducible exact c6 _)); clear hK K))
  refine wpQb_nil ?_
  intro g6 X6 hKX hBX hg6 hge6 q
  have b0 := hKX _ _ b0
  have b1 := hKX _ _ b1
  have bn1 := hKX _ _ bn1
  have bn2 := hKX _ _ bn2
  have bn3 := hKX _ _ bn3
  have bn4 := hKX _ _ bn4
  have hg5 := hKX _ _ hg5
  have hB := hBX _ hB
  have c_hg6_0 : ∀ q, (gw X6 q).cell? ⟨g6, 0, none⟩ = some (.int .i64 0) := cell_gw (blk_cell hg6 0 _ rfl)
  have c_hg6_1 : ∀ q, (gw X6 q).cell? ⟨g6, 1, none⟩ = some (.int .i64 0) := cell_gw (blk_cell hg6 1 _ rfl)
  have c_hg6_2 : ∀ q, (gw X6 q).cell? ⟨g6, 2, none⟩ = some (.int .i64 0) := cell_gw (blk_cell hg6 2 _ rfl)
  have c_hg6_3 : ∀ q, (gw X6 q).cell? ⟨g6, 3, none⟩ = some (.int .i64 0) := cell_gw (blk_cell hg6 3 _ rfl)
  have f_hg6 := blk_frozen hg6
  clear hKX hBX
  go_upto_region 9 with fail
  obtain ⟨Y6, eY6, sY6, nb, kY6, lY6⟩ := storedS4 q hg6 (.int .i64 R2.1) (.int .i64 R2.2.1) (.int .i64 R2.2.2.1) (.int .i64 R2.2.2.2.1)
  rw [eY6]
  have b0 := kY6 _ _ (by omega) b0
  have b1 := kY6 _ _ (by omega) b1
  have bn1 := kY6 _ _ (by omega) bn1
  have bn2 := kY6 _ _ (by omega) bn2
  have bn3 := kY6 _ _ (by omega) bn3
  have bn4 := kY6 _ _ (by omega) bn4
  have hg5 := kY6 _ _ (by omega) hg5
  have hB := lY6 _ (by omega) hB
  have hg6 := nb
  clear nb
  have c_hg6_0 : ∀ q, (gw Y6 q).cell? ⟨g6, 0, none⟩ = some (.int .i64 R2.1) := cell_gw (blk_cell hg6 0 _ rfl)
  have c_hg6_1 : ∀ q, (gw Y6 q).cell? ⟨g6, 1, none⟩ = some (.int .i64 R2.2.1) := cell_gw (blk_cell hg6 1 _ rfl)
  have c_hg6_2 : ∀ q, (gw Y6 q).cell? ⟨g6, 2, none⟩ = some (.int .i64 R2.2.2.1) := cell_gw (blk_cell hg6 2 _ rfl)
  have c_hg6_3 : ∀ q, (gw Y6 q).cell? ⟨g6, 3, none⟩ = some (.int .i64 R2.2.2.2.1) := cell_gw (blk_cell hg6 3 _ rfl)
  have f_hg6 := blk_frozen hg6
  have c_b0_0 : ∀ q, (gw Y6 q).cell? ⟨w.heap.size, 0, none⟩ = some (.int .i64 a) := cell_gw (blk_cell b0 0 _ rfl)
  have c_b0_1 : ∀ q, (gw Y6 q).cell? ⟨w.heap.size, 1, none⟩ = some (.int .i64 b) := cell_gw (blk_cell b0 1 _ rfl)
  have c_b0_2 : ∀ q, (gw Y6 q).cell? ⟨w.heap.size, 2, none⟩ = some (.int .i64 c) := cell_gw (blk_cell b0 2 _ rfl)
  have c_b0_3 : ∀ q, (gw Y6 q).cell? ⟨w.heap.size, 3, none⟩ = some (.int .i64 d) := cell_gw (blk_cell b0 3 _ rfl)
  have f_b0 := blk_frozen b0
  clear z0 z1 z2 z3 z4 z5 z6
  go_upto_region 10 with (first | (go_at_call 32; with_reducible refine (callsGw (c7 _)).mono ?_; rintro e w1 ⟨rfl, q, rfl⟩))
  obtain ⟨X7, n7, en7, hnn7, gen7, ltn7, bn7, kn7, ln7⟩ := laid Y6 #[.int .i64 R3.1, .int .i64 R3.2.1] 23 q
  rw [en7]
  simp only [hnn7]
  have b0 := kn7 _ _ b0
  have b1 := kn7 _ _ b1
  have bn1 := kn7 _ _ bn1
  have bn2 := kn7 _ _ bn2
  have bn3 := kn7 _ _ bn3
  have bn4 := kn7 _ _ bn4
  have hg5 := kn7 _ _ hg5
  have hg6 := kn7 _ _ hg6
  have hB := ln7 _ hB
  clear en7 hnn7
  have c_bn7_0 : ∀ q, (gw X7 q).cell? ⟨n7, 0, none⟩ = some (.int .i64 R3.1) := cell_gw (blk_cell bn7 0 _ rfl)
  have c_bn7_1 : ∀ q, (gw X7 q).cell? ⟨n7, 1, none⟩ = some (.int .i64 R3.2.1) := cell_gw (blk_cell bn7 1 _ rfl)
  have f_bn7 := blk_frozen bn7
  have c_b0_0 : ∀ q, (gw X7 q).cell? ⟨w.heap.size, 0, none⟩ = some (.int .i64 a) := cell_gw (blk_cell b0 0 _ rfl)
  have c_b0_1 : ∀ q, (gw X7 q).cell? ⟨w.heap.size, 1, none⟩ = some (.int .i64 b) := cell_gw (blk_cell b0 1 _ rfl)
  have c_b0_2 : ∀ q, (gw X7 q).cell? ⟨w.heap.size, 2, none⟩ = some (.int .i64 c) := cell_gw (blk_cell b0 2 _ rfl)
  have c_b0_3 : ∀ q, (gw X7 q).cell? ⟨w.heap.size, 3, none⟩ = some (.int .i64 d) := cell_gw (blk_cell b0 3 _ rfl)
  have f_b0 := blk_frozen b0
  go_upto_region 11 with (first | (go_at_call 33; with_reducible refine (callsGw (c8 _)).mono ?_; rintro e w1 ⟨rfl, q, rfl⟩))
  obtain ⟨X8, n8, en8, hnn8, gen8, ltn8, bn8, kn8, ln8⟩ := laid X7 #[.int .i64 R4.1, .int .i64 R4.2.1, .int .i64 R4.2.2.1, .int .i64 R4.2.2.2.1] 25 q
  rw [en8]
  simp only [hnn8]
  have bn1 := kn8 _ _ bn1
  have bn2 := kn8 _ _ bn2
  have bn3 := kn8 _ _ bn3
  have bn4 := kn8 _ _ bn4
  have hg5 := kn8 _ _ hg5
  have hg6 := kn8 _ _ hg6
  have bn7 := kn8 _ _ bn7
  have hB := ln8 _ hB
  clear en8 hnn8
  have c_bn8_0 : ∀ q, (gw X8 q).cell? ⟨n8, 0, none⟩ = some (.int .i64 R4.1) := cell_gw (blk_cell bn8 0 _ rfl)
  have c_bn8_1 : ∀ q, (gw X8 q).cell? ⟨n8, 1, none⟩ = some (.int .i64 R4.2.1) := cell_gw (blk_cell bn8 1 _ rfl)
  have c_bn8_2 : ∀ q, (gw X8 q).cell? ⟨n8, 2, none⟩ = some (.int .i64 R4.2.2.1) := cell_gw (blk_cell bn8 2 _ rfl)
  have c_bn8_3 : ∀ q, (gw X8 q).cell? ⟨n8, 3, none⟩ = some (.int .i64 R4.2.2.2.1) := cell_gw (blk_cell bn8 3 _ rfl)
  have f_bn8 := blk_frozen bn8
  have c_bn1_0 : ∀ q, (gw X8 q).cell? ⟨n1, 0, none⟩ = some (.int .i64 R1.1) := cell_gw (blk_cell bn1 0 _ rfl)
  have c_bn1_1 : ∀ q, (gw X8 q).cell? ⟨n1, 1, none⟩ = some (.int .i64 R1.2.1) := cell_gw (blk_cell bn1 1 _ rfl)
  have c_bn1_2 : ∀ q, (gw X8 q).cell? ⟨n1, 2, none⟩ = some (.int .i64 R1.2.2.1) := cell_gw (blk_cell bn1 2 _ rfl)
  have c_bn1_3 : ∀ q, (gw X8 q).cell? ⟨n1, 3, none⟩ = some (.int .i64 R1.2.2.2.1) := cell_gw (blk_cell bn1 3 _ rfl)
  have f_bn1 := blk_frozen bn1
  have c_bn2_0 : ∀ q, (gw X8 q).cell? ⟨n2, 0, none⟩ = some (.int .i64 R2.1) := cell_gw (blk_cell bn2 0 _ rfl)
  have c_bn2_1 : ∀ q, (gw X8 q).cell? ⟨n2, 1, none⟩ = some (.int .i64 R2.2.1) := cell_gw (blk_cell bn2 1 _ rfl)
  have c_bn2_2 : ∀ q, (gw X8 q).cell? ⟨n2, 2, none⟩ = some (.int .i64 R2.2.2.1) := cell_gw (blk_cell bn2 2 _ rfl)
  have c_bn2_3 : ∀ q, (gw X8 q).cell? ⟨n2, 3, none⟩ = some (.int .i64 R2.2.2.2.1) := cell_gw (blk_cell bn2 3 _ rfl)
  have f_bn2 := blk_frozen bn2
  have c_bn3_0 : ∀ q, (gw X8 q).cell? ⟨n3, 0, none⟩ = some (.int .i64 R3.1) := cell_gw (blk_cell bn3 0 _ rfl)
  have c_bn3_1 : ∀ q, (gw X8 q).cell? ⟨n3, 1, none⟩ = some (.int .i64 R3.2.1) := cell_gw (blk_cell bn3 1 _ rfl)
  have f_bn3 := blk_frozen bn3
  have c_bn4_0 : ∀ q, (gw X8 q).cell? ⟨n4, 0, none⟩ = some (.int .i64 R4.1) := cell_gw (blk_cell bn4 0 _ rfl)
  have c_bn4_1 : ∀ q, (gw X8 q).cell? ⟨n4, 1, none⟩ = some (.int .i64 R4.2.1) := cell_gw (blk_cell bn4 1 _ rfl)
  have c_bn4_2 : ∀ q, (gw X8 q).cell? ⟨n4, 2, none⟩ = some (.int .i64 R4.2.2.1) := cell_gw (blk_cell bn4 2 _ rfl)
  have c_bn4_3 : ∀ q, (gw X8 q).cell? ⟨n4, 3, none⟩ = some (.int .i64 R4.2.2.2.1) := cell_gw (blk_cell bn4 3 _ rfl)
  have f_bn4 := blk_frozen bn4
  have c_hg5_0 : ∀ q, (gw X8 q).cell? ⟨g5, 0, none⟩ = some (.int .i64 R1.1) := cell_gw (blk_cell hg5 0 _ rfl)
  have c_hg5_1 : ∀ q, (gw X8 q).cell? ⟨g5, 1, none⟩ = some (.int .i64 R1.2.1) := cell_gw (blk_cell hg5 1 _ rfl)
  have c_hg5_2 : ∀ q, (gw X8 q).cell? ⟨g5, 2, none⟩ = some (.int .i64 R1.2.2.1) := cell_gw (blk_cell hg5 2 _ rfl)
  have c_hg5_3 : ∀ q, (gw X8 q).cell? ⟨g5, 3, none⟩ = some (.int .i64 R1.2.2.2.1) := cell_gw (blk_cell hg5 3 _ rfl)
  have f_hg5 := blk_frozen hg5
  have c_hg6_0 : ∀ q, (gw X8 q).cell? ⟨g6, 0, none⟩ = some (.int .i64 R2.1) := cell_gw (blk_cell hg6 0 _ rfl)
  have c_hg6_1 : ∀ q, (gw X8 q).cell? ⟨g6, 1, none⟩ = some (.int .i64 R2.2.1) := cell_gw (blk_cell hg6 1 _ rfl)
  have c_hg6_2 : ∀ q, (gw X8 q).cell? ⟨g6, 2, none⟩ = some (.int .i64 R2.2.2.1) := cell_gw (blk_cell hg6 2 _ rfl)
  have c_hg6_3 : ∀ q, (gw X8 q).cell? ⟨g6, 3, none⟩ = some (.int .i64 R2.2.2.2.1) := cell_gw (blk_cell hg6 3 _ rfl)
  have f_hg6 := blk_frozen hg6
  have c_bn7_0 : ∀ q, (gw X8 q).cell? ⟨n7, 0, none⟩ = some (.int .i64 R3.1) := cell_gw (blk_cell bn7 0 _ rfl)
  have c_bn7_1 : ∀ q, (gw X8 q).cell? ⟨n7, 1, none⟩ = some (.int .i64 R3.2.1) := cell_gw (blk_cell bn7 1 _ rfl)
  have f_bn7 := blk_frozen bn7
  go_wp2_with fail
  go_ret
  exact ⟨by simp, below_gw hB _⟩
end Go.Proofs.Ytimdklineeeieaa
