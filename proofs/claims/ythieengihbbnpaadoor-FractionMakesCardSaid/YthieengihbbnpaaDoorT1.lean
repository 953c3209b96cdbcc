/- The statements on fractions: Compares, Muls, Adds, Makes. -/
import Derived.Test.YthieengihbbnpaaDoorF10
import Derived.Test.YthieengihbbnpaaDoorF2
namespace Go.Proofs.YthieengihbbnpaaDoor
open Go.RowKit Go.Sort
set_option linter.unusedVariables false
set_option maxRecDepth 100000 in
set_option maxHeartbeats 8000000 in
theorem compares_any (a b c d : Int) (w : World) (ht : Tab w) :
    Calls Tryd.prog 8 #[.agg #[.int .i64 a, .int .i64 b], .agg #[.int .i64 c, .int .i64 d]] w fun r w' => r = .returned (.bool true) ∧ Below w.heap.size w w' := by
  obtain ⟨W, hW, hB, hS, b0, b1⟩ := lay2 w #[.int .i64 a, .int .i64 b] 27 #[.int .i64 c, .int .i64 d] 27
  obtain ⟨p0, hp0⟩ := gw_start W
  have HW := Lib.hid (hW.trans hp0)
  clear hW hp0
  have c_b0_0 : ∀ q, (gw W q).cell? ⟨w.heap.size, 0, none⟩ = some (.int .i64 a) := cell_gw (blk_cell b0 0 _ rfl)
  have c_b0_1 : ∀ q, (gw W q).cell? ⟨w.heap.size, 1, none⟩ = some (.int .i64 b) := cell_gw (blk_cell b0 1 _ rfl)
  have f_b0 := blk_frozen b0
  have c_b1_0 : ∀ q, (gw W q).cell? ⟨w.heap.size + 1, 0, none⟩ = some (.int .i64 c) := cell_gw (blk_cell b1 0 _ rfl)
  have c_b1_1 : ∀ q, (gw W q).cell? ⟨w.heap.size + 1, 1, none⟩ = some (.int .i64 d) := cell_gw (blk_cell b1 1 _ rfl)
  have f_b1 := blk_frozen b1
  have cA := fun q => awake_any (gw W q) (tab_gw ht hB q)
  have c1 := fun w => cmp_any a b c d w
  have c2 := fun w => rcmp_any a b c d w
  generalize M.cmpF a b c d = R at c1 c2
  go_enter Tryd.func8, Tryd.ntmps8
  go_wp2_with fail
  rw [HW.out]
  refine wp_gw _ (by kernel_rfl) (by kernel_rfl) ?_
  repeat (quiet_step (first | (go_at_call 14; with_reducible exact callsGw (cA _)) | (go_at_call 36; with_reducible exact callsGw (c1 _)) | (go_at_call 37; with_reducible exact callsGw (c2 _))))
  refine wpQuiet_nil ?_
  intro _ hw'
  obtain ⟨p, hw''⟩ := hw'
  subst hw''
  go_wp2
  go_ret
  exact ⟨by simp, below_gw hB _⟩
set_option maxRecDepth 100000 in
set_option maxHeartbeats 8000000 in
theorem muls_any (a b c d : Int) (w : World) (ht : Tab w) :
    Calls Tryd.prog 5 #[.agg #[.int .i64 a, .int .i64 b], .agg #[.int .i64 c, .int .i64 d]] w fun r w' => r = .returned (.bool true) ∧ Below w.heap.size w w' := by
  obtain ⟨W, hW, hB, hS, b0, b1⟩ := lay2 w #[.int .i64 a, .int .i64 b] 27 #[.int .i64 c, .int .i64 d] 27
  obtain ⟨p0, hp0⟩ := gw_start W
  have HW := Lib.hid (hW.trans hp0)
  clear hW hp0
  have c_b0_0 : ∀ q, (gw W q).cell? ⟨w.heap.size, 0, none⟩ = some (.int .i64 a) := cell_gw (blk_cell b0 0 _ rfl)
  have c_b0_1 : ∀ q, (gw W q).cell? ⟨w.heap.size, 1, none⟩ = some (.int .i64 b) := cell_gw (blk_cell b0 1 _ rfl)
  have f_b0 := blk_frozen b0
  have c_b1_0 : ∀ q, (gw W q).cell? ⟨w.heap.size + 1, 0, none⟩ = some (.int .i64 c) := cell_gw (blk_cell b1 0 _ rfl)
  have c_b1_1 : ∀ q, (gw W q).cell? ⟨w.heap.size + 1, 1, none⟩ = some (.int .i64 d) := cell_gw (blk_cell b1 1 _ rfl)
  have f_b1 := blk_frozen b1
  have c1 := fun w => mul_any a b c d w
  have c2 := fun w => rmul_any a b c d w
  have c3 := fun w => div_any a b c d w
  have c4 := fun w => rdiv_any a b c d w
  generalize M.mulF a b c d = R at c1 c2
  generalize M.divF a b c d = S at c3 c4
  go_enter Tryd.func5, Tryd.ntmps5
  go_wp2_with fail
  rw [HW.out]
  go_upto_region 2 with (go_at_call 21; with_reducible refine (callsGw (c1 _)).mono ?_; rintro e w1 ⟨rfl, q, rfl⟩)
  obtain ⟨X1, n1, en1, hnn1, gen1, ltn1, bn1, kn1, ln1⟩ := laid W #[.int .i64 R.1, .int .i64 R.2.1] 27 q
  rw [en1]
  simp only [hnn1]
  have b0 := kn1 _ _ b0
  have b1 := kn1 _ _ b1
  have hB := ln1 _ hB
  clear en1 hnn1
  have c_bn1_0 : ∀ q, (gw X1 q).cell? ⟨n1, 0, none⟩ = some (.int .i64 R.1) := cell_gw (blk_cell bn1 0 _ rfl)
  have c_bn1_1 : ∀ q, (gw X1 q).cell? ⟨n1, 1, none⟩ = some (.int .i64 R.2.1) := cell_gw (blk_cell bn1 1 _ rfl)
  have f_bn1 := blk_frozen bn1
  have c_b0_0 : ∀ q, (gw X1 q).cell? ⟨w.heap.size, 0, none⟩ = some (.int .i64 a) := cell_gw (blk_cell b0 0 _ rfl)
  have c_b0_1 : ∀ q, (gw X1 q).cell? ⟨w.heap.size, 1, none⟩ = some (.int .i64 b) := cell_gw (blk_cell b0 1 _ rfl)
  have f_b0 := blk_frozen b0
  have c_b1_0 : ∀ q, (gw X1 q).cell? ⟨w.heap.size + 1, 0, none⟩ = some (.int .i64 c) := cell_gw (blk_cell b1 0 _ rfl)
  have c_b1_1 : ∀ q, (gw X1 q).cell? ⟨w.heap.size + 1, 1, none⟩ = some (.int .i64 d) := cell_gw (blk_cell b1 1 _ rfl)
  have f_b1 := blk_frozen b1
  go_upto_region 3 with (go_at_call 22; with_reducible refine (callsGw (c2 _)).mono ?_; rintro e w1 ⟨rfl, q, rfl⟩)
  obtain ⟨X2, n2, en2, hnn2, gen2, ltn2, bn2, kn2, ln2⟩ := laid X1 #[.int .i64 R.1, .int .i64 R.2.1] 27 q
  rw [en2]
  simp only [hnn2]
  have b0 := kn2 _ _ b0
  have b1 := kn2 _ _ b1
  have bn1 := kn2 _ _ bn1
  have hB := ln2 _ hB
  clear en2 hnn2
  have c_bn2_0 : ∀ q, (gw X2 q).cell? ⟨n2, 0, none⟩ = some (.int .i64 R.1) := cell_gw (blk_cell bn2 0 _ rfl)
  have c_bn2_1 : ∀ q, (gw X2 q).cell? ⟨n2, 1, none⟩ = some (.int .i64 R.2.1) := cell_gw (blk_cell bn2 1 _ rfl)
  have f_bn2 := blk_frozen bn2
  have c_b0_0 : ∀ q, (gw X2 q).cell? ⟨w.heap.size, 0, none⟩ = some (.int .i64 a) := cell_gw (blk_cell b0 0 _ rfl)
  have c_b0_1 : ∀ q, (gw X2 q).cell? ⟨w.heap.size, 1, none⟩ = some (.int .i64 b) := cell_gw (blk_cell b0 1 _ rfl)
  have f_b0 := blk_frozen b0
  have c_b1_0 : ∀ q, (gw X2 q).cell? ⟨w.heap.size + 1, 0, none⟩ = some (.int .i64 c) := cell_gw (blk_cell b1 0 _ rfl)
  have c_b1_1 : ∀ q, (gw X2 q).cell? ⟨w.heap.size + 1, 1, none⟩ = some (.int .i64 d) := cell_gw (blk_cell b1 1 _ rfl)
  have f_b1 := blk_frozen b1
  go_upto_region 4 with (go_at_call 23; with_reducible refine (callsGw (c3 _)).mono ?_; rintro e w1 ⟨rfl, q, rfl⟩)
  obtain ⟨X3, n3, en3, hnn3, gen3, ltn3, bn3, kn3, ln3⟩ := laid X2 #[.int .i64 S.1, .int .i64 S.2.1] 27 q
  rw [en3]
  simp only [hnn3]
  have b0 := kn3 _ _ b0
  have b1 := kn3 _ _ b1
  have bn1 := kn3 _ _ bn1
  have bn2 := kn3 _ _ bn2
  have hB := ln3 _ hB
  clear en3 hnn3
  have c_bn3_0 : ∀ q, (gw X3 q).cell? ⟨n3, 0, none⟩ = some (.int .i64 S.1) := cell_gw (blk_cell bn3 0 _ rfl)
  have c_bn3_1 : ∀ q, (gw X3 q).cell? ⟨n3, 1, none⟩ = some (.int .i64 S.2.1) := cell_gw (blk_cell bn3 1 _ rfl)
  have f_bn3 := blk_frozen bn3
  have c_b0_0 : ∀ q, (gw X3 q).cell? ⟨w.heap.size, 0, none⟩ = some (.int .i64 a) := cell_gw (blk_cell b0 0 _ rfl)
  have c_b0_1 : ∀ q, (gw X3 q).cell? ⟨w.heap.size, 1, none⟩ = some (.int .i64 b) := cell_gw (blk_cell b0 1 _ rfl)
  have f_b0 := blk_frozen b0
  have c_b1_0 : ∀ q, (gw X3 q).cell? ⟨w.heap.size + 1, 0, none⟩ = some (.int .i64 c) := cell_gw (blk_cell b1 0 _ rfl)
  have c_b1_1 : ∀ q, (gw X3 q).cell? ⟨w.heap.size + 1, 1, none⟩ = some (.int .i64 d) := cell_gw (blk_cell b1 1 _ rfl)
  have f_b1 := blk_frozen b1
  go_upto_region 5 with (go_at_call 24; with_reducible refine (callsGw (c4 _)).mono ?_; rintro e w1 ⟨rfl, q, rfl⟩)
  obtain ⟨X4, n4, en4, hnn4, gen4, ltn4, bn4, kn4, ln4⟩ := laid X3 #[.int .i64 S.1, .int .i64 S.2.1] 27 q
  rw [en4]
  simp only [hnn4]
  have b0 := kn4 _ _ b0
  have b1 := kn4 _ _ b1
  have bn1 := kn4 _ _ bn1
  have bn2 := kn4 _ _ bn2
  have bn3 := kn4 _ _ bn3
  have hB := ln4 _ hB
  clear en4 hnn4
  have c_bn4_0 : ∀ q, (gw X4 q).cell? ⟨n4, 0, none⟩ = some (.int .i64 S.1) := cell_gw (blk_cell bn4 0 _ rfl)
  have c_bn4_1 : ∀ q, (gw X4 q).cell? ⟨n4, 1, none⟩ = some (.int .i64 S.2.1) := cell_gw (blk_cell bn4 1 _ rfl)
  have f_bn4 := blk_frozen bn4
  have c_bn1_0 : ∀ q, (gw X4 q).cell? ⟨n1, 0, none⟩ = some (.int .i64 R.1) := cell_gw (blk_cell bn1 0 _ rfl)
  have c_bn1_1 : ∀ q, (gw X4 q).cell? ⟨n1, 1, none⟩ = some (.int .i64 R.2.1) := cell_gw (blk_cell bn1 1 _ rfl)
  have f_bn1 := blk_frozen bn1
  have c_bn2_0 : ∀ q, (gw X4 q).cell? ⟨n2, 0, none⟩ = some (.int .i64 R.1) := cell_gw (blk_cell bn2 0 _ rfl)
  have c_bn2_1 : ∀ q, (gw X4 q).cell? ⟨n2, 1, none⟩ = some (.int .i64 R.2.1) := cell_gw (blk_cell bn2 1 _ rfl)
  have f_bn2 := blk_frozen bn2
  have c_bn3_0 : ∀ q, (gw X4 q).cell? ⟨n3, 0, none⟩ = some (.int .i64 S.1) := cell_gw (blk_cell bn3 0 _ rfl)
  have c_bn3_1 : ∀ q, (gw X4 q).cell? ⟨n3, 1, none⟩ = some (.int .i64 S.2.1) := cell_gw (blk_cell bn3 1 _ rfl)
  have f_bn3 := blk_frozen bn3
  have cA := fun q => awake_any (gw X4 q) (tab_gw ht hB q)
  go_wp2_with (go_at_call 14; with_reducible refine (callsGw (cA _)).mono ?_; rintro e w1 ⟨rfl, q, rfl⟩)
  go_ret
  exact ⟨by simp, below_gw hB _⟩
set_option maxRecDepth 100000 in
set_option maxHeartbeats 8000000 in
theorem adds_any (a b c d : Int) (w : World) (ht : Tab w) :
    Calls Tryd.prog 6 #[.agg #[.int .i64 a, .int .i64 b], .agg #[.int .i64 c, .int .i64 d]] w fun r w' => r = .returned (.bool true) ∧ Below w.heap.size w w' := by
  obtain ⟨W, hW, hB, hS, b0, b1⟩ := lay2 w #[.int .i64 a, .int .i64 b] 27 #[.int .i64 c, .int .i64 d] 27
  obtain ⟨p0, hp0⟩ := gw_start W
  have HW := Lib.hid (hW.trans hp0)
  clear hW hp0
  have c_b0_0 : ∀ q, (gw W q).cell? ⟨w.heap.size, 0, none⟩ = some (.int .i64 a) := cell_gw (blk_cell b0 0 _ rfl)
  have c_b0_1 : ∀ q, (gw W q).cell? ⟨w.heap.size, 1, none⟩ = some (.int .i64 b) := cell_gw (blk_cell b0 1 _ rfl)
  have f_b0 := blk_frozen b0
  have c_b1_0 : ∀ q, (gw W q).cell? ⟨w.heap.size + 1, 0, none⟩ = some (.int .i64 c) := cell_gw (blk_cell b1 0 _ rfl)
  have c_b1_1 : ∀ q, (gw W q).cell? ⟨w.heap.size + 1, 1, none⟩ = some (.int .i64 d) := cell_gw (blk_cell b1 1 _ rfl)
  have f_b1 := blk_frozen b1
  have c1 := fun w => add_any a b c d w
  have c2 := fun w => radd_any a b c d w
  have c3 := fun w => sub_any a b c d w
  have c4 := fun w => rsub_any a b c d w
  generalize M.addF a b c d = R at c1 c2
  generalize M.subF a b c d = S at c3 c4
  go_enter Tryd.func6, Tryd.ntmps6
  go_wp2_with fail
  rw [HW.out]
  go_upto_region 2 with (go_at_call 25; with_reducible refine (callsGw (c1 _)).mono ?_; rintro e w1 ⟨rfl, q, rfl⟩)
  obtain ⟨X1, n1, en1, hnn1, gen1, ltn1, bn1, kn1, ln1⟩ := laid W #[.int .i64 R.1, .int .i64 R.2.1] 27 q
  rw [en1]
  simp only [hnn1]
  have b0 := kn1 _ _ b0
  have b1 := kn1 _ _ b1
  have hB := ln1 _ hB
  clear en1 hnn1
  have c_bn1_0 : ∀ q, (gw X1 q).cell? ⟨n1, 0, none⟩ = some (.int .i64 R.1) := cell_gw (blk_cell bn1 0 _ rfl)
  have c_bn1_1 : ∀ q, (gw X1 q).cell? ⟨n1, 1, none⟩ = some (.int .i64 R.2.1) := cell_gw (blk_cell bn1 1 _ rfl)
  have f_bn1 := blk_frozen bn1
  have c_b0_0 : ∀ q, (gw X1 q).cell? ⟨w.heap.size, 0, none⟩ = some (.int .i64 a) := cell_gw (blk_cell b0 0 _ rfl)
  have c_b0_1 : ∀ q, (gw X1 q).cell? ⟨w.heap.size, 1, none⟩ = some (.int .i64 b) := cell_gw (blk_cell b0 1 _ rfl)
  have f_b0 := blk_frozen b0
  have c_b1_0 : ∀ q, (gw X1 q).cell? ⟨w.heap.size + 1, 0, none⟩ = some (.int .i64 c) := cell_gw (blk_cell b1 0 _ rfl)
  have c_b1_1 : ∀ q, (gw X1 q).cell? ⟨w.heap.size + 1, 1, none⟩ = some (.int .i64 d) := cell_gw (blk_cell b1 1 _ rfl)
  have f_b1 := blk_frozen b1
  go_upto_region 3 with (go_at_call 26; with_reducible refine (callsGw (c2 _)).mono ?_; rintro e w1 ⟨rfl, q, rfl⟩)
  obtain ⟨X2, n2, en2, hnn2, gen2, ltn2, bn2, kn2, ln2⟩ := laid X1 #[.int .i64 R.1, .int .i64 R.2.1] 27 q
  rw [en2]
  simp only [hnn2]
  have b0 := kn2 _ _ b0
  have b1 := kn2 _ _ b1
  have bn1 := kn2 _ _ bn1
  have hB := ln2 _ hB
  clear en2 hnn2
  have c_bn2_0 : ∀ q, (gw X2 q).cell? ⟨n2, 0, none⟩ = some (.int .i64 R.1) := cell_gw (blk_cell bn2 0 _ rfl)
  have c_bn2_1 : ∀ q, (gw X2 q).cell? ⟨n2, 1, none⟩ = some (.int .i64 R.2.1) := cell_gw (blk_cell bn2 1 _ rfl)
  have f_bn2 := blk_frozen bn2
  have c_b0_0 : ∀ q, (gw X2 q).cell? ⟨w.heap.size, 0, none⟩ = some (.int .i64 a) := cell_gw (blk_cell b0 0 _ rfl)
  have c_b0_1 : ∀ q, (gw X2 q).cell? ⟨w.heap.size, 1, none⟩ = some (.int .i64 b) := cell_gw (blk_cell b0 1 _ rfl)
  have f_b0 := blk_frozen b0
  have c_b1_0 : ∀ q, (gw X2 q).cell? ⟨w.heap.size + 1, 0, none⟩ = some (.int .i64 c) := cell_gw (blk_cell b1 0 _ rfl)
  have c_b1_1 : ∀ q, (gw X2 q).cell? ⟨w.heap.size + 1, 1, none⟩ = some (.int .i64 d) := cell_gw (blk_cell b1 1 _ rfl)
  have f_b1 := blk_frozen b1
  go_upto_region 4 with (go_at_call 27; with_reducible refine (callsGw (c3 _)).mono ?_; rintro e w1 ⟨rfl, q, rfl⟩)
  obtain ⟨X3, n3, en3, hnn3, gen3, ltn3, bn3, kn3, ln3⟩ := laid X2 #[.int .i64 S.1, .int .i64 S.2.1] 27 q
  rw [en3]
  simp only [hnn3]
  have b0 := kn3 _ _ b0
  have b1 := kn3 _ _ b1
  have bn1 := kn3 _ _ bn1
  have bn2 := kn3 _ _ bn2
  have hB := ln3 _ hB
  clear en3 hnn3
  have c_bn3_0 : ∀ q, (gw X3 q).cell? ⟨n3, 0, none⟩ = some (.int .i64 S.1) := cell_gw (blk_cell bn3 0 _ rfl)
  have c_bn3_1 : ∀ q, (gw X3 q).cell? ⟨n3, 1, none⟩ = some (.int .i64 S.2.1) := cell_gw (blk_cell bn3 1 _ rfl)
  have f_bn3 := blk_frozen bn3
  have c_b0_0 : ∀ q, (gw X3 q).cell? ⟨w.heap.size, 0, none⟩ = some (.int .i64 a) := cell_gw (blk_cell b0 0 _ rfl)
  have c_b0_1 : ∀ q, (gw X3 q).cell? ⟨w.heap.size, 1, none⟩ = some (.int .i64 b) := cell_gw (blk_cell b0 1 _ rfl)
  have f_b0 := blk_frozen b0
  have c_b1_0 : ∀ q, (gw X3 q).cell? ⟨w.heap.size + 1, 0, none⟩ = some (.int .i64 c) := cell_gw (blk_cell b1 0 _ rfl)
  have c_b1_1 : ∀ q, (gw X3 q).cell? ⟨w.heap.size + 1, 1, none⟩ = some (.int .i64 d) := cell_gw (blk_cell b1 1 _ rfl)
  have f_b1 := blk_frozen b1
  go_upto_region 5 with (go_at_call 28; with_reducible refine (callsGw (c4 _)).mono ?_; rintro e w1 ⟨rfl, q, rfl⟩)
  obtain ⟨X4, n4, en4, hnn4, gen4, ltn4, bn4, kn4, ln4⟩ := laid X3 #[.int .i64 S.1, .int .i64 S.2.1] 27 q
  rw [en4]
  simp only [hnn4]
  have b0 := kn4 _ _ b0
  have b1 := kn4 _ _ b1
  have bn1 := kn4 _ _ bn1
  have bn2 := kn4 _ _ bn2
  have bn3 := kn4 _ _ bn3
  have hB := ln4 _ hB
  clear en4 hnn4
  have c_bn4_0 : ∀ q, (gw X4 q).cell? ⟨n4, 0, none⟩ = some (.int .i64 S.1) := cell_gw (blk_cell bn4 0 _ rfl)
  have c_bn4_1 : ∀ q, (gw X4 q).cell? ⟨n4, 1, none⟩ = some (.int .i64 S.2.1) := cell_gw (blk_cell bn4 1 _ rfl)
  have f_bn4 := blk_frozen bn4
  have c_bn1_0 : ∀ q, (gw X4 q).cell? ⟨n1, 0, none⟩ = some (.int .i64 R.1) := cell_gw (blk_cell bn1 0 _ rfl)
  have c_bn1_1 : ∀ q, (gw X4 q).cell? ⟨n1, 1, none⟩ = some (.int .i64 R.2.1) := cell_gw (blk_cell bn1 1 _ rfl)
  have f_bn1 := blk_frozen bn1
  have c_bn2_0 : ∀ q, (gw X4 q).cell? ⟨n2, 0, none⟩ = some (.int .i64 R.1) := cell_gw (blk_cell bn2 0 _ rfl)
  have c_bn2_1 : ∀ q, (gw X4 q).cell? ⟨n2, 1, none⟩ = some (.int .i64 R.2.1) := cell_gw (blk_cell bn2 1 _ rfl)
  have f_bn2 := blk_frozen bn2
  have c_bn3_0 : ∀ q, (gw X4 q).cell? ⟨n3, 0, none⟩ = some (.int .i64 S.1) := cell_gw (blk_cell bn3 0 _ rfl)
  have c_bn3_1 : ∀ q, (gw X4 q).cell? ⟨n3, 1, none⟩ = some (.int .i64 S.2.1) := cell_gw (blk_cell bn3 1 _ rfl)
  have f_bn3 := blk_frozen bn3
  have cA := fun q => awake_any (gw X4 q) (tab_gw ht hB q)
  go_wp2_with (go_at_call 14; with_reducible refine (callsGw (cA _)).mono ?_; rintro e w1 ⟨rfl, q, rfl⟩)
  go_ret
  exact ⟨by simp, below_gw hB _⟩
set_option maxRecDepth 100000 in
set_option maxHeartbeats 8000000 in
theorem makes_gw (n d : Int) (hn : M.isI n) (hd : M.isI d) (w W : World) (p : Regrown) (hB : Below w.heap.size w W) (ht : Tab w) :
    Calls Tryd.prog 7 #[.int .i64 n, .int .i64 d] (gw W p) fun r w' => r = .returned (.bool true) ∧ Below w.heap.size w w' := by
  have c1 := fun w => make_any n d hn hd w
  have c2 := fun w => rmake_any n d hn hd w
  have c3 := fun w => valid_any n d w
  have c4 := fun w => rvalid_any n d w
  have c5 := fun w => milli_any n hn w
  have c6 := fun w => rmilli_any n hn w
  have c7 := fun w => neg_any n d w
  have c8 := fun w => rneg_any n d w
  generalize M.makeF n d = R at c1 c2
  generalize M.vld n d = v at c3 c4
  generalize M.milliF n = S at c5 c6
  generalize M.negF n d = T at c7 c8
  clear hn hd
  go_enter Tryd.func7, Tryd.ntmps7
  go_upto_region 2 with (go_at_call 29; with_reducible refine (callsGw (c1 _)).mono ?_; rintro e w1 ⟨rfl, q, rfl⟩)
  obtain ⟨X1, n1, en1, hnn1, gen1, ltn1, bn1, kn1, ln1⟩ := laid W #[.int .i64 R.1, .int .i64 R.2.1] 27 q
  rw [en1]
  simp only [hnn1]
  have hB := ln1 _ hB
  clear en1 hnn1
  have c_bn1_0 : ∀ q, (gw X1 q).cell? ⟨n1, 0, none⟩ = some (.int .i64 R.1) := cell_gw (blk_cell bn1 0 _ rfl)
  have c_bn1_1 : ∀ q, (gw X1 q).cell? ⟨n1, 1, none⟩ = some (.int .i64 R.2.1) := cell_gw (blk_cell bn1 1 _ rfl)
  have f_bn1 := blk_frozen bn1
  go_upto_region 3 with (go_at_call 16; with_reducible refine (callsGw (c2 _)).mono ?_; rintro e w1 ⟨rfl, q, rfl⟩)
  obtain ⟨X2, n2, en2, hnn2, gen2, ltn2, bn2, kn2, ln2⟩ := laid X1 #[.int .i64 R.1, .int .i64 R.2.1] 27 q
  rw [en2]
  simp only [hnn2]
  have bn1 := kn2 _ _ bn1
  have hB := ln2 _ hB
  clear en2 hnn2
  have c_bn2_0 : ∀ q, (gw X2 q).cell? ⟨n2, 0, none⟩ = some (.int .i64 R.1) := cell_gw (blk_cell bn2 0 _ rfl)
  have c_bn2_1 : ∀ q, (gw X2 q).cell? ⟨n2, 1, none⟩ = some (.int .i64 R.2.1) := cell_gw (blk_cell bn2 1 _ rfl)
  have f_bn2 := blk_frozen bn2
  have c_bn1_0 : ∀ q, (gw X2 q).cell? ⟨n1, 0, none⟩ = some (.int .i64 R.1) := cell_gw (blk_cell bn1 0 _ rfl)
  have c_bn1_1 : ∀ q, (gw X2 q).cell? ⟨n1, 1, none⟩ = some (.int .i64 R.2.1) := cell_gw (blk_cell bn1 1 _ rfl)
  have f_bn1 := blk_frozen bn1
  have cA := fun q => awake_any (gw X2 q) (tab_gw ht hB q)
  clear c1 c2
  go_wp2_with (first | (go_at_call 14; with_reducible refine (callsGw (cA _)).mono ?_; rintro e w1 ⟨rfl, q, rfl⟩) | (go_at_call 31; with_reducible refine (callsGw (lawf_any _ _ _)).mono ?_; rintro e w1 ⟨rfl, q, rfl⟩) | (go_at_call 30; with_reducible refine (callsGw (c3 _)).mono ?_; rintro e w1 ⟨rfl, q, rfl⟩) | (go_at_call 20; with_reducible refine (callsGw (c4 _)).mono ?_; rintro e w1 ⟨rfl, q, rfl⟩) | (go_at_call 32; with_reducible refine (callsGw (c5 _)).mono ?_; rintro e w1 ⟨rfl, q, rfl⟩) | (go_at_call 33; with_reducible refine (callsGw (c6 _)).mono ?_; rintro e w1 ⟨rfl, q, rfl⟩) | (go_at_call 34; with_reducible refine (callsGw (c7 _)).mono ?_; rintro e w1 ⟨rfl, q, rfl⟩) | (go_at_call 35; with_reducible refine (callsGw (c8 _)).mono ?_; rintro e w1 ⟨rfl, q, rfl⟩))
  go_ret
  exact ⟨by simp, below_gw hB _⟩
theorem makes_any (n d : Int) (hn : M.isI n) (hd : M.isI d) (w : World) (ht : Tab w) :
    Calls Tryd.prog 7 #[.int .i64 n, .int .i64 d] w fun r w' => r = .returned (.bool true) ∧ Below w.heap.size w w' := by
  obtain ⟨p0, hp0⟩ := gw_start w
  have h := makes_gw n d hn hd w w p0 (belowRefl w) ht
  rwa [← hp0] at h
end Go.Proofs.YthieengihbbnpaaDoor
