/- The statements on fractions: f, the example of Round, awake. -/
import Derived.Test.YthieengihbbnpaaDoorF9
import Derived.Test.YthieengihbbnpaaDoorM25
namespace Go.Proofs.YthieengihbbnpaaDoor
open Go.RowKit Go.Sort
set_option linter.unusedVariables false
set_option maxRecDepth 100000 in
theorem lawf_any (a b : Int) (w : World) :
    Calls Tryd.prog 31 #[.int .i64 a, .int .i64 b] w fun x w' => x = .returned (.agg #[.int .i64 a, .int .i64 b]) ∧ Below w.heap.size w w' := by
  obtain ⟨W, hW, hB, hS, b0⟩ := lay1 w #[.int .i64 a, .int .i64 b] 27
  obtain ⟨p0, hp0⟩ := gw_start W
  have HW := Lib.hid (hW.trans hp0)
  clear hW hp0
  have c_b0_0 : ∀ q, (gw W q).cell? ⟨w.heap.size, 0, none⟩ = some (.int .i64 a) := cell_gw (blk_cell b0 0 _ rfl)
  have c_b0_1 : ∀ q, (gw W q).cell? ⟨w.heap.size, 1, none⟩ = some (.int .i64 b) := cell_gw (blk_cell b0 1 _ rfl)
  have f_b0 := blk_frozen b0
  go_enter Tryd.func31, Tryd.ntmps31
  go_wp2_with fail
  rw [HW.out]
  refine bodyPost_ret (v := .agg #[.int .i64 a, .int .i64 b]) (by simp [results, Tryd.results31, go_sem, c_b0_0, c_b0_1]) rfl ⟨rfl, ?_⟩
  repeat (refine belowSet ?_ (by omega))
  exact below_gw hB _
set_option maxRecDepth 100000 in
set_option maxHeartbeats 4000000 in
theorem round_ex (w : World) :
    Calls Tryd.prog 46 #[.agg #[.int .i64 (-1), .int .i64 8], .int .i64 2, .int .i64 2] w fun x w' => x = .returned (.tuple #[.int .i64 (-13), .int .i64 0]) ∧ Below w.heap.size w w' := by
  obtain ⟨W, hW, hB, hS, b0⟩ := lay1 w #[.int .i64 (-1), .int .i64 8] 27
  obtain ⟨p0, hp0⟩ := gw_start W
  have HW := Lib.hid (hW.trans hp0)
  clear hW hp0
  have c_b0_0 : ∀ q, (gw W q).cell? ⟨w.heap.size, 0, none⟩ = some (.int .i64 (-1)) := cell_gw (blk_cell b0 0 _ rfl)
  have c_b0_1 : ∀ q, (gw W q).cell? ⟨w.heap.size, 1, none⟩ = some (.int .i64 8) := cell_gw (blk_cell b0 1 _ rfl)
  have f_b0 := blk_frozen b0
  have cV := fun w => valid_any (-1) 8 w
  rw [M.y12] at cV
  have cS : ∀ w, Calls Tryd.prog 43 #[.int .i64 (-1)] w fun e w' => e = .returned (.int .u64 1) ∧ Below w.heap.size w w' := fun w => sizeB_any (-1) (by unfold M.isI; omega) w
  have cP : ∀ w, Calls Tryd.prog 50 #[.int .i64 2] w fun e w' => e = .returned (.int .u64 100) ∧ Below w.heap.size w w' := fun w => power_any 2 (by decide) w
  have cT : ∀ w, Calls Tryd.prog 58 #[.int .u64 1, .int .u64 100] w fun e w' => e = .returned (.agg #[.int .u64 0, .int .u64 100]) ∧ Below w.heap.size w w' := fun w => times_any 1 100 (by decide) (by decide) (by decide) (by decide) w
  have cD : ∀ w, Calls Tryd.prog 65 #[.int .u64 0, .int .u64 100, .int .u64 8] w fun e w' => e = .returned (.tuple #[.int .u64 12, .int .u64 4]) ∧ Below w.heap.size w w' := fun w => div64_any 0 100 8 (by decide) (by decide) (by decide) (by decide) (by decide) w
  go_enter Tryd.func46, Tryd.ntmps46
  go_wp2_with fail
  rw [HW.out]
  go_upto_region 5 with (first | (go_at_call 30; with_reducible refine (callsGw (cV _)).mono ?_; rintro e w1 ⟨rfl, q, rfl⟩) | (go_at_call 43; with_reducible refine (callsGw (cS _)).mono ?_; rintro e w1 ⟨rfl, q, rfl⟩) | (go_at_call 50; with_reducible refine (callsGw (cP _)).mono ?_; rintro e w1 ⟨rfl, q, rfl⟩) | (go_at_call 58; with_reducible refine (callsGw (cT _)).mono ?_; rintro e w1 ⟨rfl, q, rfl⟩))
  obtain ⟨X, n, en, hnn, gen, ltn, bn, kn, ln⟩ := laid W #[.int .u64 0, .int .u64 100] 69 q
  rw [en]
  simp only [hnn]
  have b0 := kn _ _ b0
  have hB := ln _ hB
  clear en hnn
  have c_bn_0 : ∀ q, (gw X q).cell? ⟨n, 0, none⟩ = some (.int .u64 0) := cell_gw (blk_cell bn 0 _ rfl)
  have c_bn_1 : ∀ q, (gw X q).cell? ⟨n, 1, none⟩ = some (.int .u64 100) := cell_gw (blk_cell bn 1 _ rfl)
  have f_bn := blk_frozen bn
  have c_b0_0 : ∀ q, (gw X q).cell? ⟨w.heap.size, 0, none⟩ = some (.int .i64 (-1)) := cell_gw (blk_cell b0 0 _ rfl)
  have c_b0_1 : ∀ q, (gw X q).cell? ⟨w.heap.size, 1, none⟩ = some (.int .i64 8) := cell_gw (blk_cell b0 1 _ rfl)
  have f_b0 := blk_frozen b0
  go_wp2_with (go_at_call 65; with_reducible refine (callsGw (cD _)).mono ?_; rintro e w1 ⟨rfl, q, rfl⟩)
  go_ret2
  exact ⟨rfl, below_gw hB _⟩
set_option maxRecDepth 100000 in
set_option maxHeartbeats 16000000 in
theorem awake_gw (w W : World) (p : Regrown) (hB : Below w.heap.size w W) (ht : Tab w) :
    Calls Tryd.prog 14 #[] (gw W p) fun x w' => x = .returned (.bool true) ∧ Below w.heap.size w w' := by
  have c1 := fun w => make_any 6 (-4) (by unfold M.isI; omega) (by unfold M.isI; omega) w
  have c2 := fun w => add_any 1 3 1 6 w
  have c3 := fun w => mul_any 2 3 9 4 w
  have c4 := fun w => add_any 999999999999999999 1000000000000000000 1 1000000000000000000 w
  have c5 := fun w => add_any 1000000000000000000 1 1 1 w
  have c6 := fun w => round_ex w
  have c7 := fun w => decimal_any (-5) 3 (by unfold M.isI; omega) w (.inl (by decide))
  have c8 := fun w => parse_any ⟨#[48, 46, 49, 50, 53]⟩ (by decide) w
  have c9 := fun w => parse_any ⟨#[49, 46]⟩ (by decide) w
  have c11 := fun w => valid_any 0 1 w
  have c12 := fun w => valid_any 0 0 w
  rw [M.y1] at c1
  rw [M.y2] at c2
  rw [M.y3] at c3
  rw [M.y4] at c4
  rw [M.y5] at c5
  rw [M.y8] at c7
  rw [show (ByteArray.mk #[48, 46, 49, 50, 53]).data.toList = [48, 46, 49, 50, 53] from rfl, M.y6] at c8
  rw [show (ByteArray.mk #[49, 46]).data.toList = [49, 46] from rfl, M.y7] at c9
  rw [M.y10] at c11
  rw [M.y11] at c12
  go_enter Tryd.func14, Tryd.ntmps14
  go_upto_region 2 with (first | (go_at_call 31; with_reducible refine (callsGw (lawf_any _ _ _)).mono ?_; rintro e w1 ⟨rfl, q, rfl⟩) | (go_at_call 29; with_reducible refine (callsGw (c1 _)).mono ?_; rintro e w1 ⟨rfl, q, rfl⟩))
  obtain ⟨X1, n1, en1, hnn1, gen1, ltn1, bn1, kn1, ln1⟩ := laid W #[.int .i64 (-3), .int .i64 2] 27 q
  rw [en1]
  simp only [hnn1]
  have hB := ln1 _ hB
  clear en1 hnn1
  have c_bn1_0 : ∀ q, (gw X1 q).cell? ⟨n1, 0, none⟩ = some (.int .i64 (-3)) := cell_gw (blk_cell bn1 0 _ rfl)
  have c_bn1_1 : ∀ q, (gw X1 q).cell? ⟨n1, 1, none⟩ = some (.int .i64 2) := cell_gw (blk_cell bn1 1 _ rfl)
  have f_bn1 := blk_frozen bn1
  go_upto_region 3 with (first | (go_at_call 31; with_reducible refine (callsGw (lawf_any _ _ _)).mono ?_; rintro e w1 ⟨rfl, q, rfl⟩) | (go_at_call 25; with_reducible refine (callsGw (c2 _)).mono ?_; rintro e w1 ⟨rfl, q, rfl⟩))
  obtain ⟨X2, n2, en2, hnn2, gen2, ltn2, bn2, kn2, ln2⟩ := laid X1 #[.int .i64 1, .int .i64 2] 27 q
  rw [en2]
  simp only [hnn2]
  have bn1 := kn2 _ _ bn1
  have hB := ln2 _ hB
  clear en2 hnn2
  have c_bn2_0 : ∀ q, (gw X2 q).cell? ⟨n2, 0, none⟩ = some (.int .i64 1) := cell_gw (blk_cell bn2 0 _ rfl)
  have c_bn2_1 : ∀ q, (gw X2 q).cell? ⟨n2, 1, none⟩ = some (.int .i64 2) := cell_gw (blk_cell bn2 1 _ rfl)
  have f_bn2 := blk_frozen bn2
  go_upto_region 4 with (first | (go_at_call 31; with_reducible refine (callsGw (lawf_any _ _ _)).mono ?_; rintro e w1 ⟨rfl, q, rfl⟩) | (go_at_call 21; with_reducible refine (callsGw (c3 _)).mono ?_; rintro e w1 ⟨rfl, q, rfl⟩))
  obtain ⟨X3, n3, en3, hnn3, gen3, ltn3, bn3, kn3, ln3⟩ := laid X2 #[.int .i64 3, .int .i64 2] 27 q
  rw [en3]
  simp only [hnn3]
  have bn1 := kn3 _ _ bn1
  have bn2 := kn3 _ _ bn2
  have hB := ln3 _ hB
  clear en3 hnn3
  have c_bn3_0 : ∀ q, (gw X3 q).cell? ⟨n3, 0, none⟩ = some (.int .i64 3) := cell_gw (blk_cell bn3 0 _ rfl)
  have c_bn3_1 : ∀ q, (gw X3 q).cell? ⟨n3, 1, none⟩ = some (.int .i64 2) := cell_gw (blk_cell bn3 1 _ rfl)
  have f_bn3 := blk_frozen bn3
  go_upto_region 5 with (first | (go_at_call 31; with_reducible refine (callsGw (lawf_any _ _ _)).mono ?_; rintro e w1 ⟨rfl, q, rfl⟩) | (go_at_call 25; with_reducible refine (callsGw (c4 _)).mono ?_; rintro e w1 ⟨rfl, q, rfl⟩))
  obtain ⟨X4, n4, en4, hnn4, gen4, ltn4, bn4, kn4, ln4⟩ := laid X3 #[.int .i64 1, .int .i64 1] 27 q
  rw [en4]
  simp only [hnn4]
  have bn1 := kn4 _ _ bn1
  have bn2 := kn4 _ _ bn2
  have bn3 := kn4 _ _ bn3
  have hB := ln4 _ hB
  clear en4 hnn4
  have c_bn4_0 : ∀ q, (gw X4 q).cell? ⟨n4, 0, none⟩ = some (.int .i64 1) := cell_gw (blk_cell bn4 0 _ rfl)
  have c_bn4_1 : ∀ q, (gw X4 q).cell? ⟨n4, 1, none⟩ = some (.int .i64 1) := cell_gw (blk_cell bn4 1 _ rfl)
  have f_bn4 := blk_frozen bn4
  go_upto_region 6 with (first | (go_at_call 31; with_reducible refine (callsGw (lawf_any _ _ _)).mono ?_; rintro e w1 ⟨rfl, q, rfl⟩) | (go_at_call 25; with_reducible refine (callsGw (c5 _)).mono ?_; rintro e w1 ⟨rfl, q, rfl⟩))
  obtain ⟨X5, n5, en5, hnn5, gen5, ltn5, bn5, kn5, ln5⟩ := laid X4 #[.int .i64 0, .int .i64 0] 27 q
  rw [en5]
  simp only [hnn5]
  have bn1 := kn5 _ _ bn1
  have bn2 := kn5 _ _ bn2
  have bn3 := kn5 _ _ bn3
  have bn4 := kn5 _ _ bn4
  have hB := ln5 _ hB
  clear en5 hnn5
  have c_bn5_0 : ∀ q, (gw X5 q).cell? ⟨n5, 0, none⟩ = some (.int .i64 0) := cell_gw (blk_cell bn5 0 _ rfl)
  have c_bn5_1 : ∀ q, (gw X5 q).cell? ⟨n5, 1, none⟩ = some (.int .i64 0) := cell_gw (blk_cell bn5 1 _ rfl)
  have f_bn5 := blk_frozen bn5
  go_upto_region 9 with (first | (go_at_call 31; with_reducible refine (callsGw (lawf_any _ _ _)).mono ?_; rintro e w1 ⟨rfl, q, rfl⟩) | (go_at_call 46; with_reducible refine (callsGw (c6 _)).mono ?_; rintro e w1 ⟨rfl, q, rfl⟩) | (go_at_call 12; with_reducible refine (callsGw (c7 _)).mono ?_; rintro e w1 ⟨rfl, q, rfl⟩) | (go_at_call 15; with_reducible refine (callsGw (c8 _)).mono ?_; rintro e w1 ⟨rfl, q, rfl⟩))
  obtain ⟨X6, n6, en6, hnn6, gen6, ltn6, bn6, kn6, ln6⟩ := laid X5 #[.int .i64 1, .int .i64 8] 27 q
  rw [en6]
  simp only [hnn6]
  have bn1 := kn6 _ _ bn1
  have bn2 := kn6 _ _ bn2
  have bn3 := kn6 _ _ bn3
  have bn4 := kn6 _ _ bn4
  have hB := ln6 _ hB
  clear en6 hnn6
  have c_bn6_0 : ∀ q, (gw X6 q).cell? ⟨n6, 0, none⟩ = some (.int .i64 1) := cell_gw (blk_cell bn6 0 _ rfl)
  have c_bn6_1 : ∀ q, (gw X6 q).cell? ⟨n6, 1, none⟩ = some (.int .i64 8) := cell_gw (blk_cell bn6 1 _ rfl)
  have f_bn6 := blk_frozen bn6
  go_upto_region 10 with (first | (go_at_call 15; with_reducible refine (callsGw (c9 _)).mono ?_; rintro e w1 ⟨rfl, q, rfl⟩))
  obtain ⟨X7, n7, en7, hnn7, gen7, ltn7, bn7, kn7, ln7⟩ := laid X6 #[.int .i64 0, .int .i64 0] 27 q
  rw [en7]
  simp only [hnn7]
  have bn1 := kn7 _ _ bn1
  have bn2 := kn7 _ _ bn2
  have bn3 := kn7 _ _ bn3
  have bn4 := kn7 _ _ bn4
  have bn6 := kn7 _ _ bn6
  have hB := ln7 _ hB
  clear en7 hnn7
  have c_bn7_0 : ∀ q, (gw X7 q).cell? ⟨n7, 0, none⟩ = some (.int .i64 0) := cell_gw (blk_cell bn7 0 _ rfl)
  have c_bn7_1 : ∀ q, (gw X7 q).cell? ⟨n7, 1, none⟩ = some (.int .i64 0) := cell_gw (blk_cell bn7 1 _ rfl)
  have f_bn7 := blk_frozen bn7
  have c_bn1_0 : ∀ q, (gw X7 q).cell? ⟨n1, 0, none⟩ = some (.int .i64 (-3)) := cell_gw (blk_cell bn1 0 _ rfl)
  have c_bn1_1 : ∀ q, (gw X7 q).cell? ⟨n1, 1, none⟩ = some (.int .i64 2) := cell_gw (blk_cell bn1 1 _ rfl)
  have f_bn1 := blk_frozen bn1
  have c_bn2_0 : ∀ q, (gw X7 q).cell? ⟨n2, 0, none⟩ = some (.int .i64 1) := cell_gw (blk_cell bn2 0 _ rfl)
  have c_bn2_1 : ∀ q, (gw X7 q).cell? ⟨n2, 1, none⟩ = some (.int .i64 2) := cell_gw (blk_cell bn2 1 _ rfl)
  have f_bn2 := blk_frozen bn2
  have c_bn3_0 : ∀ q, (gw X7 q).cell? ⟨n3, 0, none⟩ = some (.int .i64 3) := cell_gw (blk_cell bn3 0 _ rfl)
  have c_bn3_1 : ∀ q, (gw X7 q).cell? ⟨n3, 1, none⟩ = some (.int .i64 2) := cell_gw (blk_cell bn3 1 _ rfl)
  have f_bn3 := blk_frozen bn3
  have c_bn4_0 : ∀ q, (gw X7 q).cell? ⟨n4, 0, none⟩ = some (.int .i64 1) := cell_gw (blk_cell bn4 0 _ rfl)
  have c_bn4_1 : ∀ q, (gw X7 q).cell? ⟨n4, 1, none⟩ = some (.int .i64 1) := cell_gw (blk_cell bn4 1 _ rfl)
  have f_bn4 := blk_frozen bn4
  have c_bn6_0 : ∀ q, (gw X7 q).cell? ⟨n6, 0, none⟩ = some (.int .i64 1) := cell_gw (blk_cell bn6 0 _ rfl)
  have c_bn6_1 : ∀ q, (gw X7 q).cell? ⟨n6, 1, none⟩ = some (.int .i64 8) := cell_gw (blk_cell bn6 1 _ rfl)
  have f_bn6 := blk_frozen bn6
  have c10 := fun q => text_any (-3) 2 (gw X7 q) (tab_gw ht hB q)
  rw [M.y9] at c10
  clear c1 c2 c3 c4 c5 c6 c7 c8 c9
  refine wp_gw _ (by kernel_rfl) (by kernel_rfl) ?_
  simp only [List.append_eq, List.cons_append, List.nil_append]
  repeat (quiet_step (first | (go_at_call 31; with_reducible exact callsGw (lawf_any _ _ _)) | (go_at_call 18; with_reducible exact callsGw (c10 _)) | (go_at_call 30; with_reducible exact callsGw (c11 _)) | (go_at_call 30; with_reducible exact callsGw (c12 _))))
  refine wpQuiet_nil ?_
  intro _ hw'
  obtain ⟨p, hw''⟩ := hw'
  subst hw''
  go_wp2
  go_ret
  exact ⟨rfl, below_gw hB _⟩
theorem awake_any (w : World) (ht : Tab w) : Calls Tryd.prog 14 #[] w fun x w' => x = .returned (.bool true) ∧ Below w.heap.size w w' := by
  obtain ⟨p0, hp0⟩ := gw_start w
  have h := awake_gw w w p0 (Below.refl _ _) ht
  rwa [← hp0] at h
end Go.Proofs.YthieengihbbnpaaDoor
