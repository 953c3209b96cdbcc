/- The statements on intervals: of, awake. -/
import Derived.Test.YtimdklineeeieaaR12
import Derived.Test.YtimdklineeeieaaM13
namespace Go.Proofs.Ytimdklineeeieaa
open Go.RowKit Go.Sort
set_option linter.unusedVariables false
set_option maxRecDepth 100000 in
theorem lof_any (a b : Int) (w : World) :
    Calls Try.prog 36 #[.int .i64 a, .int .i64 b] w fun x w' => x = .returned (.agg #[.int .i64 a, .int .i64 1, .int .i64 b, .int .i64 1]) ∧ Below w.heap.size w w' := by
  obtain ⟨W, hW, hB, hS, b0⟩ := lay1 w #[.int .i64 a, .int .i64 1, .int .i64 b, .int .i64 1] 25
  obtain ⟨p0, hp0⟩ := gw_start W
  have HW := Lib.hid (hW.trans hp0)
  clear hW hp0
  have c_b0_0 : ∀ q, (gw W q).cell? ⟨w.heap.size, 0, none⟩ = some (.int .i64 a) := cell_gw (blk_cell b0 0 _ rfl)
  have c_b0_1 : ∀ q, (gw W q).cell? ⟨w.heap.size, 1, none⟩ = some (.int .i64 1) := cell_gw (blk_cell b0 1 _ rfl)
  have c_b0_2 : ∀ q, (gw W q).cell? ⟨w.heap.size, 2, none⟩ = some (.int .i64 b) := cell_gw (blk_cell b0 2 _ rfl)
  have c_b0_3 : ∀ q, (gw W q).cell? ⟨w.heap.size, 3, none⟩ = some (.int .i64 1) := cell_gw (blk_cell b0 3 _ rfl)
  have f_b0 := blk_frozen b0
  go_enter Try.func36, Try.ntmps36
  go_wp2_with fail
  rw [HW.out]
  refine bodyPost_ret (v := .agg #[.int .i64 a, .int .i64 1, .int .i64 b, .int .i64 1]) (by simp [results, Try.results36, go_sem, c_b0_0, c_b0_1, c_b0_2, c_b0_3]) rfl ⟨rfl, ?_⟩
  repeat (refine belowSet ?_ (by omega))
  exact below_gw hB _
set_option maxRecDepth 100000 in
set_option maxHeartbeats 8000000 in
theorem awake_gw (w W : World) (p : Regrown) (hB : Below w.heap.size w W) :
    Calls Try.prog 10 #[] (gw W p) fun x w' => x = .returned (.bool true) ∧ Below w.heap.size w w' := by
  have c1 := fun w => imul_any (-1) 1 2 1 (-3) 1 1 1 w
  have c2 := fun w => isub_any 1 1 2 1 3 1 5 1 w
  have c3 := fun w => idiv_any 1 1 2 1 (-2) 1 w
  have c4 := fun w => imax_any 1 1 4 1 2 1 3 1 w
  have c5 := fun w => isect_any 1 1 2 1 4 1 5 1 w
  have c6 := fun w => imake_any 1 2 2 1 w
  have c7 := fun w => icont_any 1 2 2 1 1 1 w
  have c8 := fun w => iin_any 1 1 2 1 1 2 2 1 w
  rw [M.ex1] at c1
  rw [M.ex2] at c2
  rw [M.ex3] at c3
  rw [M.ex4] at c4
  rw [M.ex5] at c5
  rw [M.ex6] at c6
  rw [M.ex7] at c7
  rw [M.ex8] at c8
  go_enter Try.func10, Try.ntmps10
  go_upto_region 2 with (first | (go_at_call 36; with_reducible refine (callsGw (lof_any _ _ _)).mono ?_; rintro e w1 ⟨rfl, q, rfl⟩) | (go_at_call 35; with_reducible refine (callsGw (c1 _)).mono ?_; rintro e w1 ⟨rfl, q, rfl⟩))
  obtain ⟨X1, n1, en1, hnn1, gen1, ltn1, bn1, kn1, ln1⟩ := laid W #[.int .i64 (-6), .int .i64 1, .int .i64 3, .int .i64 1] 25 q
  rw [en1]
  simp only [hnn1]
  have hB := ln1 _ hB
  clear en1 hnn1
  have c_bn1_0 : ∀ q, (gw X1 q).cell? ⟨n1, 0, none⟩ = some (.int .i64 (-6)) := cell_gw (blk_cell bn1 0 _ rfl)
  have c_bn1_1 : ∀ q, (gw X1 q).cell? ⟨n1, 1, none⟩ = some (.int .i64 1) := cell_gw (blk_cell bn1 1 _ rfl)
  have c_bn1_2 : ∀ q, (gw X1 q).cell? ⟨n1, 2, none⟩ = some (.int .i64 3) := cell_gw (blk_cell bn1 2 _ rfl)
  have c_bn1_3 : ∀ q, (gw X1 q).cell? ⟨n1, 3, none⟩ = some (.int .i64 1) := cell_gw (blk_cell bn1 3 _ rfl)
  have f_bn1 := blk_frozen bn1
  go_upto_region 3 with (first | (go_at_call 36; with_reducible refine (callsGw (lof_any _ _ _)).mono ?_; rintro e w1 ⟨rfl, q, rfl⟩) | (go_at_call 37; with_reducible refine (callsGw (c2 _)).mono ?_; rintro e w1 ⟨rfl, q, rfl⟩))
  obtain ⟨X2, n2, en2, hnn2, gen2, ltn2, bn2, kn2, ln2⟩ := laid X1 #[.int .i64 (-4), .int .i64 1, .int .i64 (-1), .int .i64 1] 25 q
  rw [en2]
  simp only [hnn2]
  have bn1 := kn2 _ _ bn1
  have hB := ln2 _ hB
  clear en2 hnn2
  have c_bn2_0 : ∀ q, (gw X2 q).cell? ⟨n2, 0, none⟩ = some (.int .i64 (-4)) := cell_gw (blk_cell bn2 0 _ rfl)
  have c_bn2_1 : ∀ q, (gw X2 q).cell? ⟨n2, 1, none⟩ = some (.int .i64 1) := cell_gw (blk_cell bn2 1 _ rfl)
  have c_bn2_2 : ∀ q, (gw X2 q).cell? ⟨n2, 2, none⟩ = some (.int .i64 (-1)) := cell_gw (blk_cell bn2 2 _ rfl)
  have c_bn2_3 : ∀ q, (gw X2 q).cell? ⟨n2, 3, none⟩ = some (.int .i64 1) := cell_gw (blk_cell bn2 3 _ rfl)
  have f_bn2 := blk_frozen bn2
  go_upto_region 4 with (first | (go_at_call 36; with_reducible refine (callsGw (lof_any _ _ _)).mono ?_; rintro e w1 ⟨rfl, q, rfl⟩) | (go_at_call 27; with_reducible refine (callsGw (c3 _)).mono ?_; rintro e w1 ⟨rfl, q, rfl⟩))
  obtain ⟨X3, n3, en3, hnn3, gen3, ltn3, bn3, kn3, ln3⟩ := laid X2 #[.int .i64 (-1), .int .i64 1, .int .i64 (-1), .int .i64 2] 25 q
  rw [en3]
  simp only [hnn3]
  have bn1 := kn3 _ _ bn1
  have bn2 := kn3 _ _ bn2
  have hB := ln3 _ hB
  clear en3 hnn3
  have c_bn3_0 : ∀ q, (gw X3 q).cell? ⟨n3, 0, none⟩ = some (.int .i64 (-1)) := cell_gw (blk_cell bn3 0 _ rfl)
  have c_bn3_1 : ∀ q, (gw X3 q).cell? ⟨n3, 1, none⟩ = some (.int .i64 1) := cell_gw (blk_cell bn3 1 _ rfl)
  have c_bn3_2 : ∀ q, (gw X3 q).cell? ⟨n3, 2, none⟩ = some (.int .i64 (-1)) := cell_gw (blk_cell bn3 2 _ rfl)
  have c_bn3_3 : ∀ q, (gw X3 q).cell? ⟨n3, 3, none⟩ = some (.int .i64 2) := cell_gw (blk_cell bn3 3 _ rfl)
  have f_bn3 := blk_frozen bn3
  go_upto_region 5 with (first | (go_at_call 36; with_reducible refine (callsGw (lof_any _ _ _)).mono ?_; rintro e w1 ⟨rfl, q, rfl⟩) | (go_at_call 38; with_reducible refine (callsGw (c4 _)).mono ?_; rintro e w1 ⟨rfl, q, rfl⟩))
  obtain ⟨X4, n4, en4, hnn4, gen4, ltn4, bn4, kn4, ln4⟩ := laid X3 #[.int .i64 2, .int .i64 1, .int .i64 4, .int .i64 1] 25 q
  rw [en4]
  simp only [hnn4]
  have bn1 := kn4 _ _ bn1
  have bn2 := kn4 _ _ bn2
  have bn3 := kn4 _ _ bn3
  have hB := ln4 _ hB
  clear en4 hnn4
  have c_bn4_0 : ∀ q, (gw X4 q).cell? ⟨n4, 0, none⟩ = some (.int .i64 2) := cell_gw (blk_cell bn4 0 _ rfl)
  have c_bn4_1 : ∀ q, (gw X4 q).cell? ⟨n4, 1, none⟩ = some (.int .i64 1) := cell_gw (blk_cell bn4 1 _ rfl)
  have c_bn4_2 : ∀ q, (gw X4 q).cell? ⟨n4, 2, none⟩ = some (.int .i64 4) := cell_gw (blk_cell bn4 2 _ rfl)
  have c_bn4_3 : ∀ q, (gw X4 q).cell? ⟨n4, 3, none⟩ = some (.int .i64 1) := cell_gw (blk_cell bn4 3 _ rfl)
  have f_bn4 := blk_frozen bn4
  go_upto_region 6 with (first | (go_at_call 36; with_reducible refine (callsGw (lof_any _ _ _)).mono ?_; rintro e w1 ⟨rfl, q, rfl⟩) | (go_at_call 19; with_reducible refine (callsGw (c5 _)).mono ?_; rintro e w1 ⟨rfl, q, rfl⟩))
  obtain ⟨X5, n5, en5, hnn5, gen5, ltn5, bn5, kn5, ln5⟩ := laid X4 #[.int .i64 0, .int .i64 0, .int .i64 0, .int .i64 0] 25 q
  rw [en5]
  simp only [hnn5]
  have bn1 := kn5 _ _ bn1
  have bn2 := kn5 _ _ bn2
  have bn3 := kn5 _ _ bn3
  have bn4 := kn5 _ _ bn4
  have hB := ln5 _ hB
  clear en5 hnn5
  have c_bn5_0 : ∀ q, (gw X5 q).cell? ⟨n5, 0, none⟩ = some (.int .i64 0) := cell_gw (blk_cell bn5 0 _ rfl)
  have c_bn5_1 : ∀ q, (gw X5 q).cell? ⟨n5, 1, none⟩ = some (.int .i64 0) := cell_gw (blk_cell bn5 1 _ rfl)
  have c_bn5_2 : ∀ q, (gw X5 q).cell? ⟨n5, 2, none⟩ = some (.int .i64 0) := cell_gw (blk_cell bn5 2 _ rfl)
  have c_bn5_3 : ∀ q, (gw X5 q).cell? ⟨n5, 3, none⟩ = some (.int .i64 0) := cell_gw (blk_cell bn5 3 _ rfl)
  have f_bn5 := blk_frozen bn5
  go_upto_region 7 with (first | (go_at_call 11; with_reducible refine (callsGw (c6 _)).mono ?_; rintro e w1 ⟨rfl, q, rfl⟩))
  obtain ⟨X6, n6, en6, hnn6, gen6, ltn6, bn6, kn6, ln6⟩ := laid X5 #[.int .i64 1, .int .i64 2, .int .i64 2, .int .i64 1] 25 q
  rw [en6]
  simp only [hnn6]
  have bn1 := kn6 _ _ bn1
  have bn2 := kn6 _ _ bn2
  have bn3 := kn6 _ _ bn3
  have bn4 := kn6 _ _ bn4
  have hB := ln6 _ hB
  clear en6 hnn6
  have c_bn6_0 : ∀ q, (gw X6 q).cell? ⟨n6, 0, none⟩ = some (.int .i64 1) := cell_gw (blk_cell bn6 0 _ rfl)
  have c_bn6_1 : ∀ q, (gw X6 q).cell? ⟨n6, 1, none⟩ = some (.int .i64 2) := cell_gw (blk_cell bn6 1 _ rfl)
  have c_bn6_2 : ∀ q, (gw X6 q).cell? ⟨n6, 2, none⟩ = some (.int .i64 2) := cell_gw (blk_cell bn6 2 _ rfl)
  have c_bn6_3 : ∀ q, (gw X6 q).cell? ⟨n6, 3, none⟩ = some (.int .i64 1) := cell_gw (blk_cell bn6 3 _ rfl)
  have f_bn6 := blk_frozen bn6
  have c_bn1_0 : ∀ q, (gw X6 q).cell? ⟨n1, 0, none⟩ = some (.int .i64 (-6)) := cell_gw (blk_cell bn1 0 _ rfl)
  have c_bn1_1 : ∀ q, (gw X6 q).cell? ⟨n1, 1, none⟩ = some (.int .i64 1) := cell_gw (blk_cell bn1 1 _ rfl)
  have c_bn1_2 : ∀ q, (gw X6 q).cell? ⟨n1, 2, none⟩ = some (.int .i64 3) := cell_gw (blk_cell bn1 2 _ rfl)
  have c_bn1_3 : ∀ q, (gw X6 q).cell? ⟨n1, 3, none⟩ = some (.int .i64 1) := cell_gw (blk_cell bn1 3 _ rfl)
  have f_bn1 := blk_frozen bn1
  have c_bn2_0 : ∀ q, (gw X6 q).cell? ⟨n2, 0, none⟩ = some (.int .i64 (-4)) := cell_gw (blk_cell bn2 0 _ rfl)
  have c_bn2_1 : ∀ q, (gw X6 q).cell? ⟨n2, 1, none⟩ = some (.int .i64 1) := cell_gw (blk_cell bn2 1 _ rfl)
  have c_bn2_2 : ∀ q, (gw X6 q).cell? ⟨n2, 2, none⟩ = some (.int .i64 (-1)) := cell_gw (blk_cell bn2 2 _ rfl)
  have c_bn2_3 : ∀ q, (gw X6 q).cell? ⟨n2, 3, none⟩ = some (.int .i64 1) := cell_gw (blk_cell bn2 3 _ rfl)
  have f_bn2 := blk_frozen bn2
  have c_bn3_0 : ∀ q, (gw X6 q).cell? ⟨n3, 0, none⟩ = some (.int .i64 (-1)) := cell_gw (blk_cell bn3 0 _ rfl)
  have c_bn3_1 : ∀ q, (gw X6 q).cell? ⟨n3, 1, none⟩ = some (.int .i64 1) := cell_gw (blk_cell bn3 1 _ rfl)
  have c_bn3_2 : ∀ q, (gw X6 q).cell? ⟨n3, 2, none⟩ = some (.int .i64 (-1)) := cell_gw (blk_cell bn3 2 _ rfl)
  have c_bn3_3 : ∀ q, (gw X6 q).cell? ⟨n3, 3, none⟩ = some (.int .i64 2) := cell_gw (blk_cell bn3 3 _ rfl)
  have f_bn3 := blk_frozen bn3
  have c_bn4_0 : ∀ q, (gw X6 q).cell? ⟨n4, 0, none⟩ = some (.int .i64 2) := cell_gw (blk_cell bn4 0 _ rfl)
  have c_bn4_1 : ∀ q, (gw X6 q).cell? ⟨n4, 1, none⟩ = some (.int .i64 1) := cell_gw (blk_cell bn4 1 _ rfl)
  have c_bn4_2 : ∀ q, (gw X6 q).cell? ⟨n4, 2, none⟩ = some (.int .i64 4) := cell_gw (blk_cell bn4 2 _ rfl)
  have c_bn4_3 : ∀ q, (gw X6 q).cell? ⟨n4, 3, none⟩ = some (.int .i64 1) := cell_gw (blk_cell bn4 3 _ rfl)
  have f_bn4 := blk_frozen bn4
  refine wp_gw _ (by kernel_rfl) (by kernel_rfl) ?_
  simp only [List.append_eq, List.cons_append, List.nil_append]
  repeat (quiet_step (first | (go_at_call 36; with_reducible exact callsGw (lof_any _ _ _)) | (go_at_call 14; with_reducible exact callsGw (c7 _)) | (go_at_call 16; with_reducible exact callsGw (c8 _))))
  refine wpQuiet_nil ?_
  intro _ hw'
  obtain ⟨p, hw''⟩ := hw'
  subst hw''
  go_wp2
  go_ret
  exact ⟨rfl, below_gw hB _⟩
theorem awake_any (w : World) : Calls Try.prog 10 #[] w fun x w' => x = .returned (.bool true) ∧ Below w.heap.size w w' := by
  obtain ⟨p0, hp0⟩ := gw_start w
  have h := awake_gw w w p0 (Below.refl _ _)
  rwa [← hp0] at h
end Go.Proofs.Ytimdklineeeieaa
