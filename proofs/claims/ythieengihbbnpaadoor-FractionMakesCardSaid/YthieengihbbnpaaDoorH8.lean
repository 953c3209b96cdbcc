/- Package fraction: Add on all operands, Neg, Sub, Div. -/
import Derived.Test.YthieengihbbnpaaDoorH7
import Derived.Test.YthieengihbbnpaaDoorM7
import Derived.Test.YthieengihbbnpaaDoorK4
namespace Go.Proofs.YthieengihbbnpaaDoor
open Go.RowKit Go.Sort
set_option linter.unusedVariables false
theorem vld_false {a b c d : Int} (hv : ¬ (M.vld a b = true ∧ M.vld c d = true)) : (M.vld a b && M.vld c d) = false := by
  cases h1 : M.vld a b <;> cases h2 : M.vld c d <;> simp [h1, h2] at hv ⊢
theorem add_any (a b c d : Int) (w : World) :
    Calls Tryd.prog 25 #[.agg #[.int .i64 a, .int .i64 b], .agg #[.int .i64 c, .int .i64 d]] w fun e w' => e = .returned (.tuple #[.agg #[.int .i64 (M.addF a b c d).1, .int .i64 (M.addF a b c d).2.1], .int .i64 (M.addF a b c d).2.2]) ∧ Below w.heap.size w w' := by
  by_cases hv : M.vld a b = true ∧ M.vld c d = true
  · exact add_walk a b c d w hv.1 hv.2
  · have e : M.addF a b c d = (0, 0, 1) := by unfold M.addF; rw [if_neg hv]
    rw [e]; clear e
    have hv2 := vld_false hv
    go_enter Tryd.func25, Tryd.ntmps25
    go_wp2_with (go_at_call 56; refine (allValid2 a b c d _ 2 _ (by go_simp) (by go_simp) (by go_simp) (by go_simp)).mono ?_; rintro e w1 ⟨rfl, hb⟩; obtain ⟨hc, hf⟩ := bcell hb)
    refine bodyPost_ret (v := .tuple #[.agg #[.int .i64 0, .int .i64 0], .int .i64 1]) (by simp [results, Tryd.results25, go_sem, hc]) rfl ⟨rfl, ?_⟩
    exact belowSet (belowSet (belowThen ((by repeat (first | exact Below.refl _ _ | apply belowAlloc | apply belowDrewN | apply belowDrew | apply below_gw | refine belowSet ?_ (by simp; done) | refine belowSet ?_ (by simp; omega)))) hb) (by omega)) (by omega)
theorem neg_any (a b : Int) (w : World) :
    Calls Tryd.prog 34 #[.agg #[.int .i64 a, .int .i64 b]] w fun e w' => e = .returned (.agg #[.int .i64 (M.negF a b).1, .int .i64 (M.negF a b).2]) ∧ Below w.heap.size w w' := by
  obtain ⟨W, hW, hB, hS, b0, b1⟩ := lay2 w #[.int .i64 a, .int .i64 b] 27 #[.int .i64 0, .int .i64 0] 27
  obtain ⟨p0, hp0⟩ := gw_start W
  have HW := Lib.hid (hW.trans hp0)
  clear hW hp0
  have c_b0_0 : ∀ q, (gw W q).cell? ⟨w.heap.size, 0, none⟩ = some (.int .i64 a) := cell_gw (blk_cell b0 0 _ rfl)
  have c_b0_1 : ∀ q, (gw W q).cell? ⟨w.heap.size, 1, none⟩ = some (.int .i64 b) := cell_gw (blk_cell b0 1 _ rfl)
  have f_b0 := blk_frozen b0
  have c_b1_0 : ∀ q, (gw W q).cell? ⟨w.heap.size + 1, 0, none⟩ = some (.int .i64 0) := cell_gw (blk_cell b1 0 _ rfl)
  have c_b1_1 : ∀ q, (gw W q).cell? ⟨w.heap.size + 1, 1, none⟩ = some (.int .i64 0) := cell_gw (blk_cell b1 1 _ rfl)
  have f_b1 := blk_frozen b1
  obtain ⟨v, hv⟩ : ∃ v, M.vld a b = v := ⟨_, rfl⟩
  have cV := fun w => valid_any a b w
  rw [hv] at cV
  cases v
  · rw [show M.negF a b = (0, 0) by unfold M.negF; rw [hv]; rfl]
    clear hv
    go_enter Tryd.func34, Tryd.ntmps34
    go_wp2_with fail
    rw [HW.out]
    go_wp2_with ((go_at_call 30; refine (callsGw (cV _)).mono ?_; rintro e w1 ⟨rfl, q, rfl⟩))
    refine bodyPost_ret (v := .agg #[.int .i64 0, .int .i64 0]) (by simp [results, Tryd.results34, go_sem, c_b1_0, c_b1_1]) rfl ⟨rfl, ?_⟩
    repeat (refine belowSet ?_ (by omega))
    exact below_gw hB _
  · rw [show M.negF a b = (-a, b) by unfold M.negF; rw [hv]; rfl]
    obtain ⟨a1, a2, a3, a4, _⟩ := M.vld_of hv
    have ea : wrap64 (-a) = -a := M.wrapI_of (by unfold M.isI; omega)
    clear hv
    go_enter Tryd.func34, Tryd.ntmps34
    go_wp2_with fail
    rw [HW.out]
    go_wp2_with ((go_at_call 30; refine (callsGw (cV _)).mono ?_; rintro e w1 ⟨rfl, q, rfl⟩))
    refine bodyPost_ret (v := .agg #[.int .i64 (-a), .int .i64 b]) (by simp [results, Tryd.results34, go_sem, c_b1_0, c_b1_1]) rfl ⟨rfl, ?_⟩
    repeat (refine belowSet ?_ (by omega))
    exact below_gw hB _
set_option maxHeartbeats 4000000 in
theorem sub_any (a b c d : Int) (w : World) :
    Calls Tryd.prog 27 #[.agg #[.int .i64 a, .int .i64 b], .agg #[.int .i64 c, .int .i64 d]] w fun e w' => e = .returned (.tuple #[.agg #[.int .i64 (M.subF a b c d).1, .int .i64 (M.subF a b c d).2.1], .int .i64 (M.subF a b c d).2.2]) ∧ Below w.heap.size w w' := by
  obtain ⟨W, hW, hB, hS, b0, b1, b2, b3⟩ := lay4 w #[.int .i64 a, .int .i64 b] 27 #[.int .i64 c, .int .i64 d] 27 #[.int .i64 0, .int .i64 0] 27 #[.int .i64 a, .int .i64 b, .int .i64 c, .int .i64 d] 27
  obtain ⟨p0, hp0⟩ := gw_start W
  have HW := Lib.hid (hW.trans hp0)
  clear hW hp0
  have c_b0_0 : ∀ q, (gw W q).cell? ⟨w.heap.size, 0, none⟩ = some (.int .i64 a) := cell_gw (blk_cell b0 0 _ rfl)
  have c_b0_1 : ∀ q, (gw W q).cell? ⟨w.heap.size, 1, none⟩ = some (.int .i64 b) := cell_gw (blk_cell b0 1 _ rfl)
  have f_b0 := blk_frozen b0
  have c_b1_0 : ∀ q, (gw W q).cell? ⟨w.heap.size + 1, 0, none⟩ = some (.int .i64 c) := cell_gw (blk_cell b1 0 _ rfl)
  have c_b1_1 : ∀ q, (gw W q).cell? ⟨w.heap.size + 1, 1, none⟩ = some (.int .i64 d) := cell_gw (blk_cell b1 1 _ rfl)
  have f_b1 := blk_frozen b1
  have c_b2_0 : ∀ q, (gw W q).cell? ⟨w.heap.size + 1 + 1, 0, none⟩ = some (.int .i64 0) := cell_gw (blk_cell b2 0 _ rfl)
  have c_b2_1 : ∀ q, (gw W q).cell? ⟨w.heap.size + 1 + 1, 1, none⟩ = some (.int .i64 0) := cell_gw (blk_cell b2 1 _ rfl)
  have f_b2 := blk_frozen b2
  have c_b3_0 : ∀ q, (gw W q).cell? ⟨w.heap.size + 1 + 1 + 1, 0, none⟩ = some (.int .i64 a) := cell_gw (blk_cell b3 0 _ rfl)
  have c_b3_1 : ∀ q, (gw W q).cell? ⟨w.heap.size + 1 + 1 + 1, 1, none⟩ = some (.int .i64 b) := cell_gw (blk_cell b3 1 _ rfl)
  have c_b3_2 : ∀ q, (gw W q).cell? ⟨w.heap.size + 1 + 1 + 1, 2, none⟩ = some (.int .i64 c) := cell_gw (blk_cell b3 2 _ rfl)
  have c_b3_3 : ∀ q, (gw W q).cell? ⟨w.heap.size + 1 + 1 + 1, 3, none⟩ = some (.int .i64 d) := cell_gw (blk_cell b3 3 _ rfl)
  have f_b3 := blk_frozen b3
  have cV := fun p => allValid2 a b c d _ 2 _ (c_b3_0 p) (c_b3_1 p) (c_b3_2 p) (c_b3_3 p)
  by_cases hv : M.vld a b = true ∧ M.vld c d = true
  · rw [hv.1, hv.2] at cV
    have cN := fun w => neg_any c d w
    rw [show M.negF c d = (-c, d) by unfold M.negF; rw [if_pos hv.2]] at cN
    have cA := fun w => add_any a b (-c) d w
    rw [M.subF_add hv.1 hv.2] at cA
    generalize M.subF a b c d = R at cA ⊢
    clear hv
    go_enter Tryd.func27, Tryd.ntmps27
    go_wp2_with fail
    rw [HW.out]
    go_wp2_with ((go_at_call 56; refine (callsGw (cV _)).mono ?_; rintro e w1 ⟨rfl, q, rfl⟩))
    refine wp_alo0 6 2 (by kernel_rfl) rfl (by kernel_rfl) (by kernel_rfl) ?_
    simp only [List.take_succ_cons, List.take_zero, List.drop_succ_cons, List.drop_zero]
    repeat (refine wpQb_step (fun K hK => ?_); go_simp; first | (refine hK _ ?_; clear hK K) | (apply Exists.intro; refine ⟨fun _ => ?_, hK _ ?_⟩; (first | (go_at_call 34; exact cN _) | (go_at_call 25; exact cA _)); clear hK K))
    refine wpQb_nil ?_
    intro q
    go_wp2
    refine bodyPost_ret (v := .tuple #[.agg #[.int .i64 R.1, .int .i64 R.2.1], .int .i64 R.2.2]) (by simp [results, Tryd.results27, go_sem, c_b2_0, c_b2_1]) rfl ⟨rfl, ?_⟩
    repeat (refine belowSet ?_ (by omega))
    exact below_gw hB _
  · rw [show M.subF a b c d = (0, 0, 1) by unfold M.subF; rw [if_neg hv]]
    rw [vld_false hv] at cV
    go_enter Tryd.func27, Tryd.ntmps27
    go_wp2_with fail
    rw [HW.out]
    go_wp2_with ((go_at_call 56; refine (callsGw (cV _)).mono ?_; rintro e w1 ⟨rfl, q, rfl⟩))
    refine bodyPost_ret (v := .tuple #[.agg #[.int .i64 0, .int .i64 0], .int .i64 1]) (by simp [results, Tryd.results27, go_sem, c_b2_0, c_b2_1]) rfl ⟨rfl, ?_⟩
    repeat (refine belowSet ?_ (by omega))
    exact below_gw hB _
set_option maxHeartbeats 4000000 in
theorem div_any (a b c d : Int) (w : World) :
    Calls Tryd.prog 23 #[.agg #[.int .i64 a, .int .i64 b], .agg #[.int .i64 c, .int .i64 d]] w fun e w' => e = .returned (.tuple #[.agg #[.int .i64 (M.divF a b c d).1, .int .i64 (M.divF a b c d).2.1], .int .i64 (M.divF a b c d).2.2]) ∧ Below w.heap.size w w' := by
  obtain ⟨W, hW, hB, hS, b0, b1, b2, b3⟩ := lay4 w #[.int .i64 a, .int .i64 b] 27 #[.int .i64 c, .int .i64 d] 27 #[.int .i64 0, .int .i64 0] 27 #[.int .i64 a, .int .i64 b, .int .i64 c, .int .i64 d] 27
  obtain ⟨p0, hp0⟩ := gw_start W
  have HW := Lib.hid (hW.trans hp0)
  clear hW hp0
  have c_b0_0 : ∀ q, (gw W q).cell? ⟨w.heap.size, 0, none⟩ = some (.int .i64 a) := cell_gw (blk_cell b0 0 _ rfl)
  have c_b0_1 : ∀ q, (gw W q).cell? ⟨w.heap.size, 1, none⟩ = some (.int .i64 b) := cell_gw (blk_cell b0 1 _ rfl)
  have f_b0 := blk_frozen b0
  have c_b1_0 : ∀ q, (gw W q).cell? ⟨w.heap.size + 1, 0, none⟩ = some (.int .i64 c) := cell_gw (blk_cell b1 0 _ rfl)
  have c_b1_1 : ∀ q, (gw W q).cell? ⟨w.heap.size + 1, 1, none⟩ = some (.int .i64 d) := cell_gw (blk_cell b1 1 _ rfl)
  have f_b1 := blk_frozen b1
  have c_b2_0 : ∀ q, (gw W q).cell? ⟨w.heap.size + 1 + 1, 0, none⟩ = some (.int .i64 0) := cell_gw (blk_cell b2 0 _ rfl)
  have c_b2_1 : ∀ q, (gw W q).cell? ⟨w.heap.size + 1 + 1, 1, none⟩ = some (.int .i64 0) := cell_gw (blk_cell b2 1 _ rfl)
  have f_b2 := blk_frozen b2
  have c_b3_0 : ∀ q, (gw W q).cell? ⟨w.heap.size + 1 + 1 + 1, 0, none⟩ = some (.int .i64 a) := cell_gw (blk_cell b3 0 _ rfl)
  have c_b3_1 : ∀ q, (gw W q).cell? ⟨w.heap.size + 1 + 1 + 1, 1, none⟩ = some (.int .i64 b) := cell_gw (blk_cell b3 1 _ rfl)
  have c_b3_2 : ∀ q, (gw W q).cell? ⟨w.heap.size + 1 + 1 + 1, 2, none⟩ = some (.int .i64 c) := cell_gw (blk_cell b3 2 _ rfl)
  have c_b3_3 : ∀ q, (gw W q).cell? ⟨w.heap.size + 1 + 1 + 1, 3, none⟩ = some (.int .i64 d) := cell_gw (blk_cell b3 3 _ rfl)
  have f_b3 := blk_frozen b3
  have cV := fun p => allValid2 a b c d _ 2 _ (c_b3_0 p) (c_b3_1 p) (c_b3_2 p) (c_b3_3 p)
  by_cases hv : M.vld a b = true ∧ M.vld c d = true
  · rw [hv.1, hv.2] at cV
    obtain ⟨c1, c2, c3, c4, _⟩ := M.vld_of hv.2
    by_cases h0 : c = 0
    · subst h0
      rw [show M.divF a b 0 d = (0, 0, 1) by unfold M.divF; rw [if_neg (by simp)]]
      clear hv
      go_enter Tryd.func23, Tryd.ntmps23
      go_wp2_with fail
      rw [HW.out]
      go_wp2_with ((go_at_call 56; refine (callsGw (cV _)).mono ?_; rintro e w1 ⟨rfl, q, rfl⟩))
      refine bodyPost_ret (v := .tuple #[.agg #[.int .i64 0, .int .i64 0], .int .i64 1]) (by simp [results, Tryd.results23, go_sem, c_b2_0, c_b2_1]) rfl ⟨rfl, ?_⟩
      repeat (refine belowSet ?_ (by omega))
      exact below_gw hB _
    · rcases Int.lt_or_lt_of_ne h0 with hc | hc
      · have cM := fun w => mul_any a b (-d) (-c) w
        rw [M.divF_neg hv.1 hv.2 hc] at cM
        generalize M.divF a b c d = R at cM ⊢
        have e1 : wrap64 (-c) = -c := M.wrapI_of (by unfold M.isI; omega)
        have e2 : wrap64 (-d) = -d := M.wrapI_of (by unfold M.isI; omega)
        have e3 : (c == 0) = false := beq_eq_false_iff_ne.mpr h0
        have e4 : decide (c < 0) = true := decide_eq_true hc
        clear hv h0
        go_enter Tryd.func23, Tryd.ntmps23
        go_wp2_with fail
        rw [HW.out]
        go_upto_region 4 with ((go_at_call 56; refine (callsGw (cV _)).mono ?_; rintro e w1 ⟨rfl, q, rfl⟩))
        obtain ⟨X, n, en, hnn, gen, ltn, bn, kn, ln⟩ := laid W #[.int .i64 d, .int .i64 c] 27 q
        rw [en]
        simp only [hnn]
        have b0 := kn _ _ b0
        have b1 := kn _ _ b1
        have b2 := kn _ _ b2
        have hB := ln _ hB
        clear en hnn
        have c_bn_0 : ∀ q, (gw X q).cell? ⟨n, 0, none⟩ = some (.int .i64 d) := cell_gw (blk_cell bn 0 _ rfl)
        have c_bn_1 : ∀ q, (gw X q).cell? ⟨n, 1, none⟩ = some (.int .i64 c) := cell_gw (blk_cell bn 1 _ rfl)
        have f_bn := blk_frozen bn
        have c_b0_0 : ∀ q, (gw X q).cell? ⟨w.heap.size, 0, none⟩ = some (.int .i64 a) := cell_gw (blk_cell b0 0 _ rfl)
        have c_b0_1 : ∀ q, (gw X q).cell? ⟨w.heap.size, 1, none⟩ = some (.int .i64 b) := cell_gw (blk_cell b0 1 _ rfl)
        have f_b0 := blk_frozen b0
        have c_b1_0 : ∀ q, (gw X q).cell? ⟨w.heap.size + 1, 0, none⟩ = some (.int .i64 c) := cell_gw (blk_cell b1 0 _ rfl)
        have c_b1_1 : ∀ q, (gw X q).cell? ⟨w.heap.size + 1, 1, none⟩ = some (.int .i64 d) := cell_gw (blk_cell b1 1 _ rfl)
        have f_b1 := blk_frozen b1
        go_upto_region 6 with fail
        obtain ⟨Y, eY, sY, nb, kY, lY⟩ := storedS2 ⟨q.d,#[]⟩ bn (.int .i64 (-d)) (.int .i64 (-c))
        rw [eY]
        have b0 := kY _ _ (by omega) b0
        have b1 := kY _ _ (by omega) b1
        have b2 := kY _ _ (by omega) b2
        have hB := lY _ (by omega) hB
        have bn := nb
        clear nb
        have c_bn_0 : ∀ q, (gw Y q).cell? ⟨n, 0, none⟩ = some (.int .i64 (-d)) := cell_gw (blk_cell bn 0 _ rfl)
        have c_bn_1 : ∀ q, (gw Y q).cell? ⟨n, 1, none⟩ = some (.int .i64 (-c)) := cell_gw (blk_cell bn 1 _ rfl)
        have f_bn := blk_frozen bn
        have c_b0_0 : ∀ q, (gw Y q).cell? ⟨w.heap.size, 0, none⟩ = some (.int .i64 a) := cell_gw (blk_cell b0 0 _ rfl)
        have c_b0_1 : ∀ q, (gw Y q).cell? ⟨w.heap.size, 1, none⟩ = some (.int .i64 b) := cell_gw (blk_cell b0 1 _ rfl)
        have f_b0 := blk_frozen b0
        have c_b2_0 : ∀ q, (gw Y q).cell? ⟨w.heap.size + 1 + 1, 0, none⟩ = some (.int .i64 0) := cell_gw (blk_cell b2 0 _ rfl)
        have c_b2_1 : ∀ q, (gw Y q).cell? ⟨w.heap.size + 1 + 1, 1, none⟩ = some (.int .i64 0) := cell_gw (blk_cell b2 1 _ rfl)
        have f_b2 := blk_frozen b2
        go_wp2_with (go_at_call 21; refine (callsGw (cM _)).mono ?_; rintro e w1 ⟨rfl, q, rfl⟩)
        refine bodyPost_ret (v := .tuple #[.agg #[.int .i64 R.1, .int .i64 R.2.1], .int .i64 R.2.2]) (by simp [results, Tryd.results23, go_sem, c_b2_0, c_b2_1]) rfl ⟨rfl, ?_⟩
        repeat (refine belowSet ?_ (by omega))
        exact below_gw hB _
      · have cM := fun w => mul_any a b d c w
        rw [M.divF_pos hv.1 hv.2 hc] at cM
        generalize M.divF a b c d = R at cM ⊢
        have e1 : wrap64 (-c) = -c := M.wrapI_of (by unfold M.isI; omega)
        have e2 : wrap64 (-d) = -d := M.wrapI_of (by unfold M.isI; omega)
        have e3 : (c == 0) = false := beq_eq_false_iff_ne.mpr h0
        have e4 : decide (c < 0) = false := decide_eq_false (by omega)
        clear hv h0
        go_enter Tryd.func23, Tryd.ntmps23
        go_wp2_with fail
        rw [HW.out]
        go_upto_region 4 with ((go_at_call 56; refine (callsGw (cV _)).mono ?_; rintro e w1 ⟨rfl, q, rfl⟩))
        obtain ⟨X, n, en, hnn, gen, ltn, bn, kn, ln⟩ := laid W #[.int .i64 d, .int .i64 c] 27 q
        rw [en]
        simp only [hnn]
        have b0 := kn _ _ b0
        have b1 := kn _ _ b1
        have b2 := kn _ _ b2
        have hB := ln _ hB
        clear en hnn
        have c_bn_0 : ∀ q, (gw X q).cell? ⟨n, 0, none⟩ = some (.int .i64 d) := cell_gw (blk_cell bn 0 _ rfl)
        have c_bn_1 : ∀ q, (gw X q).cell? ⟨n, 1, none⟩ = some (.int .i64 c) := cell_gw (blk_cell bn 1 _ rfl)
        have f_bn := blk_frozen bn
        have c_b0_0 : ∀ q, (gw X q).cell? ⟨w.heap.size, 0, none⟩ = some (.int .i64 a) := cell_gw (blk_cell b0 0 _ rfl)
        have c_b0_1 : ∀ q, (gw X q).cell? ⟨w.heap.size, 1, none⟩ = some (.int .i64 b) := cell_gw (blk_cell b0 1 _ rfl)
        have f_b0 := blk_frozen b0
        have c_b1_0 : ∀ q, (gw X q).cell? ⟨w.heap.size + 1, 0, none⟩ = some (.int .i64 c) := cell_gw (blk_cell b1 0 _ rfl)
        have c_b1_1 : ∀ q, (gw X q).cell? ⟨w.heap.size + 1, 1, none⟩ = some (.int .i64 d) := cell_gw (blk_cell b1 1 _ rfl)
        have f_b1 := blk_frozen b1
        have c_b2_0 : ∀ q, (gw X q).cell? ⟨w.heap.size + 1 + 1, 0, none⟩ = some (.int .i64 0) := cell_gw (blk_cell b2 0 _ rfl)
        have c_b2_1 : ∀ q, (gw X q).cell? ⟨w.heap.size + 1 + 1, 1, none⟩ = some (.int .i64 0) := cell_gw (blk_cell b2 1 _ rfl)
        have f_b2 := blk_frozen b2
        go_wp2_with (go_at_call 21; refine (callsGw (cM _)).mono ?_; rintro e w1 ⟨rfl, q, rfl⟩)
        refine bodyPost_ret (v := .tuple #[.agg #[.int .i64 R.1, .int .i64 R.2.1], .int .i64 R.2.2]) (by simp [results, Tryd.results23, go_sem, c_b2_0, c_b2_1]) rfl ⟨rfl, ?_⟩
        repeat (refine belowSet ?_ (by omega))
        exact below_gw hB _
  · rw [show M.divF a b c d = (0, 0, 1) by unfold M.divF; rw [if_neg (fun h => hv ⟨h.1, h.2.1⟩)]]
    rw [vld_false hv] at cV
    go_enter Tryd.func23, Tryd.ntmps23
    go_wp2_with fail
    rw [HW.out]
    go_wp2_with ((go_at_call 56; refine (callsGw (cV _)).mono ?_; rintro e w1 ⟨rfl, q, rfl⟩))
    refine bodyPost_ret (v := .tuple #[.agg #[.int .i64 0, .int .i64 0], .int .i64 1]) (by simp [results, Tryd.results23, go_sem, c_b2_0, c_b2_1]) rfl ⟨rfl, ?_⟩
    repeat (refine belowSet ?_ (by omega))
    exact below_gw hB _
end Go.Proofs.YthieengihbbnpaaDoor
