/- The reference's Sub, Div, Add. -/
import Derived.Test.YthieengihbbnpaaDoorR5
namespace Go.Proofs.YthieengihbbnpaaDoor
open Go.RowKit Go.Sort
set_option linter.unusedVariables false
set_option maxRecDepth 100000 in
set_option maxHeartbeats 4000000 in
theorem rdiv_any (a b c d : Int) (w : World) :
    Calls Tryd.prog 24 #[.agg #[.int .i64 a, .int .i64 b], .agg #[.int .i64 c, .int .i64 d]] w fun e w' => e = .returned (.tuple #[.agg #[.int .i64 (M.divF a b c d).1, .int .i64 (M.divF a b c d).2.1], .int .i64 (M.divF a b c d).2.2]) ∧ Below w.heap.size w w' := by
  obtain ⟨W, hW, hB, hS, b0, b1, b2⟩ := lay3 w #[.int .i64 a, .int .i64 b] 27 #[.int .i64 c, .int .i64 d] 27 #[.int .i64 0, .int .i64 0] 27
  obtain ⟨p0, hp0⟩ := gw_start W
  have HW := Lib.hid (hW.trans hp0)
  clear hW hp0
  have c_b0_0 : ∀ q, (gw W q).cell? ⟨w.heap.size, 0, none⟩ = some (.int .i64 a) := cell_gw (blk_cell b0 0 _ rfl)
  have c_b0_1 : ∀ q, (gw W q).cell? ⟨w.heap.size, 1, none⟩ = some (.int .i64 b) := cell_gw (blk_cell b0 1 _ rfl)
  have f_b0 := blk_frozen b0
  have c_b1_0 : ∀ q, (gw W q).cell? ⟨w.heap.size + 1, 0, none⟩ = some (.int .i64 c) := cell_gw (blk_cell b1 0 _ rfl)
  have c_b1_1 : ∀ q, (gw W q).cell? ⟨w.heap.size + 1, 1, none⟩ = some (.int .i64 d) := cell_gw (blk_cell b1 1 _ rfl)
  have f_b1 := blk_frozen b1
  have c_b2_0 : ∀ q, (gw W q).cell? ⟨w.heap.size + 1 + 1, 0, none⟩ = some (.int .i64 0) := cell_gw (blk_cell b2 0 _ rfl)
  have c_b2_1 : ∀ q, (gw W q).cell? ⟨w.heap.size + 1 + 1, 1, none⟩ = some (.int .i64 0) := cell_gw (blk_cell b2 1 _ rfl)
  have f_b2 := blk_frozen b2
  have cV := fun w => rvalid_any a b w
  have cW := fun w => rvalid_any c d w
  by_cases hv : M.vld a b = true ∧ M.vld c d = true ∧ c ≠ 0
  · rw [hv.1] at cV
    rw [hv.2.1] at cW
    obtain ⟨a1, a2, a3, a4, _⟩ := M.vld_of hv.1
    obtain ⟨c1, c2, c3, c4, _⟩ := M.vld_of hv.2.1
    have h0 := hv.2.2
    have ha0 := M.absI_nonneg a
    have ha1 : M.absI a ≤ 1000000000000000000 := by unfold M.absI; omega
    have hc0 : 0 < M.absI c := by unfold M.absI; omega
    have hc1 : M.absI c ≤ 1000000000000000000 := by unfold M.absI; omega
    have p0' : 0 ≤ M.absI a * d := Int.mul_nonneg ha0 (by omega)
    have p1' : M.absI a * d ≤ 1000000000000000000000000000000000000 := by
      have h1 : M.absI a * d ≤ 1000000000000000000 * d := Int.mul_le_mul_of_nonneg_right ha1 (by omega)
      omega
    have q0' : 0 < b * M.absI c := Int.mul_pos (by omega) (by omega)
    have q1' : b * M.absI c ≤ 1000000000000000000000000000000000000 := by
      have h1 : b * M.absI c ≤ 1000000000000000000 * M.absI c := Int.mul_le_mul_of_nonneg_right a2 (by omega)
      omega
    have eb : IntKind.u64.wrap b = b := by rw [M.wrapU]; omega
    have ed : IntKind.u64.wrap d = d := by rw [M.wrapU]; omega
    have ec : (c == 0) = false := beq_eq_false_iff_ne.mpr h0
    have cA := fun w => quietBelow (rsize_any a (by omega) (by omega) w)
    have cC := fun w => quietBelow (rsize_any c (by omega) (by omega) w)
    have cP := fun w => rproduct_any (M.absI a) d ha0 (by omega) (by omega) (by omega) w
    have cQ := fun w => rproduct_any b (M.absI c) (by omega) (by omega) (by omega) (by omega) w
    have cB := fun w => build_any (!(decide (a < 0) == decide (c < 0))) (M.absI a * d) (b * M.absI c) p0' (by omega) q0' (by omega) w
    rw [← M.divF_sized hv.1 hv.2.1 h0] at cB
    generalize M.divF a b c d = R at cB ⊢
    generalize M.absI a * d = P at cP cB
    generalize b * M.absI c = Q at cQ cB
    generalize M.absI a = A at cA cP
    generalize M.absI c = C at cC cQ
    clear hv p0' p1' q0' q1' ha0 ha1 hc0 hc1 h0
    go_enter Tryd.func24, Tryd.ntmps24
    go_wp2_with fail
    rw [HW.out]
    go_wp2_with (first | (go_at_call 20; with_reducible refine (callsGw (cV _)).mono ?_; rintro e w1 ⟨rfl, q, rfl⟩) | (go_at_call 20; with_reducible refine (callsGw (cW _)).mono ?_; rintro e w1 ⟨rfl, q, rfl⟩))
    refine wp_alo0 24 2 (by kernel_rfl) rfl (by kernel_rfl) (by kernel_rfl) ?_
    simp only [List.take_succ_cons, List.take_zero, List.drop_succ_cons, List.drop_zero]
    repeat (refine wpQb_step (fun K hK => ?_); go_simp; first | (refine hK _ ?_; clear hK K) | (apply Exists.intro; refine ⟨fun _ => ?_, hK _ ?_⟩; (first | (go_at_call 45; with_reducible exact cA _) | (go_at_call 45; with_reducible exact cC _) | (go_at_call 61; with_reducible exact cP _) | (go_at_call 61; with_reducible exact cQ _) | (go_at_call 52; with_reducible exact cB _)); clear hK K))
    refine wpQb_nil ?_
    intro q
    go_wp2
    refine bodyPost_ret (v := .tuple #[.agg #[.int .i64 R.1, .int .i64 R.2.1], .int .i64 R.2.2]) (by simp [results, Tryd.results24, go_sem, c_b2_0, c_b2_1]) rfl ⟨rfl, ?_⟩
    repeat (refine belowSet ?_ (by omega))
    exact below_gw hB _
  · rw [show M.divF a b c d = (0, 0, 1) by unfold M.divF; rw [if_neg hv]]
    have hv2 : (M.vld a b && M.vld c d && !(c == 0)) = false := by
      cases h1 : M.vld a b <;> cases h2 : M.vld c d <;> simp [h1, h2] at hv ⊢
      exact hv
    generalize M.vld a b = v1 at cV hv2
    generalize M.vld c d = v2 at cW hv2
    obtain ⟨v3, hv3⟩ : ∃ v, (c == 0) = v := ⟨_, rfl⟩
    rw [hv3] at hv2
    clear hv
    cases v1 <;> cases v2 <;> cases v3
    any_goals
      go_enter Tryd.func24, Tryd.ntmps24
      go_wp2_with fail
      rw [HW.out]
      go_wp2_with (first | (go_at_call 20; with_reducible refine (callsGw (cV _)).mono ?_; rintro e w1 ⟨rfl, q, rfl⟩) | (go_at_call 20; with_reducible refine (callsGw (cW _)).mono ?_; rintro e w1 ⟨rfl, q, rfl⟩))
      refine bodyPost_ret (v := .tuple #[.agg #[.int .i64 0, .int .i64 0], .int .i64 1]) (by simp [results, Tryd.results24, go_sem, c_b2_0, c_b2_1]) rfl ⟨rfl, ?_⟩
      repeat (refine belowSet ?_ (by omega))
      exact below_gw hB _
    all_goals cases hv2
set_option maxRecDepth 100000 in
set_option maxHeartbeats 8000000 in
theorem radd_any (a b c d : Int) (w : World) :
    Calls Tryd.prog 26 #[.agg #[.int .i64 a, .int .i64 b], .agg #[.int .i64 c, .int .i64 d]] w fun e w' => e = .returned (.tuple #[.agg #[.int .i64 (M.addF a b c d).1, .int .i64 (M.addF a b c d).2.1], .int .i64 (M.addF a b c d).2.2]) ∧ Below w.heap.size w w' := by
  obtain ⟨W, hW, hB, hS, b0, b1, b2⟩ := lay3 w #[.int .i64 a, .int .i64 b] 27 #[.int .i64 c, .int .i64 d] 27 #[.int .i64 0, .int .i64 0] 27
  obtain ⟨p0, hp0⟩ := gw_start W
  have HW := Lib.hid (hW.trans hp0)
  clear hW hp0
  have c_b0_0 : ∀ q, (gw W q).cell? ⟨w.heap.size, 0, none⟩ = some (.int .i64 a) := cell_gw (blk_cell b0 0 _ rfl)
  have c_b0_1 : ∀ q, (gw W q).cell? ⟨w.heap.size, 1, none⟩ = some (.int .i64 b) := cell_gw (blk_cell b0 1 _ rfl)
  have f_b0 := blk_frozen b0
  have c_b1_0 : ∀ q, (gw W q).cell? ⟨w.heap.size + 1, 0, none⟩ = some (.int .i64 c) := cell_gw (blk_cell b1 0 _ rfl)
  have c_b1_1 : ∀ q, (gw W q).cell? ⟨w.heap.size + 1, 1, none⟩ = some (.int .i64 d) := cell_gw (blk_cell b1 1 _ rfl)
  have f_b1 := blk_frozen b1
  have c_b2_0 : ∀ q, (gw W q).cell? ⟨w.heap.size + 1 + 1, 0, none⟩ = some (.int .i64 0) := cell_gw (blk_cell b2 0 _ rfl)
  have c_b2_1 : ∀ q, (gw W q).cell? ⟨w.heap.size + 1 + 1, 1, none⟩ = some (.int .i64 0) := cell_gw (blk_cell b2 1 _ rfl)
  have f_b2 := blk_frozen b2
  have cV := fun w => rvalid_any a b w
  have cW := fun w => rvalid_any c d w
  by_cases hv : M.vld a b = true ∧ M.vld c d = true
  · rw [hv.1] at cV
    rw [hv.2] at cW
    obtain ⟨a1, a2, a3, a4, _⟩ := M.vld_of hv.1
    obtain ⟨c1, c2, c3, c4, _⟩ := M.vld_of hv.2
    have ha0 := M.absI_nonneg a
    have ha1 : M.absI a ≤ 1000000000000000000 := by unfold M.absI; omega
    have hc0 := M.absI_nonneg c
    have hc1 : M.absI c ≤ 1000000000000000000 := by unfold M.absI; omega
    have p0' : 0 ≤ M.absI a * d := Int.mul_nonneg ha0 (by omega)
    have p1' : M.absI a * d ≤ 1000000000000000000000000000000000000 := by
      have h1 : M.absI a * d ≤ 1000000000000000000 * d := Int.mul_le_mul_of_nonneg_right ha1 (by omega)
      omega
    have r0' : 0 ≤ M.absI c * b := Int.mul_nonneg hc0 (by omega)
    have r1' : M.absI c * b ≤ 1000000000000000000000000000000000000 := by
      have h1 : M.absI c * b ≤ 1000000000000000000 * b := Int.mul_le_mul_of_nonneg_right hc1 (by omega)
      omega
    have q0' : 0 < b * d := Int.mul_pos (by omega) (by omega)
    have q1' : b * d ≤ 1000000000000000000000000000000000000 := by
      have h1 : b * d ≤ 1000000000000000000 * d := Int.mul_le_mul_of_nonneg_right a2 (by omega)
      omega
    have eb : IntKind.u64.wrap b = b := by rw [M.wrapU]; omega
    have ed : IntKind.u64.wrap d = d := by rw [M.wrapU]; omega
    have cA := fun w => quietBelow (rsize_any a (by omega) (by omega) w)
    have cC := fun w => quietBelow (rsize_any c (by omega) (by omega) w)
    have cP := fun w => rproduct_any (M.absI a) d ha0 (by omega) (by omega) (by omega) w
    have cQ := fun w => rproduct_any (M.absI c) b hc0 (by omega) (by omega) (by omega) w
    have cD := fun w => rproduct_any b d (by omega) (by omega) (by omega) (by omega) w
    have eR : M.addF a b c d = M.norm ((if decide (a < 0) = true then -(M.absI a * d) else M.absI a * d) + (if decide (c < 0) = true then -(M.absI c * b) else M.absI c * b)) (b * d) := by
      rw [← M.sized_mul, ← M.sized_mul]; unfold M.addF; rw [if_pos hv]
    rw [eR]
    clear eR hv
    generalize M.absI a * d = P at cP p0' p1' ⊢
    generalize M.absI c * b = Q at cQ r0' r1' ⊢
    generalize b * d = D at cD q0' q1' ⊢
    generalize M.absI a = A at cA cP
    generalize M.absI c = C at cC cQ
    clear ha0 ha1 hc0 hc1
    obtain ⟨sa, hsa⟩ : ∃ v, decide (a < 0) = v := ⟨_, rfl⟩
    obtain ⟨sc, hsc⟩ : ∃ v, decide (c < 0) = v := ⟨_, rfl⟩
    obtain ⟨sl, hsl⟩ : ∃ v, decide (P < Q) = v := ⟨_, rfl⟩
    rw [hsa, hsc]
    have cL := fun w => rless2_any P Q w
    rw [hsl] at cL
    obtain ⟨T, hT⟩ : ∃ T, (if (sa == sc) = true then P + Q else if sl = true then Q - P else P - Q) = T := ⟨_, rfl⟩
    have hT0 : 0 ≤ T := by
      rw [← hT]; split
      · omega
      · split
        · rename_i h; subst h; have := of_decide_eq_true hsl; omega
        · rename_i h; have := of_decide_eq_false (show decide (P < Q) = false by rw [hsl]; simpa using h); omega
    have hT1 : T ≤ 2000000000000000000000000000000000000 := by
      rw [← hT]; split
      · omega
      · split <;> omega
    obtain ⟨st, hst⟩ : ∃ st, (if (sa == sc) = true then sa else if sl = true then sc else sa) = st := ⟨_, rfl⟩
    have cB := fun w => build_any st T D hT0 (by omega) q0' (by omega) w
    have eN : (if st = true then -T else T) = (if sa = true then -P else P) + (if sc = true then -Q else Q) := by
      rw [← hT, ← hst]
      cases sa <;> cases sc <;> cases sl <;> simp <;> omega
    rw [eN] at cB
    generalize M.norm ((if sa = true then -P else P) + (if sc = true then -Q else Q)) D = R at cB ⊢
    have cPl := fun w => rplus2_any P Q p0' r0' (by omega) w
    have cMi := fun (h : P ≤ Q) w => rminus2_any Q P p0' h (by omega) w
    have cMj := fun (h : ¬ P < Q) w => rminus2_any P Q r0' (by omega) (by omega) w
    have HSL := Lib.hid hsl
    clear hsl eN hT0 hT1 p1' r1' q0' q1' p0' r0'
    go_enter Tryd.func26, Tryd.ntmps26
    go_wp2_with fail
    rw [HW.out]
    go_upto_region 3 with (first | (go_at_call 20; with_reducible refine (callsGw (cV _)).mono ?_; rintro e w1 ⟨rfl, q, rfl⟩) | (go_at_call 20; with_reducible refine (callsGw (cW _)).mono ?_; rintro e w1 ⟨rfl, q, rfl⟩))
    refine wp_alo2 14 2 #[.int .u64 0, .int .u64 0] #[.int .u64 0, .int .u64 0] 62 62 6 7 (by decide) (by kernel_rfl) ⟨_, rfl, rfl, rfl, fun _ _ => by kernel_rfl⟩ ⟨_, rfl, rfl, rfl, fun _ _ => by kernel_rfl⟩ rfl (by kernel_rfl) (by kernel_rfl) ?_
    simp only [List.take_succ_cons, List.take_zero, List.drop_succ_cons, List.drop_zero]
    repeat (refine wpQb_step (fun K hK => ?_); go_simp; first | (refine hK _ ?_; clear hK K) | (apply Exists.intro; refine ⟨fun _ => ?_, hK _ ?_⟩; (first | (go_at_call 45; with_reducible exact cA _) | (go_at_call 45; with_reducible exact cC _) | (go_at_call 61; with_reducible exact cP _) | (go_at_call 61; with_reducible exact cQ _)); clear hK K))
    refine wpQb_nil ?_
    intro g g2 X hKX hBX hg hge hg2 hge2 hne q
    have b0 := hKX _ _ b0
    have b1 := hKX _ _ b1
    have b2 := hKX _ _ b2
    have hB := hBX _ hB
    have c_hg_0 : ∀ q, (gw X q).cell? ⟨g, 0, none⟩ = some (.int .u64 0) := cell_gw (blk_cell hg 0 _ rfl)
    have c_hg_1 : ∀ q, (gw X q).cell? ⟨g, 1, none⟩ = some (.int .u64 0) := cell_gw (blk_cell hg 1 _ rfl)
    have f_hg := blk_frozen hg
    have c_hg2_0 : ∀ q, (gw X q).cell? ⟨g2, 0, none⟩ = some (.int .u64 0) := cell_gw (blk_cell hg2 0 _ rfl)
    have c_hg2_1 : ∀ q, (gw X q).cell? ⟨g2, 1, none⟩ = some (.int .u64 0) := cell_gw (blk_cell hg2 1 _ rfl)
    have f_hg2 := blk_frozen hg2
    clear hKX hBX
    have hne2 := Ne.symm hne
    go_upto_region 4 with fail
    obtain ⟨Y, eY, sY, nb, kY, lY⟩ := storedS2 q hg (.int .u64 (P / 18446744073709551616)) (.int .u64 (P % 18446744073709551616))
    rw [eY]
    have hg2 := kY _ _ (by omega) hg2
    have b0 := kY _ _ (by omega) b0
    have b1 := kY _ _ (by omega) b1
    have b2 := kY _ _ (by omega) b2
    have hB := lY _ (by omega) hB
    have hg := nb
    clear nb
    have c_hg_0 : ∀ q, (gw Y q).cell? ⟨g, 0, none⟩ = some (.int .u64 (P / 18446744073709551616)) := cell_gw (blk_cell hg 0 _ rfl)
    have c_hg_1 : ∀ q, (gw Y q).cell? ⟨g, 1, none⟩ = some (.int .u64 (P % 18446744073709551616)) := cell_gw (blk_cell hg 1 _ rfl)
    have f_hg := blk_frozen hg
    obtain ⟨Z, eZ, sZ, nb, kZ, lZ⟩ := storedS2 q hg2 (.int .u64 (Q / 18446744073709551616)) (.int .u64 (Q % 18446744073709551616))
    rw [eZ]
    have hg := kZ _ _ (by omega) hg
    have b0 := kZ _ _ (by omega) b0
    have b1 := kZ _ _ (by omega) b1
    have b2 := kZ _ _ (by omega) b2
    have hB := lZ _ (by omega) hB
    have hg2 := nb
    clear nb
    have c_hg2_0 : ∀ q, (gw Z q).cell? ⟨g2, 0, none⟩ = some (.int .u64 (Q / 18446744073709551616)) := cell_gw (blk_cell hg2 0 _ rfl)
    have c_hg2_1 : ∀ q, (gw Z q).cell? ⟨g2, 1, none⟩ = some (.int .u64 (Q % 18446744073709551616)) := cell_gw (blk_cell hg2 1 _ rfl)
    have f_hg2 := blk_frozen hg2
    have c_b0_0 : ∀ q, (gw Z q).cell? ⟨w.heap.size, 0, none⟩ = some (.int .i64 a) := cell_gw (blk_cell b0 0 _ rfl)
    have c_b0_1 : ∀ q, (gw Z q).cell? ⟨w.heap.size, 1, none⟩ = some (.int .i64 b) := cell_gw (blk_cell b0 1 _ rfl)
    have f_b0 := blk_frozen b0
    have c_b1_0 : ∀ q, (gw Z q).cell? ⟨w.heap.size + 1, 0, none⟩ = some (.int .i64 c) := cell_gw (blk_cell b1 0 _ rfl)
    have c_b1_1 : ∀ q, (gw Z q).cell? ⟨w.heap.size + 1, 1, none⟩ = some (.int .i64 d) := cell_gw (blk_cell b1 1 _ rfl)
    have f_b1 := blk_frozen b1
    go_upto_region 5 with (go_at_call 61; with_reducible refine (callsGw (cD _)).mono ?_; rintro e w1 ⟨rfl, q, rfl⟩)
    obtain ⟨V, n, en, hnn, gen, ltn, bn, kn, ln⟩ := laid Z #[.int .u64 (D / 18446744073709551616), .int .u64 (D % 18446744073709551616)] 62 q
    rw [en]
    simp only [hnn]
    have hg := kn _ _ hg
    have hg2 := kn _ _ hg2
    have b0 := kn _ _ b0
    have b1 := kn _ _ b1
    have b2 := kn _ _ b2
    have hB := ln _ hB
    clear en hnn
    have c_bn_0 : ∀ q, (gw V q).cell? ⟨n, 0, none⟩ = some (.int .u64 (D / 18446744073709551616)) := cell_gw (blk_cell bn 0 _ rfl)
    have c_bn_1 : ∀ q, (gw V q).cell? ⟨n, 1, none⟩ = some (.int .u64 (D % 18446744073709551616)) := cell_gw (blk_cell bn 1 _ rfl)
    have f_bn := blk_frozen bn
    have c_hg_0 : ∀ q, (gw V q).cell? ⟨g, 0, none⟩ = some (.int .u64 (P / 18446744073709551616)) := cell_gw (blk_cell hg 0 _ rfl)
    have c_hg_1 : ∀ q, (gw V q).cell? ⟨g, 1, none⟩ = some (.int .u64 (P % 18446744073709551616)) := cell_gw (blk_cell hg 1 _ rfl)
    have f_hg := blk_frozen hg
    have c_hg2_0 : ∀ q, (gw V q).cell? ⟨g2, 0, none⟩ = some (.int .u64 (Q / 18446744073709551616)) := cell_gw (blk_cell hg2 0 _ rfl)
    have c_hg2_1 : ∀ q, (gw V q).cell? ⟨g2, 1, none⟩ = some (.int .u64 (Q % 18446744073709551616)) := cell_gw (blk_cell hg2 1 _ rfl)
    have f_hg2 := blk_frozen hg2
    have c_b0_0 : ∀ q, (gw V q).cell? ⟨w.heap.size, 0, none⟩ = some (.int .i64 a) := cell_gw (blk_cell b0 0 _ rfl)
    have c_b0_1 : ∀ q, (gw V q).cell? ⟨w.heap.size, 1, none⟩ = some (.int .i64 b) := cell_gw (blk_cell b0 1 _ rfl)
    have f_b0 := blk_frozen b0
    have c_b1_0 : ∀ q, (gw V q).cell? ⟨w.heap.size + 1, 0, none⟩ = some (.int .i64 c) := cell_gw (blk_cell b1 0 _ rfl)
    have c_b1_1 : ∀ q, (gw V q).cell? ⟨w.heap.size + 1, 1, none⟩ = some (.int .i64 d) := cell_gw (blk_cell b1 1 _ rfl)
    have f_b1 := blk_frozen b1
    have c_b2_0 : ∀ q, (gw V q).cell? ⟨w.heap.size + 1 + 1, 0, none⟩ = some (.int .i64 0) := cell_gw (blk_cell b2 0 _ rfl)
    have c_b2_1 : ∀ q, (gw V q).cell? ⟨w.heap.size + 1 + 1, 1, none⟩ = some (.int .i64 0) := cell_gw (blk_cell b2 1 _ rfl)
    have f_b2 := blk_frozen b2
    cases sa <;> cases sc
    · obtain rfl : P + Q = T := by simpa using hT
      obtain rfl : false = st := by simpa using hst
      clear hT hst
      go_upto_region 6 with fail
      refine wp_alo0 10 2 (by kernel_rfl) rfl (by kernel_rfl) (by kernel_rfl) ?_
      simp only [List.take_succ_cons, List.take_zero, List.drop_succ_cons, List.drop_zero]
      repeat (refine wpQb_step (fun K hK => ?_); go_simp; first | (refine hK _ ?_; clear hK K) | (apply Exists.intro; refine ⟨fun _ => ?_, hK _ ?_⟩; (first | (go_at_call 67; with_reducible exact cPl _) | (go_at_call 52; with_reducible exact cB _)); clear hK K))
      refine wpQb_nil ?_
      intro q
      go_wp2
      refine bodyPost_ret (v := .tuple #[.agg #[.int .i64 R.1, .int .i64 R.2.1], .int .i64 R.2.2]) (by simp [results, Tryd.results26, go_sem, c_b2_0, c_b2_1]) rfl ⟨rfl, ?_⟩
      repeat (refine belowSet ?_ (by omega))
      exact below_gw hB _
    · cases sl
      · obtain rfl : P - Q = T := by simpa using hT
        obtain rfl : false = st := by simpa using hst
        have cM2 := cMj (by have := of_decide_eq_false HSL.out; omega)
        clear hT hst cMi cMj
        go_upto_region 9 with (go_at_call 68; with_reducible refine (callsGw (cL _)).mono ?_; rintro e w1 ⟨rfl, q, rfl⟩)
        refine wp_alo0 10 2 (by kernel_rfl) rfl (by kernel_rfl) (by kernel_rfl) ?_
        simp only [List.take_succ_cons, List.take_zero, List.drop_succ_cons, List.drop_zero]
        repeat (refine wpQb_step (fun K hK => ?_); go_simp; first | (refine hK _ ?_; clear hK K) | (apply Exists.intro; refine ⟨fun _ => ?_, hK _ ?_⟩; (first | (go_at_call 69; with_reducible exact cM2 _) | (go_at_call 52; with_reducible exact cB _)); clear hK K))
        refine wpQb_nil ?_
        intro q
        go_wp2
        refine bodyPost_ret (v := .tuple #[.agg #[.int .i64 R.1, .int .i64 R.2.1], .int .i64 R.2.2]) (by simp [results, Tryd.results26, go_sem, c_b2_0, c_b2_1]) rfl ⟨rfl, ?_⟩
        repeat (refine belowSet ?_ (by omega))
        exact below_gw hB _
      · obtain rfl : Q - P = T := by simpa using hT
        obtain rfl : true = st := by simpa using hst
        have cM2 := cMi (by have := of_decide_eq_true HSL.out; omega)
        clear hT hst cMi cMj
        go_upto_region 8 with (go_at_call 68; with_reducible refine (callsGw (cL _)).mono ?_; rintro e w1 ⟨rfl, q, rfl⟩)
        refine wp_alo0 10 2 (by kernel_rfl) rfl (by kernel_rfl) (by kernel_rfl) ?_
        simp only [List.take_succ_cons, List.take_zero, List.drop_succ_cons, List.drop_zero]
        repeat (refine wpQb_step (fun K hK => ?_); go_simp; first | (refine hK _ ?_; clear hK K) | (apply Exists.intro; refine ⟨fun _ => ?_, hK _ ?_⟩; (first | (go_at_call 69; with_reducible exact cM2 _) | (go_at_call 52; with_reducible exact cB _)); clear hK K))
        refine wpQb_nil ?_
        intro q
        go_wp2
        refine bodyPost_ret (v := .tuple #[.agg #[.int .i64 R.1, .int .i64 R.2.1], .int .i64 R.2.2]) (by simp [results, Tryd.results26, go_sem, c_b2_0, c_b2_1]) rfl ⟨rfl, ?_⟩
        repeat (refine belowSet ?_ (by omega))
        exact below_gw hB _
    · cases sl
      · obtain rfl : P - Q = T := by simpa using hT
        obtain rfl : true = st := by simpa using hst
        have cM2 := cMj (by have := of_decide_eq_false HSL.out; omega)
        clear hT hst cMi cMj
        go_upto_region 9 with (go_at_call 68; with_reducible refine (callsGw (cL _)).mono ?_; rintro e w1 ⟨rfl, q, rfl⟩)
        refine wp_alo0 10 2 (by kernel_rfl) rfl (by kernel_rfl) (by kernel_rfl) ?_
        simp only [List.take_succ_cons, List.take_zero, List.drop_succ_cons, List.drop_zero]
        repeat (refine wpQb_step (fun K hK => ?_); go_simp; first | (refine hK _ ?_; clear hK K) | (apply Exists.intro; refine ⟨fun _ => ?_, hK _ ?_⟩; (first | (go_at_call 69; with_reducible exact cM2 _) | (go_at_call 52; with_reducible exact cB _)); clear hK K))
        refine wpQb_nil ?_
        intro q
        go_wp2
        refine bodyPost_ret (v := .tuple #[.agg #[.int .i64 R.1, .int .i64 R.2.1], .int .i64 R.2.2]) (by simp [results, Tryd.results26, go_sem, c_b2_0, c_b2_1]) rfl ⟨rfl, ?_⟩
        repeat (refine belowSet ?_ (by omega))
        exact below_gw hB _
      · obtain rfl : Q - P = T := by simpa using hT
        obtain rfl : false = st := by simpa using hst
        have cM2 := cMi (by have := of_decide_eq_true HSL.out; omega)
        clear hT hst cMi cMj
        go_upto_region 8 with (go_at_call 68; with_reducible refine (callsGw (cL _)).mono ?_; rintro e w1 ⟨rfl, q, rfl⟩)
        refine wp_alo0 10 2 (by kernel_rfl) rfl (by kernel_rfl) (by kernel_rfl) ?_
        simp only [List.take_succ_cons, List.take_zero, List.drop_succ_cons, List.drop_zero]
        repeat (refine wpQb_step (fun K hK => ?_); go_simp; first | (refine hK _ ?_; clear hK K) | (apply Exists.intro; refine ⟨fun _ => ?_, hK _ ?_⟩; (first | (go_at_call 69; with_reducible exact cM2 _) | (go_at_call 52; with_reducible exact cB _)); clear hK K))
        refine wpQb_nil ?_
        intro q
        go_wp2
        refine bodyPost_ret (v := .tuple #[.agg #[.int .i64 R.1, .int .i64 R.2.1], .int .i64 R.2.2]) (by simp [results, Tryd.results26, go_sem, c_b2_0, c_b2_1]) rfl ⟨rfl, ?_⟩
        repeat (refine belowSet ?_ (by omega))
        exact below_gw hB _
    · obtain rfl : P + Q = T := by simpa using hT
      obtain rfl : true = st := by simpa using hst
      clear hT hst
      go_upto_region 6 with fail
      refine wp_alo0 10 2 (by kernel_rfl) rfl (by kernel_rfl) (by kernel_rfl) ?_
      simp only [List.take_succ_cons, List.take_zero, List.drop_succ_cons, List.drop_zero]
      repeat (refine wpQb_step (fun K hK => ?_); go_simp; first | (refine hK _ ?_; clear hK K) | (apply Exists.intro; refine ⟨fun _ => ?_, hK _ ?_⟩; (first | (go_at_call 67; with_reducible exact cPl _) | (go_at_call 52; with_reducible exact cB _)); clear hK K))
      refine wpQb_nil ?_
      intro q
      go_wp2
      refine bodyPost_ret (v := .tuple #[.agg #[.int .i64 R.1, .int .i64 R.2.1], .int .i64 R.2.2]) (by simp [results, Tryd.results26, go_sem, c_b2_0, c_b2_1]) rfl ⟨rfl, ?_⟩
      repeat (refine belowSet ?_ (by omega))
      exact below_gw hB _
  · rw [show M.addF a b c d = (0, 0, 1) by unfold M.addF; rw [if_neg hv]]
    have hv2 : (M.vld a b && M.vld c d) = false := vld_false hv
    generalize M.vld a b = v1 at cV hv2
    generalize M.vld c d = v2 at cW hv2
    clear hv
    cases v1 <;> cases v2
    any_goals
      go_enter Tryd.func26, Tryd.ntmps26
      go_wp2_with fail
      rw [HW.out]
      go_wp2_with (first | (go_at_call 20; with_reducible refine (callsGw (cV _)).mono ?_; rintro e w1 ⟨rfl, q, rfl⟩) | (go_at_call 20; with_reducible refine (callsGw (cW _)).mono ?_; rintro e w1 ⟨rfl, q, rfl⟩))
      refine bodyPost_ret (v := .tuple #[.agg #[.int .i64 0, .int .i64 0], .int .i64 1]) (by simp [results, Tryd.results26, go_sem, c_b2_0, c_b2_1]) rfl ⟨rfl, ?_⟩
      repeat (refine belowSet ?_ (by omega))
      exact below_gw hB _
    · cases hv2
theorem subF_neg (a b c d : Int) : M.addF a b (M.negF c d).1 (M.negF c d).2 = M.subF a b c d := by
  by_cases h2 : M.vld c d = true
  · rw [show M.negF c d = (-c, d) by unfold M.negF; rw [if_pos h2]]
    by_cases h1 : M.vld a b = true
    · exact M.subF_add h1 h2
    · unfold M.addF M.subF; rw [if_neg (fun h => h1 h.1), if_neg (fun h => h1 h.1)]
  · rw [show M.negF c d = (0, 0) by unfold M.negF; rw [if_neg h2]]
    unfold M.addF M.subF
    rw [if_neg (fun h => by have := (M.vld_of h.2).1; omega), if_neg (fun h => h2 h.2)]
set_option maxRecDepth 100000 in
set_option maxHeartbeats 4000000 in
theorem rsub_any (a b c d : Int) (w : World) :
    Calls Tryd.prog 28 #[.agg #[.int .i64 a, .int .i64 b], .agg #[.int .i64 c, .int .i64 d]] w fun e w' => e = .returned (.tuple #[.agg #[.int .i64 (M.subF a b c d).1, .int .i64 (M.subF a b c d).2.1], .int .i64 (M.subF a b c d).2.2]) ∧ Below w.heap.size w w' := by
  obtain ⟨W, hW, hB, hS, b0, b1, b2⟩ := lay3 w #[.int .i64 a, .int .i64 b] 27 #[.int .i64 c, .int .i64 d] 27 #[.int .i64 0, .int .i64 0] 27
  obtain ⟨p0, hp0⟩ := gw_start W
  have HW := Lib.hid (hW.trans hp0)
  clear hW hp0
  have c_b0_0 : ∀ q, (gw W q).cell? ⟨w.heap.size, 0, none⟩ = some (.int .i64 a) := cell_gw (blk_cell b0 0 _ rfl)
  have c_b0_1 : ∀ q, (gw W q).cell? ⟨w.heap.size, 1, none⟩ = some (.int .i64 b) := cell_gw (blk_cell b0 1 _ rfl)
  have f_b0 := blk_frozen b0
  have c_b1_0 : ∀ q, (gw W q).cell? ⟨w.heap.size + 1, 0, none⟩ = some (.int .i64 c) := cell_gw (blk_cell b1 0 _ rfl)
  have c_b1_1 : ∀ q, (gw W q).cell? ⟨w.heap.size + 1, 1, none⟩ = some (.int .i64 d) := cell_gw (blk_cell b1 1 _ rfl)
  have f_b1 := blk_frozen b1
  have c_b2_0 : ∀ q, (gw W q).cell? ⟨w.heap.size + 1 + 1, 0, none⟩ = some (.int .i64 0) := cell_gw (blk_cell b2 0 _ rfl)
  have c_b2_1 : ∀ q, (gw W q).cell? ⟨w.heap.size + 1 + 1, 1, none⟩ = some (.int .i64 0) := cell_gw (blk_cell b2 1 _ rfl)
  have f_b2 := blk_frozen b2
  have cN := fun w => rneg_any c d w
  have cA := fun w => radd_any a b (M.negF c d).1 (M.negF c d).2 w
  rw [subF_neg] at cA
  generalize M.subF a b c d = R at cA ⊢
  generalize M.negF c d = N at cN cA
  go_enter Tryd.func28, Tryd.ntmps28
  go_wp2_with fail
  rw [HW.out]
  refine wp_alo0 6 2 (by kernel_rfl) rfl (by kernel_rfl) (by kernel_rfl) ?_
  simp only [List.take_succ_cons, List.take_zero, List.drop_succ_cons, List.drop_zero]
  repeat (refine wpQb_step (fun K hK => ?_); go_simp; first | (refine hK _ ?_; clear hK K) | (apply Exists.intro; refine ⟨fun _ => ?_, hK _ ?_⟩; (first | (go_at_call 35; with_reducible exact cN _) | (go_at_call 26; with_reducible exact cA _)); clear hK K))
  refine wpQb_nil ?_
  intro q
  go_wp2
  refine bodyPost_ret (v := .tuple #[.agg #[.int .i64 R.1, .int .i64 R.2.1], .int .i64 R.2.2]) (by simp [results, Tryd.results28, go_sem, c_b2_0, c_b2_1]) rfl ⟨rfl, ?_⟩
  repeat (refine belowSet ?_ (by omega))
  exact below_gw hB _
end Go.Proofs.YthieengihbbnpaaDoor
