/- The reference's Cmp. -/
import Derived.Test.YthieengihbbnpaaDoorR6
namespace Go.Proofs.YthieengihbbnpaaDoor
open Go.RowKit Go.Sort
set_option linter.unusedVariables false
set_option maxRecDepth 100000 in
set_option maxHeartbeats 8000000 in
theorem rcmp_any (a b c d : Int) (w : World) :
    Calls Tryd.prog 37 #[.agg #[.int .i64 a, .int .i64 b], .agg #[.int .i64 c, .int .i64 d]] w fun e w' => e = .returned (.int .i64 (M.cmpF a b c d)) ∧ Below w.heap.size w w' := by
  obtain ⟨W, hW, hB, hS, b0, b1⟩ := lay2 w #[.int .i64 a, .int .i64 b] 27 #[.int .i64 c, .int .i64 d] 27
  obtain ⟨p0, hp0⟩ := gw_start W
  have HW := Lib.hid (hW.trans hp0)
  clear hW hp0
  have c_b0_0 : ∀ q, (gw W q).cell? ⟨w.heap.size, 0, none⟩ = some (.int .i64 a) := cell_gw (blk_cell b0 0 _ rfl)
  have c_b0_1 : ∀ q, (gw W q).cell? ⟨w.heap.size, 1, none⟩ = some (.int .i64 b) := cell_gw (blk_cell b0 1 _ rfl)
  have f_b0 := blk_frozen b0
  have c_b1_0 : ∀ q, (gw W q).cell? ⟨w.heap.size + 1, 0, none⟩ = some (.int .i64 c) := cell_gw (blk_cell b1 0 _ rfl)
  have c_b1_1 : ∀ q, (gw W q).cell? ⟨w.heap.size + 1, 1, none⟩ = some (.int .i64 d) := cell_gw (blk_cell b1 1 _ rfl)
  have f_b1 := blk_frozen b1
  have cV := fun w => rvalid_any a b w
  have cW := fun w => rvalid_any c d w
  by_cases hv : M.vld a b = true ∧ M.vld c d = true
  · rw [hv.1] at cV
    rw [hv.2] at cW
    by_cases hn : a = c ∧ b = d
    · rw [show M.cmpF a b c d = 0 by unfold M.cmpF; rw [if_pos hv.1, if_pos hv.2, if_pos hn]]
      have e1 := beq_iff_eq.mpr hn.1
      have e2 := beq_iff_eq.mpr hn.2
      clear hv hn
      go_enter Tryd.func37, Tryd.ntmps37
      go_wp2_with fail
      rw [HW.out]
      refine wp_gw _ (by kernel_rfl) (by kernel_rfl) ?_
      repeat (quiet_step (first | (go_at_call 20; with_reducible exact callsGw (cV _)) | (go_at_call 20; with_reducible exact callsGw (cW _))))
      refine wpQuiet_nil ?_
      intro _ hw'
      obtain ⟨p, hw''⟩ := hw'
      subst hw''
      go_wp2_with fail
      go_ret
      exact ⟨rfl, below_gw hB _⟩
    · have hE : (a == c) = false ∨ ((a == c) = true ∧ (b == d) = false) := by
        by_cases h : a = c
        · exact .inr ⟨beq_iff_eq.mpr h, beq_eq_false_iff_ne.mpr (fun h' => hn ⟨h, h'⟩)⟩
        · exact .inl (beq_eq_false_iff_ne.mpr h)
      by_cases hs : (decide (a < 0) != decide (c < 0)) = true
      · rw [M.cmpF_signs hv.1 hv.2 hs]
        have hr : (if a < 0 then (-1 : Int) else 1) = if decide (a < 0) = true then -1 else 1 := by
          by_cases h : a < 0
          · rw [if_pos h, if_pos (decide_eq_true h)]
          · rw [if_neg h, if_neg (by simpa using h)]
        rw [hr]
        clear hr
        obtain ⟨sa, hsa⟩ : ∃ v, decide (a < 0) = v := ⟨_, rfl⟩
        obtain ⟨sc, hsc⟩ : ∃ v, decide (c < 0) = v := ⟨_, rfl⟩
        rw [hsa, hsc] at hs
        rw [hsa]
        clear hv hn
        rcases hE with hE1 | ⟨hE1, hE2⟩ <;> cases sa <;> cases sc
        any_goals
          go_enter Tryd.func37, Tryd.ntmps37
          go_wp2_with fail
          rw [HW.out]
          refine wp_gw _ (by kernel_rfl) (by kernel_rfl) ?_
          repeat (quiet_step (first | (go_at_call 20; with_reducible exact callsGw (cV _)) | (go_at_call 20; with_reducible exact callsGw (cW _))))
          refine wpQuiet_nil ?_
          intro _ hw'
          obtain ⟨p, hw''⟩ := hw'
          subst hw''
          go_wp2_with fail
          go_ret
          exact ⟨rfl, below_gw hB _⟩
        all_goals cases hs
      · have hs2 : (decide (a < 0) != decide (c < 0)) = false := by simpa using hs
        rw [M.cmpF_same hv.1 hv.2 hn hs2]
        obtain ⟨a1, a2, a3, a4, _⟩ := M.vld_of hv.1
        obtain ⟨c1, c2, c3, c4, _⟩ := M.vld_of hv.2
        have ha0 := M.absI_nonneg a
        have ha1 : M.absI a ≤ 1000000000000000000 := by unfold M.absI; omega
        have hc0 := M.absI_nonneg c
        have hc1 : M.absI c ≤ 1000000000000000000 := by unfold M.absI; omega
        have eb : IntKind.u64.wrap b = b := by rw [M.wrapU]; omega
        have ed : IntKind.u64.wrap d = d := by rw [M.wrapU]; omega
        have cA := fun w => quietBelow (rsize_any a (by omega) (by omega) w)
        have cC := fun w => quietBelow (rsize_any c (by omega) (by omega) w)
        have cP := fun w => rproduct_any (M.absI a) d ha0 (by omega) (by omega) (by omega) w
        have cQ := fun w => rproduct_any (M.absI c) b hc0 (by omega) (by omega) (by omega) w
        have cL := fun w => rless2_any (M.absI a * d) (M.absI c * b) w
        generalize M.absI a * d = P at cP cL ⊢
        generalize M.absI c * b = Q at cQ cL ⊢
        generalize M.absI a = A at cA cP
        generalize M.absI c = C at cC cQ
        obtain ⟨sa, hsa⟩ : ∃ v, decide (a < 0) = v := ⟨_, rfl⟩
        obtain ⟨sc, hsc⟩ : ∃ v, decide (c < 0) = v := ⟨_, rfl⟩
        have hge : decide (0 ≤ a) = !sa := by
          rw [← hsa]; by_cases h : a < 0
          · rw [decide_eq_true h, decide_eq_false (by omega)]; rfl
          · rw [decide_eq_false h, decide_eq_true (by omega)]; rfl
        rw [hsa, hsc] at hs2
        rw [hsa]
        generalize decide (P < Q) = sl at cL ⊢
        clear hs hv hn ha0 ha1 hc0 hc1
        rcases hE with hE1 | ⟨hE1, hE2⟩ <;> cases sa <;> cases sc
        any_goals
          go_enter Tryd.func37, Tryd.ntmps37
          go_wp2_with fail
          rw [HW.out]
          refine wp_gw _ (by kernel_rfl) (by kernel_rfl) ?_
          repeat (quiet_step (first | (go_at_call 20; with_reducible exact callsGw (cV _)) | (go_at_call 20; with_reducible exact callsGw (cW _))))
          refine wpQuiet_nil ?_
          intro _ hw'
          obtain ⟨p, hw''⟩ := hw'
          subst hw''
          go_upto_region 14 with fail
          refine wp_alo2 14 2 #[.int .u64 0, .int .u64 0] #[.int .u64 0, .int .u64 0] 62 62 7 8 (by decide) (by kernel_rfl) ⟨_, rfl, rfl, rfl, fun _ _ => by kernel_rfl⟩ ⟨_, rfl, rfl, rfl, fun _ _ => by kernel_rfl⟩ rfl (by kernel_rfl) (by kernel_rfl) ?_
          simp only [List.take_succ_cons, List.take_zero, List.drop_succ_cons, List.drop_zero]
          repeat (refine wpQb_step (fun K hK => ?_); go_simp; first | (refine hK _ ?_; clear hK K) | (apply Exists.intro; refine ⟨fun _ => ?_, hK _ ?_⟩; (first | (go_at_call 45; with_reducible exact cA _) | (go_at_call 45; with_reducible exact cC _) | (go_at_call 61; with_reducible exact cP _) | (go_at_call 61; with_reducible exact cQ _)); clear hK K))
          refine wpQb_nil ?_
          intro g g2 X hKX hBX hg hge hg2 hge2 hne q
          have b0 := hKX _ _ b0
          have b1 := hKX _ _ b1
          have hB := hBX _ hB
          have c_hg_0 : ∀ q, (gw X q).cell? ⟨g, 0, none⟩ = some (.int .u64 0) := cell_gw (blk_cell hg 0 _ rfl)
          have c_hg_1 : ∀ q, (gw X q).cell? ⟨g, 1, none⟩ = some (.int .u64 0) := cell_gw (blk_cell hg 1 _ rfl)
          have f_hg := blk_frozen hg
          have c_hg2_0 : ∀ q, (gw X q).cell? ⟨g2, 0, none⟩ = some (.int .u64 0) := cell_gw (blk_cell hg2 0 _ rfl)
          have c_hg2_1 : ∀ q, (gw X q).cell? ⟨g2, 1, none⟩ = some (.int .u64 0) := cell_gw (blk_cell hg2 1 _ rfl)
          have f_hg2 := blk_frozen hg2
          clear hKX hBX
          have hne2 := Ne.symm hne
          go_upto_region 15 with fail
          obtain ⟨Y, eY, sY, nb, kY, lY⟩ := storedS2 q hg (.int .u64 (P / 18446744073709551616)) (.int .u64 (P % 18446744073709551616))
          rw [eY]
          have hg2 := kY _ _ (by omega) hg2
          have b0 := kY _ _ (by omega) b0
          have b1 := kY _ _ (by omega) b1
          have hB := lY _ (by omega) hB
          have hg := nb
          clear nb
          have c_hg_0 : ∀ q, (gw Y q).cell? ⟨g, 0, none⟩ = some (.int .u64 (P / 18446744073709551616)) := cell_gw (blk_cell hg 0 _ rfl)
          have c_hg_1 : ∀ q, (gw Y q).cell? ⟨g, 1, none⟩ = some (.int .u64 (P % 18446744073709551616)) := cell_gw (blk_cell hg 1 _ rfl)
          have f_hg := blk_frozen hg
          obtain ⟨Z, eZ, sZ, nb, kZ, lZ⟩ := storedS2 q hg2 (.int .u64 (Q / 18446744073709551616)) (.int .u64 (Q % 18446744073709551616))
          rw [eZ]
          have hg := kZ _ _ (by omega) hg
          have b0 := kZ _ _ (by omega) b0
          have b1 := kZ _ _ (by omega) b1
          have hB := lZ _ (by omega) hB
          have hg2 := nb
          clear nb
          have c_hg2_0 : ∀ q, (gw Z q).cell? ⟨g2, 0, none⟩ = some (.int .u64 (Q / 18446744073709551616)) := cell_gw (blk_cell hg2 0 _ rfl)
          have c_hg2_1 : ∀ q, (gw Z q).cell? ⟨g2, 1, none⟩ = some (.int .u64 (Q % 18446744073709551616)) := cell_gw (blk_cell hg2 1 _ rfl)
          have f_hg2 := blk_frozen hg2
          have c_hg_0 : ∀ q, (gw Z q).cell? ⟨g, 0, none⟩ = some (.int .u64 (P / 18446744073709551616)) := cell_gw (blk_cell hg 0 _ rfl)
          have c_hg_1 : ∀ q, (gw Z q).cell? ⟨g, 1, none⟩ = some (.int .u64 (P % 18446744073709551616)) := cell_gw (blk_cell hg 1 _ rfl)
          have f_hg := blk_frozen hg
          have c_b0_0 : ∀ q, (gw Z q).cell? ⟨w.heap.size, 0, none⟩ = some (.int .i64 a) := cell_gw (blk_cell b0 0 _ rfl)
          have c_b0_1 : ∀ q, (gw Z q).cell? ⟨w.heap.size, 1, none⟩ = some (.int .i64 b) := cell_gw (blk_cell b0 1 _ rfl)
          have f_b0 := blk_frozen b0
          cases sl
          all_goals
            refine wp_gw _ (by kernel_rfl) (by kernel_rfl) ?_
            repeat (quiet_step ((go_at_call 68; with_reducible exact callsGw (cL _))))
            refine wpQuiet_nil ?_
            intro _ hw'
            obtain ⟨p, hw''⟩ := hw'
            subst hw''
            go_wp2_with fail
            go_ret
            exact ⟨by simp, below_gw hB _⟩
        all_goals cases hs2
  · have e : M.cmpF a b c d = if M.vld a b = true then 1 else if M.vld c d = true then -1 else 0 := by
      unfold M.cmpF
      by_cases h1 : M.vld a b = true
      · rw [if_pos h1, if_neg (fun h => hv ⟨h1, h⟩), if_pos h1]
      · rw [if_neg h1, if_neg h1]
    rw [e]
    have hv2 : (M.vld a b && M.vld c d) = false := vld_false hv
    generalize M.vld a b = v1 at cV hv2 ⊢
    generalize M.vld c d = v2 at cW hv2 ⊢
    clear hv e
    cases v1 <;> cases v2
    any_goals
      go_enter Tryd.func37, Tryd.ntmps37
      go_wp2_with fail
      rw [HW.out]
      refine wp_gw _ (by kernel_rfl) (by kernel_rfl) ?_
      repeat (quiet_step (first | (go_at_call 20; with_reducible exact callsGw (cV _)) | (go_at_call 20; with_reducible exact callsGw (cW _))))
      refine wpQuiet_nil ?_
      intro _ hw'
      obtain ⟨p, hw''⟩ := hw'
      subst hw''
      go_wp2_with fail
      go_ret
      exact ⟨rfl, below_gw hB _⟩
    · cases hv2
end Go.Proofs.YthieengihbbnpaaDoor
