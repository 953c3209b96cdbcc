/- Package fraction: Cmp. -/
import Derived.Test.YthieengihbbnpaaDoorH3
import Derived.Outline
namespace Go.Proofs.YthieengihbbnpaaDoor
open Go.RowKit Go.Sort
set_option linter.unusedVariables false
set_option maxHeartbeats 4000000 in
theorem cmp_same (a b c d : Int) (sa sl : Bool) (v1 : M.vld a b = true) (v2 : M.vld c d = true) (hE : (a == c) = false ∨ ((a == c) = true ∧ (b == d) = false))
    (s1 : decide (a < 0) = sa) (s2 : decide (c < 0) = sa) (s3 : decide (M.absI a * d < M.absI c * b) = sl) (w : World) :
    Calls Tryd.prog 36 #[.agg #[.int .i64 a, .int .i64 b], .agg #[.int .i64 c, .int .i64 d]] w fun e w' => e = .returned (.int .i64 (if sl = sa then 1 else -1)) ∧ Below w.heap.size w w' := by
  obtain ⟨W, hW, hB, hS, hA, hC⟩ := boxed2 w #[.int .i64 a, .int .i64 b] #[.int .i64 c, .int .i64 d] 27 27
  have kA0 := cell_gw (hA 0 _ rfl)
  have kA1 := cell_gw (hA 1 _ rfl)
  have kC0 := cell_gw (hC 0 _ rfl)
  have kC1 := cell_gw (hC 1 _ rfl)
  obtain ⟨p0, hp0⟩ := gw_start W
  have HW := Lib.hid hW
  have HP := Lib.hid hp0
  clear hW hp0 hA hC
  have cV := fun p x y => callsGw (valid_any x y (gw W p))
  obtain ⟨a1, a2, a3, a4, _⟩ := M.vld_of v1
  obtain ⟨c1, c2, c3, c4, _⟩ := M.vld_of v2
  have ha0 := M.absI_nonneg a
  have ha1 : M.absI a ≤ 1000000000000000000 := by unfold M.absI; omega
  have hc0 := M.absI_nonneg c
  have hc1 : M.absI c ≤ 1000000000000000000 := by unfold M.absI; omega
  have cS := fun p (x : Int) h1 h2 => callsGw (quietBelow (size_any x h1 h2 (gw W p)))
  have cT := fun p (x y : Int) h1 h2 h3 h4 => callsGw (times_any x y h1 h2 h3 h4 (gw W p))
  have cL := fun p (x y : Int) => callsGw (less_any (x / 18446744073709551616) (x % 18446744073709551616) (y / 18446744073709551616) (y % 18446744073709551616) (gw W p))
  simp only [M.wless_eq] at cL
  have eb : IntKind.u64.wrap b = b := by rw [M.wrapU]; omega
  have ed : IntKind.u64.wrap d = d := by rw [M.wrapU]; omega
  cases sa <;> cases sl <;> rcases hE with hE1 | ⟨hE1, hE2⟩ <;>
  ( go_enter Tryd.func36, Tryd.ntmps36
    go_wp2_with fail
    rw [HW.out, HP.out]
    refine wp_gw p0 (by kernel_rfl) (by kernel_rfl) ?_
    repeat (quiet_step (exact cV _ _ _))
    refine wpQuiet_nil ?_
    intro _ hw'
    obtain ⟨p1, hw''⟩ := hw'
    subst hw''
    go_wp2_with fail
    refine wp_gw p1 (by kernel_rfl) (by kernel_rfl) ?_
    repeat (quiet_step (first | (go_at_call 43; exact cS _ _ (by omega) (by omega)) | (go_at_call 58; exact cT _ _ _ (by omega) (by omega) (by omega) (by omega)) | (go_at_call 63; exact cL _ _ _)))
    refine wpQuiet_nil ?_
    intro _ hw'
    obtain ⟨p2, hw''⟩ := hw'
    subst hw''
    go_wp2
    go_ret
    exact ⟨rfl, below_gw hB _⟩)
set_option maxHeartbeats 4000000 in
theorem cmp_any (a b c d : Int) (w : World) :
    Calls Tryd.prog 36 #[.agg #[.int .i64 a, .int .i64 b], .agg #[.int .i64 c, .int .i64 d]] w fun e w' => e = .returned (.int .i64 (M.cmpF a b c d)) ∧ Below w.heap.size w w' := by
  obtain ⟨W, hW, hB, hS, hA, hC⟩ := boxed2 w #[.int .i64 a, .int .i64 b] #[.int .i64 c, .int .i64 d] 27 27
  have kA0 := cell_gw (hA 0 _ rfl)
  have kA1 := cell_gw (hA 1 _ rfl)
  have kC0 := cell_gw (hC 0 _ rfl)
  have kC1 := cell_gw (hC 1 _ rfl)
  obtain ⟨p0, hp0⟩ := gw_start W
  have HW := Lib.hid hW
  have HP := Lib.hid hp0
  clear hW hp0 hA hC
  have cV := fun p x y => callsGw (valid_any x y (gw W p))
  by_cases v1 : M.vld a b = true
  · by_cases v2 : M.vld c d = true
    · by_cases hn : a = c ∧ b = d
      · have e : M.cmpF a b c d = 0 := by unfold M.cmpF; rw [if_pos v1, if_pos v2, if_pos hn]
        rw [e]; clear e
        obtain ⟨rfl, rfl⟩ := hn
        go_enter Tryd.func36, Tryd.ntmps36
        go_wp2_with fail
        rw [HW.out, HP.out]
        refine wp_gw p0 (by kernel_rfl) (by kernel_rfl) ?_
        repeat (quiet_step (exact cV _ _ _))
        refine wpQuiet_nil ?_
        intro _ hw'
        obtain ⟨p1, hw''⟩ := hw'
        subst hw''
        go_wp2
        go_ret
        exact ⟨rfl, below_gw hB _⟩
      · by_cases hs : (decide (a < 0) != decide (c < 0)) = true
        · rw [M.cmpF_signs v1 v2 hs]
          have Hn := Lib.hid hn
          clear hn
          by_cases ha : a < 0
          · have hc : ¬ c < 0 := by intro hc; simp [ha, hc] at hs
            rw [if_pos ha]
            have hcd := decide_eq_false hc
            have had := decide_eq_true ha
            have hac : (a == c) = false := beq_eq_false_iff_ne.mpr (by omega)
            clear hs hc ha
            go_enter Tryd.func36, Tryd.ntmps36
            go_wp2_with fail
            rw [HW.out, HP.out]
            refine wp_gw p0 (by kernel_rfl) (by kernel_rfl) ?_
            repeat (quiet_step (exact cV _ _ _))
            refine wpQuiet_nil ?_
            intro _ hw'
            obtain ⟨p1, hw''⟩ := hw'
            subst hw''
            go_wp2
            go_ret
            exact ⟨rfl, below_gw hB _⟩
          · have hc : c < 0 := by
              by_cases hc : c < 0
              · exact hc
              · simp [ha, hc] at hs
            rw [if_neg ha]
            have hcd := decide_eq_true hc
            have had := decide_eq_false ha
            have hac : (a == c) = false := beq_eq_false_iff_ne.mpr (by omega)
            clear hs hc ha
            go_enter Tryd.func36, Tryd.ntmps36
            go_wp2_with fail
            rw [HW.out, HP.out]
            refine wp_gw p0 (by kernel_rfl) (by kernel_rfl) ?_
            repeat (quiet_step (exact cV _ _ _))
            refine wpQuiet_nil ?_
            intro _ hw'
            obtain ⟨p1, hw''⟩ := hw'
            subst hw''
            go_wp2
            go_ret
            exact ⟨rfl, below_gw hB _⟩
        · have hs2 : (decide (a < 0) != decide (c < 0)) = false := by simpa using hs
          rw [M.cmpF_same v1 v2 hn hs2]
          refine (cmp_same a b c d (decide (a < 0)) _ v1 v2 ?_ rfl ?_ rfl w)
          · by_cases h : a = c
            · exact .inr ⟨beq_iff_eq.mpr h, beq_eq_false_iff_ne.mpr (fun h' => hn ⟨h, h'⟩)⟩
            · exact .inl (beq_eq_false_iff_ne.mpr h)
          · cases h1 : decide (a < 0) <;> cases h2 : decide (c < 0) <;> simp [h1, h2] at hs2 ⊢
    · have e : M.cmpF a b c d = 1 := by unfold M.cmpF; rw [if_pos v1, if_neg v2]
      rw [e]; clear e
      have v3 : M.vld c d = false := by simpa using v2
      clear v2
      go_enter Tryd.func36, Tryd.ntmps36
      go_wp2_with fail
      rw [HW.out, HP.out]
      refine wp_gw p0 (by kernel_rfl) (by kernel_rfl) ?_
      repeat (quiet_step (exact cV _ _ _))
      refine wpQuiet_nil ?_
      intro _ hw'
      obtain ⟨p1, hw''⟩ := hw'
      subst hw''
      go_wp2
      go_ret
      exact ⟨rfl, below_gw hB _⟩
  · have v3 : M.vld a b = false := by simpa using v1
    have Hv := Lib.hid v1
    clear v1
    by_cases v2 : M.vld c d = true
    · have e : M.cmpF a b c d = -1 := by unfold M.cmpF; rw [if_neg Hv.out, if_pos v2]
      rw [e]; clear e Hv
      go_enter Tryd.func36, Tryd.ntmps36
      go_wp2_with fail
      rw [HW.out, HP.out]
      refine wp_gw p0 (by kernel_rfl) (by kernel_rfl) ?_
      repeat (quiet_step (exact cV _ _ _))
      refine wpQuiet_nil ?_
      intro _ hw'
      obtain ⟨p1, hw''⟩ := hw'
      subst hw''
      go_wp2
      go_ret
      exact ⟨rfl, below_gw hB _⟩
    · have e : M.cmpF a b c d = 0 := by unfold M.cmpF; rw [if_neg Hv.out, if_neg v2]
      rw [e]; clear e Hv
      have v4 : M.vld c d = false := by simpa using v2
      clear v2
      go_enter Tryd.func36, Tryd.ntmps36
      go_wp2_with fail
      rw [HW.out, HP.out]
      refine wp_gw p0 (by kernel_rfl) (by kernel_rfl) ?_
      repeat (quiet_step (exact cV _ _ _))
      refine wpQuiet_nil ?_
      intro _ hw'
      obtain ⟨p1, hw''⟩ := hw'
      subst hw''
      go_wp2
      go_ret
      exact ⟨rfl, below_gw hB _⟩
end Go.Proofs.YthieengihbbnpaaDoor
