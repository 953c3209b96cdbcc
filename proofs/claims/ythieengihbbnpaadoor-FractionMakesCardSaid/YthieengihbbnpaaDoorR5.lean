/- The reference's Valid, Neg, Sub, Mul, Div. -/
import Derived.Test.YthieengihbbnpaaDoorR4
namespace Go.Proofs.YthieengihbbnpaaDoor
open Go.RowKit Go.Sort
set_option linter.unusedVariables false
theorem divisor_small (x y : Int) (hx0 : 0 ≤ x) (hx1 : x < 18446744073709551616) (hy0 : 0 < y) (hy1 : y < 18446744073709551616) (w : World) :
    Calls Tryd.prog 55 #[.agg #[.int .u64 0, .int .u64 x], .agg #[.int .u64 0, .int .u64 y]] w fun e w' => e = .returned (.agg #[.int .u64 0, .int .u64 (M.gcdI x y)]) ∧ Below w.heap.size w w' := by
  have h := divisor_any x y hx0 (by omega) (by omega) (by omega) w
  have g0 : 0 < M.gcdI x y := M.gcdI_pos_right hy0
  have g1 : M.gcdI x y ≤ y := Int.le_of_dvd hy0 (M.gcdI_dvd_right x y)
  rw [show x / 18446744073709551616 = 0 by omega, show x % 18446744073709551616 = x by omega, show y / 18446744073709551616 = 0 by omega, show y % 18446744073709551616 = y by omega,
    show M.gcdI x y / 18446744073709551616 = 0 by omega, show M.gcdI x y % 18446744073709551616 = M.gcdI x y by omega] at h
  exact h
set_option maxRecDepth 100000 in
set_option maxHeartbeats 4000000 in
theorem rvalid_any (n d : Int) (w : World) :
    Calls Tryd.prog 20 #[.agg #[.int .i64 n, .int .i64 d]] w fun e w' => e = .returned (.bool (M.vld n d)) ∧ Below w.heap.size w w' := by
  obtain ⟨W, hW, hB, hS, b0⟩ := lay1 w #[.int .i64 n, .int .i64 d] 27
  obtain ⟨p0, hp0⟩ := gw_start W
  have HW := Lib.hid (hW.trans hp0)
  clear hW hp0
  have c_b0_0 : ∀ q, (gw W q).cell? ⟨w.heap.size, 0, none⟩ = some (.int .i64 n) := cell_gw (blk_cell b0 0 _ rfl)
  have c_b0_1 : ∀ q, (gw W q).cell? ⟨w.heap.size, 1, none⟩ = some (.int .i64 d) := cell_gw (blk_cell b0 1 _ rfl)
  have f_b0 := blk_frozen b0
  by_cases c1 : 1 ≤ d
  · by_cases c2 : d ≤ 1000000000000000000
    · by_cases c3 : -1000000000000000000 ≤ n
      · by_cases c4 : n ≤ 1000000000000000000
        · have e : M.vld n d = (M.gcdI (M.absI n) d == 1) := by
            unfold M.vld; rw [decide_eq_true c1, decide_eq_true c2, decide_eq_true c3, decide_eq_true c4, M.gcdI_abs]; rfl
          rw [e]; clear e
          have hs : 0 ≤ M.absI n := M.absI_nonneg n
          have hs2 : M.absI n < 18446744073709551616 := by unfold M.absI; omega
          have cS := fun w => quietBelow (rsize_any n (by omega) (by omega) w)
          have cG := fun w => divisor_small (M.absI n) d hs hs2 (by omega) (by omega) w
          have ed : IntKind.u64.wrap d = d := by rw [M.wrapU]; omega
          have z1 : decide (d < 1) = false := decide_eq_false (by omega)
          have z2 : decide (1000000000000000000 < d) = false := decide_eq_false (by omega)
          have z3 : decide (n < -1000000000000000000) = false := decide_eq_false (by omega)
          have z4 : decide (1000000000000000000 < n) = false := decide_eq_false (by omega)
          obtain ⟨v, hv⟩ : ∃ v, (M.gcdI (M.absI n) d == 1) = v := ⟨_, rfl⟩
          rw [hv]
          generalize M.gcdI (M.absI n) d = G at cG hv
          generalize M.absI n = A at cS cG
          clear hs hs2
          cases v <;>
          ( go_enter Tryd.func20, Tryd.ntmps20
            go_wp2_with fail
            rw [HW.out]
            go_wp2_with fail
            refine wp_gw _ (by kernel_rfl) (by kernel_rfl) ?_
            repeat (quiet_step (first | (go_at_call 45; with_reducible exact callsGw (cS _)) | (go_at_call 55; with_reducible exact callsGw (cG _))))
            refine wpQuiet_nil ?_
            intro _ hw'
            obtain ⟨p, hw''⟩ := hw'
            subst hw''
            go_wp2_with fail
            go_ret
            exact ⟨rfl, below_gw hB _⟩ )
        · have e : M.vld n d = false := by unfold M.vld; rw [decide_eq_true c1, decide_eq_true c2, decide_eq_true c3, decide_eq_false c4]; rfl
          rw [e]; clear e
          have z1 : decide (d < 1) = false := decide_eq_false (by omega)
          have z2 : decide (1000000000000000000 < d) = false := decide_eq_false (by omega)
          have z3 : decide (n < -1000000000000000000) = false := decide_eq_false (by omega)
          have z4 : decide (1000000000000000000 < n) = true := decide_eq_true (by omega)
          clear c4
          go_enter Tryd.func20, Tryd.ntmps20
          go_wp2_with fail
          rw [HW.out]
          go_wp2_with fail
          go_ret
          exact ⟨rfl, below_gw hB _⟩
      · have e : M.vld n d = false := by unfold M.vld; rw [decide_eq_true c1, decide_eq_true c2, decide_eq_false c3]; rfl
        rw [e]; clear e
        have z1 : decide (d < 1) = false := decide_eq_false (by omega)
        have z2 : decide (1000000000000000000 < d) = false := decide_eq_false (by omega)
        have z3 : decide (n < -1000000000000000000) = true := decide_eq_true (by omega)
        clear c3
        go_enter Tryd.func20, Tryd.ntmps20
        go_wp2_with fail
        rw [HW.out]
        go_wp2_with fail
        go_ret
        exact ⟨rfl, below_gw hB _⟩
    · have e : M.vld n d = false := by unfold M.vld; rw [decide_eq_true c1, decide_eq_false c2]; rfl
      rw [e]; clear e
      have z1 : decide (d < 1) = false := decide_eq_false (by omega)
      have z2 : decide (1000000000000000000 < d) = true := decide_eq_true (by omega)
      clear c2
      go_enter Tryd.func20, Tryd.ntmps20
      go_wp2_with fail
      rw [HW.out]
      go_wp2_with fail
      go_ret
      exact ⟨rfl, below_gw hB _⟩
  · have e : M.vld n d = false := by unfold M.vld; rw [decide_eq_false c1]; rfl
    rw [e]; clear e
    have z1 : decide (d < 1) = true := decide_eq_true (by omega)
    clear c1
    go_enter Tryd.func20, Tryd.ntmps20
    go_wp2_with fail
    rw [HW.out]
    go_wp2_with fail
    go_ret
    exact ⟨rfl, below_gw hB _⟩
set_option maxRecDepth 100000 in
theorem rneg_any (a b : Int) (w : World) :
    Calls Tryd.prog 35 #[.agg #[.int .i64 a, .int .i64 b]] w fun e w' => e = .returned (.agg #[.int .i64 (M.negF a b).1, .int .i64 (M.negF a b).2]) ∧ Below w.heap.size w w' := by
  obtain ⟨W, hW, hB, hS, b0, b1⟩ := lay2 w #[.int .i64 a, .int .i64 b] 27 #[.int .i64 0, .int .i64 0] 27
  obtain ⟨p0, hp0⟩ := gw_start W
  have HW := Lib.hid (hW.trans hp0)
  clear hW hp0
  have c_b0_0 : ∀ q, (gw W q).cell? ⟨w.heap.size, 0, none⟩ = some (.int .i64 a) := cell_gw (blk_cell b0 0 _ rfl)
  have c_b0_1 : ∀ q, (gw W q).cell? ⟨w.heap.size, 1, none⟩ = some (.int .i64 b) := cell_gw (blk_cell b0 1 _ rfl)
  have f_b0 := blk_frozen b0
  have c_b1_0 : ∀ q, (gw W q).cell? ⟨w.heap.size + 1, 0, none⟩ = some (.int .i64 0) := cell_gw (blk_cell b1 0 _ rfl)
  have c_b1_1 : ∀ q, (gw W q).cell? ⟨w.heap.size + 1, 1, none⟩ = some (.int .i64 0) := cell_gw (blk_cell b1 1 _ rfl)
  have f_b1 := blk_frozen b1
  obtain ⟨v, hv⟩ : ∃ v, M.vld a b = v := ⟨_, rfl⟩
  have cV := fun w => rvalid_any a b w
  rw [hv] at cV
  cases v
  · rw [show M.negF a b = (0, 0) by unfold M.negF; rw [hv]; rfl]
    clear hv
    go_enter Tryd.func35, Tryd.ntmps35
    go_wp2_with fail
    rw [HW.out]
    go_wp2_with ((go_at_call 20; with_reducible refine (callsGw (cV _)).mono ?_; rintro e w1 ⟨rfl, q, rfl⟩))
    refine bodyPost_ret (v := .agg #[.int .i64 0, .int .i64 0]) (by simp [results, Tryd.results35, go_sem, c_b1_0, c_b1_1]) rfl ⟨rfl, ?_⟩
    repeat (refine belowSet ?_ (by omega))
    exact below_gw hB _
  · rw [show M.negF a b = (-a, b) by unfold M.negF; rw [hv]; rfl]
    obtain ⟨a1, a2, a3, a4, _⟩ := M.vld_of hv
    have ea : wrap64 (-a) = -a := M.wrapI_of (by unfold M.isI; omega)
    clear hv
    go_enter Tryd.func35, Tryd.ntmps35
    go_wp2_with fail
    rw [HW.out]
    go_wp2_with ((go_at_call 20; with_reducible refine (callsGw (cV _)).mono ?_; rintro e w1 ⟨rfl, q, rfl⟩))
    refine bodyPost_ret (v := .agg #[.int .i64 (-a), .int .i64 b]) (by simp [results, Tryd.results35, go_sem, c_b1_0, c_b1_1]) rfl ⟨rfl, ?_⟩
    repeat (refine belowSet ?_ (by omega))
    exact below_gw hB _
set_option maxRecDepth 100000 in
set_option maxHeartbeats 4000000 in
theorem rmul_any (a b c d : Int) (w : World) :
    Calls Tryd.prog 22 #[.agg #[.int .i64 a, .int .i64 b], .agg #[.int .i64 c, .int .i64 d]] w fun e w' => e = .returned (.tuple #[.agg #[.int .i64 (M.mulF a b c d).1, .int .i64 (M.mulF a b c d).2.1], .int .i64 (M.mulF a b c d).2.2]) ∧ Below w.heap.size w w' := by
  obtain ⟨W, hW, hB, hS, b0, b1, b2⟩ := lay3 w #[.int .i64 a, .int .i64 b] 27 #[.int .i64 c, .int .i64 d] 27 #[.int .i64 0, .int .i64 0] 27
  obtain ⟨p0, hp0⟩ := gw_start W
  have HW := Lib.hid (hW.trans hp0)
  clear hW hp0
  have c_b0_0 : ∀ q, (gw W q).cell? ⟨w.heap.size, 0, none⟩ = some (.int .i64 a) := cell_gw (blk_cell b0 0 _ rfl)
  have c_b0_1 : ∀ q, (gw W q).cell? ⟨w.heap.size, 1, none⟩ = some (.int .i64 b) := cell_gw (blk_cell b0 1 _ rfl)
  have f_b0 := blk_frozen b0
  have c_b1_0 : ∀ q, (gw W q).cell? ⟨w.heap.size + 1, 0, none⟩ = some (.int .i64 c) := cell_gw (blk_cell b1 0 _ rfl)
  have c_b1_1 : ∀ q, (gw W q).cell? ⟨w.heap.size + 1, 1, none⟩ = some (.int .i64 d) := cell_gw (blk_cell b1 1 _ rfl)
  have f_b1 := blk_frozen b1
  have c_b2_0 : ∀ q, (gw W q).cell? ⟨w.heap.size + 1 + 1, 0, none⟩ = some (.int .i64 0) := cell_gw (blk_cell b2 0 _ rfl)
  have c_b2_1 : ∀ q, (gw W q).cell? ⟨w.heap.size + 1 + 1, 1, none⟩ = some (.int .i64 0) := cell_gw (blk_cell b2 1 _ rfl)
  have f_b2 := blk_frozen b2
  have cV := fun w => rvalid_any a b w
  have cW := fun w => rvalid_any c d w
  by_cases hv : M.vld a b = true ∧ M.vld c d = true
  · rw [hv.1] at cV
    rw [hv.2] at cW
    obtain ⟨a1, a2, a3, a4, _⟩ := M.vld_of hv.1
    obtain ⟨c1, c2, c3, c4, _⟩ := M.vld_of hv.2
    have ha0 := M.absI_nonneg a
    have ha1 : M.absI a ≤ 1000000000000000000 := by unfold M.absI; omega
    have hc0 := M.absI_nonneg c
    have hc1 : M.absI c ≤ 1000000000000000000 := by unfold M.absI; omega
    have p0' : 0 ≤ M.absI a * M.absI c := Int.mul_nonneg ha0 hc0
    have p1' : M.absI a * M.absI c ≤ 1000000000000000000000000000000000000 := by
      have h1 : M.absI a * M.absI c ≤ 1000000000000000000 * M.absI c := Int.mul_le_mul_of_nonneg_right ha1 hc0
      omega
    have q0' : 0 < b * d := Int.mul_pos (by omega) (by omega)
    have q1' : b * d ≤ 1000000000000000000000000000000000000 := by
      have h1 : b * d ≤ 1000000000000000000 * d := Int.mul_le_mul_of_nonneg_right a2 (by omega)
      omega
    have eb : IntKind.u64.wrap b = b := by rw [M.wrapU]; omega
    have ed : IntKind.u64.wrap d = d := by rw [M.wrapU]; omega
    have cA := fun w => quietBelow (rsize_any a (by omega) (by omega) w)
    have cC := fun w => quietBelow (rsize_any c (by omega) (by omega) w)
    have cP := fun w => rproduct_any (M.absI a) (M.absI c) ha0 (by omega) hc0 (by omega) w
    have cQ := fun w => rproduct_any b d (by omega) (by omega) (by omega) (by omega) w
    have cB := fun w => build_any (!(decide (a < 0) == decide (c < 0))) (M.absI a * M.absI c) (b * d) p0' (by omega) q0' (by omega) w
    have e : (if (!(decide (a < 0) == decide (c < 0))) = true then -(M.absI a * M.absI c) else M.absI a * M.absI c) = a * c := M.sign_mul a c
    rw [e] at cB
    rw [show M.mulF a b c d = M.norm (a * c) (b * d) by unfold M.mulF; rw [if_pos hv]]
    generalize M.norm (a * c) (b * d) = R at cB ⊢
    generalize M.absI a * M.absI c = P at cP cB
    generalize b * d = Q at cQ cB
    generalize M.absI a = A at cA cP
    generalize M.absI c = C at cC cP
    clear hv e p0' p1' q0' q1' ha0 ha1 hc0 hc1
    go_enter Tryd.func22, Tryd.ntmps22
    go_wp2_with fail
    rw [HW.out]
    go_wp2_with (first | (go_at_call 20; with_reducible refine (callsGw (cV _)).mono ?_; rintro e w1 ⟨rfl, q, rfl⟩) | (go_at_call 20; with_reducible refine (callsGw (cW _)).mono ?_; rintro e w1 ⟨rfl, q, rfl⟩))
    refine wp_alo0 24 2 (by kernel_rfl) rfl (by kernel_rfl) (by kernel_rfl) ?_
    simp only [List.take_succ_cons, List.take_zero, List.drop_succ_cons, List.drop_zero]
    repeat (refine wpQb_step (fun K hK => ?_); go_simp; first | (refine hK _ ?_; clear hK K) | (apply Exists.intro; refine ⟨fun _ => ?_, hK _ ?_⟩; (first | (go_at_call 45; with_reducible exact cA _) | (go_at_call 45; with_reducible exact cC _) | (go_at_call 61; with_reducible exact cP _) | (go_at_call 61; with_reducible exact cQ _) | (go_at_call 52; with_reducible exact cB _)); clear hK K))
    refine wpQb_nil ?_
    intro q
    go_wp2
    refine bodyPost_ret (v := .tuple #[.agg #[.int .i64 R.1, .int .i64 R.2.1], .int .i64 R.2.2]) (by simp [results, Tryd.results22, go_sem, c_b2_0, c_b2_1]) rfl ⟨rfl, ?_⟩
    repeat (refine belowSet ?_ (by omega))
    exact below_gw hB _
  · rw [show M.mulF a b c d = (0, 0, 1) by unfold M.mulF; rw [if_neg hv]]
    have hv2 : (M.vld a b && M.vld c d) = false := vld_false hv
    generalize M.vld a b = v1 at cV hv2
    generalize M.vld c d = v2 at cW hv2
    clear hv
    cases v1 <;> cases v2
    any_goals
      go_enter Tryd.func22, Tryd.ntmps22
      go_wp2_with fail
      rw [HW.out]
      go_wp2_with (first | (go_at_call 20; with_reducible refine (callsGw (cV _)).mono ?_; rintro e w1 ⟨rfl, q, rfl⟩) | (go_at_call 20; with_reducible refine (callsGw (cW _)).mono ?_; rintro e w1 ⟨rfl, q, rfl⟩))
      refine bodyPost_ret (v := .tuple #[.agg #[.int .i64 0, .int .i64 0], .int .i64 1]) (by simp [results, Tryd.results22, go_sem, c_b2_0, c_b2_1]) rfl ⟨rfl, ?_⟩
      repeat (refine belowSet ?_ (by omega))
      exact below_gw hB _
    · cases hv2
end Go.Proofs.YthieengihbbnpaaDoor
