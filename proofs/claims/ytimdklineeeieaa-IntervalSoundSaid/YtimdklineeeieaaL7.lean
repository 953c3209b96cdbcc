/- The statements on intervals: Sound. -/
import Derived.Test.YtimdklineeeieaaL3
import Derived.Test.YtimdklineeeieaaM19
namespace Go.Proofs.Ytimdklineeeieaa
open Go.RowKit Go.Sort
set_option linter.unusedVariables false
set_option maxRecDepth 100000 in
set_option maxHeartbeats 32000000 in
theorem sound_any (a b c d e f s u x1 x2 y1 y2 : Int) (w : World) :
    Calls Try.prog 7 #[.agg #[.int .i64 a, .int .i64 b, .int .i64 c, .int .i64 d], .agg #[.int .i64 e, .int .i64 f, .int .i64 s, .int .i64 u], .agg #[.int .i64 x1, .int .i64 x2], .agg #[.int .i64 y1, .int .i64 y2]] w fun r w' => r = .returned (.bool true) ∧ Below w.heap.size w w' := by
  obtain ⟨W, hW, hB, hS, b0, b1, b2, b3⟩ := lay4 w #[.int .i64 a, .int .i64 b, .int .i64 c, .int .i64 d] 25 #[.int .i64 e, .int .i64 f, .int .i64 s, .int .i64 u] 25 #[.int .i64 x1, .int .i64 x2] 23 #[.int .i64 y1, .int .i64 y2] 23
  obtain ⟨p0, hp0⟩ := gw_start W
  have HW := Lib.hid (hW.trans hp0)
  clear hW hp0
  have c_b0_0 : ∀ q, (gw W q).cell? ⟨w.heap.size, 0, none⟩ = some (.int .i64 a) := cell_gw (blk_cell b0 0 _ rfl)
  have c_b0_1 : ∀ q, (gw W q).cell? ⟨w.heap.size, 1, none⟩ = some (.int .i64 b) := cell_gw (blk_cell b0 1 _ rfl)
  have c_b0_2 : ∀ q, (gw W q).cell? ⟨w.heap.size, 2, none⟩ = some (.int .i64 c) := cell_gw (blk_cell b0 2 _ rfl)
  have c_b0_3 : ∀ q, (gw W q).cell? ⟨w.heap.size, 3, none⟩ = some (.int .i64 d) := cell_gw (blk_cell b0 3 _ rfl)
  have f_b0 := blk_frozen b0
  have c_b1_0 : ∀ q, (gw W q).cell? ⟨w.heap.size + 1, 0, none⟩ = some (.int .i64 e) := cell_gw (blk_cell b1 0 _ rfl)
  have c_b1_1 : ∀ q, (gw W q).cell? ⟨w.heap.size + 1, 1, none⟩ = some (.int .i64 f) := cell_gw (blk_cell b1 1 _ rfl)
  have c_b1_2 : ∀ q, (gw W q).cell? ⟨w.heap.size + 1, 2, none⟩ = some (.int .i64 s) := cell_gw (blk_cell b1 2 _ rfl)
  have c_b1_3 : ∀ q, (gw W q).cell? ⟨w.heap.size + 1, 3, none⟩ = some (.int .i64 u) := cell_gw (blk_cell b1 3 _ rfl)
  have f_b1 := blk_frozen b1
  have c_b2_0 : ∀ q, (gw W q).cell? ⟨w.heap.size + 1 + 1, 0, none⟩ = some (.int .i64 x1) := cell_gw (blk_cell b2 0 _ rfl)
  have c_b2_1 : ∀ q, (gw W q).cell? ⟨w.heap.size + 1 + 1, 1, none⟩ = some (.int .i64 x2) := cell_gw (blk_cell b2 1 _ rfl)
  have f_b2 := blk_frozen b2
  have c_b3_0 : ∀ q, (gw W q).cell? ⟨w.heap.size + 1 + 1 + 1, 0, none⟩ = some (.int .i64 y1) := cell_gw (blk_cell b3 0 _ rfl)
  have c_b3_1 : ∀ q, (gw W q).cell? ⟨w.heap.size + 1 + 1 + 1, 1, none⟩ = some (.int .i64 y2) := cell_gw (blk_cell b3 1 _ rfl)
  have f_b3 := blk_frozen b3
  have cA := fun w => awake_any w
  have cV := fun w => icont_any a b c d x1 x2 w
  have cW := fun w => icont_any e f s u y1 y2 w
  obtain ⟨v1, hv1⟩ : ∃ v, M.icont a b c d x1 x2 = v := ⟨_, rfl⟩
  obtain ⟨v2, hv2⟩ : ∃ v, M.icont e f s u y1 y2 = v := ⟨_, rfl⟩
  rw [hv1] at cV
  rw [hv2] at cW
  have H1 := Lib.hid hv1
  have H2 := Lib.hid hv2
  clear hv1 hv2
  have hv : (v1 = false ∨ v1 = true ∧ v2 = false) ∨ v1 = true ∧ v2 = true := by cases v1 <;> cases v2 <;> simp
  rcases hv with (rfl | ⟨rfl, rfl⟩) | ⟨rfl, rfl⟩
  · go_enter Try.func7, Try.ntmps7
    go_wp2_with fail
    rw [HW.out]
    go_wp2_with (first | (go_at_call 10; with_reducible refine (callsGw (cA _)).mono ?_; rintro e w1 ⟨rfl, q, rfl⟩) | (go_at_call 14; with_reducible refine (callsGw (cV _)).mono ?_; rintro e w1 ⟨rfl, q, rfl⟩) | (go_at_call 14; with_reducible refine (callsGw (cW _)).mono ?_; rintro e w1 ⟨rfl, q, rfl⟩))
    go_ret
    exact ⟨rfl, below_gw hB _⟩
  · go_enter Try.func7, Try.ntmps7
    go_wp2_with fail
    rw [HW.out]
    go_wp2_with (first | (go_at_call 10; with_reducible refine (callsGw (cA _)).mono ?_; rintro e w1 ⟨rfl, q, rfl⟩) | (go_at_call 14; with_reducible refine (callsGw (cV _)).mono ?_; rintro e w1 ⟨rfl, q, rfl⟩) | (go_at_call 14; with_reducible refine (callsGw (cW _)).mono ?_; rintro e w1 ⟨rfl, q, rfl⟩))
    go_ret
    exact ⟨rfl, below_gw hB _⟩
  go_enter Try.func7, Try.ntmps7
  go_wp2_with fail
  rw [HW.out]
  go_wp2_with (first | (go_at_call 10; with_reducible refine (callsGw (cA _)).mono ?_; rintro e w1 ⟨rfl, q, rfl⟩) | (go_at_call 14; with_reducible refine (callsGw (cV _)).mono ?_; rintro e w1 ⟨rfl, q, rfl⟩) | (go_at_call 14; with_reducible refine (callsGw (cW _)).mono ?_; rintro e w1 ⟨rfl, q, rfl⟩))
  clear HW c_b0_0 c_b0_1 c_b0_2 c_b0_3 f_b0 c_b1_0 c_b1_1 c_b1_2 c_b1_3 f_b1 c_b2_0 c_b2_1 f_b2 c_b3_0 c_b3_1 f_b3 cV cW cA
  go_loopw [9] (fun v wr => ∃ (i : Int) (Y : World) (q : Regrown), v = .int .i64 i ∧ 0 ≤ i ∧ i ≤ 5 ∧ wr = gw Y q ∧ Below w.heap.size w Y ∧ Y.heap[w.heap.size]? = some (.cells #[.int .i64 a, .int .i64 b, .int .i64 c, .int .i64 d] 25) ∧ Y.heap[w.heap.size + 1]? = some (.cells #[.int .i64 e, .int .i64 f, .int .i64 s, .int .i64 u] 25) ∧
    Y.heap[w.heap.size + 1 + 1]? = some (.cells #[.int .i64 x1, .int .i64 x2] 23) ∧ Y.heap[w.heap.size + 1 + 1 + 1]? = some (.cells #[.int .i64 y1, .int .i64 y2] 23)) (fun v _ => (5 - intOf v).toNat)
  case atStart => exact ⟨0, W, _, rfl, by decide, by decide, rfl, hB, b0, b1, b2, b3⟩
  case round =>
    clear b0 b1 b2 b3 hB
    obtain ⟨k, Y, q, rfl, h00, hi, rfl, hB, b0, b1, b2, b3⟩ := hrel
    have c_b0_0 : ∀ q, (gw Y q).cell? ⟨w.heap.size, 0, none⟩ = some (.int .i64 a) := cell_gw (blk_cell b0 0 _ rfl)
    have c_b0_1 : ∀ q, (gw Y q).cell? ⟨w.heap.size, 1, none⟩ = some (.int .i64 b) := cell_gw (blk_cell b0 1 _ rfl)
    have c_b0_2 : ∀ q, (gw Y q).cell? ⟨w.heap.size, 2, none⟩ = some (.int .i64 c) := cell_gw (blk_cell b0 2 _ rfl)
    have c_b0_3 : ∀ q, (gw Y q).cell? ⟨w.heap.size, 3, none⟩ = some (.int .i64 d) := cell_gw (blk_cell b0 3 _ rfl)
    have f_b0 := blk_frozen b0
    have c_b1_0 : ∀ q, (gw Y q).cell? ⟨w.heap.size + 1, 0, none⟩ = some (.int .i64 e) := cell_gw (blk_cell b1 0 _ rfl)
    have c_b1_1 : ∀ q, (gw Y q).cell? ⟨w.heap.size + 1, 1, none⟩ = some (.int .i64 f) := cell_gw (blk_cell b1 1 _ rfl)
    have c_b1_2 : ∀ q, (gw Y q).cell? ⟨w.heap.size + 1, 2, none⟩ = some (.int .i64 s) := cell_gw (blk_cell b1 2 _ rfl)
    have c_b1_3 : ∀ q, (gw Y q).cell? ⟨w.heap.size + 1, 3, none⟩ = some (.int .i64 u) := cell_gw (blk_cell b1 3 _ rfl)
    have f_b1 := blk_frozen b1
    have c_b2_0 : ∀ q, (gw Y q).cell? ⟨w.heap.size + 1 + 1, 0, none⟩ = some (.int .i64 x1) := cell_gw (blk_cell b2 0 _ rfl)
    have c_b2_1 : ∀ q, (gw Y q).cell? ⟨w.heap.size + 1 + 1, 1, none⟩ = some (.int .i64 x2) := cell_gw (blk_cell b2 1 _ rfl)
    have f_b2 := blk_frozen b2
    have c_b3_0 : ∀ q, (gw Y q).cell? ⟨w.heap.size + 1 + 1 + 1, 0, none⟩ = some (.int .i64 y1) := cell_gw (blk_cell b3 0 _ rfl)
    have c_b3_1 : ∀ q, (gw Y q).cell? ⟨w.heap.size + 1 + 1 + 1, 1, none⟩ = some (.int .i64 y2) := cell_gw (blk_cell b3 1 _ rfl)
    have f_b3 := blk_frozen b3
    by_cases h04 : k ≤ 4
    · have h4 : decide (k ≤ 4) = true := decide_eq_true h04
      have cD := fun w => ldo_any k h00 h04 a b c d e f s u w
      have cO := fun w => do_any k h00 (by omega) x1 x2 y1 y2 w
      rw [M.dof_rof h00 h04] at cD
      obtain ⟨r1, r2, r3, r4, r5, hR⟩ : ∃ r1 r2 r3 r4 r5, M.rof k a b c d e f s u = (r1, r2, r3, r4, r5) := ⟨_, _, _, _, _, rfl⟩
      obtain ⟨z1, z2, z3, hZ⟩ : ∃ z1 z2 z3, M.opF k x1 x2 y1 y2 = (z1, z2, z3) := ⟨_, _, _, rfl⟩
      rw [hR] at cD
      rw [hZ] at cO
      have hs : r5 = 0 → z3 = 0 → M.icont r1 r2 r3 r4 z1 z2 = true := fun e1 e2 => M.sound (.inl ⟨h00, h04⟩) (by rw [hR, e1]) H1.out H2.out (by rw [hZ, e2])
      have cC := fun w => icont_any r1 r2 r3 r4 z1 z2 w
      have HS := Lib.hid hs
      clear hR hZ hs
      go_upto_region 9 with (go_at_call 22; with_reducible refine (callsGw (cD _)).mono ?_; rintro e w1 ⟨rfl, q, rfl⟩)
      obtain ⟨X, n, en, hnn, gen, ltn, bn, kn, ln⟩ := laid Y #[.int .i64 r1, .int .i64 r2, .int .i64 r3, .int .i64 r4] 25 q
      rw [en]
      simp only [hnn]
      have b0 := kn _ _ b0
      have b1 := kn _ _ b1
      have b2 := kn _ _ b2
      have b3 := kn _ _ b3
      have hB := ln _ hB
      clear en hnn
      have c_bn_0 : ∀ q, (gw X q).cell? ⟨n, 0, none⟩ = some (.int .i64 r1) := cell_gw (blk_cell bn 0 _ rfl)
      have c_bn_1 : ∀ q, (gw X q).cell? ⟨n, 1, none⟩ = some (.int .i64 r2) := cell_gw (blk_cell bn 1 _ rfl)
      have c_bn_2 : ∀ q, (gw X q).cell? ⟨n, 2, none⟩ = some (.int .i64 r3) := cell_gw (blk_cell bn 2 _ rfl)
      have c_bn_3 : ∀ q, (gw X q).cell? ⟨n, 3, none⟩ = some (.int .i64 r4) := cell_gw (blk_cell bn 3 _ rfl)
      have f_bn := blk_frozen bn
      have c_b2_0 : ∀ q, (gw X q).cell? ⟨w.heap.size + 1 + 1, 0, none⟩ = some (.int .i64 x1) := cell_gw (blk_cell b2 0 _ rfl)
      have c_b2_1 : ∀ q, (gw X q).cell? ⟨w.heap.size + 1 + 1, 1, none⟩ = some (.int .i64 x2) := cell_gw (blk_cell b2 1 _ rfl)
      have f_b2 := blk_frozen b2
      have c_b3_0 : ∀ q, (gw X q).cell? ⟨w.heap.size + 1 + 1 + 1, 0, none⟩ = some (.int .i64 y1) := cell_gw (blk_cell b3 0 _ rfl)
      have c_b3_1 : ∀ q, (gw X q).cell? ⟨w.heap.size + 1 + 1 + 1, 1, none⟩ = some (.int .i64 y2) := cell_gw (blk_cell b3 1 _ rfl)
      have f_b3 := blk_frozen b3
      clear cD
      by_cases h5 : r5 = 0
      · subst h5
        by_cases h6 : z3 = 0
        · subst h6
          rw [HS.out rfl rfl] at cC
          clear HS
          go_upto_region 11 with (go_at_call 24; with_reducible refine (callsGw (cO _)).mono ?_; rintro e w1 ⟨rfl, q, rfl⟩)
          obtain ⟨Z, m, em, hnm, gem, ltm, bm, km, lm⟩ := laid X #[.int .i64 z1, .int .i64 z2] 23 q
          rw [em]
          simp only [hnm]
          have b0 := km _ _ b0
          have b1 := km _ _ b1
          have b2 := km _ _ b2
          have b3 := km _ _ b3
          have bn := km _ _ bn
          have hB := lm _ hB
          clear em hnm
          have c_bm_0 : ∀ q, (gw Z q).cell? ⟨m, 0, none⟩ = some (.int .i64 z1) := cell_gw (blk_cell bm 0 _ rfl)
          have c_bm_1 : ∀ q, (gw Z q).cell? ⟨m, 1, none⟩ = some (.int .i64 z2) := cell_gw (blk_cell bm 1 _ rfl)
          have f_bm := blk_frozen bm
          have c_bn_0 : ∀ q, (gw Z q).cell? ⟨n, 0, none⟩ = some (.int .i64 r1) := cell_gw (blk_cell bn 0 _ rfl)
          have c_bn_1 : ∀ q, (gw Z q).cell? ⟨n, 1, none⟩ = some (.int .i64 r2) := cell_gw (blk_cell bn 1 _ rfl)
          have c_bn_2 : ∀ q, (gw Z q).cell? ⟨n, 2, none⟩ = some (.int .i64 r3) := cell_gw (blk_cell bn 2 _ rfl)
          have c_bn_3 : ∀ q, (gw Z q).cell? ⟨n, 3, none⟩ = some (.int .i64 r4) := cell_gw (blk_cell bn 3 _ rfl)
          have f_bn := blk_frozen bn
          go_wp2_with (go_at_call 14; with_reducible refine (callsGw (cC _)).mono ?_; rintro e w1 ⟨rfl, q, rfl⟩)
          go_roundw
          case rel => exact ⟨k + 1, Z, _, by go_num, by omega, by omega, rfl, hB, b0, b1, b2, b3⟩
          case measure => simp [intOf]; omega
        · have h62 : (z3 == 0) = false := beq_eq_false_iff_ne.mpr h6
          clear HS
          go_upto_region 11 with (go_at_call 24; with_reducible refine (callsGw (cO _)).mono ?_; rintro e w1 ⟨rfl, q, rfl⟩)
          obtain ⟨Z, m, em, hnm, gem, ltm, bm, km, lm⟩ := laid X #[.int .i64 z1, .int .i64 z2] 23 q
          rw [em]
          simp only [hnm]
          have b0 := km _ _ b0
          have b1 := km _ _ b1
          have b2 := km _ _ b2
          have b3 := km _ _ b3
          have bn := km _ _ bn
          have hB := lm _ hB
          clear em hnm
          have c_bm_0 : ∀ q, (gw Z q).cell? ⟨m, 0, none⟩ = some (.int .i64 z1) := cell_gw (blk_cell bm 0 _ rfl)
          have c_bm_1 : ∀ q, (gw Z q).cell? ⟨m, 1, none⟩ = some (.int .i64 z2) := cell_gw (blk_cell bm 1 _ rfl)
          have f_bm := blk_frozen bm
          go_wp2_with fail
          go_roundw
          case rel => exact ⟨k + 1, Z, _, by go_num, by omega, by omega, rfl, hB, b0, b1, b2, b3⟩
          case measure => simp [intOf]; omega
      · have h52 : (r5 == 0) = false := beq_eq_false_iff_ne.mpr h5
        clear HS
        go_wp2_with fail
        go_roundw
        case rel => exact ⟨k + 1, X, _, by go_num, by omega, by omega, rfl, hB, b0, b1, b2, b3⟩
        case measure => simp [intOf]; omega
    · have h4 : decide (k ≤ 4) = false := decide_eq_false h04
      have vy : M.vld y1 y2 = true := ((M.icont_iff _ _ _ _ _ _).mp H2.out).2.1
      have hp : M.icont y1 y2 y1 y2 y1 y2 = true := (M.icont_iff _ _ _ _ _ _).mpr ⟨by rw [M.ivld_point]; exact vy, vy, M.le_refl _ _, M.le_refl _ _⟩
      have c1 := fun w => iscale_any a b c d y1 y2 w
      have c2 := fun w => mul_any x1 x2 y1 y2 w
      have c4 := fun w => idiv_any a b c d y1 y2 w
      have c5 := fun w => div_any x1 x2 y1 y2 w
      rw [M.iscale_rof] at c1
      rw [M.idiv_rof] at c4
      obtain ⟨r1, r2, r3, r4, r5, hR⟩ : ∃ r1 r2 r3 r4 r5, M.rof 2 a b c d y1 y2 y1 y2 = (r1, r2, r3, r4, r5) := ⟨_, _, _, _, _, rfl⟩
      obtain ⟨z1, z2, z3, hZ⟩ : ∃ z1 z2 z3, M.mulF x1 x2 y1 y2 = (z1, z2, z3) := ⟨_, _, _, rfl⟩
      obtain ⟨R1, R2, R3, R4, R5, hR'⟩ : ∃ r1 r2 r3 r4 r5, M.rof 5 a b c d y1 y2 y1 y2 = (r1, r2, r3, r4, r5) := ⟨_, _, _, _, _, rfl⟩
      obtain ⟨Z1, Z2, Z3, hZ'⟩ : ∃ z1 z2 z3, M.divF x1 x2 y1 y2 = (z1, z2, z3) := ⟨_, _, _, rfl⟩
      rw [hR] at c1
      rw [hZ] at c2
      rw [hR'] at c4
      rw [hZ'] at c5
      have hs : r5 = 0 → z3 = 0 → M.icont r1 r2 r3 r4 z1 z2 = true := fun e1 e2 => M.sound (k := 2) (.inl (by decide)) (by rw [hR, e1]) H1.out hp (show M.mulF x1 x2 y1 y2 = _ by rw [hZ, e2])
      have hs' : R5 = 0 → Z3 = 0 → M.icont R1 R2 R3 R4 Z1 Z2 = true := fun e1 e2 => M.sound (k := 5) (.inr ⟨rfl, rfl, rfl⟩) (by rw [hR', e1]) H1.out hp (show M.divF x1 x2 y1 y2 = _ by rw [hZ', e2])
      have c3 := fun w => icont_any r1 r2 r3 r4 z1 z2 w
      have c6 := fun w => icont_any R1 R2 R3 R4 Z1 Z2 w
      have HS := Lib.hid hs
      have HS' := Lib.hid hs'
      clear hR hZ hs hR' hZ' hs' vy hp
      have k1 : (r5 ≠ 0 ∨ r5 = 0 ∧ z3 ≠ 0) ∨ r5 = 0 ∧ z3 = 0 := by omega
      have k2 : (R5 ≠ 0 ∨ R5 = 0 ∧ Z3 ≠ 0) ∨ R5 = 0 ∧ Z3 = 0 := by omega
      go_upto_region 14 with (go_at_call 25; with_reducible refine (callsGw (c1 _)).mono ?_; rintro e w1 ⟨rfl, q, rfl⟩)
      obtain ⟨X, n, en, hnn, gen, ltn, bn, kn, ln⟩ := laid Y #[.int .i64 r1, .int .i64 r2, .int .i64 r3, .int .i64 r4] 25 q
      rw [en]
      simp only [hnn]
      have b0 := kn _ _ b0
      have b1 := kn _ _ b1
      have b2 := kn _ _ b2
      have b3 := kn _ _ b3
      have hB := ln _ hB
      clear en hnn
      have c_bn_0 : ∀ q, (gw X q).cell? ⟨n, 0, none⟩ = some (.int .i64 r1) := cell_gw (blk_cell bn 0 _ rfl)
      have c_bn_1 : ∀ q, (gw X q).cell? ⟨n, 1, none⟩ = some (.int .i64 r2) := cell_gw (blk_cell bn 1 _ rfl)
      have c_bn_2 : ∀ q, (gw X q).cell? ⟨n, 2, none⟩ = some (.int .i64 r3) := cell_gw (blk_cell bn 2 _ rfl)
      have c_bn_3 : ∀ q, (gw X q).cell? ⟨n, 3, none⟩ = some (.int .i64 r4) := cell_gw (blk_cell bn 3 _ rfl)
      have f_bn := blk_frozen bn
      have c_b2_0 : ∀ q, (gw X q).cell? ⟨w.heap.size + 1 + 1, 0, none⟩ = some (.int .i64 x1) := cell_gw (blk_cell b2 0 _ rfl)
      have c_b2_1 : ∀ q, (gw X q).cell? ⟨w.heap.size + 1 + 1, 1, none⟩ = some (.int .i64 x2) := cell_gw (blk_cell b2 1 _ rfl)
      have f_b2 := blk_frozen b2
      have c_b3_0 : ∀ q, (gw X q).cell? ⟨w.heap.size + 1 + 1 + 1, 0, none⟩ = some (.int .i64 y1) := cell_gw (blk_cell b3 0 _ rfl)
      have c_b3_1 : ∀ q, (gw X q).cell? ⟨w.heap.size + 1 + 1 + 1, 1, none⟩ = some (.int .i64 y2) := cell_gw (blk_cell b3 1 _ rfl)
      have f_b3 := blk_frozen b3
      go_upto_region 15 with (go_at_call 26; with_reducible refine (callsGw (c2 _)).mono ?_; rintro e w1 ⟨rfl, q, rfl⟩)
      obtain ⟨Z, m, em, hnm, gem, ltm, bm, km, lm⟩ := laid X #[.int .i64 z1, .int .i64 z2] 23 q
      rw [em]
      simp only [hnm]
      have b0 := km _ _ b0
      have b1 := km _ _ b1
      have b2 := km _ _ b2
      have b3 := km _ _ b3
      have bn := km _ _ bn
      have hB := lm _ hB
      clear em hnm
      have c_bm_0 : ∀ q, (gw Z q).cell? ⟨m, 0, none⟩ = some (.int .i64 z1) := cell_gw (blk_cell bm 0 _ rfl)
      have c_bm_1 : ∀ q, (gw Z q).cell? ⟨m, 1, none⟩ = some (.int .i64 z2) := cell_gw (blk_cell bm 1 _ rfl)
      have f_bm := blk_frozen bm
      have c_b0_0 : ∀ q, (gw Z q).cell? ⟨w.heap.size, 0, none⟩ = some (.int .i64 a) := cell_gw (blk_cell b0 0 _ rfl)
      have c_b0_1 : ∀ q, (gw Z q).cell? ⟨w.heap.size, 1, none⟩ = some (.int .i64 b) := cell_gw (blk_cell b0 1 _ rfl)
      have c_b0_2 : ∀ q, (gw Z q).cell? ⟨w.heap.size, 2, none⟩ = some (.int .i64 c) := cell_gw (blk_cell b0 2 _ rfl)
      have c_b0_3 : ∀ q, (gw Z q).cell? ⟨w.heap.size, 3, none⟩ = some (.int .i64 d) := cell_gw (blk_cell b0 3 _ rfl)
      have f_b0 := blk_frozen b0
      have c_b3_0 : ∀ q, (gw Z q).cell? ⟨w.heap.size + 1 + 1 + 1, 0, none⟩ = some (.int .i64 y1) := cell_gw (blk_cell b3 0 _ rfl)
      have c_b3_1 : ∀ q, (gw Z q).cell? ⟨w.heap.size + 1 + 1 + 1, 1, none⟩ = some (.int .i64 y2) := cell_gw (blk_cell b3 1 _ rfl)
      have f_b3 := blk_frozen b3
      have c_bn_0 : ∀ q, (gw Z q).cell? ⟨n, 0, none⟩ = some (.int .i64 r1) := cell_gw (blk_cell bn 0 _ rfl)
      have c_bn_1 : ∀ q, (gw Z q).cell? ⟨n, 1, none⟩ = some (.int .i64 r2) := cell_gw (blk_cell bn 1 _ rfl)
      have c_bn_2 : ∀ q, (gw Z q).cell? ⟨n, 2, none⟩ = some (.int .i64 r3) := cell_gw (blk_cell bn 2 _ rfl)
      have c_bn_3 : ∀ q, (gw Z q).cell? ⟨n, 3, none⟩ = some (.int .i64 r4) := cell_gw (blk_cell bn 3 _ rfl)
      have f_bn := blk_frozen bn
      clear c1 c2
      have K2 := Lib.hid k2
      clear k2
      rcases k1 with (k1 | ⟨rfl, k1⟩) | ⟨rfl, rfl⟩
      all_goals
        first
          | (have k12 : (r5 == 0) = false := beq_eq_false_iff_ne.mpr k1; clear HS)
          | (have k12 : (z3 == 0) = false := beq_eq_false_iff_ne.mpr k1; clear HS)
          | (rw [HS.out rfl rfl] at c3; clear HS)
        go_upto_region 18 with (first | (go_at_call 14; with_reducible refine (callsGw (c3 _)).mono ?_; rintro e w1 ⟨rfl, q, rfl⟩) | (go_at_call 27; with_reducible refine (callsGw (c4 _)).mono ?_; rintro e w1 ⟨rfl, q, rfl⟩))
        obtain ⟨V, l, el, hnl, gel, ltl, bl, kl, ll⟩ := laid Z #[.int .i64 R1, .int .i64 R2, .int .i64 R3, .int .i64 R4] 25 q
        rw [el]
        simp only [hnl]
        have b0 := kl _ _ b0
        have b1 := kl _ _ b1
        have b2 := kl _ _ b2
        have b3 := kl _ _ b3
        have hB := ll _ hB
        clear el hnl
        have c_bl_0 : ∀ q, (gw V q).cell? ⟨l, 0, none⟩ = some (.int .i64 R1) := cell_gw (blk_cell bl 0 _ rfl)
        have c_bl_1 : ∀ q, (gw V q).cell? ⟨l, 1, none⟩ = some (.int .i64 R2) := cell_gw (blk_cell bl 1 _ rfl)
        have c_bl_2 : ∀ q, (gw V q).cell? ⟨l, 2, none⟩ = some (.int .i64 R3) := cell_gw (blk_cell bl 2 _ rfl)
        have c_bl_3 : ∀ q, (gw V q).cell? ⟨l, 3, none⟩ = some (.int .i64 R4) := cell_gw (blk_cell bl 3 _ rfl)
        have f_bl := blk_frozen bl
        have c_b2_0 : ∀ q, (gw V q).cell? ⟨w.heap.size + 1 + 1, 0, none⟩ = some (.int .i64 x1) := cell_gw (blk_cell b2 0 _ rfl)
        have c_b2_1 : ∀ q, (gw V q).cell? ⟨w.heap.size + 1 + 1, 1, none⟩ = some (.int .i64 x2) := cell_gw (blk_cell b2 1 _ rfl)
        have f_b2 := blk_frozen b2
        have c_b3_0 : ∀ q, (gw V q).cell? ⟨w.heap.size + 1 + 1 + 1, 0, none⟩ = some (.int .i64 y1) := cell_gw (blk_cell b3 0 _ rfl)
        have c_b3_1 : ∀ q, (gw V q).cell? ⟨w.heap.size + 1 + 1 + 1, 1, none⟩ = some (.int .i64 y2) := cell_gw (blk_cell b3 1 _ rfl)
        have f_b3 := blk_frozen b3
        go_upto_region 19 with (go_at_call 28; with_reducible refine (callsGw (c5 _)).mono ?_; rintro e w1 ⟨rfl, q, rfl⟩)
        obtain ⟨T, o, eo, hno, geo, lto, bo, ko, lo⟩ := laid V #[.int .i64 Z1, .int .i64 Z2] 23 q
        rw [eo]
        simp only [hno]
        have bl := ko _ _ bl
        have hB := lo _ hB
        clear eo hno
        have c_bo_0 : ∀ q, (gw T q).cell? ⟨o, 0, none⟩ = some (.int .i64 Z1) := cell_gw (blk_cell bo 0 _ rfl)
        have c_bo_1 : ∀ q, (gw T q).cell? ⟨o, 1, none⟩ = some (.int .i64 Z2) := cell_gw (blk_cell bo 1 _ rfl)
        have f_bo := blk_frozen bo
        have c_bl_0 : ∀ q, (gw T q).cell? ⟨l, 0, none⟩ = some (.int .i64 R1) := cell_gw (blk_cell bl 0 _ rfl)
        have c_bl_1 : ∀ q, (gw T q).cell? ⟨l, 1, none⟩ = some (.int .i64 R2) := cell_gw (blk_cell bl 1 _ rfl)
        have c_bl_2 : ∀ q, (gw T q).cell? ⟨l, 2, none⟩ = some (.int .i64 R3) := cell_gw (blk_cell bl 2 _ rfl)
        have c_bl_3 : ∀ q, (gw T q).cell? ⟨l, 3, none⟩ = some (.int .i64 R4) := cell_gw (blk_cell bl 3 _ rfl)
        have f_bl := blk_frozen bl
        clear c3 c4 c5
        rcases K2.out with (k2 | ⟨rfl, k2⟩) | ⟨rfl, rfl⟩
        all_goals
          first
            | (have k22 : (R5 == 0) = false := beq_eq_false_iff_ne.mpr k2; clear HS')
            | (have k22 : (Z3 == 0) = false := beq_eq_false_iff_ne.mpr k2; clear HS')
            | (rw [HS'.out rfl rfl] at c6; clear HS')
          clear K2
          go_wp2_with (go_at_call 14; with_reducible refine (callsGw (c6 _)).mono ?_; rintro e w1 ⟨rfl, q, rfl⟩)
          go_ret
          exact ⟨by simp, below_gw hB _⟩
end Go.Proofs.Ytimdklineeeieaa
