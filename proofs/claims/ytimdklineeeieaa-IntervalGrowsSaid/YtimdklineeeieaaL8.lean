/- The statements on intervals: Grows. -/
import Derived.Test.YtimdklineeeieaaL3
import Derived.Test.YtimdklineeeieaaM19
namespace Go.Proofs.Ytimdklineeeieaa
open Go.RowKit Go.Sort
set_option linter.unusedVariables false
set_option maxRecDepth 100000 in
set_option maxHeartbeats 32000000 in
theorem grows_any (a b c d e f s u A B C D E F S U : Int) (w : World) :
    Calls Try.prog 9 #[.agg #[.int .i64 a, .int .i64 b, .int .i64 c, .int .i64 d], .agg #[.int .i64 e, .int .i64 f, .int .i64 s, .int .i64 u], .agg #[.int .i64 A, .int .i64 B, .int .i64 C, .int .i64 D], .agg #[.int .i64 E, .int .i64 F, .int .i64 S, .int .i64 U]] w fun r w' => r = .returned (.bool true) ∧ Below w.heap.size w w' := by
  obtain ⟨W, hW, hB, hS, b0, b1, b2, b3⟩ := lay4 w #[.int .i64 a, .int .i64 b, .int .i64 c, .int .i64 d] 25 #[.int .i64 e, .int .i64 f, .int .i64 s, .int .i64 u] 25 #[.int .i64 A, .int .i64 B, .int .i64 C, .int .i64 D] 25 #[.int .i64 E, .int .i64 F, .int .i64 S, .int .i64 U] 25
  obtain ⟨p0, hp0⟩ := gw_start W
  have HW := Lib.hid (hW.trans hp0)
  clear hW hp0
  have c_b0_0 : ∀ q, (gw W q).cell? ⟨w.heap.size, 0, none⟩ = some (.int .i64 a) := cell_gw (blk_cell b0 0 _ rfl)
  have c_b0_1 : ∀ q, (gw W q).cell? ⟨w.heap.size, 1, none⟩ = some (.int .i64 b) := cell_gw (blk_cell b0 1 _ rfl)
  have c_b0_2 : ∀ q, (gw W q).cell? ⟨w.heap.size, 2, none⟩ = some (.int .i64 c) := cell_gw (blk_cell b0 2 _ rfl)
  have c_b0_3 : ∀ q, (gw W q).cell? ⟨w.heap.size, 3, none⟩ = some (.int .i64 d) := cell_gw (blk_cell b0 3 _ rfl)
  have f_b0 := blk_frozen b0
  have c_b1_0 : ∀ q, (gw W q).cell? ⟨w.heap.size + 1, 0, none⟩ = some (.int .i64 e) := cell_gw (blk_cell b1 0 _ rfl)
  have c_b1_1 : ∀ q, (gw W q).cell? ⟨w.heap.size + 1, 1, none⟩ = some (.int .i64 f) := cell_gw (blk_cell b1 1 _ rfl)
  have c_b1_2 : ∀ q, (gw W q).cell? ⟨w.heap.size + 1, 2, none⟩ = some (.int .i64 s) := cell_gw (blk_cell b1 2 _ rfl)
  have c_b1_3 : ∀ q, (gw W q).cell? ⟨w.heap.size + 1, 3, none⟩ = some (.int .i64 u) := cell_gw (blk_cell b1 3 _ rfl)
  have f_b1 := blk_frozen b1
  have c_b2_0 : ∀ q, (gw W q).cell? ⟨w.heap.size + 1 + 1, 0, none⟩ = some (.int .i64 A) := cell_gw (blk_cell b2 0 _ rfl)
  have c_b2_1 : ∀ q, (gw W q).cell? ⟨w.heap.size + 1 + 1, 1, none⟩ = some (.int .i64 B) := cell_gw (blk_cell b2 1 _ rfl)
  have c_b2_2 : ∀ q, (gw W q).cell? ⟨w.heap.size + 1 + 1, 2, none⟩ = some (.int .i64 C) := cell_gw (blk_cell b2 2 _ rfl)
  have c_b2_3 : ∀ q, (gw W q).cell? ⟨w.heap.size + 1 + 1, 3, none⟩ = some (.int .i64 D) := cell_gw (blk_cell b2 3 _ rfl)
  have f_b2 := blk_frozen b2
  have c_b3_0 : ∀ q, (gw W q).cell? ⟨w.heap.size + 1 + 1 + 1, 0, none⟩ = some (.int .i64 E) := cell_gw (blk_cell b3 0 _ rfl)
  have c_b3_1 : ∀ q, (gw W q).cell? ⟨w.heap.size + 1 + 1 + 1, 1, none⟩ = some (.int .i64 F) := cell_gw (blk_cell b3 1 _ rfl)
  have c_b3_2 : ∀ q, (gw W q).cell? ⟨w.heap.size + 1 + 1 + 1, 2, none⟩ = some (.int .i64 S) := cell_gw (blk_cell b3 2 _ rfl)
  have c_b3_3 : ∀ q, (gw W q).cell? ⟨w.heap.size + 1 + 1 + 1, 3, none⟩ = some (.int .i64 U) := cell_gw (blk_cell b3 3 _ rfl)
  have f_b3 := blk_frozen b3
  have cA := fun w => awake_any w
  have cV := fun w => iin_any a b c d A B C D w
  have cW := fun w => iin_any e f s u E F S U w
  obtain ⟨v1, hv1⟩ : ∃ v, M.iin a b c d A B C D = v := ⟨_, rfl⟩
  obtain ⟨v2, hv2⟩ : ∃ v, M.iin e f s u E F S U = v := ⟨_, rfl⟩
  rw [hv1] at cV
  rw [hv2] at cW
  have H1 := Lib.hid hv1
  have H2 := Lib.hid hv2
  clear hv1 hv2
  have hv : (v1 = false ∨ v1 = true ∧ v2 = false) ∨ v1 = true ∧ v2 = true := by cases v1 <;> cases v2 <;> simp
  rcases hv with (rfl | ⟨rfl, rfl⟩) | ⟨rfl, rfl⟩
  · go_enter Try.func9, Try.ntmps9
    go_wp2_with fail
    rw [HW.out]
    go_wp2_with (first | (go_at_call 10; with_reducible refine (callsGw (cA _)).mono ?_; rintro e w1 ⟨rfl, q, rfl⟩) | (go_at_call 16; with_reducible refine (callsGw (cV _)).mono ?_; rintro e w1 ⟨rfl, q, rfl⟩) | (go_at_call 16; with_reducible refine (callsGw (cW _)).mono ?_; rintro e w1 ⟨rfl, q, rfl⟩))
    go_ret
    exact ⟨rfl, below_gw hB _⟩
  · go_enter Try.func9, Try.ntmps9
    go_wp2_with fail
    rw [HW.out]
    go_wp2_with (first | (go_at_call 10; with_reducible refine (callsGw (cA _)).mono ?_; rintro e w1 ⟨rfl, q, rfl⟩) | (go_at_call 16; with_reducible refine (callsGw (cV _)).mono ?_; rintro e w1 ⟨rfl, q, rfl⟩) | (go_at_call 16; with_reducible refine (callsGw (cW _)).mono ?_; rintro e w1 ⟨rfl, q, rfl⟩))
    go_ret
    exact ⟨rfl, below_gw hB _⟩
  go_enter Try.func9, Try.ntmps9
  go_wp2_with fail
  rw [HW.out]
  go_wp2_with (first | (go_at_call 10; with_reducible refine (callsGw (cA _)).mono ?_; rintro e w1 ⟨rfl, q, rfl⟩) | (go_at_call 16; with_reducible refine (callsGw (cV _)).mono ?_; rintro e w1 ⟨rfl, q, rfl⟩) | (go_at_call 16; with_reducible refine (callsGw (cW _)).mono ?_; rintro e w1 ⟨rfl, q, rfl⟩))
  clear HW c_b0_0 c_b0_1 c_b0_2 c_b0_3 f_b0 c_b1_0 c_b1_1 c_b1_2 c_b1_3 f_b1 c_b2_0 c_b2_1 c_b2_2 c_b2_3 f_b2 c_b3_0 c_b3_1 c_b3_2 c_b3_3 f_b3 cV cW cA
  go_loopw [9] (fun v wr => ∃ (i : Int) (Y : World) (q : Regrown), v = .int .i64 i ∧ 0 ≤ i ∧ i ≤ 5 ∧ wr = gw Y q ∧ Below w.heap.size w Y ∧ Y.heap[w.heap.size]? = some (.cells #[.int .i64 a, .int .i64 b, .int .i64 c, .int .i64 d] 25) ∧ Y.heap[w.heap.size + 1]? = some (.cells #[.int .i64 e, .int .i64 f, .int .i64 s, .int .i64 u] 25) ∧
    Y.heap[w.heap.size + 1 + 1]? = some (.cells #[.int .i64 A, .int .i64 B, .int .i64 C, .int .i64 D] 25) ∧ Y.heap[w.heap.size + 1 + 1 + 1]? = some (.cells #[.int .i64 E, .int .i64 F, .int .i64 S, .int .i64 U] 25)) (fun v _ => (5 - intOf v).toNat)
  case atStart => exact ⟨0, W, _, rfl, by decide, by decide, rfl, hB, b0, b1, b2, b3⟩
  case round =>
    clear b0 b1 b2 b3 hB
    obtain ⟨k, Y, q, rfl, h00, hi, rfl, hB, b0, b1, b2, b3⟩ := hrel
    have c_b0_0 : ∀ q, (gw Y q).cell? ⟨w.heap.size, 0, none⟩ = some (.int .i64 a) := cell_gw (blk_cell b0 0 _ rfl)
    have c_b0_1 : ∀ q, (gw Y q).cell? ⟨w.heap.size, 1, none⟩ = some (.int .i64 b) := cell_gw (blk_cell b0 1 _ rfl)
    have c_b0_2 : ∀ q, (gw Y q).cell? ⟨w.heap.size, 2, none⟩ = some (.int .i64 c) := cell_gw (blk_cell b0 2 _ rfl)
    have c_b0_3 : ∀ q, (gw Y q).cell? ⟨w.heap.size, 3, none⟩ = some (.int .i64 d) := cell_gw (blk_cell b0 3 _ rfl)
    have f_b0 := blk_frozen b0
    have c_b1_0 : ∀ q, (gw Y q).cell? ⟨w.heap.size + 1, 0, none⟩ = some (.int .i64 e) := cell_gw (blk_cell b1 0 _ rfl)
    have c_b1_1 : ∀ q, (gw Y q).cell? ⟨w.heap.size + 1, 1, none⟩ = some (.int .i64 f) := cell_gw (blk_cell b1 1 _ rfl)
    have c_b1_2 : ∀ q, (gw Y q).cell? ⟨w.heap.size + 1, 2, none⟩ = some (.int .i64 s) := cell_gw (blk_cell b1 2 _ rfl)
    have c_b1_3 : ∀ q, (gw Y q).cell? ⟨w.heap.size + 1, 3, none⟩ = some (.int .i64 u) := cell_gw (blk_cell b1 3 _ rfl)
    have f_b1 := blk_frozen b1
    by_cases h04 : k ≤ 4
    · have h4 : decide (k ≤ 4) = true := decide_eq_true h04
      have cD := fun w => ldo_any k h00 h04 a b c d e f s u w
      have cE := fun w => ldo_any k h00 h04 A B C D E F S U w
      rw [M.dof_rof h00 h04] at cD cE
      obtain ⟨r1, r2, r3, r4, r5, hR⟩ : ∃ r1 r2 r3 r4 r5, M.rof k a b c d e f s u = (r1, r2, r3, r4, r5) := ⟨_, _, _, _, _, rfl⟩
      obtain ⟨R1, R2, R3, R4, R5, hR'⟩ : ∃ r1 r2 r3 r4 r5, M.rof k A B C D E F S U = (r1, r2, r3, r4, r5) := ⟨_, _, _, _, _, rfl⟩
      rw [hR] at cD
      rw [hR'] at cE
      have hs : r5 = 0 → R5 = 0 → M.iin r1 r2 r3 r4 R1 R2 R3 R4 = true := fun e1 e2 => M.grows ⟨h00, h04⟩ (by rw [hR, e1]) (by rw [hR', e2]) H1.out H2.out
      have cC := fun w => iin_any r1 r2 r3 r4 R1 R2 R3 R4 w
      have HS := Lib.hid hs
      clear hR hR' hs
      have k1 : (r5 ≠ 0 ∨ r5 = 0 ∧ R5 ≠ 0) ∨ r5 = 0 ∧ R5 = 0 := by omega
      have K1 := Lib.hid k1
      clear k1
      go_upto_region 9 with (go_at_call 22; with_reducible refine (callsGw (cD _)).mono ?_; rintro e w1 ⟨rfl, q, rfl⟩)
      obtain ⟨X, n, en, hnn, gen, ltn, bn, kn, ln⟩ := laid Y #[.int .i64 r1, .int .i64 r2, .int .i64 r3, .int .i64 r4] 25 q
      rw [en]
      simp only [hnn]
      have b0 := kn _ _ b0
      have b1 := kn _ _ b1
      have b2 := kn _ _ b2
      have b3 := kn _ _ b3
      have hB := ln _ hB
      clear en hnn
      have c_bn_0 : ∀ q, (gw X q).cell? ⟨n, 0, none⟩ = some (.int .i64 r1) := cell_gw (blk_cell bn 0 _ rfl)
      have c_bn_1 : ∀ q, (gw X q).cell? ⟨n, 1, none⟩ = some (.int .i64 r2) := cell_gw (blk_cell bn 1 _ rfl)
      have c_bn_2 : ∀ q, (gw X q).cell? ⟨n, 2, none⟩ = some (.int .i64 r3) := cell_gw (blk_cell bn 2 _ rfl)
      have c_bn_3 : ∀ q, (gw X q).cell? ⟨n, 3, none⟩ = some (.int .i64 r4) := cell_gw (blk_cell bn 3 _ rfl)
      have f_bn := blk_frozen bn
      have c_b2_0 : ∀ q, (gw X q).cell? ⟨w.heap.size + 1 + 1, 0, none⟩ = some (.int .i64 A) := cell_gw (blk_cell b2 0 _ rfl)
      have c_b2_1 : ∀ q, (gw X q).cell? ⟨w.heap.size + 1 + 1, 1, none⟩ = some (.int .i64 B) := cell_gw (blk_cell b2 1 _ rfl)
      have c_b2_2 : ∀ q, (gw X q).cell? ⟨w.heap.size + 1 + 1, 2, none⟩ = some (.int .i64 C) := cell_gw (blk_cell b2 2 _ rfl)
      have c_b2_3 : ∀ q, (gw X q).cell? ⟨w.heap.size + 1 + 1, 3, none⟩ = some (.int .i64 D) := cell_gw (blk_cell b2 3 _ rfl)
      have f_b2 := blk_frozen b2
      have c_b3_0 : ∀ q, (gw X q).cell? ⟨w.heap.size + 1 + 1 + 1, 0, none⟩ = some (.int .i64 E) := cell_gw (blk_cell b3 0 _ rfl)
      have c_b3_1 : ∀ q, (gw X q).cell? ⟨w.heap.size + 1 + 1 + 1, 1, none⟩ = some (.int .i64 F) := cell_gw (blk_cell b3 1 _ rfl)
      have c_b3_2 : ∀ q, (gw X q).cell? ⟨w.heap.size + 1 + 1 + 1, 2, none⟩ = some (.int .i64 S) := cell_gw (blk_cell b3 2 _ rfl)
      have c_b3_3 : ∀ q, (gw X q).cell? ⟨w.heap.size + 1 + 1 + 1, 3, none⟩ = some (.int .i64 U) := cell_gw (blk_cell b3 3 _ rfl)
      have f_b3 := blk_frozen b3
      clear cD
      go_upto_region 10 with (go_at_call 22; with_reducible refine (callsGw (cE _)).mono ?_; rintro e w1 ⟨rfl, q, rfl⟩)
      obtain ⟨Z, m, em, hnm, gem, ltm, bm, km, lm⟩ := laid X #[.int .i64 R1, .int .i64 R2, .int .i64 R3, .int .i64 R4] 25 q
      rw [em]
      simp only [hnm]
      have b0 := km _ _ b0
      have b1 := km _ _ b1
      have b2 := km _ _ b2
      have b3 := km _ _ b3
      have bn := km _ _ bn
      have hB := lm _ hB
      clear em hnm
      have c_bm_0 : ∀ q, (gw Z q).cell? ⟨m, 0, none⟩ = some (.int .i64 R1) := cell_gw (blk_cell bm 0 _ rfl)
      have c_bm_1 : ∀ q, (gw Z q).cell? ⟨m, 1, none⟩ = some (.int .i64 R2) := cell_gw (blk_cell bm 1 _ rfl)
      have c_bm_2 : ∀ q, (gw Z q).cell? ⟨m, 2, none⟩ = some (.int .i64 R3) := cell_gw (blk_cell bm 2 _ rfl)
      have c_bm_3 : ∀ q, (gw Z q).cell? ⟨m, 3, none⟩ = some (.int .i64 R4) := cell_gw (blk_cell bm 3 _ rfl)
      have f_bm := blk_frozen bm
      have c_bn_0 : ∀ q, (gw Z q).cell? ⟨n, 0, none⟩ = some (.int .i64 r1) := cell_gw (blk_cell bn 0 _ rfl)
      have c_bn_1 : ∀ q, (gw Z q).cell? ⟨n, 1, none⟩ = some (.int .i64 r2) := cell_gw (blk_cell bn 1 _ rfl)
      have c_bn_2 : ∀ q, (gw Z q).cell? ⟨n, 2, none⟩ = some (.int .i64 r3) := cell_gw (blk_cell bn 2 _ rfl)
      have c_bn_3 : ∀ q, (gw Z q).cell? ⟨n, 3, none⟩ = some (.int .i64 r4) := cell_gw (blk_cell bn 3 _ rfl)
      have f_bn := blk_frozen bn
      clear cE
      rcases K1.out with (k1 | ⟨rfl, k1⟩) | ⟨rfl, rfl⟩
      all_goals
        first
          | (have k12 : (r5 == 0) = false := beq_eq_false_iff_ne.mpr k1; clear HS)
          | (have k12 : (R5 == 0) = false := beq_eq_false_iff_ne.mpr k1; clear HS)
          | (rw [HS.out rfl rfl] at cC; clear HS)
        clear K1
        go_wp2_with (go_at_call 16; with_reducible refine (callsGw (cC _)).mono ?_; rintro e w1 ⟨rfl, q, rfl⟩)
        go_roundw
        case rel => exact ⟨k + 1, Z, _, by go_num, by omega, by omega, rfl, hB, b0, b1, b2, b3⟩
        case measure => simp [intOf]; omega
    · have h4 : decide (k ≤ 4) = false := decide_eq_false h04
      have c1 := fun w => iwidth_any a b c d w
      have c2 := fun w => iwidth_any A B C D w
      obtain ⟨r1, r2, r3, hR⟩ : ∃ r1 r2 r3, M.iwidth a b c d = (r1, r2, r3) := ⟨_, _, _, rfl⟩
      obtain ⟨z1, z2, z3, hZ⟩ : ∃ z1 z2 z3, M.iwidth A B C D = (z1, z2, z3) := ⟨_, _, _, rfl⟩
      rw [hR] at c1
      rw [hZ] at c2
      obtain ⟨t, ht⟩ : ∃ t, M.cmpF r1 r2 z1 z2 = t := ⟨_, rfl⟩
      have c3 := fun w => rcmp_any r1 r2 z1 z2 w
      have hs : r3 = 0 → z3 = 0 → t ≤ 0 := fun e1 e2 => by rw [← ht]; exact M.grows_width H1.out (by rw [hR, e1]) (by rw [hZ, e2])
      rw [ht] at c3
      have HS := Lib.hid hs
      clear hR hZ hs ht
      have c_b2_0 : ∀ q, (gw Y q).cell? ⟨w.heap.size + 1 + 1, 0, none⟩ = some (.int .i64 A) := cell_gw (blk_cell b2 0 _ rfl)
      have c_b2_1 : ∀ q, (gw Y q).cell? ⟨w.heap.size + 1 + 1, 1, none⟩ = some (.int .i64 B) := cell_gw (blk_cell b2 1 _ rfl)
      have c_b2_2 : ∀ q, (gw Y q).cell? ⟨w.heap.size + 1 + 1, 2, none⟩ = some (.int .i64 C) := cell_gw (blk_cell b2 2 _ rfl)
      have c_b2_3 : ∀ q, (gw Y q).cell? ⟨w.heap.size + 1 + 1, 3, none⟩ = some (.int .i64 D) := cell_gw (blk_cell b2 3 _ rfl)
      have f_b2 := blk_frozen b2
      have k1 : (r3 ≠ 0 ∨ r3 = 0 ∧ z3 ≠ 0) ∨ r3 = 0 ∧ z3 = 0 := by omega
      have K1 := Lib.hid k1
      clear k1
      go_upto_region 13 with (go_at_call 29; with_reducible refine (callsGw (c1 _)).mono ?_; rintro e w1 ⟨rfl, q, rfl⟩)
      obtain ⟨X, n, en, hnn, gen, ltn, bn, kn, ln⟩ := laid Y #[.int .i64 r1, .int .i64 r2] 23 q
      rw [en]
      simp only [hnn]
      have b0 := kn _ _ b0
      have b1 := kn _ _ b1
      have b2 := kn _ _ b2
      have b3 := kn _ _ b3
      have hB := ln _ hB
      clear en hnn
      have c_bn_0 : ∀ q, (gw X q).cell? ⟨n, 0, none⟩ = some (.int .i64 r1) := cell_gw (blk_cell bn 0 _ rfl)
      have c_bn_1 : ∀ q, (gw X q).cell? ⟨n, 1, none⟩ = some (.int .i64 r2) := cell_gw (blk_cell bn 1 _ rfl)
      have f_bn := blk_frozen bn
      have c_b2_0 : ∀ q, (gw X q).cell? ⟨w.heap.size + 1 + 1, 0, none⟩ = some (.int .i64 A) := cell_gw (blk_cell b2 0 _ rfl)
      have c_b2_1 : ∀ q, (gw X q).cell? ⟨w.heap.size + 1 + 1, 1, none⟩ = some (.int .i64 B) := cell_gw (blk_cell b2 1 _ rfl)
      have c_b2_2 : ∀ q, (gw X q).cell? ⟨w.heap.size + 1 + 1, 2, none⟩ = some (.int .i64 C) := cell_gw (blk_cell b2 2 _ rfl)
      have c_b2_3 : ∀ q, (gw X q).cell? ⟨w.heap.size + 1 + 1, 3, none⟩ = some (.int .i64 D) := cell_gw (blk_cell b2 3 _ rfl)
      have f_b2 := blk_frozen b2
      go_upto_region 14 with (go_at_call 29; with_reducible refine (callsGw (c2 _)).mono ?_; rintro e w1 ⟨rfl, q, rfl⟩)
      obtain ⟨Z, m, em, hnm, gem, ltm, bm, km, lm⟩ := laid X #[.int .i64 z1, .int .i64 z2] 23 q
      rw [em]
      simp only [hnm]
      have bn := km _ _ bn
      have hB := lm _ hB
      clear em hnm
      have c_bm_0 : ∀ q, (gw Z q).cell? ⟨m, 0, none⟩ = some (.int .i64 z1) := cell_gw (blk_cell bm 0 _ rfl)
      have c_bm_1 : ∀ q, (gw Z q).cell? ⟨m, 1, none⟩ = some (.int .i64 z2) := cell_gw (blk_cell bm 1 _ rfl)
      have f_bm := blk_frozen bm
      have c_bn_0 : ∀ q, (gw Z q).cell? ⟨n, 0, none⟩ = some (.int .i64 r1) := cell_gw (blk_cell bn 0 _ rfl)
      have c_bn_1 : ∀ q, (gw Z q).cell? ⟨n, 1, none⟩ = some (.int .i64 r2) := cell_gw (blk_cell bn 1 _ rfl)
      have f_bn := blk_frozen bn
      clear c1 c2
      rcases K1.out with (k1 | ⟨rfl, k1⟩) | ⟨rfl, rfl⟩
      all_goals
        first
          | (have k12 : (r3 == 0) = false := beq_eq_false_iff_ne.mpr k1; clear HS)
          | (have k12 : (z3 == 0) = false := beq_eq_false_iff_ne.mpr k1; clear HS)
          | (have k12 := HS.out rfl rfl; clear HS)
        clear K1
        go_wp2_with (go_at_call 34; with_reducible refine (callsGw (c3 _)).mono ?_; rintro e w1 ⟨rfl, q, rfl⟩)
        go_ret
        exact ⟨by simp [*], below_gw hB _⟩
end Go.Proofs.Ytimdklineeeieaa
