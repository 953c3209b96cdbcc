/- The statements on intervals: Tight. -/
import Derived.Test.YtimdklineeeieaaL3
import Derived.Test.YtimdklineeeieaaM17
import Derived.Lib.SliceRun
namespace Go.Proofs.Ytimdklineeeieaa
open Go.RowKit Go.Sort
set_option linter.unusedVariables false
def TightRel (a b c d e f s u k r1 r2 r3 r4 : Int) (n : Nat) (w : World) (v8 v9 v10 : Value) (wr : World) : Prop :=
  ∃ (i : Int) (lo hi : Bool) (Y : World) (q : Regrown), v8 = .bool lo ∧ v9 = .bool hi ∧ v10 = .int .i64 i ∧ 0 ≤ i ∧ i ≤ 4 ∧ wr = gw Y q ∧ Below w.heap.size w Y ∧ Y.heap[w.heap.size]? = some (.cells #[.int .i64 a, .int .i64 b, .int .i64 c, .int .i64 d] 25) ∧
    Y.heap[w.heap.size + 1]? = some (.cells #[.int .i64 e, .int .i64 f, .int .i64 s, .int .i64 u] 25) ∧ Y.heap[n]? = some (.cells #[.int .i64 r1, .int .i64 r2, .int .i64 r3, .int .i64 r4] 25) ∧
    Hid (∀ j, 0 ≤ j → j < i → M.opAt k (M.endAt a b c d e f s u j) = (r1, r2, 0) → lo = true) ∧ Hid (∀ j, 0 ≤ j → j < i → M.opAt k (M.endAt a b c d e f s u j) = (r3, r4, 0) → hi = true)
set_option maxRecDepth 100000 in
set_option maxHeartbeats 32000000 in
theorem tight_any (a b c d e f s u : Int) (w : World) :
    Calls Try.prog 6 #[.agg #[.int .i64 a, .int .i64 b, .int .i64 c, .int .i64 d], .agg #[.int .i64 e, .int .i64 f, .int .i64 s, .int .i64 u]] w fun r w' => r = .returned (.bool true) ∧ Below w.heap.size w w' := by
  obtain ⟨W, hW, hB, hS, b0, b1⟩ := lay2 w #[.int .i64 a, .int .i64 b, .int .i64 c, .int .i64 d] 25 #[.int .i64 e, .int .i64 f, .int .i64 s, .int .i64 u] 25
  obtain ⟨p0, hp0⟩ := gw_start W
  have HW := Lib.hid (hW.trans hp0)
  clear hW hp0
  have c_b0_0 : ∀ q, (gw W q).cell? ⟨w.heap.size, 0, none⟩ = some (.int .i64 a) := cell_gw (blk_cell b0 0 _ rfl)
  have c_b0_1 : ∀ q, (gw W q).cell? ⟨w.heap.size, 1, none⟩ = some (.int .i64 b) := cell_gw (blk_cell b0 1 _ rfl)
  have c_b0_2 : ∀ q, (gw W q).cell? ⟨w.heap.size, 2, none⟩ = some (.int .i64 c) := cell_gw (blk_cell b0 2 _ rfl)
  have c_b0_3 : ∀ q, (gw W q).cell? ⟨w.heap.size, 3, none⟩ = some (.int .i64 d) := cell_gw (blk_cell b0 3 _ rfl)
  have f_b0 := blk_frozen b0
  have c_b1_0 : ∀ q, (gw W q).cell? ⟨w.heap.size + 1, 0, none⟩ = some (.int .i64 e) := cell_gw (blk_cell b1 0 _ rfl)
  have c_b1_1 : ∀ q, (gw W q).cell? ⟨w.heap.size + 1, 1, none⟩ = some (.int .i64 f) := cell_gw (blk_cell b1 1 _ rfl)
  have c_b1_2 : ∀ q, (gw W q).cell? ⟨w.heap.size + 1, 2, none⟩ = some (.int .i64 s) := cell_gw (blk_cell b1 2 _ rfl)
  have c_b1_3 : ∀ q, (gw W q).cell? ⟨w.heap.size + 1, 3, none⟩ = some (.int .i64 u) := cell_gw (blk_cell b1 3 _ rfl)
  have f_b1 := blk_frozen b1
  have cA := fun w => awake_any w
  have cV := fun w => rivalid_any a b c d w
  have cW := fun w => rivalid_any e f s u w
  generalize M.ivld a b c d = v1 at cV
  generalize M.ivld e f s u = v2 at cW
  have hv : (v1 = false ∨ v1 = true ∧ v2 = false) ∨ v1 = true ∧ v2 = true := by cases v1 <;> cases v2 <;> simp
  rcases hv with (rfl | ⟨rfl, rfl⟩) | ⟨rfl, rfl⟩
  · go_enter Try.func6, Try.ntmps6
    go_wp2_with fail
    rw [HW.out]
    go_wp2_with (first | (go_at_call 10; with_reducible refine (callsGw (cA _)).mono ?_; rintro e w1 ⟨rfl, q, rfl⟩) | (go_at_call 12; with_reducible refine (callsGw (cV _)).mono ?_; rintro e w1 ⟨rfl, q, rfl⟩) | (go_at_call 12; with_reducible refine (callsGw (cW _)).mono ?_; rintro e w1 ⟨rfl, q, rfl⟩))
    go_ret
    exact ⟨rfl, below_gw hB _⟩
  · go_enter Try.func6, Try.ntmps6
    go_wp2_with fail
    rw [HW.out]
    go_wp2_with (first | (go_at_call 10; with_reducible refine (callsGw (cA _)).mono ?_; rintro e w1 ⟨rfl, q, rfl⟩) | (go_at_call 12; with_reducible refine (callsGw (cV _)).mono ?_; rintro e w1 ⟨rfl, q, rfl⟩) | (go_at_call 12; with_reducible refine (callsGw (cW _)).mono ?_; rintro e w1 ⟨rfl, q, rfl⟩))
    go_ret
    exact ⟨rfl, below_gw hB _⟩
  go_enter Try.func6, Try.ntmps6
  go_wp2_with fail
  rw [HW.out]
  go_wp2_with (first | (go_at_call 10; with_reducible refine (callsGw (cA _)).mono ?_; rintro e w1 ⟨rfl, q, rfl⟩) | (go_at_call 12; with_reducible refine (callsGw (cV _)).mono ?_; rintro e w1 ⟨rfl, q, rfl⟩) | (go_at_call 12; with_reducible refine (callsGw (cW _)).mono ?_; rintro e w1 ⟨rfl, q, rfl⟩))
  clear HW c_b0_0 c_b0_1 c_b0_2 c_b0_3 f_b0 c_b1_0 c_b1_1 c_b1_2 c_b1_3 f_b1 cV cW cA
  go_loopw [5] (fun v wr => ∃ (i : Int) (Y : World) (q : Regrown), v = .int .i64 i ∧ 0 ≤ i ∧ i ≤ 5 ∧ wr = gw Y q ∧ Below w.heap.size w Y ∧ Y.heap[w.heap.size]? = some (.cells #[.int .i64 a, .int .i64 b, .int .i64 c, .int .i64 d] 25) ∧ Y.heap[w.heap.size + 1]? = some (.cells #[.int .i64 e, .int .i64 f, .int .i64 s, .int .i64 u] 25)) (fun v _ => (5 - intOf v).toNat)
  case atStart => exact ⟨0, W, _, rfl, by decide, by decide, rfl, hB, b0, b1⟩
  case round =>
    clear b0 b1 hB
    obtain ⟨k, Y, q, rfl, h00, hi, rfl, hB, b0, b1⟩ := hrel
    have c_b0_0 : ∀ q, (gw Y q).cell? ⟨w.heap.size, 0, none⟩ = some (.int .i64 a) := cell_gw (blk_cell b0 0 _ rfl)
    have c_b0_1 : ∀ q, (gw Y q).cell? ⟨w.heap.size, 1, none⟩ = some (.int .i64 b) := cell_gw (blk_cell b0 1 _ rfl)
    have c_b0_2 : ∀ q, (gw Y q).cell? ⟨w.heap.size, 2, none⟩ = some (.int .i64 c) := cell_gw (blk_cell b0 2 _ rfl)
    have c_b0_3 : ∀ q, (gw Y q).cell? ⟨w.heap.size, 3, none⟩ = some (.int .i64 d) := cell_gw (blk_cell b0 3 _ rfl)
    have f_b0 := blk_frozen b0
    have c_b1_0 : ∀ q, (gw Y q).cell? ⟨w.heap.size + 1, 0, none⟩ = some (.int .i64 e) := cell_gw (blk_cell b1 0 _ rfl)
    have c_b1_1 : ∀ q, (gw Y q).cell? ⟨w.heap.size + 1, 1, none⟩ = some (.int .i64 f) := cell_gw (blk_cell b1 1 _ rfl)
    have c_b1_2 : ∀ q, (gw Y q).cell? ⟨w.heap.size + 1, 2, none⟩ = some (.int .i64 s) := cell_gw (blk_cell b1 2 _ rfl)
    have c_b1_3 : ∀ q, (gw Y q).cell? ⟨w.heap.size + 1, 3, none⟩ = some (.int .i64 u) := cell_gw (blk_cell b1 3 _ rfl)
    have f_b1 := blk_frozen b1
    by_cases h04 : k ≤ 4
    · have h4 : decide (k ≤ 4) = true := decide_eq_true h04
      have cD := fun w => ldo_any k h00 h04 a b c d e f s u w
      have cO := fun (x y z t : Int) w => do_any k h00 (by omega) x y z t w
      rw [M.dof_rof h00 h04] at cD
      obtain ⟨r1, r2, r3, r4, r5, hR⟩ : ∃ r1 r2 r3 r4 r5, M.rof k a b c d e f s u = (r1, r2, r3, r4, r5) := ⟨_, _, _, _, _, rfl⟩
      rw [hR] at cD
      have HR := Lib.hid hR
      clear hR
      go_upto_region 9 with (go_at_call 22; with_reducible refine (callsGw (cD _)).mono ?_; rintro e w1 ⟨rfl, q, rfl⟩)
      obtain ⟨X, n, en, hnn, gen, ltn, bn, kn, ln⟩ := laid Y #[.int .i64 r1, .int .i64 r2, .int .i64 r3, .int .i64 r4] 25 q
      rw [en]
      simp only [hnn]
      have b0 := kn _ _ b0
      have b1 := kn _ _ b1
      have hB := ln _ hB
      clear en hnn
      have c_bn_0 : ∀ q, (gw X q).cell? ⟨n, 0, none⟩ = some (.int .i64 r1) := cell_gw (blk_cell bn 0 _ rfl)
      have c_bn_1 : ∀ q, (gw X q).cell? ⟨n, 1, none⟩ = some (.int .i64 r2) := cell_gw (blk_cell bn 1 _ rfl)
      have c_bn_2 : ∀ q, (gw X q).cell? ⟨n, 2, none⟩ = some (.int .i64 r3) := cell_gw (blk_cell bn 2 _ rfl)
      have c_bn_3 : ∀ q, (gw X q).cell? ⟨n, 3, none⟩ = some (.int .i64 r4) := cell_gw (blk_cell bn 3 _ rfl)
      have f_bn := blk_frozen bn
      have c_b0_0 : ∀ q, (gw X q).cell? ⟨w.heap.size, 0, none⟩ = some (.int .i64 a) := cell_gw (blk_cell b0 0 _ rfl)
      have c_b0_1 : ∀ q, (gw X q).cell? ⟨w.heap.size, 1, none⟩ = some (.int .i64 b) := cell_gw (blk_cell b0 1 _ rfl)
      have c_b0_2 : ∀ q, (gw X q).cell? ⟨w.heap.size, 2, none⟩ = some (.int .i64 c) := cell_gw (blk_cell b0 2 _ rfl)
      have c_b0_3 : ∀ q, (gw X q).cell? ⟨w.heap.size, 3, none⟩ = some (.int .i64 d) := cell_gw (blk_cell b0 3 _ rfl)
      have f_b0 := blk_frozen b0
      have c_b1_0 : ∀ q, (gw X q).cell? ⟨w.heap.size + 1, 0, none⟩ = some (.int .i64 e) := cell_gw (blk_cell b1 0 _ rfl)
      have c_b1_1 : ∀ q, (gw X q).cell? ⟨w.heap.size + 1, 1, none⟩ = some (.int .i64 f) := cell_gw (blk_cell b1 1 _ rfl)
      have c_b1_2 : ∀ q, (gw X q).cell? ⟨w.heap.size + 1, 2, none⟩ = some (.int .i64 s) := cell_gw (blk_cell b1 2 _ rfl)
      have c_b1_3 : ∀ q, (gw X q).cell? ⟨w.heap.size + 1, 3, none⟩ = some (.int .i64 u) := cell_gw (blk_cell b1 3 _ rfl)
      have f_b1 := blk_frozen b1
      clear cD
      by_cases h5 : r5 = 0
      · subst h5
        go_wp2_with fail
        clear c_b0_0 c_b0_1 c_b0_2 c_b0_3 f_b0 c_b1_0 c_b1_1 c_b1_2 c_b1_3 f_b1 c_bn_0 c_bn_1 c_bn_2 c_bn_3 f_bn
        go_loopw [8, 9, 10] (TightRel a b c d e f s u k r1 r2 r3 r4 n w) (fun _ _ v _ => (4 - intOf v).toNat)
        case atStart => exact ⟨0, false, false, X, _, rfl, rfl, rfl, by decide, by decide, rfl, hB, b0, b1, bn, Lib.hid (fun j h1 h2 => by omega), Lib.hid (fun j h1 h2 => by omega)⟩
        case round =>
          clear b0 b1 bn hB
          obtain ⟨i, lo, hi, Y, q, rfl, rfl, rfl, i0, i4, rfl, hB, b0, b1, bn, HL, HH⟩ := hrel
          have c_b0_0 : ∀ q, (gw Y q).cell? ⟨w.heap.size, 0, none⟩ = some (.int .i64 a) := cell_gw (blk_cell b0 0 _ rfl)
          have c_b0_1 : ∀ q, (gw Y q).cell? ⟨w.heap.size, 1, none⟩ = some (.int .i64 b) := cell_gw (blk_cell b0 1 _ rfl)
          have c_b0_2 : ∀ q, (gw Y q).cell? ⟨w.heap.size, 2, none⟩ = some (.int .i64 c) := cell_gw (blk_cell b0 2 _ rfl)
          have c_b0_3 : ∀ q, (gw Y q).cell? ⟨w.heap.size, 3, none⟩ = some (.int .i64 d) := cell_gw (blk_cell b0 3 _ rfl)
          have f_b0 := blk_frozen b0
          have c_b1_0 : ∀ q, (gw Y q).cell? ⟨w.heap.size + 1, 0, none⟩ = some (.int .i64 e) := cell_gw (blk_cell b1 0 _ rfl)
          have c_b1_1 : ∀ q, (gw Y q).cell? ⟨w.heap.size + 1, 1, none⟩ = some (.int .i64 f) := cell_gw (blk_cell b1 1 _ rfl)
          have c_b1_2 : ∀ q, (gw Y q).cell? ⟨w.heap.size + 1, 2, none⟩ = some (.int .i64 s) := cell_gw (blk_cell b1 2 _ rfl)
          have c_b1_3 : ∀ q, (gw Y q).cell? ⟨w.heap.size + 1, 3, none⟩ = some (.int .i64 u) := cell_gw (blk_cell b1 3 _ rfl)
          have f_b1 := blk_frozen b1
          have c_bn_0 : ∀ q, (gw Y q).cell? ⟨n, 0, none⟩ = some (.int .i64 r1) := cell_gw (blk_cell bn 0 _ rfl)
          have c_bn_1 : ∀ q, (gw Y q).cell? ⟨n, 1, none⟩ = some (.int .i64 r2) := cell_gw (blk_cell bn 1 _ rfl)
          have c_bn_2 : ∀ q, (gw Y q).cell? ⟨n, 2, none⟩ = some (.int .i64 r3) := cell_gw (blk_cell bn 2 _ rfl)
          have c_bn_3 : ∀ q, (gw Y q).cell? ⟨n, 3, none⟩ = some (.int .i64 r4) := cell_gw (blk_cell bn 3 _ rfl)
          have f_bn := blk_frozen bn
          by_cases hlt : i < 4
          · obtain ⟨p1, p2, p3, p4, hp⟩ : ∃ p1 p2 p3 p4, M.endAt a b c d e f s u i = (p1, p2, p3, p4) := ⟨_, _, _, _, rfl⟩
            obtain ⟨y1, y2, y3, hy⟩ : ∃ y1 y2 y3, M.opF k p1 p2 p3 p4 = (y1, y2, y3) := ⟨_, _, _, rfl⟩
            have cO := cO p1 p2 p3 p4
            rw [hy] at cO
            have hit : M.opAt k (M.endAt a b c d e f s u i) = (y1, y2, y3) := by rw [hp]; exact hy
            have Hit := Lib.hid hit
            have Hp := Lib.hid hp
            have Hcase : Hid (i = 0 ∨ i = 1 ∨ i = 2 ∨ i = 3) := Lib.hid (by omega)
            clear hy hit hp
            have z0 := blk_lt b0
            have z1 := blk_lt b1
            have zn := blk_lt bn
            have zw := hB.size
            have h4 : decide (i < 4) = true := decide_eq_true hlt
            go_upto_region 14 with fail
            go_cut [11, 12] (fun s11 s12 wx => ∃ (g g2 : Nat) (V : World) (q : Regrown), s11 = .pointer (some ⟨g, 0, none⟩) ∧ s12 = .pointer (some ⟨g2, 0, none⟩) ∧ wx = gw V q ∧ g ≠ g2 ∧ Y.heap.size ≤ g ∧ Y.heap.size ≤ g2 ∧ Below w.heap.size w V ∧
              V.heap[w.heap.size]? = some (.cells #[.int .i64 a, .int .i64 b, .int .i64 c, .int .i64 d] 25) ∧ V.heap[w.heap.size + 1]? = some (.cells #[.int .i64 e, .int .i64 f, .int .i64 s, .int .i64 u] 25) ∧
              V.heap[n]? = some (.cells #[.int .i64 r1, .int .i64 r2, .int .i64 r3, .int .i64 r4] 25) ∧ V.heap[g]? = some (.cells #[.int .i64 a, .int .i64 b] 23) ∧ V.heap[g2]? = some (.cells #[.int .i64 e, .int .i64 f] 23))
            case first =>
              have k0 := c_b0_0 q
              have k1 := c_b0_1 q
              have k2 := c_b1_0 q
              have k3 := c_b1_1 q
              have hYs := size_gw Y q
              clear c_b0_0 c_b0_1 c_b0_2 c_b0_3 f_b0 c_b1_0 c_b1_1 c_b1_2 c_b1_3 f_b1 c_bn_0 c_bn_1 c_bn_2 c_bn_3 f_bn cO HL HH HR Hit Hp Hcase
              obtain ⟨W1, hW1⟩ : ∃ W1, gw Y q = W1 := ⟨_, rfl⟩
              obtain ⟨B1, hB1⟩ : ∃ B1, w.heap.size + 1 = B1 := ⟨_, rfl⟩
              obtain ⟨B0, hB0⟩ : ∃ B0, w.heap.size = B0 := ⟨_, rfl⟩
              rw [hW1] at k0 k1 k2 k3 hYs ⊢
              rw [hB1] at k2 k3 ⊢
              rw [hB0] at k0 k1 ⊢
              have n0 : W1.heap.size ≠ B0 := by omega
              have n1 : B0 ≠ W1.heap.size := by omega
              have n2 : W1.heap.size ≠ B1 := by omega
              have n3 : B1 ≠ W1.heap.size := by omega
              have n4 : W1.heap.size + 1 ≠ B0 := by omega
              have n5 : B0 ≠ W1.heap.size + 1 := by omega
              have n6 : W1.heap.size + 1 ≠ B1 := by omega
              have n7 : B1 ≠ W1.heap.size + 1 := by omega
              have k0a := fun o => Lib.cell?_alloc_some o k0
              have k1a := fun o => Lib.cell?_alloc_some o k1
              have k2a := fun o => Lib.cell?_alloc_some o k2
              have k3a := fun o => Lib.cell?_alloc_some o k3
              have k0b := fun o p => Lib.cell?_alloc_some p (k0a o)
              have k1b := fun o p => Lib.cell?_alloc_some p (k1a o)
              have k2b := fun o p => Lib.cell?_alloc_some p (k2a o)
              have k3b := fun o p => Lib.cell?_alloc_some p (k3a o)
              have HW1 := Lib.hid hW1
              have HB1 := Lib.hid hB1
              have HB0 := Lib.hid hB0
              clear hW1 hB1 hB0
              go_region
              all_goals
                clear k0 k1 k2 k3 k0a k1a k2a k3a k0b k1b k2b k3b n0 n1 n2 n3 n4 n5 n6 n7
                rw [← HW1.out]
                have e1 := HB1.out
                have e0 := HB0.out
                clear HB1 HB0
                subst e1
                subst e0
              · obtain ⟨Z, m, em, hnm, gem, ltm, bm, bm', km, lm⟩ := laid2 Y #[.int .i64 a, .int .i64 b] #[.int .i64 e, .int .i64 f] 23 23 q
                rw [em]
                simp only [hnm]
                have b0 := km _ _ b0
                have b1 := km _ _ b1
                have bn := km _ _ bn
                have hB := lm _ hB
                clear em hnm
                have c_bm_0 : ∀ q, (gw Z q).cell? ⟨m, 0, none⟩ = some (.int .i64 a) := cell_gw (blk_cell bm 0 _ rfl)
                have c_bm_1 : ∀ q, (gw Z q).cell? ⟨m, 1, none⟩ = some (.int .i64 b) := cell_gw (blk_cell bm 1 _ rfl)
                have f_bm := blk_frozen bm
                have c_bm'_0 : ∀ q, (gw Z q).cell? ⟨m + 1, 0, none⟩ = some (.int .i64 e) := cell_gw (blk_cell bm' 0 _ rfl)
                have c_bm'_1 : ∀ q, (gw Z q).cell? ⟨m + 1, 1, none⟩ = some (.int .i64 f) := cell_gw (blk_cell bm' 1 _ rfl)
                have f_bm' := blk_frozen bm'
                rw [drew_gw]
                go_wp2_with fail
                go_meet
                exact ⟨m, m + 1, Z, _, rfl, rfl, rfl, by omega, by omega, by omega, hB, b0, b1, bn, bm, bm'⟩
              · obtain ⟨Z, m, em, hnm, gem, ltm, bm, bm', km, lm⟩ := laid2 Y #[.int .i64 e, .int .i64 f] #[.int .i64 a, .int .i64 b] 23 23 q
                rw [em]
                simp only [hnm]
                have b0 := km _ _ b0
                have b1 := km _ _ b1
                have bn := km _ _ bn
                have hB := lm _ hB
                clear em hnm
                have c_bm_0 : ∀ q, (gw Z q).cell? ⟨m, 0, none⟩ = some (.int .i64 e) := cell_gw (blk_cell bm 0 _ rfl)
                have c_bm_1 : ∀ q, (gw Z q).cell? ⟨m, 1, none⟩ = some (.int .i64 f) := cell_gw (blk_cell bm 1 _ rfl)
                have f_bm := blk_frozen bm
                have c_bm'_0 : ∀ q, (gw Z q).cell? ⟨m + 1, 0, none⟩ = some (.int .i64 a) := cell_gw (blk_cell bm' 0 _ rfl)
                have c_bm'_1 : ∀ q, (gw Z q).cell? ⟨m + 1, 1, none⟩ = some (.int .i64 b) := cell_gw (blk_cell bm' 1 _ rfl)
                have f_bm' := blk_frozen bm'
                rw [drew_gw]
                go_wp2_with fail
                go_meet
                exact ⟨m + 1, m, Z, _, rfl, rfl, rfl, by omega, by omega, by omega, hB, b0, b1, bn, bm', bm⟩
            case rest =>
              clear hB b0 b1 bn c_b0_0 c_b0_1 c_b0_2 c_b0_3 f_b0 c_b1_0 c_b1_1 c_b1_2 c_b1_3 f_b1 c_bn_0 c_bn_1 c_bn_2 c_bn_3 f_bn
              obtain ⟨g, g2, Z, q, rfl, rfl, rfl, hne, hge, hge2, hB, b0, b1, bn, hg, hg2⟩ := hcut
              have hne2 := Ne.symm hne
              have c_b0_0 : ∀ q, (gw Z q).cell? ⟨w.heap.size, 0, none⟩ = some (.int .i64 a) := cell_gw (blk_cell b0 0 _ rfl)
              have c_b0_1 : ∀ q, (gw Z q).cell? ⟨w.heap.size, 1, none⟩ = some (.int .i64 b) := cell_gw (blk_cell b0 1 _ rfl)
              have c_b0_2 : ∀ q, (gw Z q).cell? ⟨w.heap.size, 2, none⟩ = some (.int .i64 c) := cell_gw (blk_cell b0 2 _ rfl)
              have c_b0_3 : ∀ q, (gw Z q).cell? ⟨w.heap.size, 3, none⟩ = some (.int .i64 d) := cell_gw (blk_cell b0 3 _ rfl)
              have f_b0 := blk_frozen b0
              have c_hg_0 : ∀ q, (gw Z q).cell? ⟨g, 0, none⟩ = some (.int .i64 a) := cell_gw (blk_cell hg 0 _ rfl)
              have c_hg_1 : ∀ q, (gw Z q).cell? ⟨g, 1, none⟩ = some (.int .i64 b) := cell_gw (blk_cell hg 1 _ rfl)
              have f_hg := blk_frozen hg
              have hq := Hp.out
              have HP : Hid ((p1, p2) = (if i = 1 ∨ i = 3 then (c, d) else (a, b)) ∧ (p3, p4) = (if i = 2 ∨ i = 3 then (s, u) else (e, f))) := Lib.hid (by
                rcases Hcase.out with rfl | rfl | rfl | rfl <;> simp [M.endAt] at hq <;> simp [hq])
              clear hq
              go_upto_if 48 with fail
              go_cut [46] (fun s46 wx => ∃ (V : World) (q : Regrown), wx = gw V q ∧ Below w.heap.size w V ∧ V.heap[w.heap.size]? = some (.cells #[.int .i64 a, .int .i64 b, .int .i64 c, .int .i64 d] 25) ∧ V.heap[w.heap.size + 1]? = some (.cells #[.int .i64 e, .int .i64 f, .int .i64 s, .int .i64 u] 25) ∧
                V.heap[n]? = some (.cells #[.int .i64 r1, .int .i64 r2, .int .i64 r3, .int .i64 r4] 25) ∧ V.heap[g]? = some (.cells #[.int .i64 p1, .int .i64 p2] 23) ∧ V.heap[g2]? = some (.cells #[.int .i64 e, .int .i64 f] 23))
              case first =>
                rcases Hcase.out with rfl | rfl | rfl | rfl
                · obtain ⟨rfl, rfl⟩ : p1 = a ∧ p2 = b := by simpa using HP.out.1
                  clear HP Hp Hit Hcase
                  go_wp2_with fail
                  go_meet
                  exact ⟨Z, _, rfl, hB, b0, b1, bn, hg, hg2⟩
                · obtain ⟨rfl, rfl⟩ : p1 = c ∧ p2 = d := by simpa using HP.out.1
                  clear HP Hp Hit Hcase
                  go_wp2_with fail
                  obtain ⟨Z1, eZ1, sZ1, nb, kZ1, lZ1⟩ := storedS2 q hg (.int .i64 p1) (.int .i64 p2)
                  rw [eZ1]
                  have b0 := kZ1 _ _ (by omega) b0
                  have b1 := kZ1 _ _ (by omega) b1
                  have bn := kZ1 _ _ (by omega) bn
                  have hg2 := kZ1 _ _ (by omega) hg2
                  have hB := lZ1 _ (by omega) hB
                  have hg := nb
                  clear nb
                  have c_hg_0 : ∀ q, (gw Z1 q).cell? ⟨g, 0, none⟩ = some (.int .i64 p1) := cell_gw (blk_cell hg 0 _ rfl)
                  have c_hg_1 : ∀ q, (gw Z1 q).cell? ⟨g, 1, none⟩ = some (.int .i64 p2) := cell_gw (blk_cell hg 1 _ rfl)
                  have f_hg := blk_frozen hg
                  go_meet
                  exact ⟨Z1, _, rfl, hB, b0, b1, bn, hg, hg2⟩
                · obtain ⟨rfl, rfl⟩ : p1 = a ∧ p2 = b := by simpa using HP.out.1
                  clear HP Hp Hit Hcase
                  go_wp2_with fail
                  go_meet
                  exact ⟨Z, _, rfl, hB, b0, b1, bn, hg, hg2⟩
                · obtain ⟨rfl, rfl⟩ : p1 = c ∧ p2 = d := by simpa using HP.out.1
                  clear HP Hp Hit Hcase
                  go_wp2_with fail
                  obtain ⟨Z1, eZ1, sZ1, nb, kZ1, lZ1⟩ := storedS2 q hg (.int .i64 p1) (.int .i64 p2)
                  rw [eZ1]
                  have b0 := kZ1 _ _ (by omega) b0
                  have b1 := kZ1 _ _ (by omega) b1
                  have bn := kZ1 _ _ (by omega) bn
                  have hg2 := kZ1 _ _ (by omega) hg2
                  have hB := lZ1 _ (by omega) hB
                  have hg := nb
                  clear nb
                  have c_hg_0 : ∀ q, (gw Z1 q).cell? ⟨g, 0, none⟩ = some (.int .i64 p1) := cell_gw (blk_cell hg 0 _ rfl)
                  have c_hg_1 : ∀ q, (gw Z1 q).cell? ⟨g, 1, none⟩ = some (.int .i64 p2) := cell_gw (blk_cell hg 1 _ rfl)
                  have f_hg := blk_frozen hg
                  go_meet
                  exact ⟨Z1, _, rfl, hB, b0, b1, bn, hg, hg2⟩
              case rest =>
                clear hB b0 b1 bn hg hg2 c_b0_0 c_b0_1 c_b0_2 c_b0_3 f_b0 c_hg_0 c_hg_1 f_hg
                obtain ⟨Z, q, rfl, hB, b0, b1, bn, hg, hg2⟩ := hcut
                have c_b1_0 : ∀ q, (gw Z q).cell? ⟨w.heap.size + 1, 0, none⟩ = some (.int .i64 e) := cell_gw (blk_cell b1 0 _ rfl)
                have c_b1_1 : ∀ q, (gw Z q).cell? ⟨w.heap.size + 1, 1, none⟩ = some (.int .i64 f) := cell_gw (blk_cell b1 1 _ rfl)
                have c_b1_2 : ∀ q, (gw Z q).cell? ⟨w.heap.size + 1, 2, none⟩ = some (.int .i64 s) := cell_gw (blk_cell b1 2 _ rfl)
                have c_b1_3 : ∀ q, (gw Z q).cell? ⟨w.heap.size + 1, 3, none⟩ = some (.int .i64 u) := cell_gw (blk_cell b1 3 _ rfl)
                have f_b1 := blk_frozen b1
                have c_hg2_0 : ∀ q, (gw Z q).cell? ⟨g2, 0, none⟩ = some (.int .i64 e) := cell_gw (blk_cell hg2 0 _ rfl)
                have c_hg2_1 : ∀ q, (gw Z q).cell? ⟨g2, 1, none⟩ = some (.int .i64 f) := cell_gw (blk_cell hg2 1 _ rfl)
                have f_hg2 := blk_frozen hg2
                go_upto_if 53 with fail
                go_cut [51] (fun s51 wx => ∃ (V : World) (q : Regrown), wx = gw V q ∧ Below w.heap.size w V ∧ V.heap[w.heap.size]? = some (.cells #[.int .i64 a, .int .i64 b, .int .i64 c, .int .i64 d] 25) ∧ V.heap[w.heap.size + 1]? = some (.cells #[.int .i64 e, .int .i64 f, .int .i64 s, .int .i64 u] 25) ∧
                  V.heap[n]? = some (.cells #[.int .i64 r1, .int .i64 r2, .int .i64 r3, .int .i64 r4] 25) ∧ V.heap[g]? = some (.cells #[.int .i64 p1, .int .i64 p2] 23) ∧ V.heap[g2]? = some (.cells #[.int .i64 p3, .int .i64 p4] 23))
                case first =>
                  rcases Hcase.out with rfl | rfl | rfl | rfl
                  · obtain ⟨rfl, rfl⟩ : p3 = e ∧ p4 = f := by simpa using HP.out.2
                    clear HP Hp Hit Hcase
                    go_wp2_with fail
                    go_meet
                    exact ⟨Z, _, rfl, hB, b0, b1, bn, hg, hg2⟩
                  · obtain ⟨rfl, rfl⟩ : p3 = e ∧ p4 = f := by simpa using HP.out.2
                    clear HP Hp Hit Hcase
                    go_wp2_with fail
                    go_meet
                    exact ⟨Z, _, rfl, hB, b0, b1, bn, hg, hg2⟩
                  · obtain ⟨rfl, rfl⟩ : p3 = s ∧ p4 = u := by simpa using HP.out.2
                    clear HP Hp Hit Hcase
                    go_wp2_with fail
                    obtain ⟨Z1, eZ1, sZ1, nb, kZ1, lZ1⟩ := storedS2 q hg2 (.int .i64 p3) (.int .i64 p4)
                    rw [eZ1]
                    have b0 := kZ1 _ _ (by omega) b0
                    have b1 := kZ1 _ _ (by omega) b1
                    have bn := kZ1 _ _ (by omega) bn
                    have hg := kZ1 _ _ (by omega) hg
                    have hB := lZ1 _ (by omega) hB
                    have hg2 := nb
                    clear nb
                    have c_hg2_0 : ∀ q, (gw Z1 q).cell? ⟨g2, 0, none⟩ = some (.int .i64 p3) := cell_gw (blk_cell hg2 0 _ rfl)
                    have c_hg2_1 : ∀ q, (gw Z1 q).cell? ⟨g2, 1, none⟩ = some (.int .i64 p4) := cell_gw (blk_cell hg2 1 _ rfl)
                    have f_hg2 := blk_frozen hg2
                    go_meet
                    exact ⟨Z1, _, rfl, hB, b0, b1, bn, hg, hg2⟩
                  · obtain ⟨rfl, rfl⟩ : p3 = s ∧ p4 = u := by simpa using HP.out.2
                    clear HP Hp Hit Hcase
                    go_wp2_with fail
                    obtain ⟨Z1, eZ1, sZ1, nb, kZ1, lZ1⟩ := storedS2 q hg2 (.int .i64 p3) (.int .i64 p4)
                    rw [eZ1]
                    have b0 := kZ1 _ _ (by omega) b0
                    have b1 := kZ1 _ _ (by omega) b1
                    have bn := kZ1 _ _ (by omega) bn
                    have hg := kZ1 _ _ (by omega) hg
                    have hB := lZ1 _ (by omega) hB
                    have hg2 := nb
                    clear nb
                    have c_hg2_0 : ∀ q, (gw Z1 q).cell? ⟨g2, 0, none⟩ = some (.int .i64 p3) := cell_gw (blk_cell hg2 0 _ rfl)
                    have c_hg2_1 : ∀ q, (gw Z1 q).cell? ⟨g2, 1, none⟩ = some (.int .i64 p4) := cell_gw (blk_cell hg2 1 _ rfl)
                    have f_hg2 := blk_frozen hg2
                    go_meet
                    exact ⟨Z1, _, rfl, hB, b0, b1, bn, hg, hg2⟩
                case rest =>
                  clear hB b0 b1 bn hg hg2 c_b1_0 c_b1_1 c_b1_2 c_b1_3 f_b1 c_hg2_0 c_hg2_1 f_hg2
                  obtain ⟨Z, q, rfl, hB, b0, b1, bn, hg, hg2⟩ := hcut
                  have c_hg_0 : ∀ q, (gw Z q).cell? ⟨g, 0, none⟩ = some (.int .i64 p1) := cell_gw (blk_cell hg 0 _ rfl)
                  have c_hg_1 : ∀ q, (gw Z q).cell? ⟨g, 1, none⟩ = some (.int .i64 p2) := cell_gw (blk_cell hg 1 _ rfl)
                  have f_hg := blk_frozen hg
                  have c_hg2_0 : ∀ q, (gw Z q).cell? ⟨g2, 0, none⟩ = some (.int .i64 p3) := cell_gw (blk_cell hg2 0 _ rfl)
                  have c_hg2_1 : ∀ q, (gw Z q).cell? ⟨g2, 1, none⟩ = some (.int .i64 p4) := cell_gw (blk_cell hg2 1 _ rfl)
                  have f_hg2 := blk_frozen hg2
                  go_upto_region 20 with (go_at_call 24; with_reducible refine (callsGw (cO _)).mono ?_; rintro e w1 ⟨rfl, q, rfl⟩)
                  obtain ⟨V, m, em, hnm, gem, ltm, bm, km, lm⟩ := laid Z #[.int .i64 y1, .int .i64 y2] 23 q
                  rw [em]
                  simp only [hnm]
                  have b0 := km _ _ b0
                  have b1 := km _ _ b1
                  have bn := km _ _ bn
                  have hB := lm _ hB
                  clear em hnm
                  have c_bm_0 : ∀ q, (gw V q).cell? ⟨m, 0, none⟩ = some (.int .i64 y1) := cell_gw (blk_cell bm 0 _ rfl)
                  have c_bm_1 : ∀ q, (gw V q).cell? ⟨m, 1, none⟩ = some (.int .i64 y2) := cell_gw (blk_cell bm 1 _ rfl)
                  have f_bm := blk_frozen bm
                  have c_bn_0 : ∀ q, (gw V q).cell? ⟨n, 0, none⟩ = some (.int .i64 r1) := cell_gw (blk_cell bn 0 _ rfl)
                  have c_bn_1 : ∀ q, (gw V q).cell? ⟨n, 1, none⟩ = some (.int .i64 r2) := cell_gw (blk_cell bn 1 _ rfl)
                  have c_bn_2 : ∀ q, (gw V q).cell? ⟨n, 2, none⟩ = some (.int .i64 r3) := cell_gw (blk_cell bn 2 _ rfl)
                  have c_bn_3 : ∀ q, (gw V q).cell? ⟨n, 3, none⟩ = some (.int .i64 r4) := cell_gw (blk_cell bn 3 _ rfl)
                  have f_bn := blk_frozen bn
                  clear cO
                  go_cut [8] (fun s8 wx => ∃ (l2 : Bool) (q2 : Regrown), s8 = .bool l2 ∧ wx = gw V q2 ∧ Hid (lo = true → l2 = true) ∧ Hid (y1 = r1 → y2 = r2 → y3 = 0 → l2 = true))
                  case first =>
                    clear HP Hp Hit Hcase HR HL HH
                    cases lo
                    · by_cases hy3 : y3 = 0
                      · subst hy3
                        go_wp2_with fail
                        all_goals
                          go_meet
                          exact ⟨_, _, rfl, rfl, Lib.hid (fun h => by cases h), Lib.hid (fun h1 h2 h3 => by first | rfl | omega | simp_all)⟩
                      · have hy32 : (y3 == 0) = false := beq_eq_false_iff_ne.mpr hy3
                        go_wp2_with fail
                        go_meet
                        exact ⟨_, _, rfl, rfl, Lib.hid (fun h => by cases h), Lib.hid (fun h1 h2 h3 => absurd h3 hy3)⟩
                    · go_wp2_with fail
                      go_meet
                      exact ⟨_, _, rfl, rfl, Lib.hid (fun h => rfl), Lib.hid (fun h1 h2 h3 => rfl)⟩
                  case rest =>
                    obtain ⟨l2, q2, rfl, rfl, HL1, HL2⟩ := hcut
                    have HL3 : Hid (∀ j, 0 ≤ j → j < i + 1 → M.opAt k (M.endAt a b c d e f s u j) = (r1, r2, 0) → l2 = true) := Lib.hid (fun j j0 j1 hj => by
                      rcases (by omega : j < i ∨ j = i) with h | rfl
                      · exact HL1.out (HL.out j j0 h hj)
                      · have e := Hit.out.symm.trans hj
                        simp only [Prod.mk.injEq] at e
                        exact HL2.out e.1 e.2.1 e.2.2)
                    have HH3 : Hid (∀ h2 : Bool, (hi = true → h2 = true) → (y1 = r3 → y2 = r4 → y3 = 0 → h2 = true) → ∀ j, 0 ≤ j → j < i + 1 → M.opAt k (M.endAt a b c d e f s u j) = (r3, r4, 0) → h2 = true) := Lib.hid (fun h2 q1 q2 j j0 j1 hj => by
                      rcases (by omega : j < i ∨ j = i) with h | rfl
                      · exact q1 (HH.out j j0 h hj)
                      · have e := Hit.out.symm.trans hj
                        simp only [Prod.mk.injEq] at e
                        exact q2 e.1 e.2.1 e.2.2)
                    clear HP Hp Hit Hcase HR HL HH HL1 HL2
                    cases hi
                    · by_cases hy3 : y3 = 0
                      · subst hy3
                        go_wp2_with fail
                        all_goals
                          go_roundw
                          case rel => exact ⟨i + 1, l2, _, V, _, rfl, rfl, rfl, by omega, by omega, rfl, hB, b0, b1, bn, HL3, Lib.hid (HH3.out _ (fun h => by cases h) (fun h1 h2 h3 => by first | rfl | omega | simp_all))⟩
                          case measure => simp [intOf]; omega
                      · have hy32 : (y3 == 0) = false := beq_eq_false_iff_ne.mpr hy3
                        go_wp2_with fail
                        go_roundw
                        case rel => exact ⟨i + 1, l2, _, V, _, rfl, rfl, rfl, by omega, by omega, rfl, hB, b0, b1, bn, HL3, Lib.hid (HH3.out _ (fun h => by cases h) (fun h1 h2 h3 => absurd h3 hy3))⟩
                        case measure => simp [intOf]; omega
                    · go_wp2_with fail
                      go_roundw
                      case rel => exact ⟨i + 1, l2, _, V, _, rfl, rfl, rfl, by omega, by omega, rfl, hB, b0, b1, bn, HL3, Lib.hid (HH3.out _ (fun h => rfl) (fun h1 h2 h3 => rfl))⟩
                      case measure => simp [intOf]; omega
          · have hie : i = 4 := by omega
            subst hie
            obtain ⟨⟨j, j0, j1, j2⟩, ⟨l, l0, l1, l2⟩⟩ := M.tight HR.out
            obtain rfl : lo = true := HL.out j j0 j1 j2
            obtain rfl : hi = true := HH.out l l0 l1 l2
            clear HL HH HR j2 l2
            go_wp2_with fail
            go_roundw
            case rel => exact ⟨k + 1, Y, _, by go_num, by omega, by omega, rfl, hB, b0, b1⟩
            case measure => simp [intOf]; omega
      · have h52 : (r5 == 0) = false := beq_eq_false_iff_ne.mpr h5
        go_wp2_with fail
        go_roundw
        case rel => exact ⟨k + 1, X, _, by go_num, by omega, by omega, rfl, hB, b0, b1⟩
        case measure => simp [intOf]; omega
    · have h4 : decide (k ≤ 4) = false := decide_eq_false h04
      go_wp2_with fail
      go_ret
      exact ⟨rfl, below_gw hB _⟩
end Go.Proofs.Ytimdklineeeieaa
