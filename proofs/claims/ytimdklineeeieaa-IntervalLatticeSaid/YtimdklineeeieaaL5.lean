/- The statements on intervals: Lattice. -/
import Derived.Test.YtimdklineeeieaaL1
import Derived.Test.YtimdklineeeieaaM16
namespace Go.Proofs.Ytimdklineeeieaa
open Go.RowKit Go.Sort
set_option linter.unusedVariables false
set_option maxRecDepth 100000 in
set_option maxHeartbeats 16000000 in
theorem lattice_any (a b c d e f g h p1 p2 p3 p4 : Int) (w : World) :
    Calls Try.prog 4 #[.agg #[.int .i64 a, .int .i64 b, .int .i64 c, .int .i64 d], .agg #[.int .i64 e, .int .i64 f, .int .i64 g, .int .i64 h], .agg #[.int .i64 p1, .int .i64 p2, .int .i64 p3, .int .i64 p4]] w fun r w' => r = .returned (.bool true) ∧ Below w.heap.size w w' := by
  obtain ⟨W, hW, hB, hS, b0, b1, b2⟩ := lay3 w #[.int .i64 a, .int .i64 b, .int .i64 c, .int .i64 d] 25 #[.int .i64 e, .int .i64 f, .int .i64 g, .int .i64 h] 25 #[.int .i64 p1, .int .i64 p2, .int .i64 p3, .int .i64 p4] 25
  obtain ⟨p0, hp0⟩ := gw_start W
  have HW := Lib.hid (hW.trans hp0)
  clear hW hp0
  have c_b0_0 : ∀ q, (gw W q).cell? ⟨w.heap.size, 0, none⟩ = some (.int .i64 a) := cell_gw (blk_cell b0 0 _ rfl)
  have c_b0_1 : ∀ q, (gw W q).cell? ⟨w.heap.size, 1, none⟩ = some (.int .i64 b) := cell_gw (blk_cell b0 1 _ rfl)
  have c_b0_2 : ∀ q, (gw W q).cell? ⟨w.heap.size, 2, none⟩ = some (.int .i64 c) := cell_gw (blk_cell b0 2 _ rfl)
  have c_b0_3 : ∀ q, (gw W q).cell? ⟨w.heap.size, 3, none⟩ = some (.int .i64 d) := cell_gw (blk_cell b0 3 _ rfl)
  have f_b0 := blk_frozen b0
  have c_b1_0 : ∀ q, (gw W q).cell? ⟨w.heap.size + 1, 0, none⟩ = some (.int .i64 e) := cell_gw (blk_cell b1 0 _ rfl)
  have c_b1_1 : ∀ q, (gw W q).cell? ⟨w.heap.size + 1, 1, none⟩ = some (.int .i64 f) := cell_gw (blk_cell b1 1 _ rfl)
  have c_b1_2 : ∀ q, (gw W q).cell? ⟨w.heap.size + 1, 2, none⟩ = some (.int .i64 g) := cell_gw (blk_cell b1 2 _ rfl)
  have c_b1_3 : ∀ q, (gw W q).cell? ⟨w.heap.size + 1, 3, none⟩ = some (.int .i64 h) := cell_gw (blk_cell b1 3 _ rfl)
  have f_b1 := blk_frozen b1
  have c_b2_0 : ∀ q, (gw W q).cell? ⟨w.heap.size + 1 + 1, 0, none⟩ = some (.int .i64 p1) := cell_gw (blk_cell b2 0 _ rfl)
  have c_b2_1 : ∀ q, (gw W q).cell? ⟨w.heap.size + 1 + 1, 1, none⟩ = some (.int .i64 p2) := cell_gw (blk_cell b2 1 _ rfl)
  have c_b2_2 : ∀ q, (gw W q).cell? ⟨w.heap.size + 1 + 1, 2, none⟩ = some (.int .i64 p3) := cell_gw (blk_cell b2 2 _ rfl)
  have c_b2_3 : ∀ q, (gw W q).cell? ⟨w.heap.size + 1 + 1, 3, none⟩ = some (.int .i64 p4) := cell_gw (blk_cell b2 3 _ rfl)
  have f_b2 := blk_frozen b2
  have cA := fun w => awake_any w
  have c1 := fun w => ihull_any a b c d e f g h w
  have c2 := fun w => isect_any a b c d e f g h w
  have c3 := fun w => rhull_any a b c d e f g h w
  have c4 := fun w => risect_any a b c d e f g h w
  rw [M.ihull_eq] at c1
  by_cases hv : (M.ivld a b c d && M.ivld e f g h) = true
  · have hv1 : M.ivld a b c d = true := by simp only [Bool.and_eq_true] at hv; exact hv.1
    have hv2 : M.ivld e f g h = true := by simp only [Bool.and_eq_true] at hv; exact hv.2
    obtain ⟨x1, x2, x3, x4, hx, k1, k2, k3⟩ := M.hull_law hv1 hv2
    have hs := M.sect_law hv1 hv2
    rw [hx] at c1 c3
    have k3 := k3 p1 p2 p3 p4
    have i1 := fun w => iin_any a b c d x1 x2 x3 x4 w
    have i2 := fun w => iin_any e f g h x1 x2 x3 x4 w
    have i3 := fun w => iin_any a b c d p1 p2 p3 p4 w
    have i4 := fun w => iin_any e f g h p1 p2 p3 p4 w
    have i5 := fun w => iin_any x1 x2 x3 x4 p1 p2 p3 p4 w
    have i6 := fun w => iin_any p1 p2 p3 p4 a b c d w
    have i7 := fun w => iin_any p1 p2 p3 p4 e f g h w
    rw [k1] at i1
    rw [k2] at i2
    have cV := fun w => rivalid_any p1 p2 p3 p4 w
    generalize M.iin a b c d p1 p2 p3 p4 = u1 at i3 k3
    generalize M.iin e f g h p1 p2 p3 p4 = u2 at i4 k3
    generalize M.iin x1 x2 x3 x4 p1 p2 p3 p4 = u3 at i5 k3
    obtain ⟨y1, y2, y3, y4, er, hy⟩ : ∃ y1 y2 y3 y4 er, M.isect a b c d e f g h = (y1, y2, y3, y4, er) := ⟨_, _, _, _, _, rfl⟩
    rw [hy] at c2 c4
    have hs : (er = 8 ∧ (M.iin p1 p2 p3 p4 a b c d && M.iin p1 p2 p3 p4 e f g h) = false) ∨ (er = 0 ∧ (M.iin p1 p2 p3 p4 a b c d && M.iin p1 p2 p3 p4 e f g h) = M.iin p1 p2 p3 p4 y1 y2 y3 y4) := by
      rcases hs with ⟨h1, h2⟩ | ⟨x, y, z, t, h1, h2⟩
      · rw [hy] at h1
        simp only [Prod.mk.injEq] at h1
        refine .inl ⟨h1.2.2.2.2, ?_⟩
        have := h2 p1 p2 p3 p4
        cases hq : M.iin p1 p2 p3 p4 a b c d
        · rfl
        · cases hr : M.iin p1 p2 p3 p4 e f g h
          · rfl
          · exact (this hq hr).elim
      · rw [hy] at h1
        simp only [Prod.mk.injEq] at h1
        obtain ⟨rfl, rfl, rfl, rfl, rfl⟩ := h1
        exact .inr ⟨rfl, h2 _ _ _ _⟩
    have i8 := fun w => iin_any p1 p2 p3 p4 y1 y2 y3 y4 w
    generalize M.iin p1 p2 p3 p4 a b c d = t1 at i6 hs
    generalize M.iin p1 p2 p3 p4 e f g h = t2 at i7 hs
    generalize M.iin p1 p2 p3 p4 y1 y2 y3 y4 = t3 at i8 hs
    generalize M.ivld p1 p2 p3 p4 = v3 at cV
    have HS := Lib.hid hs
    have HK := Lib.hid k3
    clear hs k3 hy hx k1 k2 hv1 hv2 hv
    cases v3
    · go_enter Try.func4, Try.ntmps4
      go_wp2_with fail
      rw [HW.out]
      go_upto_region 4 with (first | (go_at_call 10; with_reducible refine (callsGw (cA _)).mono ?_; rintro e w1 ⟨rfl, q, rfl⟩) | (go_at_call 18; with_reducible refine (callsGw (c1 _)).mono ?_; rintro e w1 ⟨rfl, q, rfl⟩))
      obtain ⟨X1, n1, en1, hnn1, gen1, ltn1, bn1, kn1, ln1⟩ := laid W #[.int .i64 x1, .int .i64 x2, .int .i64 x3, .int .i64 x4] 25 q
      rw [en1]
      simp only [hnn1]
      have b0 := kn1 _ _ b0
      have b1 := kn1 _ _ b1
      have b2 := kn1 _ _ b2
      have hB := ln1 _ hB
      clear en1 hnn1
      have c_bn1_0 : ∀ q, (gw X1 q).cell? ⟨n1, 0, none⟩ = some (.int .i64 x1) := cell_gw (blk_cell bn1 0 _ rfl)
      have c_bn1_1 : ∀ q, (gw X1 q).cell? ⟨n1, 1, none⟩ = some (.int .i64 x2) := cell_gw (blk_cell bn1 1 _ rfl)
      have c_bn1_2 : ∀ q, (gw X1 q).cell? ⟨n1, 2, none⟩ = some (.int .i64 x3) := cell_gw (blk_cell bn1 2 _ rfl)
      have c_bn1_3 : ∀ q, (gw X1 q).cell? ⟨n1, 3, none⟩ = some (.int .i64 x4) := cell_gw (blk_cell bn1 3 _ rfl)
      have f_bn1 := blk_frozen bn1
      have c_b0_0 : ∀ q, (gw X1 q).cell? ⟨w.heap.size, 0, none⟩ = some (.int .i64 a) := cell_gw (blk_cell b0 0 _ rfl)
      have c_b0_1 : ∀ q, (gw X1 q).cell? ⟨w.heap.size, 1, none⟩ = some (.int .i64 b) := cell_gw (blk_cell b0 1 _ rfl)
      have c_b0_2 : ∀ q, (gw X1 q).cell? ⟨w.heap.size, 2, none⟩ = some (.int .i64 c) := cell_gw (blk_cell b0 2 _ rfl)
      have c_b0_3 : ∀ q, (gw X1 q).cell? ⟨w.heap.size, 3, none⟩ = some (.int .i64 d) := cell_gw (blk_cell b0 3 _ rfl)
      have f_b0 := blk_frozen b0
      have c_b1_0 : ∀ q, (gw X1 q).cell? ⟨w.heap.size + 1, 0, none⟩ = some (.int .i64 e) := cell_gw (blk_cell b1 0 _ rfl)
      have c_b1_1 : ∀ q, (gw X1 q).cell? ⟨w.heap.size + 1, 1, none⟩ = some (.int .i64 f) := cell_gw (blk_cell b1 1 _ rfl)
      have c_b1_2 : ∀ q, (gw X1 q).cell? ⟨w.heap.size + 1, 2, none⟩ = some (.int .i64 g) := cell_gw (blk_cell b1 2 _ rfl)
      have c_b1_3 : ∀ q, (gw X1 q).cell? ⟨w.heap.size + 1, 3, none⟩ = some (.int .i64 h) := cell_gw (blk_cell b1 3 _ rfl)
      have f_b1 := blk_frozen b1
      go_upto_region 5 with (go_at_call 19; with_reducible refine (callsGw (c2 _)).mono ?_; rintro e w1 ⟨rfl, q, rfl⟩)
      obtain ⟨X2, n2, en2, hnn2, gen2, ltn2, bn2, kn2, ln2⟩ := laid X1 #[.int .i64 y1, .int .i64 y2, .int .i64 y3, .int .i64 y4] 25 q
      rw [en2]
      simp only [hnn2]
      have b0 := kn2 _ _ b0
      have b1 := kn2 _ _ b1
      have b2 := kn2 _ _ b2
      have bn1 := kn2 _ _ bn1
      have hB := ln2 _ hB
      clear en2 hnn2
      have c_bn2_0 : ∀ q, (gw X2 q).cell? ⟨n2, 0, none⟩ = some (.int .i64 y1) := cell_gw (blk_cell bn2 0 _ rfl)
      have c_bn2_1 : ∀ q, (gw X2 q).cell? ⟨n2, 1, none⟩ = some (.int .i64 y2) := cell_gw (blk_cell bn2 1 _ rfl)
      have c_bn2_2 : ∀ q, (gw X2 q).cell? ⟨n2, 2, none⟩ = some (.int .i64 y3) := cell_gw (blk_cell bn2 2 _ rfl)
      have c_bn2_3 : ∀ q, (gw X2 q).cell? ⟨n2, 3, none⟩ = some (.int .i64 y4) := cell_gw (blk_cell bn2 3 _ rfl)
      have f_bn2 := blk_frozen bn2
      have c_b0_0 : ∀ q, (gw X2 q).cell? ⟨w.heap.size, 0, none⟩ = some (.int .i64 a) := cell_gw (blk_cell b0 0 _ rfl)
      have c_b0_1 : ∀ q, (gw X2 q).cell? ⟨w.heap.size, 1, none⟩ = some (.int .i64 b) := cell_gw (blk_cell b0 1 _ rfl)
      have c_b0_2 : ∀ q, (gw X2 q).cell? ⟨w.heap.size, 2, none⟩ = some (.int .i64 c) := cell_gw (blk_cell b0 2 _ rfl)
      have c_b0_3 : ∀ q, (gw X2 q).cell? ⟨w.heap.size, 3, none⟩ = some (.int .i64 d) := cell_gw (blk_cell b0 3 _ rfl)
      have f_b0 := blk_frozen b0
      have c_b1_0 : ∀ q, (gw X2 q).cell? ⟨w.heap.size + 1, 0, none⟩ = some (.int .i64 e) := cell_gw (blk_cell b1 0 _ rfl)
      have c_b1_1 : ∀ q, (gw X2 q).cell? ⟨w.heap.size + 1, 1, none⟩ = some (.int .i64 f) := cell_gw (blk_cell b1 1 _ rfl)
      have c_b1_2 : ∀ q, (gw X2 q).cell? ⟨w.heap.size + 1, 2, none⟩ = some (.int .i64 g) := cell_gw (blk_cell b1 2 _ rfl)
      have c_b1_3 : ∀ q, (gw X2 q).cell? ⟨w.heap.size + 1, 3, none⟩ = some (.int .i64 h) := cell_gw (blk_cell b1 3 _ rfl)
      have f_b1 := blk_frozen b1
      go_upto_region 6 with (go_at_call 20; with_reducible refine (callsGw (c3 _)).mono ?_; rintro e w1 ⟨rfl, q, rfl⟩)
      obtain ⟨X3, n3, en3, hnn3, gen3, ltn3, bn3, kn3, ln3⟩ := laid X2 #[.int .i64 x1, .int .i64 x2, .int .i64 x3, .int .i64 x4] 25 q
      rw [en3]
      simp only [hnn3]
      have b0 := kn3 _ _ b0
      have b1 := kn3 _ _ b1
      have b2 := kn3 _ _ b2
      have bn1 := kn3 _ _ bn1
      have bn2 := kn3 _ _ bn2
      have hB := ln3 _ hB
      clear en3 hnn3
      have c_bn3_0 : ∀ q, (gw X3 q).cell? ⟨n3, 0, none⟩ = some (.int .i64 x1) := cell_gw (blk_cell bn3 0 _ rfl)
      have c_bn3_1 : ∀ q, (gw X3 q).cell? ⟨n3, 1, none⟩ = some (.int .i64 x2) := cell_gw (blk_cell bn3 1 _ rfl)
      have c_bn3_2 : ∀ q, (gw X3 q).cell? ⟨n3, 2, none⟩ = some (.int .i64 x3) := cell_gw (blk_cell bn3 2 _ rfl)
      have c_bn3_3 : ∀ q, (gw X3 q).cell? ⟨n3, 3, none⟩ = some (.int .i64 x4) := cell_gw (blk_cell bn3 3 _ rfl)
      have f_bn3 := blk_frozen bn3
      have c_b0_0 : ∀ q, (gw X3 q).cell? ⟨w.heap.size, 0, none⟩ = some (.int .i64 a) := cell_gw (blk_cell b0 0 _ rfl)
      have c_b0_1 : ∀ q, (gw X3 q).cell? ⟨w.heap.size, 1, none⟩ = some (.int .i64 b) := cell_gw (blk_cell b0 1 _ rfl)
      have c_b0_2 : ∀ q, (gw X3 q).cell? ⟨w.heap.size, 2, none⟩ = some (.int .i64 c) := cell_gw (blk_cell b0 2 _ rfl)
      have c_b0_3 : ∀ q, (gw X3 q).cell? ⟨w.heap.size, 3, none⟩ = some (.int .i64 d) := cell_gw (blk_cell b0 3 _ rfl)
      have f_b0 := blk_frozen b0
      have c_b1_0 : ∀ q, (gw X3 q).cell? ⟨w.heap.size + 1, 0, none⟩ = some (.int .i64 e) := cell_gw (blk_cell b1 0 _ rfl)
      have c_b1_1 : ∀ q, (gw X3 q).cell? ⟨w.heap.size + 1, 1, none⟩ = some (.int .i64 f) := cell_gw (blk_cell b1 1 _ rfl)
      have c_b1_2 : ∀ q, (gw X3 q).cell? ⟨w.heap.size + 1, 2, none⟩ = some (.int .i64 g) := cell_gw (blk_cell b1 2 _ rfl)
      have c_b1_3 : ∀ q, (gw X3 q).cell? ⟨w.heap.size + 1, 3, none⟩ = some (.int .i64 h) := cell_gw (blk_cell b1 3 _ rfl)
      have f_b1 := blk_frozen b1
      go_upto_region 7 with (go_at_call 21; with_reducible refine (callsGw (c4 _)).mono ?_; rintro e w1 ⟨rfl, q, rfl⟩)
      obtain ⟨X4, n4, en4, hnn4, gen4, ltn4, bn4, kn4, ln4⟩ := laid X3 #[.int .i64 y1, .int .i64 y2, .int .i64 y3, .int .i64 y4] 25 q
      rw [en4]
      simp only [hnn4]
      have b0 := kn4 _ _ b0
      have b1 := kn4 _ _ b1
      have b2 := kn4 _ _ b2
      have bn1 := kn4 _ _ bn1
      have bn2 := kn4 _ _ bn2
      have bn3 := kn4 _ _ bn3
      have hB := ln4 _ hB
      clear en4 hnn4
      have c_bn4_0 : ∀ q, (gw X4 q).cell? ⟨n4, 0, none⟩ = some (.int .i64 y1) := cell_gw (blk_cell bn4 0 _ rfl)
      have c_bn4_1 : ∀ q, (gw X4 q).cell? ⟨n4, 1, none⟩ = some (.int .i64 y2) := cell_gw (blk_cell bn4 1 _ rfl)
      have c_bn4_2 : ∀ q, (gw X4 q).cell? ⟨n4, 2, none⟩ = some (.int .i64 y3) := cell_gw (blk_cell bn4 2 _ rfl)
      have c_bn4_3 : ∀ q, (gw X4 q).cell? ⟨n4, 3, none⟩ = some (.int .i64 y4) := cell_gw (blk_cell bn4 3 _ rfl)
      have f_bn4 := blk_frozen bn4
      have c_b2_0 : ∀ q, (gw X4 q).cell? ⟨w.heap.size + 1 + 1, 0, none⟩ = some (.int .i64 p1) := cell_gw (blk_cell b2 0 _ rfl)
      have c_b2_1 : ∀ q, (gw X4 q).cell? ⟨w.heap.size + 1 + 1, 1, none⟩ = some (.int .i64 p2) := cell_gw (blk_cell b2 1 _ rfl)
      have c_b2_2 : ∀ q, (gw X4 q).cell? ⟨w.heap.size + 1 + 1, 2, none⟩ = some (.int .i64 p3) := cell_gw (blk_cell b2 2 _ rfl)
      have c_b2_3 : ∀ q, (gw X4 q).cell? ⟨w.heap.size + 1 + 1, 3, none⟩ = some (.int .i64 p4) := cell_gw (blk_cell b2 3 _ rfl)
      have f_b2 := blk_frozen b2
      have c_bn1_0 : ∀ q, (gw X4 q).cell? ⟨n1, 0, none⟩ = some (.int .i64 x1) := cell_gw (blk_cell bn1 0 _ rfl)
      have c_bn1_1 : ∀ q, (gw X4 q).cell? ⟨n1, 1, none⟩ = some (.int .i64 x2) := cell_gw (blk_cell bn1 1 _ rfl)
      have c_bn1_2 : ∀ q, (gw X4 q).cell? ⟨n1, 2, none⟩ = some (.int .i64 x3) := cell_gw (blk_cell bn1 2 _ rfl)
      have c_bn1_3 : ∀ q, (gw X4 q).cell? ⟨n1, 3, none⟩ = some (.int .i64 x4) := cell_gw (blk_cell bn1 3 _ rfl)
      have f_bn1 := blk_frozen bn1
      have c_bn2_0 : ∀ q, (gw X4 q).cell? ⟨n2, 0, none⟩ = some (.int .i64 y1) := cell_gw (blk_cell bn2 0 _ rfl)
      have c_bn2_1 : ∀ q, (gw X4 q).cell? ⟨n2, 1, none⟩ = some (.int .i64 y2) := cell_gw (blk_cell bn2 1 _ rfl)
      have c_bn2_2 : ∀ q, (gw X4 q).cell? ⟨n2, 2, none⟩ = some (.int .i64 y3) := cell_gw (blk_cell bn2 2 _ rfl)
      have c_bn2_3 : ∀ q, (gw X4 q).cell? ⟨n2, 3, none⟩ = some (.int .i64 y4) := cell_gw (blk_cell bn2 3 _ rfl)
      have f_bn2 := blk_frozen bn2
      have c_bn3_0 : ∀ q, (gw X4 q).cell? ⟨n3, 0, none⟩ = some (.int .i64 x1) := cell_gw (blk_cell bn3 0 _ rfl)
      have c_bn3_1 : ∀ q, (gw X4 q).cell? ⟨n3, 1, none⟩ = some (.int .i64 x2) := cell_gw (blk_cell bn3 1 _ rfl)
      have c_bn3_2 : ∀ q, (gw X4 q).cell? ⟨n3, 2, none⟩ = some (.int .i64 x3) := cell_gw (blk_cell bn3 2 _ rfl)
      have c_bn3_3 : ∀ q, (gw X4 q).cell? ⟨n3, 3, none⟩ = some (.int .i64 x4) := cell_gw (blk_cell bn3 3 _ rfl)
      have f_bn3 := blk_frozen bn3
      go_wp2_with (go_at_call 12; with_reducible refine (callsGw (cV _)).mono ?_; rintro e w1 ⟨rfl, q, rfl⟩)
      go_ret
      exact ⟨rfl, below_gw hB _⟩
    · go_enter Try.func4, Try.ntmps4
      go_wp2_with fail
      rw [HW.out]
      go_upto_region 4 with (first | (go_at_call 10; with_reducible refine (callsGw (cA _)).mono ?_; rintro e w1 ⟨rfl, q, rfl⟩) | (go_at_call 18; with_reducible refine (callsGw (c1 _)).mono ?_; rintro e w1 ⟨rfl, q, rfl⟩))
      obtain ⟨X1, n1, en1, hnn1, gen1, ltn1, bn1, kn1, ln1⟩ := laid W #[.int .i64 x1, .int .i64 x2, .int .i64 x3, .int .i64 x4] 25 q
      rw [en1]
      simp only [hnn1]
      have b0 := kn1 _ _ b0
      have b1 := kn1 _ _ b1
      have b2 := kn1 _ _ b2
      have hB := ln1 _ hB
      clear en1 hnn1
      have c_bn1_0 : ∀ q, (gw X1 q).cell? ⟨n1, 0, none⟩ = some (.int .i64 x1) := cell_gw (blk_cell bn1 0 _ rfl)
      have c_bn1_1 : ∀ q, (gw X1 q).cell? ⟨n1, 1, none⟩ = some (.int .i64 x2) := cell_gw (blk_cell bn1 1 _ rfl)
      have c_bn1_2 : ∀ q, (gw X1 q).cell? ⟨n1, 2, none⟩ = some (.int .i64 x3) := cell_gw (blk_cell bn1 2 _ rfl)
      have c_bn1_3 : ∀ q, (gw X1 q).cell? ⟨n1, 3, none⟩ = some (.int .i64 x4) := cell_gw (blk_cell bn1 3 _ rfl)
      have f_bn1 := blk_frozen bn1
      have c_b0_0 : ∀ q, (gw X1 q).cell? ⟨w.heap.size, 0, none⟩ = some (.int .i64 a) := cell_gw (blk_cell b0 0 _ rfl)
      have c_b0_1 : ∀ q, (gw X1 q).cell? ⟨w.heap.size, 1, none⟩ = some (.int .i64 b) := cell_gw (blk_cell b0 1 _ rfl)
      have c_b0_2 : ∀ q, (gw X1 q).cell? ⟨w.heap.size, 2, none⟩ = some (.int .i64 c) := cell_gw (blk_cell b0 2 _ rfl)
      have c_b0_3 : ∀ q, (gw X1 q).cell? ⟨w.heap.size, 3, none⟩ = some (.int .i64 d) := cell_gw (blk_cell b0 3 _ rfl)
      have f_b0 := blk_frozen b0
      have c_b1_0 : ∀ q, (gw X1 q).cell? ⟨w.heap.size + 1, 0, none⟩ = some (.int .i64 e) := cell_gw (blk_cell b1 0 _ rfl)
      have c_b1_1 : ∀ q, (gw X1 q).cell? ⟨w.heap.size + 1, 1, none⟩ = some (.int .i64 f) := cell_gw (blk_cell b1 1 _ rfl)
      have c_b1_2 : ∀ q, (gw X1 q).cell? ⟨w.heap.size + 1, 2, none⟩ = some (.int .i64 g) := cell_gw (blk_cell b1 2 _ rfl)
      have c_b1_3 : ∀ q, (gw X1 q).cell? ⟨w.heap.size + 1, 3, none⟩ = some (.int .i64 h) := cell_gw (blk_cell b1 3 _ rfl)
      have f_b1 := blk_frozen b1
      go_upto_region 5 with (go_at_call 19; with_reducible refine (callsGw (c2 _)).mono ?_; rintro e w1 ⟨rfl, q, rfl⟩)
      obtain ⟨X2, n2, en2, hnn2, gen2, ltn2, bn2, kn2, ln2⟩ := laid X1 #[.int .i64 y1, .int .i64 y2, .int .i64 y3, .int .i64 y4] 25 q
      rw [en2]
      simp only [hnn2]
      have b0 := kn2 _ _ b0
      have b1 := kn2 _ _ b1
      have b2 := kn2 _ _ b2
      have bn1 := kn2 _ _ bn1
      have hB := ln2 _ hB
      clear en2 hnn2
      have c_bn2_0 : ∀ q, (gw X2 q).cell? ⟨n2, 0, none⟩ = some (.int .i64 y1) := cell_gw (blk_cell bn2 0 _ rfl)
      have c_bn2_1 : ∀ q, (gw X2 q).cell? ⟨n2, 1, none⟩ = some (.int .i64 y2) := cell_gw (blk_cell bn2 1 _ rfl)
      have c_bn2_2 : ∀ q, (gw X2 q).cell? ⟨n2, 2, none⟩ = some (.int .i64 y3) := cell_gw (blk_cell bn2 2 _ rfl)
      have c_bn2_3 : ∀ q, (gw X2 q).cell? ⟨n2, 3, none⟩ = some (.int .i64 y4) := cell_gw (blk_cell bn2 3 _ rfl)
      have f_bn2 := blk_frozen bn2
      have c_b0_0 : ∀ q, (gw X2 q).cell? ⟨w.heap.size, 0, none⟩ = some (.int .i64 a) := cell_gw (blk_cell b0 0 _ rfl)
      have c_b0_1 : ∀ q, (gw X2 q).cell? ⟨w.heap.size, 1, none⟩ = some (.int .i64 b) := cell_gw (blk_cell b0 1 _ rfl)
      have c_b0_2 : ∀ q, (gw X2 q).cell? ⟨w.heap.size, 2, none⟩ = some (.int .i64 c) := cell_gw (blk_cell b0 2 _ rfl)
      have c_b0_3 : ∀ q, (gw X2 q).cell? ⟨w.heap.size, 3, none⟩ = some (.int .i64 d) := cell_gw (blk_cell b0 3 _ rfl)
      have f_b0 := blk_frozen b0
      have c_b1_0 : ∀ q, (gw X2 q).cell? ⟨w.heap.size + 1, 0, none⟩ = some (.int .i64 e) := cell_gw (blk_cell b1 0 _ rfl)
      have c_b1_1 : ∀ q, (gw X2 q).cell? ⟨w.heap.size + 1, 1, none⟩ = some (.int .i64 f) := cell_gw (blk_cell b1 1 _ rfl)
      have c_b1_2 : ∀ q, (gw X2 q).cell? ⟨w.heap.size + 1, 2, none⟩ = some (.int .i64 g) := cell_gw (blk_cell b1 2 _ rfl)
      have c_b1_3 : ∀ q, (gw X2 q).cell? ⟨w.heap.size + 1, 3, none⟩ = some (.int .i64 h) := cell_gw (blk_cell b1 3 _ rfl)
      have f_b1 := blk_frozen b1
      go_upto_region 6 with (go_at_call 20; with_reducible refine (callsGw (c3 _)).mono ?_; rintro e w1 ⟨rfl, q, rfl⟩)
      obtain ⟨X3, n3, en3, hnn3, gen3, ltn3, bn3, kn3, ln3⟩ := laid X2 #[.int .i64 x1, .int .i64 x2, .int .i64 x3, .int .i64 x4] 25 q
      rw [en3]
      simp only [hnn3]
      have b0 := kn3 _ _ b0
      have b1 := kn3 _ _ b1
      have b2 := kn3 _ _ b2
      have bn1 := kn3 _ _ bn1
      have bn2 := kn3 _ _ bn2
      have hB := ln3 _ hB
      clear en3 hnn3
      have c_bn3_0 : ∀ q, (gw X3 q).cell? ⟨n3, 0, none⟩ = some (.int .i64 x1) := cell_gw (blk_cell bn3 0 _ rfl)
      have c_bn3_1 : ∀ q, (gw X3 q).cell? ⟨n3, 1, none⟩ = some (.int .i64 x2) := cell_gw (blk_cell bn3 1 _ rfl)
      have c_bn3_2 : ∀ q, (gw X3 q).cell? ⟨n3, 2, none⟩ = some (.int .i64 x3) := cell_gw (blk_cell bn3 2 _ rfl)
      have c_bn3_3 : ∀ q, (gw X3 q).cell? ⟨n3, 3, none⟩ = some (.int .i64 x4) := cell_gw (blk_cell bn3 3 _ rfl)
      have f_bn3 := blk_frozen bn3
      have c_b0_0 : ∀ q, (gw X3 q).cell? ⟨w.heap.size, 0, none⟩ = some (.int .i64 a) := cell_gw (blk_cell b0 0 _ rfl)
      have c_b0_1 : ∀ q, (gw X3 q).cell? ⟨w.heap.size, 1, none⟩ = some (.int .i64 b) := cell_gw (blk_cell b0 1 _ rfl)
      have c_b0_2 : ∀ q, (gw X3 q).cell? ⟨w.heap.size, 2, none⟩ = some (.int .i64 c) := cell_gw (blk_cell b0 2 _ rfl)
      have c_b0_3 : ∀ q, (gw X3 q).cell? ⟨w.heap.size, 3, none⟩ = some (.int .i64 d) := cell_gw (blk_cell b0 3 _ rfl)
      have f_b0 := blk_frozen b0
      have c_b1_0 : ∀ q, (gw X3 q).cell? ⟨w.heap.size + 1, 0, none⟩ = some (.int .i64 e) := cell_gw (blk_cell b1 0 _ rfl)
      have c_b1_1 : ∀ q, (gw X3 q).cell? ⟨w.heap.size + 1, 1, none⟩ = some (.int .i64 f) := cell_gw (blk_cell b1 1 _ rfl)
      have c_b1_2 : ∀ q, (gw X3 q).cell? ⟨w.heap.size + 1, 2, none⟩ = some (.int .i64 g) := cell_gw (blk_cell b1 2 _ rfl)
      have c_b1_3 : ∀ q, (gw X3 q).cell? ⟨w.heap.size + 1, 3, none⟩ = some (.int .i64 h) := cell_gw (blk_cell b1 3 _ rfl)
      have f_b1 := blk_frozen b1
      go_upto_region 7 with (go_at_call 21; with_reducible refine (callsGw (c4 _)).mono ?_; rintro e w1 ⟨rfl, q, rfl⟩)
      obtain ⟨X4, n4, en4, hnn4, gen4, ltn4, bn4, kn4, ln4⟩ := laid X3 #[.int .i64 y1, .int .i64 y2, .int .i64 y3, .int .i64 y4] 25 q
      rw [en4]
      simp only [hnn4]
      have b0 := kn4 _ _ b0
      have b1 := kn4 _ _ b1
      have b2 := kn4 _ _ b2
      have bn1 := kn4 _ _ bn1
      have bn2 := kn4 _ _ bn2
      have bn3 := kn4 _ _ bn3
      have hB := ln4 _ hB
      clear en4 hnn4
      have c_bn4_0 : ∀ q, (gw X4 q).cell? ⟨n4, 0, none⟩ = some (.int .i64 y1) := cell_gw (blk_cell bn4 0 _ rfl)
      have c_bn4_1 : ∀ q, (gw X4 q).cell? ⟨n4, 1, none⟩ = some (.int .i64 y2) := cell_gw (blk_cell bn4 1 _ rfl)
      have c_bn4_2 : ∀ q, (gw X4 q).cell? ⟨n4, 2, none⟩ = some (.int .i64 y3) := cell_gw (blk_cell bn4 2 _ rfl)
      have c_bn4_3 : ∀ q, (gw X4 q).cell? ⟨n4, 3, none⟩ = some (.int .i64 y4) := cell_gw (blk_cell bn4 3 _ rfl)
      have f_bn4 := blk_frozen bn4
      have c_b0_0 : ∀ q, (gw X4 q).cell? ⟨w.heap.size, 0, none⟩ = some (.int .i64 a) := cell_gw (blk_cell b0 0 _ rfl)
      have c_b0_1 : ∀ q, (gw X4 q).cell? ⟨w.heap.size, 1, none⟩ = some (.int .i64 b) := cell_gw (blk_cell b0 1 _ rfl)
      have c_b0_2 : ∀ q, (gw X4 q).cell? ⟨w.heap.size, 2, none⟩ = some (.int .i64 c) := cell_gw (blk_cell b0 2 _ rfl)
      have c_b0_3 : ∀ q, (gw X4 q).cell? ⟨w.heap.size, 3, none⟩ = some (.int .i64 d) := cell_gw (blk_cell b0 3 _ rfl)
      have f_b0 := blk_frozen b0
      have c_b1_0 : ∀ q, (gw X4 q).cell? ⟨w.heap.size + 1, 0, none⟩ = some (.int .i64 e) := cell_gw (blk_cell b1 0 _ rfl)
      have c_b1_1 : ∀ q, (gw X4 q).cell? ⟨w.heap.size + 1, 1, none⟩ = some (.int .i64 f) := cell_gw (blk_cell b1 1 _ rfl)
      have c_b1_2 : ∀ q, (gw X4 q).cell? ⟨w.heap.size + 1, 2, none⟩ = some (.int .i64 g) := cell_gw (blk_cell b1 2 _ rfl)
      have c_b1_3 : ∀ q, (gw X4 q).cell? ⟨w.heap.size + 1, 3, none⟩ = some (.int .i64 h) := cell_gw (blk_cell b1 3 _ rfl)
      have f_b1 := blk_frozen b1
      have c_b2_0 : ∀ q, (gw X4 q).cell? ⟨w.heap.size + 1 + 1, 0, none⟩ = some (.int .i64 p1) := cell_gw (blk_cell b2 0 _ rfl)
      have c_b2_1 : ∀ q, (gw X4 q).cell? ⟨w.heap.size + 1 + 1, 1, none⟩ = some (.int .i64 p2) := cell_gw (blk_cell b2 1 _ rfl)
      have c_b2_2 : ∀ q, (gw X4 q).cell? ⟨w.heap.size + 1 + 1, 2, none⟩ = some (.int .i64 p3) := cell_gw (blk_cell b2 2 _ rfl)
      have c_b2_3 : ∀ q, (gw X4 q).cell? ⟨w.heap.size + 1 + 1, 3, none⟩ = some (.int .i64 p4) := cell_gw (blk_cell b2 3 _ rfl)
      have f_b2 := blk_frozen b2
      have c_bn1_0 : ∀ q, (gw X4 q).cell? ⟨n1, 0, none⟩ = some (.int .i64 x1) := cell_gw (blk_cell bn1 0 _ rfl)
      have c_bn1_1 : ∀ q, (gw X4 q).cell? ⟨n1, 1, none⟩ = some (.int .i64 x2) := cell_gw (blk_cell bn1 1 _ rfl)
      have c_bn1_2 : ∀ q, (gw X4 q).cell? ⟨n1, 2, none⟩ = some (.int .i64 x3) := cell_gw (blk_cell bn1 2 _ rfl)
      have c_bn1_3 : ∀ q, (gw X4 q).cell? ⟨n1, 3, none⟩ = some (.int .i64 x4) := cell_gw (blk_cell bn1 3 _ rfl)
      have f_bn1 := blk_frozen bn1
      have c_bn2_0 : ∀ q, (gw X4 q).cell? ⟨n2, 0, none⟩ = some (.int .i64 y1) := cell_gw (blk_cell bn2 0 _ rfl)
      have c_bn2_1 : ∀ q, (gw X4 q).cell? ⟨n2, 1, none⟩ = some (.int .i64 y2) := cell_gw (blk_cell bn2 1 _ rfl)
      have c_bn2_2 : ∀ q, (gw X4 q).cell? ⟨n2, 2, none⟩ = some (.int .i64 y3) := cell_gw (blk_cell bn2 2 _ rfl)
      have c_bn2_3 : ∀ q, (gw X4 q).cell? ⟨n2, 3, none⟩ = some (.int .i64 y4) := cell_gw (blk_cell bn2 3 _ rfl)
      have f_bn2 := blk_frozen bn2
      have c_bn3_0 : ∀ q, (gw X4 q).cell? ⟨n3, 0, none⟩ = some (.int .i64 x1) := cell_gw (blk_cell bn3 0 _ rfl)
      have c_bn3_1 : ∀ q, (gw X4 q).cell? ⟨n3, 1, none⟩ = some (.int .i64 x2) := cell_gw (blk_cell bn3 1 _ rfl)
      have c_bn3_2 : ∀ q, (gw X4 q).cell? ⟨n3, 2, none⟩ = some (.int .i64 x3) := cell_gw (blk_cell bn3 2 _ rfl)
      have c_bn3_3 : ∀ q, (gw X4 q).cell? ⟨n3, 3, none⟩ = some (.int .i64 x4) := cell_gw (blk_cell bn3 3 _ rfl)
      have f_bn3 := blk_frozen bn3
      go_upto_region 11 with (go_at_call 12; with_reducible refine (callsGw (cV _)).mono ?_; rintro e w1 ⟨rfl, q, rfl⟩)
      clear c1 c2 c3 c4 cA cV
      have hu : (u1 = false ∨ u1 = true ∧ u2 = false) ∨ u1 = true ∧ u2 = true ∧ u3 = true := by
        cases u1
        · exact .inl (.inl rfl)
        · cases u2
          · exact .inl (.inr ⟨rfl, rfl⟩)
          · exact .inr ⟨rfl, rfl, HK.out rfl rfl⟩
      clear HK
      rcases hu with (rfl | ⟨rfl, rfl⟩) | ⟨rfl, rfl, rfl⟩
      all_goals
        go_upto_region 13 with (first | (go_at_call 16; with_reducible refine (callsGw (i1 _)).mono ?_; rintro e w1 ⟨rfl, q, rfl⟩) | (go_at_call 16; with_reducible refine (callsGw (i2 _)).mono ?_; rintro e w1 ⟨rfl, q, rfl⟩) | (go_at_call 16; with_reducible refine (callsGw (i3 _)).mono ?_; rintro e w1 ⟨rfl, q, rfl⟩) | (go_at_call 16; with_reducible refine (callsGw (i4 _)).mono ?_; rintro e w1 ⟨rfl, q, rfl⟩) | (go_at_call 16; with_reducible refine (callsGw (i5 _)).mono ?_; rintro e w1 ⟨rfl, q, rfl⟩))
        clear i1 i2 i3 i4 i5
        have ht : ((t1 = false ∨ t1 = true ∧ t2 = false) ∧ (er = 8 ∨ er = 0 ∧ t3 = false)) ∨ t1 = true ∧ t2 = true ∧ er = 0 ∧ t3 = true := by
          rcases HS.out with ⟨h1, h2⟩ | ⟨h1, h2⟩
          · cases t1
            · exact .inl ⟨.inl rfl, .inl h1⟩
            · cases t2
              · exact .inl ⟨.inr ⟨rfl, rfl⟩, .inl h1⟩
              · cases h2
          · cases t1
            · exact .inl ⟨.inl rfl, .inr ⟨h1, h2.symm⟩⟩
            · cases t2
              · exact .inl ⟨.inr ⟨rfl, rfl⟩, .inr ⟨h1, h2.symm⟩⟩
              · exact .inr ⟨rfl, rfl, h1, h2.symm⟩
        clear HS
        rcases ht with ⟨rfl | ⟨rfl, rfl⟩, rfl | ⟨rfl, rfl⟩⟩ | ⟨rfl, rfl, rfl, rfl⟩
        all_goals
          go_wp2_with (first | (go_at_call 16; with_reducible refine (callsGw (i6 _)).mono ?_; rintro e w1 ⟨rfl, q, rfl⟩) | (go_at_call 16; with_reducible refine (callsGw (i7 _)).mono ?_; rintro e w1 ⟨rfl, q, rfl⟩) | (go_at_call 16; with_reducible refine (callsGw (i8 _)).mono ?_; rintro e w1 ⟨rfl, q, rfl⟩))
          go_ret
          exact ⟨rfl, below_gw hB _⟩
  · have e1 : M.rhull a b c d e f g h = (0, 0, 0, 0, 1) := by unfold M.rhull; rw [if_neg hv]
    have e2 : M.isect a b c d e f g h = (0, 0, 0, 0, 1) := by unfold M.isect; rw [if_neg hv]
    rw [e1] at c1 c3
    rw [e2] at c2 c4
    clear e1 e2 hv
    go_enter Try.func4, Try.ntmps4
    go_wp2_with fail
    rw [HW.out]
    go_upto_region 4 with (first | (go_at_call 10; with_reducible refine (callsGw (cA _)).mono ?_; rintro e w1 ⟨rfl, q, rfl⟩) | (go_at_call 18; with_reducible refine (callsGw (c1 _)).mono ?_; rintro e w1 ⟨rfl, q, rfl⟩))
    obtain ⟨X1, n1, en1, hnn1, gen1, ltn1, bn1, kn1, ln1⟩ := laid W #[.int .i64 0, .int .i64 0, .int .i64 0, .int .i64 0] 25 q
    rw [en1]
    simp only [hnn1]
    have b0 := kn1 _ _ b0
    have b1 := kn1 _ _ b1
    have b2 := kn1 _ _ b2
    have hB := ln1 _ hB
    clear en1 hnn1
    have c_bn1_0 : ∀ q, (gw X1 q).cell? ⟨n1, 0, none⟩ = some (.int .i64 0) := cell_gw (blk_cell bn1 0 _ rfl)
    have c_bn1_1 : ∀ q, (gw X1 q).cell? ⟨n1, 1, none⟩ = some (.int .i64 0) := cell_gw (blk_cell bn1 1 _ rfl)
    have c_bn1_2 : ∀ q, (gw X1 q).cell? ⟨n1, 2, none⟩ = some (.int .i64 0) := cell_gw (blk_cell bn1 2 _ rfl)
    have c_bn1_3 : ∀ q, (gw X1 q).cell? ⟨n1, 3, none⟩ = some (.int .i64 0) := cell_gw (blk_cell bn1 3 _ rfl)
    have f_bn1 := blk_frozen bn1
    have c_b0_0 : ∀ q, (gw X1 q).cell? ⟨w.heap.size, 0, none⟩ = some (.int .i64 a) := cell_gw (blk_cell b0 0 _ rfl)
    have c_b0_1 : ∀ q, (gw X1 q).cell? ⟨w.heap.size, 1, none⟩ = some (.int .i64 b) := cell_gw (blk_cell b0 1 _ rfl)
    have c_b0_2 : ∀ q, (gw X1 q).cell? ⟨w.heap.size, 2, none⟩ = some (.int .i64 c) := cell_gw (blk_cell b0 2 _ rfl)
    have c_b0_3 : ∀ q, (gw X1 q).cell? ⟨w.heap.size, 3, none⟩ = some (.int .i64 d) := cell_gw (blk_cell b0 3 _ rfl)
    have f_b0 := blk_frozen b0
    have c_b1_0 : ∀ q, (gw X1 q).cell? ⟨w.heap.size + 1, 0, none⟩ = some (.int .i64 e) := cell_gw (blk_cell b1 0 _ rfl)
    have c_b1_1 : ∀ q, (gw X1 q).cell? ⟨w.heap.size + 1, 1, none⟩ = some (.int .i64 f) := cell_gw (blk_cell b1 1 _ rfl)
    have c_b1_2 : ∀ q, (gw X1 q).cell? ⟨w.heap.size + 1, 2, none⟩ = some (.int .i64 g) := cell_gw (blk_cell b1 2 _ rfl)
    have c_b1_3 : ∀ q, (gw X1 q).cell? ⟨w.heap.size + 1, 3, none⟩ = some (.int .i64 h) := cell_gw (blk_cell b1 3 _ rfl)
    have f_b1 := blk_frozen b1
    go_upto_region 5 with (go_at_call 19; with_reducible refine (callsGw (c2 _)).mono ?_; rintro e w1 ⟨rfl, q, rfl⟩)
    obtain ⟨X2, n2, en2, hnn2, gen2, ltn2, bn2, kn2, ln2⟩ := laid X1 #[.int .i64 0, .int .i64 0, .int .i64 0, .int .i64 0] 25 q
    rw [en2]
    simp only [hnn2]
    have b0 := kn2 _ _ b0
    have b1 := kn2 _ _ b1
    have b2 := kn2 _ _ b2
    have bn1 := kn2 _ _ bn1
    have hB := ln2 _ hB
    clear en2 hnn2
    have c_bn2_0 : ∀ q, (gw X2 q).cell? ⟨n2, 0, none⟩ = some (.int .i64 0) := cell_gw (blk_cell bn2 0 _ rfl)
    have c_bn2_1 : ∀ q, (gw X2 q).cell? ⟨n2, 1, none⟩ = some (.int .i64 0) := cell_gw (blk_cell bn2 1 _ rfl)
    have c_bn2_2 : ∀ q, (gw X2 q).cell? ⟨n2, 2, none⟩ = some (.int .i64 0) := cell_gw (blk_cell bn2 2 _ rfl)
    have c_bn2_3 : ∀ q, (gw X2 q).cell? ⟨n2, 3, none⟩ = some (.int .i64 0) := cell_gw (blk_cell bn2 3 _ rfl)
    have f_bn2 := blk_frozen bn2
    have c_b0_0 : ∀ q, (gw X2 q).cell? ⟨w.heap.size, 0, none⟩ = some (.int .i64 a) := cell_gw (blk_cell b0 0 _ rfl)
    have c_b0_1 : ∀ q, (gw X2 q).cell? ⟨w.heap.size, 1, none⟩ = some (.int .i64 b) := cell_gw (blk_cell b0 1 _ rfl)
    have c_b0_2 : ∀ q, (gw X2 q).cell? ⟨w.heap.size, 2, none⟩ = some (.int .i64 c) := cell_gw (blk_cell b0 2 _ rfl)
    have c_b0_3 : ∀ q, (gw X2 q).cell? ⟨w.heap.size, 3, none⟩ = some (.int .i64 d) := cell_gw (blk_cell b0 3 _ rfl)
    have f_b0 := blk_frozen b0
    have c_b1_0 : ∀ q, (gw X2 q).cell? ⟨w.heap.size + 1, 0, none⟩ = some (.int .i64 e) := cell_gw (blk_cell b1 0 _ rfl)
    have c_b1_1 : ∀ q, (gw X2 q).cell? ⟨w.heap.size + 1, 1, none⟩ = some (.int .i64 f) := cell_gw (blk_cell b1 1 _ rfl)
    have c_b1_2 : ∀ q, (gw X2 q).cell? ⟨w.heap.size + 1, 2, none⟩ = some (.int .i64 g) := cell_gw (blk_cell b1 2 _ rfl)
    have c_b1_3 : ∀ q, (gw X2 q).cell? ⟨w.heap.size + 1, 3, none⟩ = some (.int .i64 h) := cell_gw (blk_cell b1 3 _ rfl)
    have f_b1 := blk_frozen b1
    go_upto_region 6 with (go_at_call 20; with_reducible refine (callsGw (c3 _)).mono ?_; rintro e w1 ⟨rfl, q, rfl⟩)
    obtain ⟨X3, n3, en3, hnn3, gen3, ltn3, bn3, kn3, ln3⟩ := laid X2 #[.int .i64 0, .int .i64 0, .int .i64 0, .int .i64 0] 25 q
    rw [en3]
    simp only [hnn3]
    have b0 := kn3 _ _ b0
    have b1 := kn3 _ _ b1
    have b2 := kn3 _ _ b2
    have bn1 := kn3 _ _ bn1
    have bn2 := kn3 _ _ bn2
    have hB := ln3 _ hB
    clear en3 hnn3
    have c_bn3_0 : ∀ q, (gw X3 q).cell? ⟨n3, 0, none⟩ = some (.int .i64 0) := cell_gw (blk_cell bn3 0 _ rfl)
    have c_bn3_1 : ∀ q, (gw X3 q).cell? ⟨n3, 1, none⟩ = some (.int .i64 0) := cell_gw (blk_cell bn3 1 _ rfl)
    have c_bn3_2 : ∀ q, (gw X3 q).cell? ⟨n3, 2, none⟩ = some (.int .i64 0) := cell_gw (blk_cell bn3 2 _ rfl)
    have c_bn3_3 : ∀ q, (gw X3 q).cell? ⟨n3, 3, none⟩ = some (.int .i64 0) := cell_gw (blk_cell bn3 3 _ rfl)
    have f_bn3 := blk_frozen bn3
    have c_b0_0 : ∀ q, (gw X3 q).cell? ⟨w.heap.size, 0, none⟩ = some (.int .i64 a) := cell_gw (blk_cell b0 0 _ rfl)
    have c_b0_1 : ∀ q, (gw X3 q).cell? ⟨w.heap.size, 1, none⟩ = some (.int .i64 b) := cell_gw (blk_cell b0 1 _ rfl)
    have c_b0_2 : ∀ q, (gw X3 q).cell? ⟨w.heap.size, 2, none⟩ = some (.int .i64 c) := cell_gw (blk_cell b0 2 _ rfl)
    have c_b0_3 : ∀ q, (gw X3 q).cell? ⟨w.heap.size, 3, none⟩ = some (.int .i64 d) := cell_gw (blk_cell b0 3 _ rfl)
    have f_b0 := blk_frozen b0
    have c_b1_0 : ∀ q, (gw X3 q).cell? ⟨w.heap.size + 1, 0, none⟩ = some (.int .i64 e) := cell_gw (blk_cell b1 0 _ rfl)
    have c_b1_1 : ∀ q, (gw X3 q).cell? ⟨w.heap.size + 1, 1, none⟩ = some (.int .i64 f) := cell_gw (blk_cell b1 1 _ rfl)
    have c_b1_2 : ∀ q, (gw X3 q).cell? ⟨w.heap.size + 1, 2, none⟩ = some (.int .i64 g) := cell_gw (blk_cell b1 2 _ rfl)
    have c_b1_3 : ∀ q, (gw X3 q).cell? ⟨w.heap.size + 1, 3, none⟩ = some (.int .i64 h) := cell_gw (blk_cell b1 3 _ rfl)
    have f_b1 := blk_frozen b1
    go_upto_region 7 with (go_at_call 21; with_reducible refine (callsGw (c4 _)).mono ?_; rintro e w1 ⟨rfl, q, rfl⟩)
    obtain ⟨X4, n4, en4, hnn4, gen4, ltn4, bn4, kn4, ln4⟩ := laid X3 #[.int .i64 0, .int .i64 0, .int .i64 0, .int .i64 0] 25 q
    rw [en4]
    simp only [hnn4]
    have b0 := kn4 _ _ b0
    have b1 := kn4 _ _ b1
    have b2 := kn4 _ _ b2
    have bn1 := kn4 _ _ bn1
    have bn2 := kn4 _ _ bn2
    have bn3 := kn4 _ _ bn3
    have hB := ln4 _ hB
    clear en4 hnn4
    have c_bn4_0 : ∀ q, (gw X4 q).cell? ⟨n4, 0, none⟩ = some (.int .i64 0) := cell_gw (blk_cell bn4 0 _ rfl)
    have c_bn4_1 : ∀ q, (gw X4 q).cell? ⟨n4, 1, none⟩ = some (.int .i64 0) := cell_gw (blk_cell bn4 1 _ rfl)
    have c_bn4_2 : ∀ q, (gw X4 q).cell? ⟨n4, 2, none⟩ = some (.int .i64 0) := cell_gw (blk_cell bn4 2 _ rfl)
    have c_bn4_3 : ∀ q, (gw X4 q).cell? ⟨n4, 3, none⟩ = some (.int .i64 0) := cell_gw (blk_cell bn4 3 _ rfl)
    have f_bn4 := blk_frozen bn4
    have c_bn1_0 : ∀ q, (gw X4 q).cell? ⟨n1, 0, none⟩ = some (.int .i64 0) := cell_gw (blk_cell bn1 0 _ rfl)
    have c_bn1_1 : ∀ q, (gw X4 q).cell? ⟨n1, 1, none⟩ = some (.int .i64 0) := cell_gw (blk_cell bn1 1 _ rfl)
    have c_bn1_2 : ∀ q, (gw X4 q).cell? ⟨n1, 2, none⟩ = some (.int .i64 0) := cell_gw (blk_cell bn1 2 _ rfl)
    have c_bn1_3 : ∀ q, (gw X4 q).cell? ⟨n1, 3, none⟩ = some (.int .i64 0) := cell_gw (blk_cell bn1 3 _ rfl)
    have f_bn1 := blk_frozen bn1
    have c_bn2_0 : ∀ q, (gw X4 q).cell? ⟨n2, 0, none⟩ = some (.int .i64 0) := cell_gw (blk_cell bn2 0 _ rfl)
    have c_bn2_1 : ∀ q, (gw X4 q).cell? ⟨n2, 1, none⟩ = some (.int .i64 0) := cell_gw (blk_cell bn2 1 _ rfl)
    have c_bn2_2 : ∀ q, (gw X4 q).cell? ⟨n2, 2, none⟩ = some (.int .i64 0) := cell_gw (blk_cell bn2 2 _ rfl)
    have c_bn2_3 : ∀ q, (gw X4 q).cell? ⟨n2, 3, none⟩ = some (.int .i64 0) := cell_gw (blk_cell bn2 3 _ rfl)
    have f_bn2 := blk_frozen bn2
    have c_bn3_0 : ∀ q, (gw X4 q).cell? ⟨n3, 0, none⟩ = some (.int .i64 0) := cell_gw (blk_cell bn3 0 _ rfl)
    have c_bn3_1 : ∀ q, (gw X4 q).cell? ⟨n3, 1, none⟩ = some (.int .i64 0) := cell_gw (blk_cell bn3 1 _ rfl)
    have c_bn3_2 : ∀ q, (gw X4 q).cell? ⟨n3, 2, none⟩ = some (.int .i64 0) := cell_gw (blk_cell bn3 2 _ rfl)
    have c_bn3_3 : ∀ q, (gw X4 q).cell? ⟨n3, 3, none⟩ = some (.int .i64 0) := cell_gw (blk_cell bn3 3 _ rfl)
    have f_bn3 := blk_frozen bn3
    go_wp2_with fail
    go_ret
    exact ⟨rfl, below_gw hB _⟩
end Go.Proofs.Ytimdklineeeieaa
