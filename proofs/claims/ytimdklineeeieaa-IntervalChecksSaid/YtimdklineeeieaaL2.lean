/- The statements on intervals: Checks. -/
import Derived.Test.YtimdklineeeieaaL1
import Derived.Test.YtimdklineeeieaaM14
namespace Go.Proofs.Ytimdklineeeieaa
open Go.RowKit Go.Sort
set_option linter.unusedVariables false
set_option maxRecDepth 100000 in
set_option maxHeartbeats 8000000 in
theorem checks_any (a b c d e f g h x y : Int) (w : World) :
    Calls Try.prog 3 #[.agg #[.int .i64 a, .int .i64 b, .int .i64 c, .int .i64 d], .agg #[.int .i64 e, .int .i64 f, .int .i64 g, .int .i64 h], .agg #[.int .i64 x, .int .i64 y]] w fun r w' => r = .returned (.bool true) ∧ Below w.heap.size w w' := by
  obtain ⟨W, hW, hB, hS, b0, b1, b2⟩ := lay3 w #[.int .i64 a, .int .i64 b, .int .i64 c, .int .i64 d] 25 #[.int .i64 e, .int .i64 f, .int .i64 g, .int .i64 h] 25 #[.int .i64 x, .int .i64 y] 23
  obtain ⟨p0, hp0⟩ := gw_start W
  have HW := Lib.hid (hW.trans hp0)
  clear hW hp0
  have c_b0_0 : ∀ q, (gw W q).cell? ⟨w.heap.size, 0, none⟩ = some (.int .i64 a) := cell_gw (blk_cell b0 0 _ rfl)
  have c_b0_1 : ∀ q, (gw W q).cell? ⟨w.heap.size, 1, none⟩ = some (.int .i64 b) := cell_gw (blk_cell b0 1 _ rfl)
  have c_b0_2 : ∀ q, (gw W q).cell? ⟨w.heap.size, 2, none⟩ = some (.int .i64 c) := cell_gw (blk_cell b0 2 _ rfl)
  have c_b0_3 : ∀ q, (gw W q).cell? ⟨w.heap.size, 3, none⟩ = some (.int .i64 d) := cell_gw (blk_cell b0 3 _ rfl)
  have f_b0 := blk_frozen b0
  have c_b1_0 : ∀ q, (gw W q).cell? ⟨w.heap.size + 1, 0, none⟩ = some (.int .i64 e) := cell_gw (blk_cell b1 0 _ rfl)
  have c_b1_1 : ∀ q, (gw W q).cell? ⟨w.heap.size + 1, 1, none⟩ = some (.int .i64 f) := cell_gw (blk_cell b1 1 _ rfl)
  have c_b1_2 : ∀ q, (gw W q).cell? ⟨w.heap.size + 1, 2, none⟩ = some (.int .i64 g) := cell_gw (blk_cell b1 2 _ rfl)
  have c_b1_3 : ∀ q, (gw W q).cell? ⟨w.heap.size + 1, 3, none⟩ = some (.int .i64 h) := cell_gw (blk_cell b1 3 _ rfl)
  have f_b1 := blk_frozen b1
  have c_b2_0 : ∀ q, (gw W q).cell? ⟨w.heap.size + 1 + 1, 0, none⟩ = some (.int .i64 x) := cell_gw (blk_cell b2 0 _ rfl)
  have c_b2_1 : ∀ q, (gw W q).cell? ⟨w.heap.size + 1 + 1, 1, none⟩ = some (.int .i64 y) := cell_gw (blk_cell b2 1 _ rfl)
  have f_b2 := blk_frozen b2
  have cA := fun w => awake_any w
  have cM := fun w => imake_any a b c d w
  have cV := fun w => ivalid_any a b c d w
  have cW := fun w => rivalid_any a b c d w
  have cC := fun w => icont_any a b c d x y w
  have cD := fun w => ricont_any a b c d x y w
  have cI := fun w => iin_any a b c d e f g h w
  have cJ := fun w => riin_any a b c d e f g h w
  rw [M.riin_eq] at cJ
  generalize M.icont a b c d x y = v2 at cC cD
  generalize M.iin a b c d e f g h = v3 at cI cJ
  unfold M.imake at cM
  generalize M.ivld a b c d = v1 at cM cV cW
  cases v1
  · rw [if_neg (by simp)] at cM
    go_enter Try.func3, Try.ntmps3
    go_wp2_with fail
    rw [HW.out]
    go_upto_region 4 with (first | (go_at_call 10; with_reducible refine (callsGw (cA _)).mono ?_; rintro e w1 ⟨rfl, q, rfl⟩) | (go_at_call 11; with_reducible refine (callsGw (cM _)).mono ?_; rintro e w1 ⟨rfl, q, rfl⟩))
    obtain ⟨X, n, en, hnn, gen, ltn, bn, kn, ln⟩ := laid W #[.int .i64 0, .int .i64 0, .int .i64 0, .int .i64 0] 25 q
    rw [en]
    simp only [hnn]
    have b0 := kn _ _ b0
    have b1 := kn _ _ b1
    have b2 := kn _ _ b2
    have hB := ln _ hB
    clear en hnn
    have c_bn_0 : ∀ q, (gw X q).cell? ⟨n, 0, none⟩ = some (.int .i64 0) := cell_gw (blk_cell bn 0 _ rfl)
    have c_bn_1 : ∀ q, (gw X q).cell? ⟨n, 1, none⟩ = some (.int .i64 0) := cell_gw (blk_cell bn 1 _ rfl)
    have c_bn_2 : ∀ q, (gw X q).cell? ⟨n, 2, none⟩ = some (.int .i64 0) := cell_gw (blk_cell bn 2 _ rfl)
    have c_bn_3 : ∀ q, (gw X q).cell? ⟨n, 3, none⟩ = some (.int .i64 0) := cell_gw (blk_cell bn 3 _ rfl)
    have f_bn := blk_frozen bn
    have c_b0_0 : ∀ q, (gw X q).cell? ⟨w.heap.size, 0, none⟩ = some (.int .i64 a) := cell_gw (blk_cell b0 0 _ rfl)
    have c_b0_1 : ∀ q, (gw X q).cell? ⟨w.heap.size, 1, none⟩ = some (.int .i64 b) := cell_gw (blk_cell b0 1 _ rfl)
    have c_b0_2 : ∀ q, (gw X q).cell? ⟨w.heap.size, 2, none⟩ = some (.int .i64 c) := cell_gw (blk_cell b0 2 _ rfl)
    have c_b0_3 : ∀ q, (gw X q).cell? ⟨w.heap.size, 3, none⟩ = some (.int .i64 d) := cell_gw (blk_cell b0 3 _ rfl)
    have f_b0 := blk_frozen b0
    have c_b1_0 : ∀ q, (gw X q).cell? ⟨w.heap.size + 1, 0, none⟩ = some (.int .i64 e) := cell_gw (blk_cell b1 0 _ rfl)
    have c_b1_1 : ∀ q, (gw X q).cell? ⟨w.heap.size + 1, 1, none⟩ = some (.int .i64 f) := cell_gw (blk_cell b1 1 _ rfl)
    have c_b1_2 : ∀ q, (gw X q).cell? ⟨w.heap.size + 1, 2, none⟩ = some (.int .i64 g) := cell_gw (blk_cell b1 2 _ rfl)
    have c_b1_3 : ∀ q, (gw X q).cell? ⟨w.heap.size + 1, 3, none⟩ = some (.int .i64 h) := cell_gw (blk_cell b1 3 _ rfl)
    have f_b1 := blk_frozen b1
    have c_b2_0 : ∀ q, (gw X q).cell? ⟨w.heap.size + 1 + 1, 0, none⟩ = some (.int .i64 x) := cell_gw (blk_cell b2 0 _ rfl)
    have c_b2_1 : ∀ q, (gw X q).cell? ⟨w.heap.size + 1 + 1, 1, none⟩ = some (.int .i64 y) := cell_gw (blk_cell b2 1 _ rfl)
    have f_b2 := blk_frozen b2
    go_upto_region 6 with (go_at_call 12; with_reducible refine (callsGw (cW _)).mono ?_; rintro e w1 ⟨rfl, q, rfl⟩)
    refine wp_gw _ (by kernel_rfl) (by kernel_rfl) ?_
    repeat (quiet_step (first | (go_at_call 13; with_reducible exact callsGw (cV _)) | (go_at_call 12; with_reducible exact callsGw (cW _)) | (go_at_call 14; with_reducible exact callsGw (cC _)) | (go_at_call 15; with_reducible exact callsGw (cD _)) | (go_at_call 16; with_reducible exact callsGw (cI _)) | (go_at_call 17; with_reducible exact callsGw (cJ _))))
    refine wpQuiet_nil ?_
    intro _ hw'
    obtain ⟨p, hw''⟩ := hw'
    subst hw''
    go_wp2
    go_ret
    exact ⟨by simp, below_gw hB _⟩
  · rw [if_pos rfl] at cM
    go_enter Try.func3, Try.ntmps3
    go_wp2_with fail
    rw [HW.out]
    go_upto_region 4 with (first | (go_at_call 10; with_reducible refine (callsGw (cA _)).mono ?_; rintro e w1 ⟨rfl, q, rfl⟩) | (go_at_call 11; with_reducible refine (callsGw (cM _)).mono ?_; rintro e w1 ⟨rfl, q, rfl⟩))
    obtain ⟨X, n, en, hnn, gen, ltn, bn, kn, ln⟩ := laid W #[.int .i64 a, .int .i64 b, .int .i64 c, .int .i64 d] 25 q
    rw [en]
    simp only [hnn]
    have b0 := kn _ _ b0
    have b1 := kn _ _ b1
    have b2 := kn _ _ b2
    have hB := ln _ hB
    clear en hnn
    have c_bn_0 : ∀ q, (gw X q).cell? ⟨n, 0, none⟩ = some (.int .i64 a) := cell_gw (blk_cell bn 0 _ rfl)
    have c_bn_1 : ∀ q, (gw X q).cell? ⟨n, 1, none⟩ = some (.int .i64 b) := cell_gw (blk_cell bn 1 _ rfl)
    have c_bn_2 : ∀ q, (gw X q).cell? ⟨n, 2, none⟩ = some (.int .i64 c) := cell_gw (blk_cell bn 2 _ rfl)
    have c_bn_3 : ∀ q, (gw X q).cell? ⟨n, 3, none⟩ = some (.int .i64 d) := cell_gw (blk_cell bn 3 _ rfl)
    have f_bn := blk_frozen bn
    have c_b0_0 : ∀ q, (gw X q).cell? ⟨w.heap.size, 0, none⟩ = some (.int .i64 a) := cell_gw (blk_cell b0 0 _ rfl)
    have c_b0_1 : ∀ q, (gw X q).cell? ⟨w.heap.size, 1, none⟩ = some (.int .i64 b) := cell_gw (blk_cell b0 1 _ rfl)
    have c_b0_2 : ∀ q, (gw X q).cell? ⟨w.heap.size, 2, none⟩ = some (.int .i64 c) := cell_gw (blk_cell b0 2 _ rfl)
    have c_b0_3 : ∀ q, (gw X q).cell? ⟨w.heap.size, 3, none⟩ = some (.int .i64 d) := cell_gw (blk_cell b0 3 _ rfl)
    have f_b0 := blk_frozen b0
    have c_b1_0 : ∀ q, (gw X q).cell? ⟨w.heap.size + 1, 0, none⟩ = some (.int .i64 e) := cell_gw (blk_cell b1 0 _ rfl)
    have c_b1_1 : ∀ q, (gw X q).cell? ⟨w.heap.size + 1, 1, none⟩ = some (.int .i64 f) := cell_gw (blk_cell b1 1 _ rfl)
    have c_b1_2 : ∀ q, (gw X q).cell? ⟨w.heap.size + 1, 2, none⟩ = some (.int .i64 g) := cell_gw (blk_cell b1 2 _ rfl)
    have c_b1_3 : ∀ q, (gw X q).cell? ⟨w.heap.size + 1, 3, none⟩ = some (.int .i64 h) := cell_gw (blk_cell b1 3 _ rfl)
    have f_b1 := blk_frozen b1
    have c_b2_0 : ∀ q, (gw X q).cell? ⟨w.heap.size + 1 + 1, 0, none⟩ = some (.int .i64 x) := cell_gw (blk_cell b2 0 _ rfl)
    have c_b2_1 : ∀ q, (gw X q).cell? ⟨w.heap.size + 1 + 1, 1, none⟩ = some (.int .i64 y) := cell_gw (blk_cell b2 1 _ rfl)
    have f_b2 := blk_frozen b2
    go_upto_region 6 with (go_at_call 12; with_reducible refine (callsGw (cW _)).mono ?_; rintro e w1 ⟨rfl, q, rfl⟩)
    refine wp_gw _ (by kernel_rfl) (by kernel_rfl) ?_
    repeat (quiet_step (first | (go_at_call 13; with_reducible exact callsGw (cV _)) | (go_at_call 12; with_reducible exact callsGw (cW _)) | (go_at_call 14; with_reducible exact callsGw (cC _)) | (go_at_call 15; with_reducible exact callsGw (cD _)) | (go_at_call 16; with_reducible exact callsGw (cI _)) | (go_at_call 17; with_reducible exact callsGw (cJ _))))
    refine wpQuiet_nil ?_
    intro _ hw'
    obtain ⟨p, hw''⟩ := hw'
    subst hw''
    go_wp2
    go_ret
    exact ⟨by simp, below_gw hB _⟩
end Go.Proofs.Ytimdklineeeieaa
