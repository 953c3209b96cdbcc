/- Package interval: Make, span. -/
import Derived.Test.YtimdklineeeieaaI1
namespace Go.Proofs.Ytimdklineeeieaa
open Go.RowKit Go.Sort
set_option linter.unusedVariables false
set_option maxRecDepth 100000 in
set_option maxHeartbeats 4000000 in
theorem imake_any (a b c d : Int) (w : World) :
    Calls Try.prog 11 #[.agg #[.int .i64 a, .int .i64 b], .agg #[.int .i64 c, .int .i64 d]] w fun e w' => e = .returned (.tuple #[.agg #[.int .i64 (M.imake a b c d).1, .int .i64 (M.imake a b c d).2.1, .int .i64 (M.imake a b c d).2.2.1, .int .i64 (M.imake a b c d).2.2.2.1], .int .i64 (M.imake a b c d).2.2.2.2]) ∧ Below w.heap.size w w' := by
  obtain ⟨W, hW, hB, hS, b0, b1, b2, b3⟩ := lay4 w #[.int .i64 a, .int .i64 b] 23 #[.int .i64 c, .int .i64 d] 23 #[.int .i64 0, .int .i64 0, .int .i64 0, .int .i64 0] 25 #[.int .i64 a, .int .i64 b, .int .i64 c, .int .i64 d] 25
  obtain ⟨p0, hp0⟩ := gw_start W
  have HW := Lib.hid (hW.trans hp0)
  clear hW hp0
  have c_b0_0 : ∀ q, (gw W q).cell? ⟨w.heap.size, 0, none⟩ = some (.int .i64 a) := cell_gw (blk_cell b0 0 _ rfl)
  have c_b0_1 : ∀ q, (gw W q).cell? ⟨w.heap.size, 1, none⟩ = some (.int .i64 b) := cell_gw (blk_cell b0 1 _ rfl)
  have f_b0 := blk_frozen b0
  have c_b1_0 : ∀ q, (gw W q).cell? ⟨w.heap.size + 1, 0, none⟩ = some (.int .i64 c) := cell_gw (blk_cell b1 0 _ rfl)
  have c_b1_1 : ∀ q, (gw W q).cell? ⟨w.heap.size + 1, 1, none⟩ = some (.int .i64 d) := cell_gw (blk_cell b1 1 _ rfl)
  have f_b1 := blk_frozen b1
  have c_b2_0 : ∀ q, (gw W q).cell? ⟨w.heap.size + 1 + 1, 0, none⟩ = some (.int .i64 0) := cell_gw (blk_cell b2 0 _ rfl)
  have c_b2_1 : ∀ q, (gw W q).cell? ⟨w.heap.size + 1 + 1, 1, none⟩ = some (.int .i64 0) := cell_gw (blk_cell b2 1 _ rfl)
  have c_b2_2 : ∀ q, (gw W q).cell? ⟨w.heap.size + 1 + 1, 2, none⟩ = some (.int .i64 0) := cell_gw (blk_cell b2 2 _ rfl)
  have c_b2_3 : ∀ q, (gw W q).cell? ⟨w.heap.size + 1 + 1, 3, none⟩ = some (.int .i64 0) := cell_gw (blk_cell b2 3 _ rfl)
  have f_b2 := blk_frozen b2
  have c_b3_0 : ∀ q, (gw W q).cell? ⟨w.heap.size + 1 + 1 + 1, 0, none⟩ = some (.int .i64 a) := cell_gw (blk_cell b3 0 _ rfl)
  have c_b3_1 : ∀ q, (gw W q).cell? ⟨w.heap.size + 1 + 1 + 1, 1, none⟩ = some (.int .i64 b) := cell_gw (blk_cell b3 1 _ rfl)
  have c_b3_2 : ∀ q, (gw W q).cell? ⟨w.heap.size + 1 + 1 + 1, 2, none⟩ = some (.int .i64 c) := cell_gw (blk_cell b3 2 _ rfl)
  have c_b3_3 : ∀ q, (gw W q).cell? ⟨w.heap.size + 1 + 1 + 1, 3, none⟩ = some (.int .i64 d) := cell_gw (blk_cell b3 3 _ rfl)
  have f_b3 := blk_frozen b3
  have cV := fun w => ivalid_any a b c d w
  by_cases hr : M.ivld a b c d = true
  · rw [show M.imake a b c d = (a, b, c, d, 0) by unfold M.imake; rw [if_pos hr]]
    rw [hr] at cV
    clear hr
    go_enter Try.func11, Try.ntmps11
    go_wp2_with fail
    rw [HW.out]
    go_wp2_with (go_at_call 13; with_reducible refine (callsGw (cV _)).mono ?_; rintro e w1 ⟨rfl, q, rfl⟩)
    refine bodyPost_ret (v := .tuple #[.agg #[.int .i64 a, .int .i64 b, .int .i64 c, .int .i64 d], .int .i64 0]) (by simp [results, Try.results11, go_sem, c_b2_0, c_b2_1, c_b2_2, c_b2_3]) rfl ⟨rfl, ?_⟩
    repeat (refine belowSet ?_ (by omega))
    exact below_gw hB _
  · rw [show M.imake a b c d = (0, 0, 0, 0, 1) by unfold M.imake; rw [if_neg hr]]
    rw [show M.ivld a b c d = false by simpa using hr] at cV
    clear hr
    go_enter Try.func11, Try.ntmps11
    go_wp2_with fail
    rw [HW.out]
    go_wp2_with (go_at_call 13; with_reducible refine (callsGw (cV _)).mono ?_; rintro e w1 ⟨rfl, q, rfl⟩)
    refine bodyPost_ret (v := .tuple #[.agg #[.int .i64 0, .int .i64 0, .int .i64 0, .int .i64 0], .int .i64 1]) (by simp [results, Try.results11, go_sem, c_b2_0, c_b2_1, c_b2_2, c_b2_3]) rfl ⟨rfl, ?_⟩
    repeat (refine belowSet ?_ (by omega))
    exact below_gw hB _
theorem span_take (xs : List (Int × Int)) (k : Nat) (hk : k + 1 < xs.length) (s : Int × Int × Int × Int) :
    ((xs.drop 1).take (k + 1)).foldl M.spanStep s = M.spanStep (((xs.drop 1).take k).foldl M.spanStep s) (xs.getD (k + 1) (0, 0)) := by
  have hlt : k < (xs.drop 1).length := by simp; omega
  rw [List.take_succ_eq_append_getElem hlt, List.foldl_append]
  simp [List.getD_eq_getElem?_getD, List.getElem?_eq_getElem hk]
set_option maxRecDepth 100000 in
set_option maxHeartbeats 4000000 in
theorem span_any (xs : List (Int × Int)) (b o c : Nat) (w : World) (hn0 : 2 ≤ xs.length) (hn : xs.length ≤ 70368744177664) (hc : xs.length ≤ c) (hc2 : c ≤ 70368744177664)
    (h0 : ∀ i, i < xs.length → w.cell? ⟨b, o + i * 2, none⟩ = some (.int .i64 (xs.getD i (0, 0)).1)) (h1 : ∀ i, i < xs.length → w.cell? ⟨b, o + i * 2 + 1, none⟩ = some (.int .i64 (xs.getD i (0, 0)).2)) :
    Calls Try.prog 43 #[.slice (some ⟨b, o, none⟩) xs.length c] w fun e w' => e = .returned (.agg #[.int .i64 (M.spanF xs).1, .int .i64 (M.spanF xs).2.1, .int .i64 (M.spanF xs).2.2.1, .int .i64 (M.spanF xs).2.2.2]) ∧ Below w.heap.size w w' := by
  obtain ⟨W, hW, hB, hS, b0⟩ := lay1 w #[.int .i64 0, .int .i64 0, .int .i64 0, .int .i64 0] 25
  obtain ⟨p0, hp0⟩ := gw_start W
  have HW := Lib.hid (hW.trans hp0)
  clear hW hp0
  have c_b0_0 : ∀ q, (gw W q).cell? ⟨w.heap.size, 0, none⟩ = some (.int .i64 0) := cell_gw (blk_cell b0 0 _ rfl)
  have c_b0_1 : ∀ q, (gw W q).cell? ⟨w.heap.size, 1, none⟩ = some (.int .i64 0) := cell_gw (blk_cell b0 1 _ rfl)
  have c_b0_2 : ∀ q, (gw W q).cell? ⟨w.heap.size, 2, none⟩ = some (.int .i64 0) := cell_gw (blk_cell b0 2 _ rfl)
  have c_b0_3 : ∀ q, (gw W q).cell? ⟨w.heap.size, 3, none⟩ = some (.int .i64 0) := cell_gw (blk_cell b0 3 _ rfl)
  have f_b0 := blk_frozen b0
  obtain ⟨R, hR⟩ : ∃ R, M.spanF xs = R := ⟨_, rfl⟩
  rw [hR]
  have HR := Lib.hid hR
  clear hR
  obtain ⟨x0, y0, hxy⟩ : ∃ x y, xs.getD 0 (0, 0) = (x, y) := ⟨_, _, rfl⟩
  have l0 := cell_gw (cell_below1 hB (h0 0 (by omega)))
  have l1 := cell_gw (cell_below1 hB (h1 0 (by omega)))
  rw [hxy] at l0 l1
  simp only [Nat.zero_mul, Nat.add_zero] at l0 l1
  have Hxy := Lib.hid hxy
  clear hxy
  obtain ⟨N, hN⟩ : ∃ N, xs.length = N := ⟨_, rfl⟩
  have HN := Lib.hid hN
  rw [hN] at hn0 hn hc ⊢
  have hlen : 0 < N := by omega
  have hlen2 : ¬ c = 1 := by omega
  have hlen3 : N - 1 ≤ 70368744177664 := by omega
  have H0 := Lib.hid h0
  have H1 := Lib.hid h1
  clear h0 h1
  go_enter Try.func43, Try.ntmps43
  go_wp2_with fail
  rw [HW.out]
  refine wp_alo1 7 1 #[.int .i64 0, .int .i64 0, .int .i64 0, .int .i64 0] 25 3 (by kernel_rfl) ⟨_, rfl, rfl, rfl, fun _ _ => by kernel_rfl⟩ rfl (by kernel_rfl) (by kernel_rfl) ?_
  simp only [List.take_succ_cons, List.take_zero, List.drop_succ_cons, List.drop_zero]
  repeat (refine wpQb_step (fun K hK => ?_); go_simp; first | (refine hK _ ?_; clear hK K) | (apply Exists.intro; refine ⟨fun _ => ?_, hK _ ?_⟩; (fail); clear hK K))
  refine wpQb_nil ?_
  intro g X hKX hBX hg hge q
  have b0 := hKX _ _ b0
  have hB := hBX _ hB
  have c_hg_0 : ∀ q, (gw X q).cell? ⟨g, 0, none⟩ = some (.int .i64 0) := cell_gw (blk_cell hg 0 _ rfl)
  have c_hg_1 : ∀ q, (gw X q).cell? ⟨g, 1, none⟩ = some (.int .i64 0) := cell_gw (blk_cell hg 1 _ rfl)
  have c_hg_2 : ∀ q, (gw X q).cell? ⟨g, 2, none⟩ = some (.int .i64 0) := cell_gw (blk_cell hg 2 _ rfl)
  have c_hg_3 : ∀ q, (gw X q).cell? ⟨g, 3, none⟩ = some (.int .i64 0) := cell_gw (blk_cell hg 3 _ rfl)
  have f_hg := blk_frozen hg
  go_wp2_with fail
  obtain ⟨Y, eY, sY, nb, kY, lY⟩ := storedS4 q hg (.int .i64 x0) (.int .i64 y0) (.int .i64 x0) (.int .i64 y0)
  rw [eY]
  have b0 := kY _ _ (by omega) b0
  have hB := lY _ (by omega) hB
  have hg := nb
  clear nb
  have c_hg_0 : ∀ q, (gw Y q).cell? ⟨g, 0, none⟩ = some (.int .i64 x0) := cell_gw (blk_cell hg 0 _ rfl)
  have c_hg_1 : ∀ q, (gw Y q).cell? ⟨g, 1, none⟩ = some (.int .i64 y0) := cell_gw (blk_cell hg 1 _ rfl)
  have c_hg_2 : ∀ q, (gw Y q).cell? ⟨g, 2, none⟩ = some (.int .i64 x0) := cell_gw (blk_cell hg 2 _ rfl)
  have c_hg_3 : ∀ q, (gw Y q).cell? ⟨g, 3, none⟩ = some (.int .i64 y0) := cell_gw (blk_cell hg 3 _ rfl)
  have f_hg := blk_frozen hg
  clear c_b0_0 c_b0_1 c_b0_2 c_b0_3 f_b0 c_hg_0 c_hg_1 c_hg_2 c_hg_3 f_hg l0 l1 HW hKX hBX lY kY eY
  have hgw : w.heap.size < g := by omega
  go_loopw [16] (fun v wr => ∃ (k : Nat) (Y : World) (st : Int × Int × Int × Int) (q : Regrown), v = .int .i64 k ∧ k ≤ N - 1 ∧ Hid (((xs.drop 1).take k).foldl M.spanStep (x0, y0, x0, y0) = st) ∧ wr = gw Y q ∧ Below w.heap.size w Y ∧
    Y.heap[w.heap.size]? = some (.cells #[.int .i64 0, .int .i64 0, .int .i64 0, .int .i64 0] 25) ∧ Y.heap[g]? = some (.cells #[.int .i64 st.1, .int .i64 st.2.1, .int .i64 st.2.2.1, .int .i64 st.2.2.2] 25)) (fun v _ => N - 1 - (intOf v).toNat)
  case atStart => exact ⟨0, Y, (x0, y0, x0, y0), q, rfl, Nat.zero_le _, Lib.hid rfl, rfl, hB, b0, hg⟩
  case round =>
    clear b0 hg hB
    obtain ⟨k, Y, st, q, rfl, hk, hst, rfl, hB, b0, hg⟩ := hrel
    have c_b0_0 : ∀ q, (gw Y q).cell? ⟨w.heap.size, 0, none⟩ = some (.int .i64 0) := cell_gw (blk_cell b0 0 _ rfl)
    have c_b0_1 : ∀ q, (gw Y q).cell? ⟨w.heap.size, 1, none⟩ = some (.int .i64 0) := cell_gw (blk_cell b0 1 _ rfl)
    have c_b0_2 : ∀ q, (gw Y q).cell? ⟨w.heap.size, 2, none⟩ = some (.int .i64 0) := cell_gw (blk_cell b0 2 _ rfl)
    have c_b0_3 : ∀ q, (gw Y q).cell? ⟨w.heap.size, 3, none⟩ = some (.int .i64 0) := cell_gw (blk_cell b0 3 _ rfl)
    have f_b0 := blk_frozen b0
    have c_hg_0 : ∀ q, (gw Y q).cell? ⟨g, 0, none⟩ = some (.int .i64 st.1) := cell_gw (blk_cell hg 0 _ rfl)
    have c_hg_1 : ∀ q, (gw Y q).cell? ⟨g, 1, none⟩ = some (.int .i64 st.2.1) := cell_gw (blk_cell hg 1 _ rfl)
    have c_hg_2 : ∀ q, (gw Y q).cell? ⟨g, 2, none⟩ = some (.int .i64 st.2.2.1) := cell_gw (blk_cell hg 2 _ rfl)
    have c_hg_3 : ∀ q, (gw Y q).cell? ⟨g, 3, none⟩ = some (.int .i64 st.2.2.2) := cell_gw (blk_cell hg 3 _ rfl)
    have f_hg := blk_frozen hg
    by_cases hlt : k < N - 1
    · obtain ⟨x, y, hxy⟩ : ∃ x y, xs.getD (k + 1) (0, 0) = (x, y) := ⟨_, _, rfl⟩
      have l0 := cell_gw (cell_below1 hB (H0.out (k + 1) (by omega)))
      have l1 := cell_gw (cell_below1 hB (H1.out (k + 1) (by omega)))
      rw [hxy, show o + (k + 1) * 2 = o + 2 + k * 2 by omega] at l0 l1
      have Hs := Lib.hid (span_take xs k (by omega) (x0, y0, x0, y0))
      have Hxy2 := Lib.hid hxy
      clear hxy
      go_upto_region 5 with fail
      have hgY := blk_lt hg
      obtain ⟨Z, n, en, hnn, gen, ltn, bn, kn, ln⟩ := laid Y #[.int .i64 x, .int .i64 y] 23 q
      rw [en]
      simp only [hnn]
      have b0 := kn _ _ b0
      have hg := kn _ _ hg
      have hB := ln _ hB
      clear en hnn
      have c_bn_0 : ∀ q, (gw Z q).cell? ⟨n, 0, none⟩ = some (.int .i64 x) := cell_gw (blk_cell bn 0 _ rfl)
      have c_bn_1 : ∀ q, (gw Z q).cell? ⟨n, 1, none⟩ = some (.int .i64 y) := cell_gw (blk_cell bn 1 _ rfl)
      have f_bn := blk_frozen bn
      have c_hg_0 : ∀ q, (gw Z q).cell? ⟨g, 0, none⟩ = some (.int .i64 st.1) := cell_gw (blk_cell hg 0 _ rfl)
      have c_hg_1 : ∀ q, (gw Z q).cell? ⟨g, 1, none⟩ = some (.int .i64 st.2.1) := cell_gw (blk_cell hg 1 _ rfl)
      have c_hg_2 : ∀ q, (gw Z q).cell? ⟨g, 2, none⟩ = some (.int .i64 st.2.2.1) := cell_gw (blk_cell hg 2 _ rfl)
      have c_hg_3 : ∀ q, (gw Z q).cell? ⟨g, 3, none⟩ = some (.int .i64 st.2.2.2) := cell_gw (blk_cell hg 3 _ rfl)
      have f_hg := blk_frozen hg
      have cL := fun w => lessr_any st.1 st.2.1 x y w
      have cM := fun w => morer_any st.2.2.1 st.2.2.2 x y w
      obtain ⟨r1, r2, r3, hL⟩ : ∃ r1 r2 r3, M.lessr st.1 st.2.1 x y = (r1, r2, r3) := ⟨_, _, _, rfl⟩
      obtain ⟨t1, t2, t3, hM⟩ : ∃ r1 r2 r3, M.morer st.2.2.1 st.2.2.2 x y = (r1, r2, r3) := ⟨_, _, _, rfl⟩
      rw [hL] at cL
      rw [hM] at cM
      have e : M.spanStep st (x, y) = (r1, r2, t1, t2) := by unfold M.spanStep; rw [hL, hM]
      rw [Hxy2.out, hst.out, e] at Hs
      clear hL hM e
      go_upto_region 6 with (go_at_call 45; with_reducible refine (callsGw (cL _)).mono ?_; rintro e w1 ⟨rfl, q, rfl⟩)
      obtain ⟨Y1, eY1, sY1, nb, kY1, lY1⟩ := storedP2 (A' := #[.int .i64 r1, .int .i64 r2, .int .i64 st.2.2.1, .int .i64 st.2.2.2]) q hg 0 1 (.int .i64 r1) (.int .i64 r2) rfl
      rw [eY1]
      have b0 := kY1 _ _ (by omega) b0
      have bn := kY1 _ _ (by omega) bn
      have hB := lY1 _ (by omega) hB
      have hg := nb
      clear nb
      have c_hg_0 : ∀ q, (gw Y1 q).cell? ⟨g, 0, none⟩ = some (.int .i64 r1) := cell_gw (blk_cell hg 0 _ rfl)
      have c_hg_1 : ∀ q, (gw Y1 q).cell? ⟨g, 1, none⟩ = some (.int .i64 r2) := cell_gw (blk_cell hg 1 _ rfl)
      have c_hg_2 : ∀ q, (gw Y1 q).cell? ⟨g, 2, none⟩ = some (.int .i64 st.2.2.1) := cell_gw (blk_cell hg 2 _ rfl)
      have c_hg_3 : ∀ q, (gw Y1 q).cell? ⟨g, 3, none⟩ = some (.int .i64 st.2.2.2) := cell_gw (blk_cell hg 3 _ rfl)
      have f_hg := blk_frozen hg
      have c_bn_0 : ∀ q, (gw Y1 q).cell? ⟨n, 0, none⟩ = some (.int .i64 x) := cell_gw (blk_cell bn 0 _ rfl)
      have c_bn_1 : ∀ q, (gw Y1 q).cell? ⟨n, 1, none⟩ = some (.int .i64 y) := cell_gw (blk_cell bn 1 _ rfl)
      have f_bn := blk_frozen bn
      go_upto_region 7 with (go_at_call 44; with_reducible refine (callsGw (cM _)).mono ?_; rintro e w1 ⟨rfl, q, rfl⟩)
      obtain ⟨Y2, eY2, sY2, nb, kY2, lY2⟩ := storedP2 (A' := #[.int .i64 r1, .int .i64 r2, .int .i64 t1, .int .i64 t2]) q hg 2 3 (.int .i64 t1) (.int .i64 t2) rfl
      rw [eY2]
      have b0 := kY2 _ _ (by omega) b0
      have bn := kY2 _ _ (by omega) bn
      have hB := lY2 _ (by omega) hB
      have hg := nb
      clear nb
      have c_hg_0 : ∀ q, (gw Y2 q).cell? ⟨g, 0, none⟩ = some (.int .i64 r1) := cell_gw (blk_cell hg 0 _ rfl)
      have c_hg_1 : ∀ q, (gw Y2 q).cell? ⟨g, 1, none⟩ = some (.int .i64 r2) := cell_gw (blk_cell hg 1 _ rfl)
      have c_hg_2 : ∀ q, (gw Y2 q).cell? ⟨g, 2, none⟩ = some (.int .i64 t1) := cell_gw (blk_cell hg 2 _ rfl)
      have c_hg_3 : ∀ q, (gw Y2 q).cell? ⟨g, 3, none⟩ = some (.int .i64 t2) := cell_gw (blk_cell hg 3 _ rfl)
      have f_hg := blk_frozen hg
      go_wp2_with fail
      go_roundw
      case rel => exact ⟨k + 1, Y2, (r1, r2, t1, t2), q, by go_num, by omega, Hs, rfl, hB, b0, hg⟩
      case measure => simp [intOf]; omega
    · have hke : k = N - 1 := by omega
      have e : R = st := by
        rw [← HR.out, ← hst.out]
        unfold M.spanF
        rw [Hxy.out, hke, List.take_of_length_le (by simp; omega)]
      subst e
      clear HR Hxy H0 H1 hst hke
      go_wp2_with fail
      refine bodyPost_ret (v := .agg #[.int .i64 R.1, .int .i64 R.2.1, .int .i64 R.2.2.1, .int .i64 R.2.2.2]) (by simp [results, Try.results43, go_sem, c_b0_0, c_b0_1, c_b0_2, c_b0_3]) rfl ⟨rfl, ?_⟩
      repeat (refine belowSet ?_ (by omega))
      exact below_gw hB _
end Go.Proofs.Ytimdklineeeieaa
