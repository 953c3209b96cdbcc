/- Package interval: extend. -/
import Derived.Test.YtimdklineeeieaaI2
namespace Go.Proofs.Ytimdklineeeieaa
open Go.RowKit Go.Sort
set_option linter.unusedVariables false
theorem slice4 (b : Nat) {k : Nat} (hk : k ≤ 4) (w : World) : Sem.run Try.prog (Instr.sliceAt 76 (.pointer (some ⟨b, 0, none⟩)) none (some (.int .i64 k)) none) w = .ok (.slice (some ⟨b, 0, none⟩) k 4) w := by
  have hA : Try.prog.arrayLen 76 = 4 := by kernel_rfl
  rw [run_sliceAt_array_h w 76 _ (by kernel_rfl) .i64 k (by omega) (by rw [hA]; omega), hA]
  have hs : Sem.run Try.prog (sizeOf (Try.prog.elem 76)) w = .ok 2 w := by kernel_rfl
  rw [hs]
  simp [slicedAt, go_sem]
/-- the function fid returns what op tells -/
def OpAt (fid : FuncId) (op : Int → Int → Int → Int → Int × Int × Int) : Prop :=
  ∀ (a b c d : Int) (w : World), Calls Try.prog fid #[.agg #[.int .i64 a, .int .i64 b], .agg #[.int .i64 c, .int .i64 d]] w fun e w' => e = .returned (.tuple #[.agg #[.int .i64 (op a b c d).1, .int .i64 (op a b c d).2.1], .int .i64 (op a b c d).2.2]) ∧ Below w.heap.size w w'
def opOn (op : Int → Int → Int → Int → Int × Int × Int) (p : Int × Int × Int × Int) := op p.1 p.2.1 p.2.2.1 p.2.2.2
set_option maxRecDepth 100000 in
set_option maxHeartbeats 4000000 in
theorem extend_any (fid : FuncId) (op : Int → Int → Int → Int → Int × Int × Int) (ent : ∀ args w, (callFunc fid args).run Try.prog w = .ok (.enter fid args) w) (hop : OpAt fid op) (ps : List (Int × Int × Int × Int)) (b c : Nat) (w : World) (hn0 : 2 ≤ ps.length) (hn : ps.length ≤ 4)
    (h0 : ∀ i, i < ps.length → w.cell? ⟨b, i * 4, none⟩ = some (.int .i64 (ps.getD i (0, 0, 0, 0)).1)) (h1 : ∀ i, i < ps.length → w.cell? ⟨b, i * 4 + 1, none⟩ = some (.int .i64 (ps.getD i (0, 0, 0, 0)).2.1))
    (h2 : ∀ i, i < ps.length → w.cell? ⟨b, i * 4 + 2, none⟩ = some (.int .i64 (ps.getD i (0, 0, 0, 0)).2.2.1)) (h3 : ∀ i, i < ps.length → w.cell? ⟨b, i * 4 + 3, none⟩ = some (.int .i64 (ps.getD i (0, 0, 0, 0)).2.2.2)) :
    Calls Try.prog 55 #[.func (.func fid) #[] #[], .slice (some ⟨b, 0, none⟩) ps.length c] w fun e w' => e = .returned (.tuple #[.agg #[.int .i64 (M.extF op ps).1, .int .i64 (M.extF op ps).2.1, .int .i64 (M.extF op ps).2.2.1, .int .i64 (M.extF op ps).2.2.2.1], .int .i64 (M.extF op ps).2.2.2.2]) ∧ Below w.heap.size w w' := by
  obtain ⟨W, hW, hB, hS, b0, b1⟩ := lay2 w #[.int .i64 0, .int .i64 0, .int .i64 0, .int .i64 0] 25 #[.int .i64 0, .int .i64 0, .int .i64 0, .int .i64 0, .int .i64 0, .int .i64 0, .int .i64 0, .int .i64 0] 76
  obtain ⟨p0, hp0⟩ := gw_start W
  have HW := Lib.hid (hW.trans hp0)
  clear hW hp0
  have c_b0_0 : ∀ q, (gw W q).cell? ⟨w.heap.size, 0, none⟩ = some (.int .i64 0) := cell_gw (blk_cell b0 0 _ rfl)
  have c_b0_1 : ∀ q, (gw W q).cell? ⟨w.heap.size, 1, none⟩ = some (.int .i64 0) := cell_gw (blk_cell b0 1 _ rfl)
  have c_b0_2 : ∀ q, (gw W q).cell? ⟨w.heap.size, 2, none⟩ = some (.int .i64 0) := cell_gw (blk_cell b0 2 _ rfl)
  have c_b0_3 : ∀ q, (gw W q).cell? ⟨w.heap.size, 3, none⟩ = some (.int .i64 0) := cell_gw (blk_cell b0 3 _ rfl)
  have f_b0 := blk_frozen b0
  have c_b1_0 : ∀ q, (gw W q).cell? ⟨w.heap.size + 1, 0, none⟩ = some (.int .i64 0) := cell_gw (blk_cell b1 0 _ rfl)
  have c_b1_1 : ∀ q, (gw W q).cell? ⟨w.heap.size + 1, 1, none⟩ = some (.int .i64 0) := cell_gw (blk_cell b1 1 _ rfl)
  have c_b1_2 : ∀ q, (gw W q).cell? ⟨w.heap.size + 1, 2, none⟩ = some (.int .i64 0) := cell_gw (blk_cell b1 2 _ rfl)
  have c_b1_3 : ∀ q, (gw W q).cell? ⟨w.heap.size + 1, 3, none⟩ = some (.int .i64 0) := cell_gw (blk_cell b1 3 _ rfl)
  have c_b1_4 : ∀ q, (gw W q).cell? ⟨w.heap.size + 1, 4, none⟩ = some (.int .i64 0) := cell_gw (blk_cell b1 4 _ rfl)
  have c_b1_5 : ∀ q, (gw W q).cell? ⟨w.heap.size + 1, 5, none⟩ = some (.int .i64 0) := cell_gw (blk_cell b1 5 _ rfl)
  have c_b1_6 : ∀ q, (gw W q).cell? ⟨w.heap.size + 1, 6, none⟩ = some (.int .i64 0) := cell_gw (blk_cell b1 6 _ rfl)
  have c_b1_7 : ∀ q, (gw W q).cell? ⟨w.heap.size + 1, 7, none⟩ = some (.int .i64 0) := cell_gw (blk_cell b1 7 _ rfl)
  have f_b1 := blk_frozen b1
  obtain ⟨R, hR⟩ : ∃ R, M.extF op ps = R := ⟨_, rfl⟩
  rw [hR]
  have HR := Lib.hid hR
  clear hR
  obtain ⟨N, hN⟩ : ∃ N, ps.length = N := ⟨_, rfl⟩
  have HN := Lib.hid hN
  rw [hN] at hn0 hn ⊢
  have H0 := Lib.hid h0
  have H1 := Lib.hid h1
  have H2 := Lib.hid h2
  have H3 := Lib.hid h3
  clear h0 h1 h2 h3
  go_enter Try.func55, Try.ntmps55
  go_wp2_with fail
  rw [HW.out]
  clear HW c_b0_0 c_b0_1 c_b0_2 c_b0_3 f_b0 c_b1_0 c_b1_1 c_b1_2 c_b1_3 c_b1_4 c_b1_5 c_b1_6 c_b1_7 f_b1
  go_loopw [13] (fun v wr => ∃ (k : Nat) (Y : World) (A : Array Value) (q : Regrown), v = .int .i64 k ∧ k ≤ N ∧ wr = gw Y q ∧ Below w.heap.size w Y ∧ Y.heap[w.heap.size]? = some (.cells #[.int .i64 0, .int .i64 0, .int .i64 0, .int .i64 0] 25) ∧
    Y.heap[w.heap.size + 1]? = some (.cells A 76) ∧ A.size = 8 ∧ Hid (∀ i, i < k → (opOn op (ps.getD i (0, 0, 0, 0))).2.2 = 0 ∧ A[i * 2]? = some (.int .i64 (opOn op (ps.getD i (0, 0, 0, 0))).1) ∧
      A[i * 2 + 1]? = some (.int .i64 (opOn op (ps.getD i (0, 0, 0, 0))).2.1))) (fun v _ => N - (intOf v).toNat)
  case atStart => exact ⟨0, W, _, p0, rfl, Nat.zero_le _, rfl, hB, b0, b1, rfl, Lib.hid (fun i hi => by omega)⟩
  case round =>
    clear b0 b1 hB
    obtain ⟨k, Y, A, q, rfl, hk, rfl, hB, b0, b1, hA, hI⟩ := hrel
    have c_b0_0 : ∀ q, (gw Y q).cell? ⟨w.heap.size, 0, none⟩ = some (.int .i64 0) := cell_gw (blk_cell b0 0 _ rfl)
    have c_b0_1 : ∀ q, (gw Y q).cell? ⟨w.heap.size, 1, none⟩ = some (.int .i64 0) := cell_gw (blk_cell b0 1 _ rfl)
    have c_b0_2 : ∀ q, (gw Y q).cell? ⟨w.heap.size, 2, none⟩ = some (.int .i64 0) := cell_gw (blk_cell b0 2 _ rfl)
    have c_b0_3 : ∀ q, (gw Y q).cell? ⟨w.heap.size, 3, none⟩ = some (.int .i64 0) := cell_gw (blk_cell b0 3 _ rfl)
    have f_b0 := blk_frozen b0
    by_cases hlt : k < N
    · obtain ⟨x, y, z, t, hxy⟩ : ∃ x y z t, ps.getD k (0, 0, 0, 0) = (x, y, z, t) := ⟨_, _, _, _, rfl⟩
      have l0 := cell_gw (cell_below1 hB (H0.out k (by omega)))
      have l1 := cell_gw (cell_below1 hB (H1.out k (by omega)))
      have l2 := cell_gw (cell_below1 hB (H2.out k (by omega)))
      have l3 := cell_gw (cell_below1 hB (H3.out k (by omega)))
      rw [hxy] at l0 l1 l2 l3
      have Hxy := Lib.hid hxy
      clear hxy
      have hYb := blk_lt b1
      have cO := fun w => hop x y z t w
      obtain ⟨r1, r2, r3, hO⟩ : ∃ r1 r2 r3, op x y z t = (r1, r2, r3) := ⟨_, _, _, rfl⟩
      rw [hO] at cO
      have HO := Lib.hid hO
      clear hO
      go_upto_region 5 with fail
      obtain ⟨Z, n, en, hnn, gen, ltn, bn, kn, ln⟩ := laid Y #[.int .i64 x, .int .i64 y, .int .i64 z, .int .i64 t] 55 q
      rw [en]
      simp only [hnn]
      have b0 := kn _ _ b0
      have b1 := kn _ _ b1
      have hB := ln _ hB
      clear en hnn
      have c_bn_0 : ∀ q, (gw Z q).cell? ⟨n, 0, none⟩ = some (.int .i64 x) := cell_gw (blk_cell bn 0 _ rfl)
      have c_bn_1 : ∀ q, (gw Z q).cell? ⟨n, 1, none⟩ = some (.int .i64 y) := cell_gw (blk_cell bn 1 _ rfl)
      have c_bn_2 : ∀ q, (gw Z q).cell? ⟨n, 2, none⟩ = some (.int .i64 z) := cell_gw (blk_cell bn 2 _ rfl)
      have c_bn_3 : ∀ q, (gw Z q).cell? ⟨n, 3, none⟩ = some (.int .i64 t) := cell_gw (blk_cell bn 3 _ rfl)
      have f_bn := blk_frozen bn
      have c_b0_0 : ∀ q, (gw Z q).cell? ⟨w.heap.size, 0, none⟩ = some (.int .i64 0) := cell_gw (blk_cell b0 0 _ rfl)
      have c_b0_1 : ∀ q, (gw Z q).cell? ⟨w.heap.size, 1, none⟩ = some (.int .i64 0) := cell_gw (blk_cell b0 1 _ rfl)
      have c_b0_2 : ∀ q, (gw Z q).cell? ⟨w.heap.size, 2, none⟩ = some (.int .i64 0) := cell_gw (blk_cell b0 2 _ rfl)
      have c_b0_3 : ∀ q, (gw Z q).cell? ⟨w.heap.size, 3, none⟩ = some (.int .i64 0) := cell_gw (blk_cell b0 3 _ rfl)
      have f_b0 := blk_frozen b0
      go_upto_region 6 with ((with_reducible refine (callsGw (cO _)).mono ?_); rintro e w1 ⟨rfl, q, rfl⟩)
      have hZb := blk_lt b1
      obtain ⟨V, m, em, hnm, gem, ltm, bm, km, lm⟩ := laid Z #[.int .i64 r1, .int .i64 r2] 23 q
      rw [em]
      simp only [hnm]
      have b0 := km _ _ b0
      have b1 := km _ _ b1
      have hB := lm _ hB
      clear em hnm
      have c_bm_0 : ∀ q, (gw V q).cell? ⟨m, 0, none⟩ = some (.int .i64 r1) := cell_gw (blk_cell bm 0 _ rfl)
      have c_bm_1 : ∀ q, (gw V q).cell? ⟨m, 1, none⟩ = some (.int .i64 r2) := cell_gw (blk_cell bm 1 _ rfl)
      have f_bm := blk_frozen bm
      have c_b0_0 : ∀ q, (gw V q).cell? ⟨w.heap.size, 0, none⟩ = some (.int .i64 0) := cell_gw (blk_cell b0 0 _ rfl)
      have c_b0_1 : ∀ q, (gw V q).cell? ⟨w.heap.size, 1, none⟩ = some (.int .i64 0) := cell_gw (blk_cell b0 1 _ rfl)
      have c_b0_2 : ∀ q, (gw V q).cell? ⟨w.heap.size, 2, none⟩ = some (.int .i64 0) := cell_gw (blk_cell b0 2 _ rfl)
      have c_b0_3 : ∀ q, (gw V q).cell? ⟨w.heap.size, 3, none⟩ = some (.int .i64 0) := cell_gw (blk_cell b0 3 _ rfl)
      have f_b0 := blk_frozen b0
      have f_b1 := blk_frozen b1
      by_cases he : r3 = 0
      · subst he
        have hk4 : k < 4 := by omega
        have d0 := cell_gw (blk_cell b1 (k * 2) _ (Array.getElem?_eq_getElem (show k * 2 < A.size by omega)))
        have d1 := cell_gw (blk_cell b1 (k * 2 + 1) _ (Array.getElem?_eq_getElem (show k * 2 + 1 < A.size by omega)))
        go_upto_region 9 with fail
        obtain ⟨V2, eV, sV, b1', kV, lV⟩ := storedP2 ⟨q.d, #[]⟩ b1 (k * 2) (k * 2 + 1) (.int .i64 r1) (.int .i64 r2) rfl
        rw [eV]
        have b0 := kV _ _ (by omega) b0
        have hB := lV _ (by omega) hB
        go_wp2_with fail
        go_roundw
        case rel =>
          refine ⟨k + 1, V2, _, _, by go_num, by omega, rfl, hB, b0, b1', by simpa using hA, Lib.hid (fun i hi => ?_)⟩
          by_cases hik : i = k
          · subst hik
            rw [Hxy.out]
            unfold opOn
            dsimp only
            rw [HO.out]
            refine ⟨rfl, ?_, ?_⟩
            · rw [Array.getElem?_setIfInBounds_ne (by omega), Array.getElem?_setIfInBounds_self_of_lt (by omega)]
            · rw [Array.getElem?_setIfInBounds_self_of_lt (by simp; omega)]
          · obtain ⟨i0, i1, i2⟩ := hI.out i (by omega)
            refine ⟨i0, ?_, ?_⟩
            · rw [Array.getElem?_setIfInBounds_ne (by omega), Array.getElem?_setIfInBounds_ne (by omega)]; exact i1
            · rw [Array.getElem?_setIfInBounds_ne (by omega), Array.getElem?_setIfInBounds_ne (by omega)]; exact i2
        case measure => simp [intOf]; omega
      · have he2 : (r3 == 0) = false := beq_eq_false_iff_ne.mpr he
        have eR : R = (0, 0, 0, 0, 5) := by
          rw [← HR.out]
          unfold M.extF
          rw [if_neg]
          intro h
          rw [List.all_eq_true] at h
          have hm : (x, y, z, t) ∈ ps := by
            rw [← Hxy.out, List.getD_eq_getElem?_getD, List.getElem?_eq_getElem (show k < ps.length by omega)]
            exact List.getElem_mem _
          have := h _ hm
          dsimp only at this
          rw [HO.out] at this
          exact he (by simpa using this)
        subst eR
        clear HR
        go_wp2_with fail
        refine bodyPost_ret (v := .tuple #[.agg #[.int .i64 0, .int .i64 0, .int .i64 0, .int .i64 0], .int .i64 5]) (by simp [results, Try.results55, go_sem, c_b0_0, c_b0_1, c_b0_2, c_b0_3]) rfl ⟨rfl, ?_⟩
        repeat (refine belowSet ?_ (by omega))
        exact below_gw hB _
    · have hke : k = N := by omega
      subst hke
      have f_b1 := blk_frozen b1
      let f : Int × Int × Int × Int → Int × Int := fun p => ((op p.1 p.2.1 p.2.2.1 p.2.2.2).1, (op p.1 p.2.1 p.2.2.1 p.2.2.2).2.1)
      have hlen : (ps.map f).length = k := by rw [List.length_map, hN]
      have hget : ∀ i, i < k → (ps.map f).getD i (0, 0) = f (ps.getD i (0, 0, 0, 0)) := by
        intro i hi
        rw [List.getD_eq_getElem?_getD, List.getD_eq_getElem?_getD, List.getElem?_map, List.getElem?_eq_getElem (show i < ps.length by omega)]
        rfl
      have cS := fun p => span_any (ps.map f) (w.heap.size + 1) 0 4 (gw Y p) (by omega) (by omega) (by omega) (by omega)
        (fun i hi => by
          have := (hI.out i (by omega)).2.1
          rw [hget i (by omega), Nat.zero_add]
          exact cell_gw (blk_cell b1 _ _ this) p)
        (fun i hi => by
          have := (hI.out i (by omega)).2.2
          rw [hget i (by omega), Nat.zero_add]
          exact cell_gw (blk_cell b1 _ _ this) p)
      rw [hlen] at cS
      obtain ⟨S, hSp⟩ : ∃ S, M.spanF (ps.map f) = S := ⟨_, rfl⟩
      rw [hSp] at cS
      have eR : R = (S.1, S.2.1, S.2.2.1, S.2.2.2, 0) := by
        rw [← HR.out, ← hSp]
        unfold M.extF
        rw [if_pos]
        rw [List.all_eq_true]
        intro x hx
        obtain ⟨i, hi, hx2⟩ := List.getElem_of_mem hx
        have := (hI.out i (by omega)).1
        rw [List.getD_eq_getElem?_getD, List.getElem?_eq_getElem hi] at this
        simp only [Option.getD_some, hx2] at this
        simpa [opOn] using this
      subst eR
      clear HR
      have hk46 : k ≤ 70368744177664 := by omega
      clear hget hlen hSp f hI H0 H1 H2 H3
      have eSl : ∀ w' : World, Sem.run Try.prog (Instr.sliceAt 76 (.pointer (some ⟨w.heap.size + 1, 0, none⟩)) none (some (.int .i64 k)) none) w' = .ok (.slice (some ⟨w.heap.size + 1, 0, none⟩) k 4) w' := slice4 _ hn
      go_wp2_with (go_at_call 43; with_reducible refine (callsGw (cS _)).mono ?_; rintro e w1 ⟨rfl, q, rfl⟩)
      refine bodyPost_ret (v := .tuple #[.agg #[.int .i64 S.1, .int .i64 S.2.1, .int .i64 S.2.2.1, .int .i64 S.2.2.2], .int .i64 0]) (by simp [results, Try.results55, go_sem, c_b0_0, c_b0_1, c_b0_2, c_b0_3]) rfl ⟨rfl, ?_⟩
      repeat (refine belowSet ?_ (by omega))
      exact below_gw hB _
end Go.Proofs.Ytimdklineeeieaa
