/- The reference's intervals: Of. -/
import Derived.Test.YtimdklineeeieaaR10
import Derived.Test.YtimdklineeeieaaK5
namespace Go.Proofs.Ytimdklineeeieaa
open Go.RowKit Go.Sort
set_option linter.unusedVariables false
def OfRel (op : Int → Int → Int → Int → Int × Int × Int) (ps : List (Int × Int × Int × Int)) (A : Array Value) (n m N : Nat) (w : World) (v : Value) (wr : World) : Prop :=
  ∃ (i : Nat) (Y : World) (st : Int × Int × Int × Int) (q : Regrown), v = .int .i64 i ∧ i ≤ N ∧ wr = gw Y q ∧ Below w.heap.size w Y ∧ Y.heap[w.heap.size + 1 + 1]? = some (.cells #[.int .i64 0, .int .i64 0, .int .i64 0, .int .i64 0] 25) ∧
        Y.heap[n]? = some (.cells A 25) ∧ Y.heap[m]? = some (.cells #[.int .i64 st.1, .int .i64 st.2.1, .int .i64 st.2.2.1, .int .i64 st.2.2.2] 25) ∧ Hid (M.outAt (ps.map (fun p => ((opOn op p).1, (opOn op p).2.1))) i = st) ∧
        Hid (∀ j, j < i → (opOn op (ps.getD j (0, 0, 0, 0))).2.2 = 0)
set_option maxRecDepth 100000 in
set_option maxHeartbeats 8000000 in
theorem of_core (k : Int) (op : Int → Int → Int → Int → Int × Int × Int) (a b c d e f g h : Int) (ps : List (Int × Int × Int × Int)) (A : Array Value) (hn0 : 1 ≤ ps.length) (hn : ps.length ≤ 4)
    (hD : ∀ (x y z t : Int) (w : World), Calls Try.prog 24 #[.int .i64 k, .agg #[.int .i64 x, .int .i64 y], .agg #[.int .i64 z, .int .i64 t]] w fun r w' => r = .returned (.tuple #[.agg #[.int .i64 (op x y z t).1, .int .i64 (op x y z t).2.1], .int .i64 (op x y z t).2.2]) ∧ Below w.heap.size w w')
    (hE : ∀ w : World, Calls Try.prog 50 #[.int .i64 k, .agg #[.int .i64 a, .int .i64 b, .int .i64 c, .int .i64 d], .agg #[.int .i64 e, .int .i64 f, .int .i64 g, .int .i64 h]] w fun x w' => ∃ n, x = .returned (.slice (some ⟨n, 0, none⟩) ps.length ps.length) ∧ Below w.heap.size w w' ∧ w.heap.size ≤ n ∧ w'.heap[n]? = some (.cells A 25))
    (hA : ∀ i, i < ps.length → A[i * 4]? = some (.int .i64 (ps.getD i (0, 0, 0, 0)).1) ∧ A[i * 4 + 1]? = some (.int .i64 (ps.getD i (0, 0, 0, 0)).2.1) ∧ A[i * 4 + 2]? = some (.int .i64 (ps.getD i (0, 0, 0, 0)).2.2.1) ∧ A[i * 4 + 3]? = some (.int .i64 (ps.getD i (0, 0, 0, 0)).2.2.2))
    (v1 v2 v3 v4 : Bool) (h1 : M.ivld a b c d = v1) (h2 : M.ivld e f g h = v2) (h3 : (k == 5) = v3) (h4 : (e == 0) = v4) (w : World) :
    Calls Try.prog 23 #[.int .i64 k, .agg #[.int .i64 a, .int .i64 b, .int .i64 c, .int .i64 d], .agg #[.int .i64 e, .int .i64 f, .int .i64 g, .int .i64 h]] w fun x w' => x = .returned (.tuple #[.agg #[.int .i64 (if (v1 && v2 && !(v3 && v4)) = true then M.extF op ps else (0, 0, 0, 0, 1)).1, .int .i64 (if (v1 && v2 && !(v3 && v4)) = true then M.extF op ps else (0, 0, 0, 0, 1)).2.1, .int .i64 (if (v1 && v2 && !(v3 && v4)) = true then M.extF op ps else (0, 0, 0, 0, 1)).2.2.1, .int .i64 (if (v1 && v2 && !(v3 && v4)) = true then M.extF op ps else (0, 0, 0, 0, 1)).2.2.2.1], .int .i64 (if (v1 && v2 && !(v3 && v4)) = true then M.extF op ps else (0, 0, 0, 0, 1)).2.2.2.2]) ∧ Below w.heap.size w w' := by
  obtain ⟨W, hW, hB, hS, b0, b1, b2⟩ := lay3 w #[.int .i64 a, .int .i64 b, .int .i64 c, .int .i64 d] 25 #[.int .i64 e, .int .i64 f, .int .i64 g, .int .i64 h] 25 #[.int .i64 0, .int .i64 0, .int .i64 0, .int .i64 0] 25
  obtain ⟨p0, hp0⟩ := gw_start W
  have HW := Lib.hid (hW.trans hp0)
  clear hW hp0
  have c_b0_0 : ∀ q, (gw W q).cell? ⟨w.heap.size, 0, none⟩ = some (.int .i64 a) := cell_gw (blk_cell b0 0 _ rfl)
  have c_b0_1 : ∀ q, (gw W q).cell? ⟨w.heap.size, 1, none⟩ = some (.int .i64 b) := cell_gw (blk_cell b0 1 _ rfl)
  have c_b0_2 : ∀ q, (gw W q).cell? ⟨w.heap.size, 2, none⟩ = some (.int .i64 c) := cell_gw (blk_cell b0 2 _ rfl)
  have c_b0_3 : ∀ q, (gw W q).cell? ⟨w.heap.size, 3, none⟩ = some (.int .i64 d) := cell_gw (blk_cell b0 3 _ rfl)
  have f_b0 := blk_frozen b0
  have c_b1_0 : ∀ q, (gw W q).cell? ⟨w.heap.size + 1, 0, none⟩ = some (.int .i64 e) := cell_gw (blk_cell b1 0 _ rfl)
  have c_b1_1 : ∀ q, (gw W q).cell? ⟨w.heap.size + 1, 1, none⟩ = some (.int .i64 f) := cell_gw (blk_cell b1 1 _ rfl)
  have c_b1_2 : ∀ q, (gw W q).cell? ⟨w.heap.size + 1, 2, none⟩ = some (.int .i64 g) := cell_gw (blk_cell b1 2 _ rfl)
  have c_b1_3 : ∀ q, (gw W q).cell? ⟨w.heap.size + 1, 3, none⟩ = some (.int .i64 h) := cell_gw (blk_cell b1 3 _ rfl)
  have f_b1 := blk_frozen b1
  have c_b2_0 : ∀ q, (gw W q).cell? ⟨w.heap.size + 1 + 1, 0, none⟩ = some (.int .i64 0) := cell_gw (blk_cell b2 0 _ rfl)
  have c_b2_1 : ∀ q, (gw W q).cell? ⟨w.heap.size + 1 + 1, 1, none⟩ = some (.int .i64 0) := cell_gw (blk_cell b2 1 _ rfl)
  have c_b2_2 : ∀ q, (gw W q).cell? ⟨w.heap.size + 1 + 1, 2, none⟩ = some (.int .i64 0) := cell_gw (blk_cell b2 2 _ rfl)
  have c_b2_3 : ∀ q, (gw W q).cell? ⟨w.heap.size + 1 + 1, 3, none⟩ = some (.int .i64 0) := cell_gw (blk_cell b2 3 _ rfl)
  have f_b2 := blk_frozen b2
  have cV := fun w => rivalid_any a b c d w
  have cW := fun w => rivalid_any e f g h w
  rw [h1] at cV
  rw [h2] at cW
  by_cases hv : (v1 && v2 && !(v3 && v4)) = true
  · rw [if_pos hv]
    obtain ⟨rfl, rfl, hv34⟩ : v1 = true ∧ v2 = true ∧ (v3 && v4) = false := by
      cases v1 <;> cases v2 <;> simp at hv ⊢ <;> cases v3 <;> simp_all
    have H1 := Lib.hid h1
    have H2 := Lib.hid h2
    have HA := Lib.hid hA
    obtain ⟨N, hN⟩ : ∃ N, ps.length = N := ⟨_, rfl⟩
    rw [hN] at hE hn hn0
    have HN := Lib.hid hN
    obtain ⟨R, hR⟩ : ∃ R, M.extF op ps = R := ⟨_, rfl⟩
    rw [hR]
    have HR := Lib.hid hR
    clear hv h1 h2 hA hN hR
    cases v3 <;> cases v4
    case true.true => cases hv34
    all_goals
      go_enter Try.func23, Try.ntmps23
      go_wp2_with fail
      rw [HW.out]
      go_upto_region 4 with (first | (go_at_call 12; with_reducible refine (callsGw (cV _)).mono ?_; rintro e w1 ⟨rfl, q, rfl⟩) | (go_at_call 12; with_reducible refine (callsGw (cW _)).mono ?_; rintro e w1 ⟨rfl, q, rfl⟩) | (go_at_call 50; (with_reducible refine (hE _).mono ?_); rintro r w1 ⟨n, rfl, hbE, hnE, hblk⟩))
      have b2 := blk_below (block_gw b2 q) hbE
      have hB := belowThen (below_gw hB q) hbE
      obtain ⟨p1, hp1⟩ := gw_start w1
      have HP1 := Lib.hid hp1
      clear hp1 c_b0_0 c_b0_1 c_b0_2 c_b0_3 f_b0 c_b1_0 c_b1_1 c_b1_2 c_b1_3 f_b1 c_b2_0 c_b2_1 c_b2_2 c_b2_3 f_b2 HW
      rw [HP1.out]
      have hlt2 := blk_lt b2
      have hltn := blk_lt hblk
      go_wp2_with fail
      obtain ⟨Y, m, em, hnm, gem, ltm, bm, km, lm⟩ := laid w1 #[.int .i64 0, .int .i64 0, .int .i64 0, .int .i64 0] 25 p1
      rw [em]
      simp only [hnm]
      have b2 := km _ _ b2
      have hblk := km _ _ hblk
      have hB := lm _ hB
      clear em hnm
      have c_bm_0 : ∀ q, (gw Y q).cell? ⟨m, 0, none⟩ = some (.int .i64 0) := cell_gw (blk_cell bm 0 _ rfl)
      have c_bm_1 : ∀ q, (gw Y q).cell? ⟨m, 1, none⟩ = some (.int .i64 0) := cell_gw (blk_cell bm 1 _ rfl)
      have c_bm_2 : ∀ q, (gw Y q).cell? ⟨m, 2, none⟩ = some (.int .i64 0) := cell_gw (blk_cell bm 2 _ rfl)
      have c_bm_3 : ∀ q, (gw Y q).cell? ⟨m, 3, none⟩ = some (.int .i64 0) := cell_gw (blk_cell bm 3 _ rfl)
      have f_bm := blk_frozen bm
      go_loopw [10] (OfRel op ps A n m N w) (fun v _ => N - (intOf v).toNat)
      case atStart => exact ⟨0, Y, (0, 0, 0, 0), _, rfl, Nat.zero_le _, rfl, hB, b2, hblk, bm, Lib.hid rfl, Lib.hid (fun j hj => by omega)⟩
      case round =>
        clear b2 hblk bm hB c_bm_0 c_bm_1 c_bm_2 c_bm_3 f_bm HP1 cV cW hE
        obtain ⟨i, Y, st, q, rfl, hi, rfl, hB, b2, bn, bm, hst, hz⟩ := hrel
        have c_b2_0 : ∀ q, (gw Y q).cell? ⟨w.heap.size + 1 + 1, 0, none⟩ = some (.int .i64 0) := cell_gw (blk_cell b2 0 _ rfl)
        have c_b2_1 : ∀ q, (gw Y q).cell? ⟨w.heap.size + 1 + 1, 1, none⟩ = some (.int .i64 0) := cell_gw (blk_cell b2 1 _ rfl)
        have c_b2_2 : ∀ q, (gw Y q).cell? ⟨w.heap.size + 1 + 1, 2, none⟩ = some (.int .i64 0) := cell_gw (blk_cell b2 2 _ rfl)
        have c_b2_3 : ∀ q, (gw Y q).cell? ⟨w.heap.size + 1 + 1, 3, none⟩ = some (.int .i64 0) := cell_gw (blk_cell b2 3 _ rfl)
        have f_b2 := blk_frozen b2
        have c_bm_0 : ∀ q, (gw Y q).cell? ⟨m, 0, none⟩ = some (.int .i64 st.1) := cell_gw (blk_cell bm 0 _ rfl)
        have c_bm_1 : ∀ q, (gw Y q).cell? ⟨m, 1, none⟩ = some (.int .i64 st.2.1) := cell_gw (blk_cell bm 1 _ rfl)
        have c_bm_2 : ∀ q, (gw Y q).cell? ⟨m, 2, none⟩ = some (.int .i64 st.2.2.1) := cell_gw (blk_cell bm 2 _ rfl)
        have c_bm_3 : ∀ q, (gw Y q).cell? ⟨m, 3, none⟩ = some (.int .i64 st.2.2.2) := cell_gw (blk_cell bm 3 _ rfl)
        have f_bm := blk_frozen bm
        by_cases hlt : i < N
        · obtain ⟨x, y, z, t, hxy⟩ : ∃ x y z t, ps.getD i (0, 0, 0, 0) = (x, y, z, t) := ⟨_, _, _, _, rfl⟩
          obtain ⟨a0, a1, a2, a3⟩ := HA.out i (by have := HN.out; omega)
          rw [hxy] at a0 a1 a2 a3
          have l0 := cell_gw (blk_cell bn _ _ a0)
          have l1 := cell_gw (blk_cell bn _ _ a1)
          have l2 := cell_gw (blk_cell bn _ _ a2)
          have l3 := cell_gw (blk_cell bn _ _ a3)
          have Hxy := Lib.hid hxy
          have cO := fun w => hD x y z t w
          obtain ⟨r1, r2, r3, hO⟩ : ∃ r1 r2 r3, op x y z t = (r1, r2, r3) := ⟨_, _, _, rfl⟩
          rw [hO] at cO
          have HO := Lib.hid hO
          have hlen : i < N := hlt
          clear hxy hO a0 a1 a2 a3
          have z2 := blk_lt b2
          have zn := blk_lt bn
          have zm := blk_lt bm
          have zw := hB.size
          go_wp2_with fail
          refine wp_alo1L 15 2 [14] #[.int .i64 0, .int .i64 0] 23 11 (by kernel_rfl) ⟨_, rfl, rfl, rfl, fun _ _ => by kernel_rfl⟩ rfl (by kernel_rfl) (by kernel_rfl) (fun l hl o ho a w w' v h => by (obtain rfl : l = 14 := by simpa using hl); cases ho; exact pure_extract rfl a w w' v h) (fun _ d _ _ _ h => by cases d <;> exact h) ?_
          simp only [List.take_succ_cons, List.take_zero, List.drop_succ_cons, List.drop_zero]
          repeat (refine wpQb_step (fun K hK => ?_); go_simp; first | (refine hK _ ?_; clear hK K) | (apply Exists.intro; refine ⟨fun _ => ?_, hK _ ?_⟩; ((go_at_call 24; with_reducible exact cO _)); clear hK K))
          refine wpQb_nil ?_
          intro g X hKX hBX hg hge q
          have b2 := hKX _ _ b2
          have bn := hKX _ _ bn
          have bm := hKX _ _ bm
          have hB := hBX _ hB
          have c_hg_0 : ∀ q, (gw X q).cell? ⟨g, 0, none⟩ = some (.int .i64 0) := cell_gw (blk_cell hg 0 _ rfl)
          have c_hg_1 : ∀ q, (gw X q).cell? ⟨g, 1, none⟩ = some (.int .i64 0) := cell_gw (blk_cell hg 1 _ rfl)
          have f_hg := blk_frozen hg
          have hgm := blk_lt bm
          clear hKX hBX
          go_upto_region 9 with fail
          obtain ⟨V, eV, sV, nb, kV, lV⟩ := storedS2 q hg (.int .i64 r1) (.int .i64 r2)
          rw [eV]
          have b2 := kV _ _ (by omega) b2
          have bn := kV _ _ (by omega) bn
          have bm := kV _ _ (by omega) bm
          have hB := lV _ (by omega) hB
          have hg := nb
          clear nb
          have c_hg_0 : ∀ q, (gw V q).cell? ⟨g, 0, none⟩ = some (.int .i64 r1) := cell_gw (blk_cell hg 0 _ rfl)
          have c_hg_1 : ∀ q, (gw V q).cell? ⟨g, 1, none⟩ = some (.int .i64 r2) := cell_gw (blk_cell hg 1 _ rfl)
          have f_hg := blk_frozen hg
          have c_b2_0 : ∀ q, (gw V q).cell? ⟨w.heap.size + 1 + 1, 0, none⟩ = some (.int .i64 0) := cell_gw (blk_cell b2 0 _ rfl)
          have c_b2_1 : ∀ q, (gw V q).cell? ⟨w.heap.size + 1 + 1, 1, none⟩ = some (.int .i64 0) := cell_gw (blk_cell b2 1 _ rfl)
          have c_b2_2 : ∀ q, (gw V q).cell? ⟨w.heap.size + 1 + 1, 2, none⟩ = some (.int .i64 0) := cell_gw (blk_cell b2 2 _ rfl)
          have c_b2_3 : ∀ q, (gw V q).cell? ⟨w.heap.size + 1 + 1, 3, none⟩ = some (.int .i64 0) := cell_gw (blk_cell b2 3 _ rfl)
          have f_b2 := blk_frozen b2
          have c_bm_0 : ∀ q, (gw V q).cell? ⟨m, 0, none⟩ = some (.int .i64 st.1) := cell_gw (blk_cell bm 0 _ rfl)
          have c_bm_1 : ∀ q, (gw V q).cell? ⟨m, 1, none⟩ = some (.int .i64 st.2.1) := cell_gw (blk_cell bm 1 _ rfl)
          have c_bm_2 : ∀ q, (gw V q).cell? ⟨m, 2, none⟩ = some (.int .i64 st.2.2.1) := cell_gw (blk_cell bm 2 _ rfl)
          have c_bm_3 : ∀ q, (gw V q).cell? ⟨m, 3, none⟩ = some (.int .i64 st.2.2.2) := cell_gw (blk_cell bm 3 _ rfl)
          have f_bm := blk_frozen bm
          by_cases he : r3 = 0
          · subst he
            have hgm : g ≠ m := by omega
            have rel : ∀ (V2 : World) (q2 : Regrown) (s1 s2 s3 s4 : Int), M.outAt (ps.map (fun p => ((opOn op p).1, (opOn op p).2.1))) (i + 1) = (s1, s2, s3, s4) → Below w.heap.size w V2 → V2.heap[w.heap.size + 1 + 1]? = some (.cells #[.int .i64 0, .int .i64 0, .int .i64 0, .int .i64 0] 25) →
                V2.heap[n]? = some (.cells A 25) → V2.heap[m]? = some (.cells #[.int .i64 s1, .int .i64 s2, .int .i64 s3, .int .i64 s4] 25) → OfRel op ps A n m N w (.int .i64 ((i + 1 : Nat) : Int)) (gw V2 q2) := by
              intro V2 q2 s1 s2 s3 s4 h1 h2 h3 h4 h5
              refine ⟨i + 1, V2, (s1, s2, s3, s4), q2, rfl, by omega, rfl, h2, h3, h4, h5, Lib.hid h1, Lib.hid (fun j hj => ?_)⟩
              by_cases hji : j = i
              · subst hji; rw [Hxy.out]; unfold opOn; dsimp only; rw [HO.out]
              · exact hz.out j (by omega)
            have hmap : (ps.map (fun p => ((opOn op p).1, (opOn op p).2.1))).getD i (0, 0) = (r1, r2) := by
              rw [List.getD_eq_getElem?_getD, List.getElem?_map, List.getElem?_eq_getElem (show i < ps.length by rw [HN.out]; exact hlen)]
              have := Hxy.out
              rw [List.getD_eq_getElem?_getD, List.getElem?_eq_getElem (show i < ps.length by rw [HN.out]; exact hlen)] at this
              simp only [Option.getD_some] at this
              simp only [Option.map_some, Option.getD_some, this, opOn, HO.out]
            have hlm : (ps.map (fun p => ((opOn op p).1, (opOn op p).2.1))).length = N := by rw [List.length_map, HN.out]
            have Hrel := Lib.hid rel
            have Hmap := Lib.hid hmap
            have Hlm := Lib.hid hlm
            clear rel hmap hlm
            by_cases h0 : i = 0
            · have h00 : ((i : Int) == 0) = true := by simp [h0]
              have Hi := Lib.hid h0
              clear h0
              have cL := fun w => rlessr_any r1 r2 r1 r2 w
              have cM := fun w => rmorer_any r1 r2 r1 r2 w
              rw [M.lessr_self] at cL
              rw [M.morer_self] at cM
              go_upto_region 13 with fail
              obtain ⟨U, eU, sU, nb, kU, lU⟩ := storedS4 q bm (.int .i64 r1) (.int .i64 r2) (.int .i64 r1) (.int .i64 r2)
              rw [eU]
              have b2 := kU _ _ (by omega) b2
              have bn := kU _ _ (by omega) bn
              have hg := kU _ _ (by omega) hg
              have hB := lU _ (by omega) hB
              have bm := nb
              clear nb
              have c_bm_0 : ∀ q, (gw U q).cell? ⟨m, 0, none⟩ = some (.int .i64 r1) := cell_gw (blk_cell bm 0 _ rfl)
              have c_bm_1 : ∀ q, (gw U q).cell? ⟨m, 1, none⟩ = some (.int .i64 r2) := cell_gw (blk_cell bm 1 _ rfl)
              have c_bm_2 : ∀ q, (gw U q).cell? ⟨m, 2, none⟩ = some (.int .i64 r1) := cell_gw (blk_cell bm 2 _ rfl)
              have c_bm_3 : ∀ q, (gw U q).cell? ⟨m, 3, none⟩ = some (.int .i64 r2) := cell_gw (blk_cell bm 3 _ rfl)
              have f_bm := blk_frozen bm
              have c_hg_0 : ∀ q, (gw U q).cell? ⟨g, 0, none⟩ = some (.int .i64 r1) := cell_gw (blk_cell hg 0 _ rfl)
              have c_hg_1 : ∀ q, (gw U q).cell? ⟨g, 1, none⟩ = some (.int .i64 r2) := cell_gw (blk_cell hg 1 _ rfl)
              have f_hg := blk_frozen hg
              refine wp_alo0 9 1 (by kernel_rfl) rfl (by kernel_rfl) (by kernel_rfl) ?_
              simp only [List.take_succ_cons, List.take_zero, List.drop_succ_cons, List.drop_zero]
              repeat (refine wpQb_step (fun K hK => ?_); go_simp; first | (refine hK _ ?_; clear hK K) | (apply Exists.intro; refine ⟨fun _ => ?_, hK _ ?_⟩; (first | (go_at_call 46; with_reducible exact cL _) | (go_at_call 47; with_reducible exact cM _)); clear hK K))
              refine wpQb_nil ?_
              intro q
              go_upto_region 7 with fail
              obtain ⟨T, eT, sT, nb, kT, lT⟩ := storedS4 q bm (.int .i64 r1) (.int .i64 r2) (.int .i64 r1) (.int .i64 r2)
              rw [eT]
              have b2 := kT _ _ (by omega) b2
              have bn := kT _ _ (by omega) bn
              have hB := lT _ (by omega) hB
              have bm := nb
              clear nb
              have c_bm_0 : ∀ q, (gw T q).cell? ⟨m, 0, none⟩ = some (.int .i64 r1) := cell_gw (blk_cell bm 0 _ rfl)
              have c_bm_1 : ∀ q, (gw T q).cell? ⟨m, 1, none⟩ = some (.int .i64 r2) := cell_gw (blk_cell bm 1 _ rfl)
              have c_bm_2 : ∀ q, (gw T q).cell? ⟨m, 2, none⟩ = some (.int .i64 r1) := cell_gw (blk_cell bm 2 _ rfl)
              have c_bm_3 : ∀ q, (gw T q).cell? ⟨m, 3, none⟩ = some (.int .i64 r2) := cell_gw (blk_cell bm 3 _ rfl)
              have f_bm := blk_frozen bm
              go_wp2_with fail
              go_roundw
              case rel => exact Hrel.out T _ r1 r2 r1 r2 (by have := Hi.out; subst this; rw [M.outAt_one (by rw [Hlm.out]; omega), Hmap.out]) hB b2 bn bm
              case measure => simp [intOf]; omega
            · have h00 : ((i : Int) == 0) = false := by simp [h0]
              have h1i : 1 ≤ i := by omega
              clear h0
              have cL := fun w => rlessr_any st.1 st.2.1 r1 r2 w
              have cM := fun w => rmorer_any st.2.2.1 st.2.2.2 r1 r2 w
              have hsp : M.outAt (ps.map (fun p => ((opOn op p).1, (opOn op p).2.1))) (i + 1) = ((M.lessr st.1 st.2.1 r1 r2).1, (M.lessr st.1 st.2.1 r1 r2).2.1, (M.morer st.2.2.1 st.2.2.2 r1 r2).1, (M.morer st.2.2.1 st.2.2.2 r1 r2).2.1) := by
                rw [M.outAt_succ h1i (by rw [Hlm.out]; exact hlen), hst.out, Hmap.out]; rfl
              have Hsp := Lib.hid hsp
              clear hsp
              generalize M.lessr st.1 st.2.1 r1 r2 = L at cL Hsp
              generalize M.morer st.2.2.1 st.2.2.2 r1 r2 = R at cM Hsp
              go_upto_region 13 with fail
              refine wp_alo0 9 1 (by kernel_rfl) rfl (by kernel_rfl) (by kernel_rfl) ?_
              simp only [List.take_succ_cons, List.take_zero, List.drop_succ_cons, List.drop_zero]
              repeat (refine wpQb_step (fun K hK => ?_); go_simp; first | (refine hK _ ?_; clear hK K) | (apply Exists.intro; refine ⟨fun _ => ?_, hK _ ?_⟩; (first | (go_at_call 46; with_reducible exact cL _) | (go_at_call 47; with_reducible exact cM _)); clear hK K))
              refine wpQb_nil ?_
              intro q
              go_upto_region 7 with fail
              obtain ⟨T, eT, sT, nb, kT, lT⟩ := storedS4 q bm (.int .i64 L.1) (.int .i64 L.2.1) (.int .i64 R.1) (.int .i64 R.2.1)
              rw [eT]
              have b2 := kT _ _ (by omega) b2
              have bn := kT _ _ (by omega) bn
              have hB := lT _ (by omega) hB
              have bm := nb
              clear nb
              have c_bm_0 : ∀ q, (gw T q).cell? ⟨m, 0, none⟩ = some (.int .i64 L.1) := cell_gw (blk_cell bm 0 _ rfl)
              have c_bm_1 : ∀ q, (gw T q).cell? ⟨m, 1, none⟩ = some (.int .i64 L.2.1) := cell_gw (blk_cell bm 1 _ rfl)
              have c_bm_2 : ∀ q, (gw T q).cell? ⟨m, 2, none⟩ = some (.int .i64 R.1) := cell_gw (blk_cell bm 2 _ rfl)
              have c_bm_3 : ∀ q, (gw T q).cell? ⟨m, 3, none⟩ = some (.int .i64 R.2.1) := cell_gw (blk_cell bm 3 _ rfl)
              have f_bm := blk_frozen bm
              go_wp2_with fail
              go_roundw
              case rel => exact Hrel.out T _ _ _ _ _ Hsp.out hB b2 bn bm
              case measure => simp [intOf]; omega
          · have he2 : (r3 == 0) = false := beq_eq_false_iff_ne.mpr he
            have eR : R = (0, 0, 0, 0, 5) := by
              rw [← HR.out]
              unfold M.extF
              rw [if_neg]
              intro h
              rw [List.all_eq_true] at h
              have hm : (x, y, z, t) ∈ ps := by
                rw [← Hxy.out, List.getD_eq_getElem?_getD, List.getElem?_eq_getElem (show i < ps.length by rw [HN.out]; exact hlen)]
                exact List.getElem_mem _
              have := h _ hm
              dsimp only at this
              rw [HO.out] at this
              exact he (by simpa using this)
            subst eR
            clear HR
            go_wp2_with fail
            refine bodyPost_ret (v := .tuple #[.agg #[.int .i64 0, .int .i64 0, .int .i64 0, .int .i64 0], .int .i64 5]) (by simp [results, Try.results23, go_sem, c_b2_0, c_b2_1, c_b2_2, c_b2_3]) rfl ⟨rfl, ?_⟩
            repeat (refine belowSet ?_ (by omega))
            exact below_gw hB _
        · have hie : i = N := by omega
          subst hie
          have eR : R = (st.1, st.2.1, st.2.2.1, st.2.2.2, 0) := by
            rw [← HR.out, ← hst.out]
            unfold M.extF M.outAt
            rw [if_pos, if_neg (by omega), List.take_of_length_le (by rw [List.length_map, HN.out]; omega)]
            · rfl
            · rw [List.all_eq_true]
              intro x hx
              obtain ⟨j, hj, hx2⟩ := List.getElem_of_mem hx
              have := hz.out j (by have := HN.out; omega)
              rw [List.getD_eq_getElem?_getD, List.getElem?_eq_getElem hj] at this
              simp only [Option.getD_some, hx2] at this
              simpa [opOn] using this
          subst eR
          clear HR hst hz
          go_wp2_with fail
          refine bodyPost_ret (v := .tuple #[.agg #[.int .i64 st.1, .int .i64 st.2.1, .int .i64 st.2.2.1, .int .i64 st.2.2.2], .int .i64 0]) (by simp [results, Try.results23, go_sem, c_b2_0, c_b2_1, c_b2_2, c_b2_3]) rfl ⟨rfl, ?_⟩
          repeat (refine belowSet ?_ (by omega))
          exact below_gw hB _
  · rw [if_neg hv]
    have Hv := Lib.hid hv
    have H1 := Lib.hid h1
    have H2 := Lib.hid h2
    clear hv h1 h2 hA hn0 hn
    cases v1 <;> cases v2 <;> cases v3 <;> cases v4
    any_goals
      go_enter Try.func23, Try.ntmps23
      go_wp2_with fail
      rw [HW.out]
      go_wp2_with (first | (go_at_call 12; with_reducible refine (callsGw (cV _)).mono ?_; rintro e w1 ⟨rfl, q, rfl⟩) | (go_at_call 12; with_reducible refine (callsGw (cW _)).mono ?_; rintro e w1 ⟨rfl, q, rfl⟩))
      refine bodyPost_ret (v := .tuple #[.agg #[.int .i64 0, .int .i64 0, .int .i64 0, .int .i64 0], .int .i64 1]) (by simp [results, Try.results23, go_sem, c_b2_0, c_b2_1, c_b2_2, c_b2_3]) rfl ⟨rfl, ?_⟩
      repeat (refine belowSet ?_ (by omega))
      exact below_gw hB _
    all_goals exact absurd Hv.out (by simp)
end Go.Proofs.Ytimdklineeeieaa
