/- Package fraction: Mul. -/
import Derived.Test.YthieengihbbnpaaDoorH5
import Derived.Test.YthieengihbbnpaaDoorK3
import Derived.Test.YthieengihbbnpaaDoorM5
import Derived.Deep.DeepCutAuto
namespace Go.Proofs.YthieengihbbnpaaDoor
open Go.RowKit Go.Sort
set_option linter.unusedVariables false
theorem allValid2 (a b c d : Int) (g n : Nat) (w : World) (h0 : w.cell? ⟨g, 0, none⟩ = some (.int .i64 a)) (h1 : w.cell? ⟨g, 1, none⟩ = some (.int .i64 b)) (h2 : w.cell? ⟨g, 2, none⟩ = some (.int .i64 c)) (h3 : w.cell? ⟨g, 3, none⟩ = some (.int .i64 d)) :
    Calls Tryd.prog 56 #[.slice (some ⟨g, 0, none⟩) 2 n] w fun e w' => e = .returned (.bool (M.vld a b && M.vld c d)) ∧ Below w.heap.size w w' := by
  have h := allValid_walk [(a, b), (c, d)] g 0 n w (by simp)
    (fun i hi => by
      rcases i with _ | _ | i
      · exact h0
      · exact h2
      · simp at hi; omega)
    (fun i hi => by
      rcases i with _ | _ | i
      · exact h1
      · exact h3
      · simp at hi; omega)
  simpa using h

set_option maxHeartbeats 4000000 in
theorem mul_walk (a b c d : Int) (w : World) (v1 : M.vld a b = true) (v2 : M.vld c d = true) :
    Calls Tryd.prog 21 #[.agg #[.int .i64 a, .int .i64 b], .agg #[.int .i64 c, .int .i64 d]] w fun e w' => e = .returned (.tuple #[.agg #[.int .i64 (M.mulF a b c d).1, .int .i64 (M.mulF a b c d).2.1], .int .i64 (M.mulF a b c d).2.2]) ∧ Below w.heap.size w w' := by
  obtain ⟨W, hW, hB, hS, hA, hC, hR, hD, hK⟩ := boxed4 w #[.int .i64 a, .int .i64 b] #[.int .i64 c, .int .i64 d] #[.int .i64 0, .int .i64 0] #[.int .i64 a, .int .i64 b, .int .i64 c, .int .i64 d] 27 27 27 27
  have kA0 := cell_gw (hA 0 _ rfl)
  have kA1 := cell_gw (hA 1 _ rfl)
  have kC0 := cell_gw (hC 0 _ rfl)
  have kC1 := cell_gw (hC 1 _ rfl)
  have kR0 := cell_gw (hR 0 _ rfl)
  have kR1 := cell_gw (hR 1 _ rfl)
  obtain ⟨p0, hp0⟩ := gw_start W
  have HW := Lib.hid (hW.trans hp0)
  have HS := Lib.hid hS
  have cV := fun p => callsGw (allValid2 a b c d _ 2 (gw W p) (cell_gw (hD 0 _ rfl) p) (cell_gw (hD 1 _ rfl) p) (cell_gw (hD 2 _ rfl) p) (cell_gw (hD 3 _ rfl) p))
  rw [v1, v2] at cV
  clear hW hp0 hA hC hR hD hS
  have cS := fun p (x : Int) h1 h2 => callsGw (quietBelow (size_any x h1 h2 (gw W p)))
  have cG := fun p (x y : Int) h1 h2 h3 h4 => callsGw (drawnBelow (gcd_any x y h1 h2 h3 h4 (gw W p)))
  obtain ⟨a1, a2, a3, a4, _⟩ := M.vld_of v1
  obtain ⟨c1, c2, c3, c4, _⟩ := M.vld_of v2
  have ha0 := M.absI_nonneg a
  have ha1 : M.absI a ≤ 1000000000000000000 := by unfold M.absI; omega
  have hc0 := M.absI_nonneg c
  have hc1 : M.absI c ≤ 1000000000000000000 := by unfold M.absI; omega
  have eb : IntKind.u64.wrap b = b := by rw [M.wrapU]; omega
  have ed : IntKind.u64.wrap d = d := by rw [M.wrapU]; omega
  obtain ⟨R, hR0⟩ : ∃ R, M.mulF a b c d = R := ⟨_, rfl⟩
  rw [hR0]
  have HR := Lib.hid hR0
  clear hR0
  go_enter Tryd.func21, Tryd.ntmps21
  go_wp2_with fail
  rw [HW.out]
  refine (cV p0).mono ?_
  rintro e w1 ⟨rfl, p1, rfl⟩
  go_wp2_with fail
  refine wp_gw p1 (by kernel_rfl) (by kernel_rfl) ?_
  repeat (quiet_step ((go_at_call 43; exact cS _ _ (by omega) (by omega))))
  refine wpQuiet_nil ?_
  intro _ hw'
  obtain ⟨p2, hw''⟩ := hw'
  subst hw''
  go_wp2_with fail
  refine wp_gw p2 (by kernel_rfl) (by kernel_rfl) ?_
  repeat (quiet_step (fail))
  refine wpQuiet_nil ?_
  intro _ hw'
  obtain ⟨p3, hw''⟩ := hw'
  subst hw''
  go_upto_region 6 with (go_at_call 57; refine (cG _ _ _ (by omega) (by omega) (by omega) (by omega)).mono ?_; rintro e w1 ⟨rfl, p4, rfl⟩)
  obtain ⟨g, hg⟩ : ∃ g, M.gcdI (M.absI a) d = g := ⟨_, rfl⟩
  obtain ⟨h, hh⟩ : ∃ h, M.gcdI (M.absI c) b = h := ⟨_, rfl⟩
  rw [hg, hh]
  have hg0 : 0 < g := by rw [← hg]; exact M.gcdI_pos_right (by omega)
  have hh0 : 0 < h := by rw [← hh]; exact M.gcdI_pos_right (by omega)
  have eg : ¬ g = 0 := by omega
  have eh : ¬ h = 0 := by omega
  have Hg := Lib.hid hg
  have Hh := Lib.hid hh
  clear hg hh
  obtain ⟨m, hm⟩ : ∃ m, M.absI a / g = m := ⟨_, rfl⟩
  obtain ⟨n, hn⟩ : ∃ n, M.absI c / h = n := ⟨_, rfl⟩
  obtain ⟨x, hx⟩ : ∃ x, b / h = x := ⟨_, rfl⟩
  obtain ⟨y, hy⟩ : ∃ y, d / g = y := ⟨_, rfl⟩
  have hm0 : 0 ≤ m := by rw [← hm]; exact Int.ediv_nonneg ha0 (by omega)
  have hn0 : 0 ≤ n := by rw [← hn]; exact Int.ediv_nonneg hc0 (by omega)
  have hx0 : 0 ≤ x := by rw [← hx]; exact Int.ediv_nonneg (by omega) (by omega)
  have hy0 : 0 ≤ y := by rw [← hy]; exact Int.ediv_nonneg (by omega) (by omega)
  have hm1 : m ≤ 1000000000000000000 := by rw [← hm]; exact Int.le_trans (Int.ediv_le_self _ ha0) ha1
  have hn1 : n ≤ 1000000000000000000 := by rw [← hn]; exact Int.le_trans (Int.ediv_le_self _ hc0) hc1
  have hx1 : x ≤ 1000000000000000000 := by rw [← hx]; exact Int.le_trans (Int.ediv_le_self _ (by omega)) a2
  have hy1 : y ≤ 1000000000000000000 := by rw [← hy]; exact Int.le_trans (Int.ediv_le_self _ (by omega)) c2
  have em : IntKind.u64.wrap ((M.absI a).tdiv g) = m := by rw [Int.tdiv_eq_ediv_of_nonneg ha0, hm, M.wrapU]; omega
  have en : IntKind.u64.wrap ((M.absI c).tdiv h) = n := by rw [Int.tdiv_eq_ediv_of_nonneg hc0, hn, M.wrapU]; omega
  have ex : IntKind.u64.wrap (b.tdiv h) = x := by rw [Int.tdiv_eq_ediv_of_nonneg (by omega), hx, M.wrapU]; omega
  have ey : IntKind.u64.wrap (d.tdiv g) = y := by rw [Int.tdiv_eq_ediv_of_nonneg (by omega), hy, M.wrapU]; omega
  have Hm := Lib.hid hm
  have Hn := Lib.hid hn
  have Hx := Lib.hid hx
  have Hy := Lib.hid hy
  clear hm hn hx hy
  go_cut [12, 13] (fun s12 s13 wx => ∃ g1 g2 : Nat, s12 = .pointer (some ⟨g1, 0, none⟩) ∧ s13 = .pointer (some ⟨g2, 0, none⟩) ∧ Below W.heap.size W wx ∧
    wx.cell? ⟨g1, 0, none⟩ = some (.int .u64 (m * n / 18446744073709551616)) ∧ wx.cell? ⟨g1, 1, none⟩ = some (.int .u64 (m * n % 18446744073709551616)) ∧
    wx.cell? ⟨g2, 0, none⟩ = some (.int .u64 (x * y / 18446744073709551616)) ∧ wx.cell? ⟨g2, 1, none⟩ = some (.int .u64 (x * y % 18446744073709551616)))
  case first =>
    refine wp_al2 14 2 #[.int .u64 0, .int .u64 0] #[.int .u64 0, .int .u64 0] 69 69 12 13 (by decide) (by kernel_rfl) ⟨_, rfl, rfl, rfl, fun _ _ => by kernel_rfl⟩ ⟨_, rfl, rfl, rfl, fun _ _ => by kernel_rfl⟩ rfl (by kernel_rfl) (by kernel_rfl) ?_
    simp only [List.take_succ_cons, List.take_zero, List.drop_succ_cons, List.drop_zero]
    repeat (refine wpQb_step (fun K hK => ?_); go_simp; first | (refine hK _ ?_; clear hK K) | (apply Exists.intro; refine ⟨fun _ => ?_, hK _ ?_⟩; (go_at_call 58; exact times_any _ _ (by omega) (by omega) (by omega) (by omega) _); clear hK K))
    refine wpQb_nil ?_
    intro g1 g2 w' hb hk1 hge1 hk2 hge2 hne
    have f1 := cell_blk hk1
    have f2 := cell_blk hk2
    have f3 := frozen_blk hk1
    have f4 := frozen_blk hk2
    have hne2 := Ne.symm hne
    clear hk1 hk2
    go_wp2
    go_meet
    have z1 : W.heap.size ≤ g1 := Nat.le_trans (size_gw W p4) hge1
    have z2 : W.heap.size ≤ g2 := Nat.le_trans (size_gw W p4) hge2
    exact ⟨g1, g2, rfl, rfl, belowSet (belowSet (belowSet (belowSet (belowThen (below_gw1 W p4) hb) z1) z1) z2) z2, by go_simp, by go_simp, by go_simp, by go_simp⟩
  case rest =>
    obtain ⟨g1, g2, rfl, rfl, hbW, n0, n1, d0, d1⟩ := hcut
    obtain ⟨q, rfl⟩ := gw_of_below hbW
    have A0 := kA0 q
    have C0 := kC0 q
    have R0 := kR0 q
    have R1 := kR1 q
    have RB := block_gw hK q
    have RF := frozen_blk RB
    have hB2 := below_gw hB q
    clear hbW kA0 kA1 kC0 kC1 kR0 kR1 hK cV cS cG HW HS hB
    generalize gw W q = X at *
    obtain ⟨nh, hnh⟩ : ∃ v, m * n / 18446744073709551616 = v := ⟨_, rfl⟩
    obtain ⟨nl, hnl⟩ : ∃ v, m * n % 18446744073709551616 = v := ⟨_, rfl⟩
    rw [hnh] at n0
    rw [hnl] at n1
    have HM := M.mulF_eq v1 v2 Hg.out Hh.out Hm.out Hn.out Hx.out Hy.out
    rw [HR.out] at HM
    have hmn0 : 0 ≤ m * n := Int.mul_nonneg hm0 hn0
    have hxy0 : 0 ≤ x * y := Int.mul_nonneg hx0 hy0
    by_cases hz : m * n = 0
    · rw [if_pos hz] at HM
      obtain rfl : nh = 0 := by rw [← hnh, hz]; rfl
      obtain rfl : nl = 0 := by rw [← hnl, hz]; rfl
      have HM2 := Lib.hid HM
      clear hnh hnl hz HM hmn0 hxy0
      go_wp2
      exact bodyPost_ret (v := .tuple #[.agg #[.int .i64 0, .int .i64 1], .int .i64 0]) (by simp [results, Tryd.results21, go_sem, R0, R1]) rfl ⟨by rw [HM2.out], (by repeat (first | assumption | apply belowAlloc | apply belowDrewN | apply belowDrew | refine below_gw ?_ _ | refine belowSet ?_ (by simp; done) | refine belowSet ?_ (by simp; omega) | refine belowSet ?_ (by omega)))⟩
    · rw [if_neg hz] at HM
      have HM2 := Lib.hid HM
      have hnz : (nh == 0) = false ∨ ((nh == 0) = true ∧ (nl == 0) = false) := by
        by_cases h0 : nh = 0
        · exact .inr ⟨beq_iff_eq.mpr h0, beq_eq_false_iff_ne.mpr (by omega)⟩
        · exact .inl (beq_eq_false_iff_ne.mpr h0)
      have en : (if nh = 0 then nl else 18446744073709551615) = M.narrowI (m * n) := by unfold M.narrowI; rw [hnh, hnl]
      have en0 : 0 ≤ M.narrowI (m * n) := by unfold M.narrowI; split <;> omega
      have en1 : M.narrowI (m * n) < 18446744073709551616 := by unfold M.narrowI; split <;> omega
      obtain ⟨dh, hdh⟩ : ∃ v, x * y / 18446744073709551616 = v := ⟨_, rfl⟩
      obtain ⟨dl, hdl⟩ : ∃ v, x * y % 18446744073709551616 = v := ⟨_, rfl⟩
      rw [hdh] at d0
      rw [hdl] at d1
      have ed : (if dh = 0 then dl else 18446744073709551615) = M.narrowI (x * y) := by unfold M.narrowI; rw [hdh, hdl]
      have ed0 : 0 ≤ M.narrowI (x * y) := by unfold M.narrowI; split <;> omega
      have ed1 : M.narrowI (x * y) < 18446744073709551616 := by unfold M.narrowI; split <;> omega
      have cN := fun w => narrow_any nh nl w
      have cD := fun w => narrow_any dh dl w
      have cG := fun w => signed_any (decide (a < 0) != decide (c < 0)) _ _ en0 en1 ed0 ed1 w
      rw [en] at cN
      rw [ed] at cD
      rw [← HM2.out] at cG
      have kA := cell_gw A0
      have kC := cell_gw C0
      have kN0 := cell_gw n0
      have kN1 := cell_gw n1
      have kD0 := cell_gw d0
      have kD1 := cell_gw d1
      have kR0 := cell_gw R0
      have kR1 := cell_gw R1
      have kRF := fun q => frozen_blk (block_gw RB q)
      clear hnh hnl hz HM hmn0 hxy0 hdh hdl en ed
      rcases hnz with hn1 | ⟨hn1, hn2⟩
      all_goals
        go_wp2_with fail
        refine wp_al0 14 2 (by kernel_rfl) rfl (by kernel_rfl) (by kernel_rfl) ?_
        simp only [List.take_succ_cons, List.take_zero, List.drop_succ_cons, List.drop_zero]
        clear A0 C0 R0 R1 RF n0 n1 d0 d1
        repeat (refine wpQb_step (fun K hK => ?_); go_simp; first | (refine hK _ ?_; clear hK K) | (apply Exists.intro; refine ⟨fun _ => ?_, hK _ ?_⟩; (first | (go_at_call 59; exact cG _) | (go_at_call 60; first | (with_reducible exact cN _) | (with_reducible exact cD _))); clear hK K))
        refine wpQb_nil ?_
        intro w' hb
        obtain ⟨q2, rfl⟩ := gw_of_below hb
        clear hb
        go_wp2
        refine bodyPost_ret (v := .tuple #[.agg #[.int .i64 R.1, .int .i64 R.2.1], .int .i64 R.2.2]) (by simp [results, Tryd.results21, go_sem, kR0, kR1]) rfl ⟨rfl, ?_⟩
        exact belowSet (belowSet (below_gw hB2 _) (by omega)) (by omega)

theorem mul_any (a b c d : Int) (w : World) :
    Calls Tryd.prog 21 #[.agg #[.int .i64 a, .int .i64 b], .agg #[.int .i64 c, .int .i64 d]] w fun e w' => e = .returned (.tuple #[.agg #[.int .i64 (M.mulF a b c d).1, .int .i64 (M.mulF a b c d).2.1], .int .i64 (M.mulF a b c d).2.2]) ∧ Below w.heap.size w w' := by
  by_cases hv : M.vld a b = true ∧ M.vld c d = true
  · exact mul_walk a b c d w hv.1 hv.2
  · have e : M.mulF a b c d = (0, 0, 1) := by unfold M.mulF; rw [if_neg hv]
    rw [e]; clear e
    have hv2 : (M.vld a b && M.vld c d) = false := by
      cases h1 : M.vld a b <;> cases h2 : M.vld c d <;> simp [h1, h2] at hv ⊢
    go_enter Tryd.func21, Tryd.ntmps21
    go_wp2_with (go_at_call 56; refine (allValid2 a b c d _ 2 _ (by go_simp) (by go_simp) (by go_simp) (by go_simp)).mono ?_; rintro e w1 ⟨rfl, hb⟩; obtain ⟨hc, hf⟩ := bcell hb)
    refine bodyPost_ret (v := .tuple #[.agg #[.int .i64 0, .int .i64 0], .int .i64 1]) (by simp [results, Tryd.results21, go_sem, hc]) rfl ⟨rfl, ?_⟩
    exact belowSet (belowSet (belowThen ((by repeat (first | exact Below.refl _ _ | apply belowAlloc | apply belowDrewN | apply belowDrew | apply below_gw | refine belowSet ?_ (by simp; done) | refine belowSet ?_ (by simp; omega)))) hb) (by omega)) (by omega)
end Go.Proofs.YthieengihbbnpaaDoor
