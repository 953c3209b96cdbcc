/- Package fraction: Add, Sub, Neg, Div. -/
import Derived.Test.YthieengihbbnpaaDoorH6
import Derived.Test.YthieengihbbnpaaDoorM6
import Derived.Outline
import Derived.Deep.DeepCutAuto
namespace Go.Proofs.YthieengihbbnpaaDoor
open Go.RowKit Go.Sort
set_option linter.unusedVariables false
theorem plus2_any (A B : Int) (h0 : 0 ≤ A) (h1 : 0 ≤ B) (h2 : A + B < 340282366920938463463374607431768211456) (w : World) :
    Calls Tryd.prog 62 #[.agg #[.int .u64 (A / 18446744073709551616), .int .u64 (A % 18446744073709551616)], .agg #[.int .u64 (B / 18446744073709551616), .int .u64 (B % 18446744073709551616)]] w
      fun e w' => e = .returned (.agg #[.int .u64 ((A + B) / 18446744073709551616), .int .u64 ((A + B) % 18446744073709551616)]) ∧ Below w.heap.size w w' := by
  have h := plus_any (A / 18446744073709551616) (A % 18446744073709551616) (B / 18446744073709551616) (B % 18446744073709551616) (by omega) (by omega) (by omega) (by omega) (by omega) (by omega) w
  rw [(M.plus_halves h0 h1 h2).1, (M.plus_halves h0 h1 h2).2] at h
  exact h
theorem minus2_any (A B : Int) (h0 : 0 ≤ B) (h1 : B ≤ A) (h2 : A < 340282366920938463463374607431768211456) (w : World) :
    Calls Tryd.prog 64 #[.agg #[.int .u64 (A / 18446744073709551616), .int .u64 (A % 18446744073709551616)], .agg #[.int .u64 (B / 18446744073709551616), .int .u64 (B % 18446744073709551616)]] w
      fun e w' => e = .returned (.agg #[.int .u64 ((A - B) / 18446744073709551616), .int .u64 ((A - B) % 18446744073709551616)]) ∧ Below w.heap.size w w' := by
  have h := minus_any (A / 18446744073709551616) (A % 18446744073709551616) (B / 18446744073709551616) (B % 18446744073709551616) (by omega) (by omega) (by omega) (by omega) (by omega) (by omega) w
  have e := M.minus_halves (A := A) (B := B) (bo := borrow (A % 18446744073709551616) (B % 18446744073709551616) 0) rfl h0 h1 h2
  rw [e.1, e.2] at h
  exact h
theorem less2_any (A B : Int) (w : World) :
    Calls Tryd.prog 63 #[.agg #[.int .u64 (A / 18446744073709551616), .int .u64 (A % 18446744073709551616)], .agg #[.int .u64 (B / 18446744073709551616), .int .u64 (B % 18446744073709551616)]] w
      fun e w' => e = .returned (.bool (decide (A < B))) ∧ Below w.heap.size w w' := by
  have h := less_any (A / 18446744073709551616) (A % 18446744073709551616) (B / 18446744073709551616) (B % 18446744073709551616) w
  rw [M.wless_eq] at h
  exact h

set_option maxRecDepth 100000 in
set_option maxHeartbeats 16000000 in
theorem add_walk (a b c d : Int) (w : World) (v1 : M.vld a b = true) (v2 : M.vld c d = true) :
    Calls Tryd.prog 25 #[.agg #[.int .i64 a, .int .i64 b], .agg #[.int .i64 c, .int .i64 d]] w fun e w' => e = .returned (.tuple #[.agg #[.int .i64 (M.addF a b c d).1, .int .i64 (M.addF a b c d).2.1], .int .i64 (M.addF a b c d).2.2]) ∧ Below w.heap.size w w' := by
  obtain ⟨W, hW, hB, hS, hA, hC, hR, hD, hK⟩ := boxed4 w #[.int .i64 a, .int .i64 b] #[.int .i64 c, .int .i64 d] #[.int .i64 0, .int .i64 0] #[.int .i64 a, .int .i64 b, .int .i64 c, .int .i64 d] 27 27 27 27
  have kA0 := cell_gw (hA 0 _ rfl)
  have kA1 := cell_gw (hA 1 _ rfl)
  have kC0 := cell_gw (hC 0 _ rfl)
  have kC1 := cell_gw (hC 1 _ rfl)
  have kR0 := cell_gw (hR 0 _ rfl)
  have kR1 := cell_gw (hR 1 _ rfl)
  obtain ⟨p0, hp0⟩ := gw_start W
  have HW := Lib.hid (hW.trans hp0)
  have HS := Lib.hid hS
  have cV := fun p => callsGw (allValid2 a b c d _ 2 (gw W p) (cell_gw (hD 0 _ rfl) p) (cell_gw (hD 1 _ rfl) p) (cell_gw (hD 2 _ rfl) p) (cell_gw (hD 3 _ rfl) p))
  rw [v1, v2] at cV
  clear hW hp0 hA hC hR hD hS
  have cS := fun p (x : Int) h1 h2 => callsGw (quietBelow (size_any x h1 h2 (gw W p)))
  have cG := fun p (x y : Int) h1 h2 h3 h4 => callsGw (drawnBelow (gcd_any x y h1 h2 h3 h4 (gw W p)))
  obtain ⟨a1, a2, a3, a4, _⟩ := M.vld_of v1
  obtain ⟨c1, c2, c3, c4, _⟩ := M.vld_of v2
  have ha0 := M.absI_nonneg a
  have ha1 : M.absI a ≤ 1000000000000000000 := by unfold M.absI; omega
  have hc0 := M.absI_nonneg c
  have hc1 : M.absI c ≤ 1000000000000000000 := by unfold M.absI; omega
  have eb : IntKind.u64.wrap b = b := by rw [M.wrapU]; omega
  have ed : IntKind.u64.wrap d = d := by rw [M.wrapU]; omega
  obtain ⟨R, hR0⟩ : ∃ R, M.addF a b c d = R := ⟨_, rfl⟩
  rw [hR0]
  have HR := Lib.hid hR0
  clear hR0
  obtain ⟨g, hg⟩ : ∃ g, M.gcdI b d = g := ⟨_, rfl⟩
  have hg0 : 0 < g := by rw [← hg]; exact M.gcdI_pos_right (by omega)
  have hg1 : g ≤ 1000000000000000000 := by
    have := Int.le_of_dvd (show 0 < d by omega) (M.gcdI_dvd_right b d)
    rw [hg] at this; omega
  have cG := fun p => callsGw (drawnBelow (gcd_any b d (by omega) (by omega) (by omega) (by omega) (gw W p)))
  rw [hg] at cG
  obtain ⟨x, hx⟩ : ∃ x, b / g = x := ⟨_, rfl⟩
  obtain ⟨y, hy⟩ : ∃ y, d / g = y := ⟨_, rfl⟩
  obtain ⟨S, hS⟩ : ∃ S, a * y + c * x = S := ⟨_, rfl⟩
  obtain ⟨g0', hb', hd', x0, y0, hS', cx, cy⟩ := M.add_parts v1 v2 hg hx hy hS
  have HA := M.addF_eq v1 v2 hg hx hy hS rfl
  rw [HR.out] at HA
  have hx1 : x ≤ 1000000000000000000 := by rw [← hx]; exact Int.le_trans (Int.ediv_le_self _ (by omega)) a2
  have hy1 : y ≤ 1000000000000000000 := by rw [← hy]; exact Int.le_trans (Int.ediv_le_self _ (by omega)) c2
  have ex : IntKind.u64.wrap (b.tdiv g) = x := by rw [Int.tdiv_eq_ediv_of_nonneg (by omega), hx, M.wrapU]; omega
  have ey : IntKind.u64.wrap (d.tdiv g) = y := by rw [Int.tdiv_eq_ediv_of_nonneg (by omega), hy, M.wrapU]; omega
  have eg : ¬ g = 0 := by omega
  obtain ⟨P, hP⟩ : ∃ P, M.absI a * y = P := ⟨_, rfl⟩
  obtain ⟨Q, hQ⟩ : ∃ Q, M.absI c * x = Q := ⟨_, rfl⟩
  have P0 : 0 ≤ P := by rw [← hP]; exact Int.mul_nonneg ha0 (by omega)
  have Q0 : 0 ≤ Q := by rw [← hQ]; exact Int.mul_nonneg hc0 (by omega)
  have P1 : P ≤ 1000000000000000000000000000000000000 := by
    rw [← hP]
    have h1 : M.absI a * y ≤ 1000000000000000000 * y := Int.mul_le_mul_of_nonneg_right ha1 (by omega)
    omega
  have Q1 : Q ≤ 1000000000000000000000000000000000000 := by
    rw [← hQ]
    have h1 : M.absI c * x ≤ 1000000000000000000 * x := Int.mul_le_mul_of_nonneg_right hc1 (by omega)
    omega
  have cT1 := fun w => times_any (M.absI a) y ha0 (by omega) (by omega) (by omega) w
  have cT2 := fun w => times_any (M.absI c) x hc0 (by omega) (by omega) (by omega) w
  rw [hP] at cT1
  rw [hQ] at cT2
  have Hsa : Hid (S = (if a < 0 then -P else P) + (if c < 0 then -Q else Q)) := by
    refine Lib.hid ?_
    rw [← hS, ← hP, ← hQ]
    congr 1
    · split
      · rename_i h; rw [M.absI_of_neg h, Int.neg_mul, Int.neg_neg]
      · rename_i h; rw [M.absI_of_nonneg (by omega)]
    · split
      · rename_i h; rw [M.absI_of_neg h, Int.neg_mul, Int.neg_neg]
      · rename_i h; rw [M.absI_of_nonneg (by omega)]
  have HA2 := Lib.hid HA
  have Hx := Lib.hid hx
  have Hy := Lib.hid hy
  have Hdg := Lib.hid hd'
  have kAS := size_any a (by omega) (by omega)
  have kCS := size_any c (by omega) (by omega)
  clear hg hx hy hS HA hP hQ hb' hd' hS' cx cy g0' HR
  go_enter Tryd.func25, Tryd.ntmps25
  go_wp2_with fail
  rw [HW.out]
  refine (cV p0).mono ?_
  rintro e w1 ⟨rfl, p1, rfl⟩
  go_wp2_with fail
  refine wp_gw p1 (by kernel_rfl) (by kernel_rfl) ?_
  repeat (quiet_step (fail))
  refine wpQuiet_nil ?_
  intro _ hw'
  obtain ⟨p2, hw''⟩ := hw'
  subst hw''
  go_upto_region 5 with (go_at_call 57; refine (cG _).mono ?_; rintro e w1 ⟨rfl, p3, rfl⟩)
  go_cut [9, 10] (fun s9 s10 wx => ∃ g1 g2 : Nat, s9 = .pointer (some ⟨g1, 0, none⟩) ∧ s10 = .pointer (some ⟨g2, 0, none⟩) ∧ Below W.heap.size W wx ∧
    wx.cell? ⟨g1, 0, none⟩ = some (.int .u64 (P / 18446744073709551616)) ∧ wx.cell? ⟨g1, 1, none⟩ = some (.int .u64 (P % 18446744073709551616)) ∧
    wx.cell? ⟨g2, 0, none⟩ = some (.int .u64 (Q / 18446744073709551616)) ∧ wx.cell? ⟨g2, 1, none⟩ = some (.int .u64 (Q % 18446744073709551616)))
  case first =>
    have kA0' := fun q => cell_gw (kA0 p3) q
    have kC0' := fun q => cell_gw (kC0 p3) q
    refine wp_al2 14 2 #[.int .u64 0, .int .u64 0] #[.int .u64 0, .int .u64 0] 69 69 9 10 (by decide) (by kernel_rfl) ⟨_, rfl, rfl, rfl, fun _ _ => by kernel_rfl⟩ ⟨_, rfl, rfl, rfl, fun _ _ => by kernel_rfl⟩ rfl (by kernel_rfl) (by kernel_rfl) ?_
    simp only [List.take_succ_cons, List.take_zero, List.drop_succ_cons, List.drop_zero]
    repeat (refine wpQb_step (fun K hK => ?_); go_simp; first | (refine hK _ ?_; clear hK K) | (apply Exists.intro; refine ⟨fun _ => ?_, hK _ ?_⟩; (first | (go_at_call 58; first | (with_reducible exact cT1 _) | (with_reducible exact cT2 _)) | (go_at_call 43; first | (with_reducible exact quietBelow (kAS _)) | (with_reducible exact quietBelow (kCS _)))); clear hK K))
    refine wpQb_nil ?_
    intro g1 g2 w' hb hk1 hge1 hk2 hge2 hne
    have f1 := cell_blk hk1
    have f2 := cell_blk hk2
    have f3 := frozen_blk hk1
    have f4 := frozen_blk hk2
    have hne2 := Ne.symm hne
    clear hk1 hk2
    go_wp2
    go_meet
    have z1 : W.heap.size ≤ g1 := Nat.le_trans (size_gw W p3) hge1
    have z2 : W.heap.size ≤ g2 := Nat.le_trans (size_gw W p3) hge2
    exact ⟨g1, g2, rfl, rfl, belowSet (belowSet (belowSet (belowSet (belowThen (below_gw1 W p3) hb) z1) z1) z2) z2, by go_simp, by go_simp, by go_simp, by go_simp⟩
  case rest =>
    obtain ⟨g1, g2, rfl, rfl, hbW, n0, n1, d0, d1⟩ := hcut
    obtain ⟨q, rfl⟩ := gw_of_below hbW
    have A0 := kA0 q
    have C0 := kC0 q
    have RB := block_gw hK q
    have hB2 := below_gw hB q
    clear hbW kA0 kA1 kC0 kC1 kR0 kR1 hK cV cS cG HW HS hB cT1 cT2 kAS kCS
    generalize gw W q = X at *
    have kA := cell_gw A0
    have kC := cell_gw C0
    have kN0 := cell_gw n0
    have kN1 := cell_gw n1
    have kD0 := cell_gw d0
    have kD1 := cell_gw d1
    have cP := fun w => plus2_any P Q P0 Q0 (by omega) w
    go_upto_region 6 with (fail)
    go_cut [11, 12] (fun s11 s12 wx => ∃ g3 : Nat, s11 = .bool (decide (a < 0)) ∧ s12 = .pointer (some ⟨g3, 0, none⟩) ∧ Below X.heap.size X wx ∧ X.heap.size ≤ g3 ∧
      wx.cell? ⟨g3, 0, none⟩ = some (.int .u64 ((P + Q) / 18446744073709551616)) ∧ wx.cell? ⟨g3, 1, none⟩ = some (.int .u64 ((P + Q) % 18446744073709551616)) ∧ (∀ j, wx.frozen? ⟨g3, j, none⟩ = false))
    case first =>
      refine wp_al1 6 2 #[.int .u64 0, .int .u64 0] 69 12 (by kernel_rfl) ⟨_, rfl, rfl, rfl, fun _ _ => by kernel_rfl⟩ rfl (by kernel_rfl) (by kernel_rfl) ?_
      simp only [List.take_succ_cons, List.take_zero, List.drop_succ_cons, List.drop_zero]
      clear A0 C0 n0 n1 d0 d1
      repeat (refine wpQb_step (fun K hK => ?_); go_simp; first | (refine hK _ ?_; clear hK K) | (apply Exists.intro; refine ⟨fun _ => ?_, hK _ ?_⟩; (go_at_call 62; exact cP _); clear hK K))
      refine wpQb_nil ?_
      intro g3 w' hb hk1 hge1
      have f1 := cell_blk hk1
      have f3 := frozen_blk hk1
      clear hk1
      go_wp2
      go_meet
      exact ⟨g3, rfl, rfl, belowSet (belowSet hb hge1) hge1, hge1, by go_simp, by go_simp, by go_simp⟩
    case rest =>
      obtain ⟨g3, rfl, rfl, hbX, hg3, t0, t1, tf⟩ := hcut
      obtain ⟨q2, rfl⟩ := gw_of_below hbX
      have A0' := kA q2
      have C0' := kC q2
      have N0' := kN0 q2
      have N1' := kN1 q2
      have D0' := kD0 q2
      have D1' := kD1 q2
      have RB' := block_gw RB q2
      have hB3 := below_gw hB2 q2
      have hgw : w.heap.size + 1 + 1 < g3 := Nat.lt_of_lt_of_le (blk_lt RB) hg3
      have hg1lt : g1 < X.heap.size := World.block_lt_of_cell? X _ n0
      have hg2lt : g2 < X.heap.size := World.block_lt_of_cell? X _ d0
      have ng1 : g3 ≠ g1 := by omega
      have ng2 : g3 ≠ g2 := by omega
      clear hbX kA kC kN0 kN1 kD0 kD1 A0 C0 n0 n1 d0 d1 RB hB2 cP
      generalize gw X q2 = Y at *
      have cL := fun w => less2_any P Q w
      have nr : g3 ≠ w.heap.size + 1 + 1 := by omega
      have nr2 := Ne.symm nr
      have ng3 := Ne.symm ng1
      have ng4 := Ne.symm ng2
      have R0' := cell_blk RB' 0
      have R1' := cell_blk RB' 1
      have RF' := frozen_blk RB'
      have mN0 := cell_gw N0'
      have mN1 := cell_gw N1'
      have mD0 := cell_gw D0'
      have mD1 := cell_gw D1'
      have mA := cell_gw A0'
      have mC := cell_gw C0'
      have mT0 := cell_gw t0
      have mT1 := cell_gw t1
      have mR0 := fun q => cell_blk (block_gw RB' q) 0
      have mR1 := fun q => cell_blk (block_gw RB' q) 1
      have mRF := fun q => frozen_blk (block_gw RB' q)
      have g3lt : g3 < Y.heap.size := World.block_lt_of_cell? Y _ t0
      have mTF : ∀ q j, (gw Y q).frozen? ⟨g3, j, none⟩ = false := fun q j => ((below_gw1 Y q).frozen (p := ⟨g3, j, none⟩) g3lt).trans (tf j)
      have hwg : w.heap.size ≤ g3 := by omega
      go_upto_if 57 with (fail)
      go_cut [11] (fun s11 wx => ∃ neg : Bool, s11 = .bool neg ∧ Hid (S ≠ 0 → neg = decide (S < 0)) ∧ Below w.heap.size w wx ∧
        wx.cell? ⟨g3, 0, none⟩ = some (.int .u64 (M.absI S / 18446744073709551616)) ∧ wx.cell? ⟨g3, 1, none⟩ = some (.int .u64 (M.absI S % 18446744073709551616)) ∧
        wx.cell? ⟨w.heap.size + 1 + 1, 0, none⟩ = some (.int .i64 0) ∧ wx.cell? ⟨w.heap.size + 1 + 1, 1, none⟩ = some (.int .i64 0) ∧ (∀ j, wx.frozen? ⟨w.heap.size + 1 + 1, j, none⟩ = false))
      case first =>
        have same : ∀ (s : Bool), decide (a < 0) = s → decide (c < 0) = s → Hid (M.absI S = P + Q) ∧ Hid (S ≠ 0 → s = decide (S < 0)) := by
          intro s h1 h2
          have := Hsa.out
          cases s
          · have h1 : ¬ a < 0 := by simpa using h1
            have h2 : ¬ c < 0 := by simpa using h2
            rw [if_neg h1, if_neg h2] at this
            refine ⟨Lib.hid (by unfold M.absI; omega), Lib.hid (fun hz => ?_)⟩
            rw [decide_eq_false (show ¬ S < 0 by omega)]
          · have h1 : a < 0 := by simpa using h1
            have h2 : c < 0 := by simpa using h2
            rw [if_pos h1, if_pos h2] at this
            refine ⟨Lib.hid (by unfold M.absI; omega), Lib.hid (fun hz => ?_)⟩
            rw [decide_eq_true (show S < 0 by omega)]
        have less : ∀ (s : Bool), decide (a < 0) = s → decide (c < 0) = !s → P < Q → Hid (M.absI S = Q - P) ∧ Hid (S ≠ 0 → (!s) = decide (S < 0)) := by
          intro s h1 h2 hlt
          have := Hsa.out
          cases s
          · have h1 : ¬ a < 0 := by simpa using h1
            have h2 : c < 0 := by simpa using h2
            rw [if_neg h1, if_pos h2] at this
            refine ⟨Lib.hid (by unfold M.absI; omega), Lib.hid (fun hz => ?_)⟩
            rw [decide_eq_true (show S < 0 by omega)]; rfl
          · have h1 : a < 0 := by simpa using h1
            have h2 : ¬ c < 0 := by simpa using h2
            rw [if_pos h1, if_neg h2] at this
            refine ⟨Lib.hid (by unfold M.absI; omega), Lib.hid (fun hz => ?_)⟩
            rw [decide_eq_false (show ¬ S < 0 by omega)]; rfl
        have more : ∀ (s : Bool), decide (a < 0) = s → decide (c < 0) = !s → ¬ P < Q → Hid (M.absI S = P - Q) ∧ Hid (S ≠ 0 → s = decide (S < 0)) := by
          intro s h1 h2 hlt
          have := Hsa.out
          cases s
          · have h1 : ¬ a < 0 := by simpa using h1
            have h2 : c < 0 := by simpa using h2
            rw [if_neg h1, if_pos h2] at this
            refine ⟨Lib.hid (by unfold M.absI; omega), Lib.hid (fun hz => ?_)⟩
            rw [decide_eq_false (show ¬ S < 0 by omega)]
          · have h1 : a < 0 := by simpa using h1
            have h2 : ¬ c < 0 := by simpa using h2
            rw [if_pos h1, if_neg h2] at this
            refine ⟨Lib.hid (by unfold M.absI; omega), Lib.hid (fun hz => ?_)⟩
            rw [decide_eq_true (show S < 0 by omega)]
        have Same := Lib.hid same
        have Less := Lib.hid less
        have More := Lib.hid more
        clear same less more
        cases hA : decide (a < 0) <;> cases hC : decide (c < 0)
        case false.false =>
          obtain ⟨HT, HN⟩ := Same.out _ hA hC
          go_wp2
          go_meet
          rw [HT.out]
          exact ⟨_, rfl, HN, hB3, t0, t1, R0', R1', RF'⟩
        case true.true =>
          obtain ⟨HT, HN⟩ := Same.out _ hA hC
          go_wp2
          go_meet
          rw [HT.out]
          exact ⟨_, rfl, HN, hB3, t0, t1, R0', R1', RF'⟩
        all_goals
          by_cases hlt : P < Q
          · obtain ⟨HT, HN⟩ := Less.out _ hA hC hlt
            have cM := fun w => minus2_any Q P P0 (by omega) (by omega) w
            have hl := decide_eq_true hlt
            clear hlt
            go_wp2_with (go_at_call 63; refine (cL _).mono ?_; rintro e w1 ⟨rfl, hb⟩; obtain ⟨q3, rfl⟩ := gw_of_below hb; clear hb)
            refine wp_al0 6 2 (by kernel_rfl) rfl (by kernel_rfl) (by kernel_rfl) ?_
            simp only [List.take_succ_cons, List.take_zero, List.drop_succ_cons, List.drop_zero]
            have nN0 := cell_gw (mN0 q3)
            have nN1 := cell_gw (mN1 q3)
            have nD0 := cell_gw (mD0 q3)
            have nD1 := cell_gw (mD1 q3)
            have nC := cell_gw (mC q3)
            repeat (refine wpQb_step (fun K hK => ?_); go_simp; first | (refine hK _ ?_; clear hK K) | (apply Exists.intro; refine ⟨fun _ => ?_, hK _ ?_⟩; (go_at_call 64; exact cM _); clear hK K))
            refine wpQb_nil ?_
            intro w' hb
            have hb2 := belowThen (below_gw1 Y q3) hb
            obtain ⟨q4, rfl⟩ := gw_of_below hb2
            clear hb hb2
            go_wp2
            go_meet
            rw [HT.out]
            exact ⟨_, rfl, HN, belowSet (belowSet (below_gw hB3 _) hwg) hwg, by go_simp, by go_simp, by go_simp, by go_simp, by go_simp⟩
          · obtain ⟨HT, HN⟩ := More.out _ hA hC hlt
            have cM := fun w => minus2_any P Q Q0 (by omega) (by omega) w
            have hl := decide_eq_false hlt
            clear hlt
            go_wp2_with (first | (go_at_call 63; refine (cL _).mono ?_; rintro e w1 ⟨rfl, hb⟩; obtain ⟨q3, rfl⟩ := gw_of_below hb; clear hb) | (go_at_call 64; refine (cM _).mono ?_; rintro e w1 ⟨rfl, hb⟩; have hb2 := belowThen (below_gw1 Y q3) hb; obtain ⟨q4, rfl⟩ := gw_of_below hb2; clear hb hb2))
            go_meet
            rw [HT.out]
            exact ⟨_, rfl, HN, belowSet (belowSet (below_gw hB3 _) hwg) hwg, by go_simp, by go_simp, by go_simp, by go_simp, by go_simp⟩
      case rest =>
        obtain ⟨neg, rfl, HN, hBw, T0, T1, R0, R1, RF⟩ := hcut
        clear mN0 mN1 mD0 mD1 mA mC mT0 mT1 mR0 mR1 mRF mTF cL
        have HA := HA2.out
        have hTb : M.absI S ≤ 2000000000000000000000000000000000000 := by
          have := Hsa.out
          unfold M.absI
          split at this <;> split at this <;> omega
        have hTn := M.absI_nonneg S
        obtain ⟨T, hT⟩ : ∃ T, M.absI S = T := ⟨_, rfl⟩
        have hz0 : S = 0 ↔ T = 0 := by rw [← hT]; unfold M.absI; omega
        rw [hT] at T0 T1 HA hTb hTn
        obtain ⟨th, hth⟩ : ∃ v, T / 18446744073709551616 = v := ⟨_, rfl⟩
        obtain ⟨tl, htl⟩ : ∃ v, T % 18446744073709551616 = v := ⟨_, rfl⟩
        rw [hth] at T0
        rw [htl] at T1
        by_cases hz : S = 0
        · rw [if_pos hz] at HA
          have hTz := hz0.mp hz
          obtain rfl : th = 0 := by rw [← hth, hTz]; rfl
          obtain rfl : tl = 0 := by rw [← htl, hTz]; rfl
          have HA3 := Lib.hid HA
          clear HA hth htl hTz hz hz0 hT HN t0 t1 tf N0' N1' D0' D1' A0' C0' RB' R0' R1' RF'
          go_wp2
          exact bodyPost_ret (v := .tuple #[.agg #[.int .i64 0, .int .i64 1], .int .i64 0]) (by simp [results, Tryd.results25, go_sem, R0, R1]) rfl ⟨by rw [HA3.out], belowSet (belowSet hBw (by omega)) (by omega)⟩
        · rw [if_neg hz] at HA
          obtain ⟨e, he⟩ : ∃ e, M.gcdI T g = e := ⟨_, rfl⟩
          rw [he] at HA
          have he0 : 0 < e := by rw [← he]; exact M.gcdI_pos_right hg0
          have he1 : e ≤ g := by rw [← he]; exact Int.le_of_dvd hg0 (M.gcdI_dvd_right T g)
          obtain ⟨rg, hrg⟩ : ∃ v, th % g = v := ⟨_, rfl⟩
          have hth0 : 0 ≤ th := by omega
          have hth1 : th < 18446744073709551616 := by omega
          have htl0 : 0 ≤ tl := by omega
          have htl1 : tl < 18446744073709551616 := by omega
          have hrg0 : 0 ≤ rg := by rw [← hrg]; exact Int.emod_nonneg _ (by omega)
          have hrg1 : rg < g := by rw [← hrg]; exact Int.emod_lt_of_pos _ (by omega)
          have erg : th.tmod g = rg := by rw [Int.tmod_eq_emod_of_nonneg hth0]; exact hrg
          obtain ⟨rs, hrs⟩ : ∃ v, T % g = v := ⟨_, rfl⟩
          have hrs0 : 0 ≤ rs := by rw [← hrs]; exact Int.emod_nonneg _ (by omega)
          have hrs1 : rs < g := by rw [← hrs]; exact Int.emod_lt_of_pos _ (by omega)
          have ers : (rg * 18446744073709551616 + tl) % g = rs := by
            have e1 : T = th * 18446744073709551616 + tl := by omega
            rw [← hrs, e1, ← hrg, Int.add_emod, Int.mul_emod, Int.emod_emod_of_dvd _ (Int.dvd_refl g), ← Int.mul_emod, ← Int.add_emod]
          have cD := fun w => div64_any rg tl g htl0 htl1 hrg0 hrg1 (by omega) w
          rw [ers] at cD
          have cE := fun w => drawnBelow (gcd_any rs g hrs0 (by omega) (by omega) (by omega) w)
          have egc : M.gcdI rs g = e := by
            have := M.gcdI_step T g
            rw [Int.tmod_eq_emod_of_nonneg hTn, hrs] at this
            rw [← he, this]; unfold M.gcdI; rw [Int.gcd_comm]
          rw [egc] at cE
          obtain ⟨de, hde⟩ : ∃ v, d / e = v := ⟨_, rfl⟩
          rw [hde] at HA
          have hde0 : 0 ≤ de := by rw [← hde]; exact Int.ediv_nonneg (by omega) (by omega)
          have hde1 : de ≤ 1000000000000000000 := by rw [← hde]; exact Int.le_trans (Int.ediv_le_self _ (by omega)) c2
          have ede : IntKind.u64.wrap (d.tdiv e) = de := by rw [Int.tdiv_eq_ediv_of_nonneg (by omega), hde, M.wrapU]; omega
          have een : ¬ e = 0 := by omega
          have cB := fun w => by_any th tl e hth0 htl0 htl1 he0 (by omega) w
          have eB : (if e ≤ th then 18446744073709551615 else (th * 18446744073709551616 + tl) / e) = M.byI T e := by
            unfold M.byI; rw [hth, show th * 18446744073709551616 + tl = T from by omega]
          rw [eB] at cB
          have bb := M.byI_bounds hTn he0 (show T < 340282366920938463463374607431768211456 by omega)
          have cX := fun w => times_any x de (by omega) (by omega) hde0 (by omega) w
          have hxd0 : 0 ≤ x * de := Int.mul_nonneg (by omega) hde0
          have cN := fun w => narrow_any (x * de / 18446744073709551616) (x * de % 18446744073709551616) w
          have eN : (if x * de / 18446744073709551616 = 0 then x * de % 18446744073709551616 else 18446744073709551615) = M.narrowI (x * de) := rfl
          rw [eN] at cN
          have nb0 : 0 ≤ M.narrowI (x * de) := by unfold M.narrowI; split <;> omega
          have nb1 : M.narrowI (x * de) < 18446744073709551616 := by unfold M.narrowI; split <;> omega
          have cS := fun w => signed_any neg (M.byI T e) (M.narrowI (x * de)) bb.1 bb.2 nb0 nb1 w
          rw [HN.out hz, ← HA] at cS
          rw [HN.out hz]
          have hnz : (th == 0) = false ∨ ((th == 0) = true ∧ (tl == 0) = false) := by
            have : T ≠ 0 := fun h => hz (hz0.mpr h)
            by_cases h0 : th = 0
            · exact .inr ⟨beq_iff_eq.mpr h0, beq_eq_false_iff_ne.mpr (by omega)⟩
            · exact .inl (beq_eq_false_iff_ne.mpr h0)
          have kT0 := cell_gw T0
          have kT1 := cell_gw T1
          have kR0 := cell_gw R0
          have kR1 := cell_gw R1
          have rlt : w.heap.size + 1 + 1 < wc.heap.size := World.block_lt_of_cell? wc _ R0
          have kRF : ∀ q j, (gw wc q).frozen? ⟨w.heap.size + 1 + 1, j, none⟩ = false := fun q j => ((below_gw1 wc q).frozen (p := ⟨w.heap.size + 1 + 1, j, none⟩) rlt).trans (RF j)
          clear HA hth htl hz hz0 hT HN t0 t1 tf N0' N1' D0' D1' A0' C0' RB' R0' R1' RF' he hrg hrs ers egc hde eB eN hTb hxd0
          rcases hnz with hn1 | ⟨hn1, hn2⟩
          all_goals
            go_wp2_with fail
            refine wp_gw0 (by kernel_rfl) (by kernel_rfl) ?_
            repeat (quiet_step ((go_at_call 65; exact callsGw (cD _))))
            refine wpQuiet_nil ?_
            intro _ hw'
            obtain ⟨r1, hw''⟩ := hw'
            subst hw''
            go_wp2_with (go_at_call 57; refine (callsGw (cE _)).mono ?_; rintro e' w1 ⟨rfl, r2, rfl⟩)
            have mT0 := fun q => cell_gw (kT0 r2) q
            have mT1 := fun q => cell_gw (kT1 r2) q
            refine wp_al0 15 2 (by kernel_rfl) rfl (by kernel_rfl) (by kernel_rfl) ?_
            simp only [List.take_succ_cons, List.take_zero, List.drop_succ_cons, List.drop_zero]
            repeat (refine wpQb_step (fun K hK => ?_); go_simp; first | (refine hK _ ?_; clear hK K) | (apply Exists.intro; refine ⟨fun _ => ?_, hK _ ?_⟩; (first | (go_at_call 66; exact cB _) | (go_at_call 58; exact cX _) | (go_at_call 60; exact cN _) | (go_at_call 59; exact cS _)); clear hK K))
            refine wpQb_nil ?_
            intro w' hb
            have hb2 := belowThen (below_gw1 wc r2) hb
            obtain ⟨r3, rfl⟩ := gw_of_below hb2
            clear hb hb2
            go_wp2
            refine bodyPost_ret (v := .tuple #[.agg #[.int .i64 R.1, .int .i64 R.2.1], .int .i64 R.2.2]) (by simp [results, Tryd.results25, go_sem, kR0, kR1]) rfl ⟨rfl, ?_⟩
            exact belowSet (belowSet (below_gw hBw _) (by omega)) (by omega)
end Go.Proofs.YthieengihbbnpaaDoor
