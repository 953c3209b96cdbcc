/- Package fraction: reduced, Make, Milli, power. -/
import Derived.Test.YthieengihbbnpaaDoorH8
import Derived.Test.YthieengihbbnpaaDoorM20
namespace Go.Proofs.YthieengihbbnpaaDoor
open Go.RowKit Go.Sort
set_option linter.unusedVariables false
theorem sizeB_any (a : Int) (h : M.isI a) (w : World) : Calls Tryd.prog 43 #[.int .i64 a] w fun e w' => e = .returned (.int .u64 (M.absI a)) ∧ Below w.heap.size w w' :=
  (size_any a h.1 h.2 w).mono fun _ _ ⟨h1, h2⟩ => ⟨h1, by rw [h2]; exact belowRefl w⟩
theorem gcdB_any (a b : Int) (ha : M.isU a) (hb : M.isU b) (w : World) : Calls Tryd.prog 57 #[.int .u64 a, .int .u64 b] w fun e w' => e = .returned (.int .u64 (M.gcdI a b)) ∧ Below w.heap.size w w' :=
  (gcd_any a b ha.1 ha.2 hb.1 hb.2 w).mono fun _ _ ⟨h1, n, h2⟩ => ⟨h1, by rw [h2]; exact belowDrewN (belowRefl w) n⟩
set_option maxRecDepth 100000 in
set_option maxHeartbeats 4000000 in
theorem reduced_any (s : Bool) (n d : Int) (hn : M.isU n) (hd : M.isU d) (d0 : 0 < d) (w : World) :
    Calls Tryd.prog 51 #[.bool s, .int .u64 n, .int .u64 d] w fun e w' => e = .returned (.tuple #[.agg #[.int .i64 (M.norm (if s = true then -n else n) d).1, .int .i64 (M.norm (if s = true then -n else n) d).2.1], .int .i64 (M.norm (if s = true then -n else n) d).2.2]) ∧ Below w.heap.size w w' := by
  obtain ⟨W, hW, hB, hS, b0⟩ := lay1 w #[.int .i64 0, .int .i64 0] 27
  obtain ⟨p0, hp0⟩ := gw_start W
  have HW := Lib.hid (hW.trans hp0)
  clear hW hp0
  have c_b0_0 : ∀ q, (gw W q).cell? ⟨w.heap.size, 0, none⟩ = some (.int .i64 0) := cell_gw (blk_cell b0 0 _ rfl)
  have c_b0_1 : ∀ q, (gw W q).cell? ⟨w.heap.size, 1, none⟩ = some (.int .i64 0) := cell_gw (blk_cell b0 1 _ rfl)
  have f_b0 := blk_frozen b0
  have cG := fun w => gcdB_any n d hn hd w
  rw [← M.sgn_red hn.1 d0]
  have g0 := M.gcdI_pos_right (a := n) d0
  generalize M.gcdI n d = g at cG g0 ⊢
  obtain ⟨n0, n1⟩ := hn
  obtain ⟨_, d1⟩ := hd
  have x0 : 0 ≤ n / g := Int.ediv_nonneg n0 (by omega)
  have y0 : 0 ≤ d / g := Int.ediv_nonneg (by omega) (by omega)
  have x1 : n / g ≤ n := Int.ediv_le_self _ n0
  have y1 : d / g ≤ d := Int.ediv_le_self _ (by omega)
  have ex : IntKind.u64.wrap (n.tdiv g) = n / g := by rw [Int.tdiv_eq_ediv_of_nonneg n0, M.wrapU]; omega
  have ey : IntKind.u64.wrap (d.tdiv g) = d / g := by rw [Int.tdiv_eq_ediv_of_nonneg (by omega), M.wrapU]; omega
  obtain ⟨x, hx⟩ : ∃ x, n / g = x := ⟨_, rfl⟩
  obtain ⟨y, hy⟩ : ∃ y, d / g = y := ⟨_, rfl⟩
  rw [hx] at x0 x1 ex ⊢
  rw [hy] at y0 y1 ey ⊢
  have cS := fun w => signed_any s x y x0 (by omega) y0 (by omega) w
  generalize M.sgn s x y = R at cS ⊢
  have hg : (g == 0) = false := beq_eq_false_iff_ne.mpr (by omega)
  have hg2 : g ≠ 0 := by omega
  clear hx hy
  go_enter Tryd.func51, Tryd.ntmps51
  go_wp2_with fail
  rw [HW.out]
  go_upto_region 2 with (go_at_call 57; with_reducible refine (callsGw (cG _)).mono ?_; rintro e w1 ⟨rfl, q, rfl⟩)
  refine wp_alo0 10 2 (by kernel_rfl) rfl (by kernel_rfl) (by kernel_rfl) ?_
  simp only [List.take_succ_cons, List.take_zero, List.drop_succ_cons, List.drop_zero]
  repeat (refine wpQb_step (fun K hK => ?_); go_simp; first | (refine hK _ ?_; clear hK K) | (apply Exists.intro; refine ⟨fun _ => ?_, hK _ ?_⟩; ((go_at_call 59; with_reducible exact cS _)); clear hK K))
  refine wpQb_nil ?_
  intro q
  go_wp2
  refine bodyPost_ret (v := .tuple #[.agg #[.int .i64 R.1, .int .i64 R.2.1], .int .i64 R.2.2]) (by simp [results, Tryd.results51, go_sem, c_b0_0, c_b0_1]) rfl ⟨rfl, ?_⟩
  repeat (refine belowSet ?_ (by omega))
  exact below_gw hB _
set_option maxRecDepth 100000 in
set_option maxHeartbeats 4000000 in
theorem make_any (n d : Int) (hn : M.isI n) (hd : M.isI d) (w : World) :
    Calls Tryd.prog 29 #[.int .i64 n, .int .i64 d] w fun e w' => e = .returned (.tuple #[.agg #[.int .i64 (M.makeF n d).1, .int .i64 (M.makeF n d).2.1], .int .i64 (M.makeF n d).2.2]) ∧ Below w.heap.size w w' := by
  obtain ⟨W, hW, hB, hS, b0⟩ := lay1 w #[.int .i64 0, .int .i64 0] 27
  obtain ⟨p0, hp0⟩ := gw_start W
  have HW := Lib.hid (hW.trans hp0)
  clear hW hp0
  have c_b0_0 : ∀ q, (gw W q).cell? ⟨w.heap.size, 0, none⟩ = some (.int .i64 0) := cell_gw (blk_cell b0 0 _ rfl)
  have c_b0_1 : ∀ q, (gw W q).cell? ⟨w.heap.size, 1, none⟩ = some (.int .i64 0) := cell_gw (blk_cell b0 1 _ rfl)
  have f_b0 := blk_frozen b0
  by_cases h0 : d = 0
  · subst h0
    have e : M.makeF n 0 = (0, 0, 1) := rfl
    rw [e]
    clear e
    go_enter Tryd.func29, Tryd.ntmps29
    go_wp2_with fail
    rw [HW.out]
    go_wp2
    refine bodyPost_ret (v := .tuple #[.agg #[.int .i64 0, .int .i64 0], .int .i64 1]) (by simp [results, Tryd.results29, go_sem, c_b0_0, c_b0_1]) rfl ⟨rfl, ?_⟩
    repeat (refine belowSet ?_ (by omega))
    exact below_gw hB _
  · have cA := fun w => sizeB_any n hn w
    have cB := fun w => sizeB_any d hd w
    have hp : 0 < M.absI d := by unfold M.absI; omega
    have cR := fun (s : Bool) w => reduced_any s (M.absI n) (M.absI d) (M.absI_isU hn) (M.absI_isU hd) hp w
    have cR := fun w => cR (decide (n < 0) != decide (d < 0)) w
    rw [M.makeF_abs h0] at cR
    generalize M.makeF n d = R at cR ⊢
    have h02 : (d == 0) = false := beq_eq_false_iff_ne.mpr h0
    generalize M.absI n = x at cA cR
    generalize M.absI d = y at cB cR
    obtain ⟨s1, hs1⟩ : ∃ s, decide (n < 0) = s := ⟨_, rfl⟩
    obtain ⟨s2, hs2⟩ : ∃ s, decide (d < 0) = s := ⟨_, rfl⟩
    rw [hs1, hs2] at cR
    clear h0 hp
    obtain ⟨s3, hs3⟩ : ∃ s, (s1 != s2) = s := ⟨_, rfl⟩
    rw [hs3] at cR
    cases s1 <;> cases s2 <;> cases s3
    all_goals try (exact Bool.noConfusion hs3)
    all_goals
      clear hs3
      go_enter Tryd.func29, Tryd.ntmps29
      go_wp2_with fail
      rw [HW.out]
      go_wp2_with (first | (go_at_call 43; with_reducible refine (callsGw (cA _)).mono ?_; rintro e w1 ⟨rfl, q, rfl⟩) | (go_at_call 43; with_reducible refine (callsGw (cB _)).mono ?_; rintro e w1 ⟨rfl, q, rfl⟩) | (go_at_call 51; with_reducible refine (callsGw (cR _)).mono ?_; rintro e w1 ⟨rfl, q, rfl⟩))
      refine bodyPost_ret (v := .tuple #[.agg #[.int .i64 R.1, .int .i64 R.2.1], .int .i64 R.2.2]) (by simp [results, Tryd.results29, go_sem, c_b0_0, c_b0_1]) rfl ⟨rfl, ?_⟩
      repeat (refine belowSet ?_ (by omega))
      exact below_gw hB _
set_option maxRecDepth 100000 in
set_option maxHeartbeats 4000000 in
theorem milli_any (n : Int) (hn : M.isI n) (w : World) :
    Calls Tryd.prog 32 #[.int .i64 n] w fun e w' => e = .returned (.agg #[.int .i64 (M.milliF n).1, .int .i64 (M.milliF n).2]) ∧ Below w.heap.size w w' := by
  obtain ⟨W, hW, hB, hS, b0⟩ := lay1 w #[.int .i64 0, .int .i64 0] 27
  obtain ⟨p0, hp0⟩ := gw_start W
  have HW := Lib.hid (hW.trans hp0)
  clear hW hp0
  have c_b0_0 : ∀ q, (gw W q).cell? ⟨w.heap.size, 0, none⟩ = some (.int .i64 0) := cell_gw (blk_cell b0 0 _ rfl)
  have c_b0_1 : ∀ q, (gw W q).cell? ⟨w.heap.size, 1, none⟩ = some (.int .i64 0) := cell_gw (blk_cell b0 1 _ rfl)
  have f_b0 := blk_frozen b0
  have cM := fun w => make_any n 1000 hn (by unfold M.isI; omega) w
  unfold M.milliF
  generalize M.makeF n 1000 = R at cM ⊢
  by_cases h1 : n < -1000000000000000000
  · rw [if_pos (Or.inl h1)]
    go_enter Tryd.func32, Tryd.ntmps32
    go_wp2_with fail
    rw [HW.out]
    go_wp2
    refine bodyPost_ret (v := .agg #[.int .i64 0, .int .i64 0]) (by simp [results, Tryd.results32, go_sem, c_b0_0, c_b0_1]) rfl ⟨rfl, ?_⟩
    repeat (refine belowSet ?_ (by omega))
    exact below_gw hB _
  · by_cases h2 : n > 1000000000000000000
    · rw [if_pos (Or.inr h2)]
      have h1' : decide (n < -1000000000000000000) = false := decide_eq_false h1
      go_enter Tryd.func32, Tryd.ntmps32
      go_wp2_with fail
      rw [HW.out]
      go_wp2
      refine bodyPost_ret (v := .agg #[.int .i64 0, .int .i64 0]) (by simp [results, Tryd.results32, go_sem, c_b0_0, c_b0_1]) rfl ⟨rfl, ?_⟩
      repeat (refine belowSet ?_ (by omega))
      exact below_gw hB _
    · rw [if_neg (by omega)]
      have h1' : decide (n < -1000000000000000000) = false := decide_eq_false h1
      have h2' : decide (1000000000000000000 < n) = false := decide_eq_false h2
      go_enter Tryd.func32, Tryd.ntmps32
      go_wp2_with fail
      rw [HW.out]
      go_upto_region 4 with (go_at_call 29; with_reducible refine (callsGw (cM _)).mono ?_; rintro e w1 ⟨rfl, q, rfl⟩)
      obtain ⟨X, x, ex, hnx, gex, ltx, bx, kx, lx⟩ := laid W #[.int .i64 R.1, .int .i64 R.2.1] 27 q
      rw [ex]
      simp only [hnx]
      have b0 := kx _ _ b0
      have hB := lx _ hB
      clear ex hnx
      have c_bx_0 : ∀ q, (gw X q).cell? ⟨x, 0, none⟩ = some (.int .i64 R.1) := cell_gw (blk_cell bx 0 _ rfl)
      have c_bx_1 : ∀ q, (gw X q).cell? ⟨x, 1, none⟩ = some (.int .i64 R.2.1) := cell_gw (blk_cell bx 1 _ rfl)
      have f_bx := blk_frozen bx
      have c_b0_0 : ∀ q, (gw X q).cell? ⟨w.heap.size, 0, none⟩ = some (.int .i64 0) := cell_gw (blk_cell b0 0 _ rfl)
      have c_b0_1 : ∀ q, (gw X q).cell? ⟨w.heap.size, 1, none⟩ = some (.int .i64 0) := cell_gw (blk_cell b0 1 _ rfl)
      have f_b0 := blk_frozen b0
      go_wp2
      refine bodyPost_ret (v := .agg #[.int .i64 R.1, .int .i64 R.2.1]) (by simp [results, Tryd.results32, go_sem, c_b0_0, c_b0_1]) rfl ⟨rfl, ?_⟩
      repeat (refine belowSet ?_ (by omega))
      exact below_gw hB _
set_option maxRecDepth 100000 in
theorem power_any (n : Nat) (hn : n ≤ 18) (w : World) :
    Calls Tryd.prog 50 #[.int .i64 n] w fun e w' => e = .returned (.int .u64 (10 ^ n)) ∧ Below w.heap.size w w' := by
  have hn2 : n ≤ 9223372036854775807 := by omega
  go_enter Tryd.func50, Tryd.ntmps50
  go_wp2
  go_loop [3, 5] (fun p i => ∃ k : Nat, k ≤ n ∧ i = .int .i64 k ∧ ∃ x : Int, p = .int .u64 x ∧ Hid (x = 10 ^ k)) (fun _ i => n - (intOf i).toNat)
  case atStart => exact ⟨0, Nat.zero_le _, rfl, 1, rfl, Lib.hid rfl⟩
  case round =>
    obtain ⟨k, hk, rfl, x, rfl, hx⟩ := hrel
    by_cases hlt : k < n
    · have hb : 1 ≤ x ∧ x ≤ 1000000000000000000 := by
        rw [hx.out]
        exact ⟨M.ten_pos k, Int.le_trans (M.ten_le (show k ≤ 18 by omega)) (by decide)⟩
      obtain ⟨hx1, hx2⟩ := hb
      go_wp2
      go_round
      case rel => exact ⟨k + 1, by omega, by go_num, _, rfl, Lib.hid (by rw [M.ten_step, ← hx.out])⟩
      case measure => simp [intOf]; omega
    · have hk2 : k = n := by omega
      subst hk2
      have e := hx.out
      subst e
      clear hx
      go_wp2
      go_ret
      exact ⟨rfl, belowRefl w⟩
end Go.Proofs.YthieengihbbnpaaDoor
