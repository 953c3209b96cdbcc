/- The reference: Make, Milli, Whole. -/
import Derived.Test.YthieengihbbnpaaDoorR7
import Derived.Test.YthieengihbbnpaaDoorM20
namespace Go.Proofs.YthieengihbbnpaaDoor
open Go.RowKit Go.Sort
set_option linter.unusedVariables false
theorem build_small (s : Bool) (n d : Int) (hn : M.isU n) (hd : M.isU d) (d0 : 0 < d) (w : World) :
    Calls Tryd.prog 52 #[.bool s, .agg #[.int .u64 0, .int .u64 n], .agg #[.int .u64 0, .int .u64 d]] w fun e w' => e = .returned (.tuple #[.agg #[.int .i64 (M.norm (if s = true then -n else n) d).1, .int .i64 (M.norm (if s = true then -n else n) d).2.1], .int .i64 (M.norm (if s = true then -n else n) d).2.2]) ∧ Below w.heap.size w w' := by
  obtain ⟨n0, n1⟩ := hn
  obtain ⟨d1, d2⟩ := hd
  have h := build_any s n d n0 (by omega) d0 (by omega) w
  rwa [show n / 18446744073709551616 = 0 by omega, show n % 18446744073709551616 = n by omega, show d / 18446744073709551616 = 0 by omega, show d % 18446744073709551616 = d by omega] at h
set_option maxRecDepth 100000 in
set_option maxHeartbeats 4000000 in
theorem rmake_any (n d : Int) (hn : M.isI n) (hd : M.isI d) (w : World) :
    Calls Tryd.prog 16 #[.int .i64 n, .int .i64 d] w fun e w' => e = .returned (.tuple #[.agg #[.int .i64 (M.makeF n d).1, .int .i64 (M.makeF n d).2.1], .int .i64 (M.makeF n d).2.2]) ∧ Below w.heap.size w w' := by
  obtain ⟨W, hW, hB, hS, b0⟩ := lay1 w #[.int .i64 0, .int .i64 0] 27
  obtain ⟨p0, hp0⟩ := gw_start W
  have HW := Lib.hid (hW.trans hp0)
  clear hW hp0
  have c_b0_0 : ∀ q, (gw W q).cell? ⟨w.heap.size, 0, none⟩ = some (.int .i64 0) := cell_gw (blk_cell b0 0 _ rfl)
  have c_b0_1 : ∀ q, (gw W q).cell? ⟨w.heap.size, 1, none⟩ = some (.int .i64 0) := cell_gw (blk_cell b0 1 _ rfl)
  have f_b0 := blk_frozen b0
  by_cases h0 : d = 0
  · subst h0
    have e : M.makeF n 0 = (0, 0, 1) := rfl
    rw [e]
    clear e
    go_enter Tryd.func16, Tryd.ntmps16
    go_wp2_with fail
    rw [HW.out]
    go_wp2
    refine bodyPost_ret (v := .tuple #[.agg #[.int .i64 0, .int .i64 0], .int .i64 1]) (by simp [results, Tryd.results16, go_sem, c_b0_0, c_b0_1]) rfl ⟨rfl, ?_⟩
    repeat (refine belowSet ?_ (by omega))
    exact below_gw hB _
  · have cA := fun w => quietBelow (rsize_any n hn.1 hn.2 w)
    have cB := fun w => quietBelow (rsize_any d hd.1 hd.2 w)
    have hp : 0 < M.absI d := by unfold M.absI; omega
    have cR := fun (s : Bool) w => build_small s (M.absI n) (M.absI d) (M.absI_isU hn) (M.absI_isU hd) hp w
    have cR := fun w => cR (decide (n < 0) != decide (d < 0)) w
    rw [M.makeF_abs h0] at cR
    generalize M.makeF n d = R at cR ⊢
    have h02 : (d == 0) = false := beq_eq_false_iff_ne.mpr h0
    generalize M.absI n = x at cA cR
    generalize M.absI d = y at cB cR
    obtain ⟨s1, hs1⟩ : ∃ s, decide (n < 0) = s := ⟨_, rfl⟩
    obtain ⟨s2, hs2⟩ : ∃ s, decide (d < 0) = s := ⟨_, rfl⟩
    rw [hs1, hs2] at cR
    clear h0 hp
    obtain ⟨s3, hs3⟩ : ∃ s, (s1 != s2) = s := ⟨_, rfl⟩
    rw [hs3] at cR
    cases s1 <;> cases s2 <;> cases s3
    all_goals try (exact Bool.noConfusion hs3)
    all_goals
      clear hs3
      go_enter Tryd.func16, Tryd.ntmps16
      go_wp2_with fail
      rw [HW.out]
      go_wp2_with (first | (go_at_call 45; with_reducible refine (callsGw (cA _)).mono ?_; rintro e w1 ⟨rfl, q, rfl⟩) | (go_at_call 45; with_reducible refine (callsGw (cB _)).mono ?_; rintro e w1 ⟨rfl, q, rfl⟩) | (go_at_call 52; with_reducible refine (callsGw (cR _)).mono ?_; rintro e w1 ⟨rfl, q, rfl⟩))
      refine bodyPost_ret (v := .tuple #[.agg #[.int .i64 R.1, .int .i64 R.2.1], .int .i64 R.2.2]) (by simp [results, Tryd.results16, go_sem, c_b0_0, c_b0_1]) rfl ⟨rfl, ?_⟩
      repeat (refine belowSet ?_ (by omega))
      exact below_gw hB _
set_option maxRecDepth 100000 in
set_option maxHeartbeats 4000000 in
theorem rmilli_any (n : Int) (hn : M.isI n) (w : World) :
    Calls Tryd.prog 33 #[.int .i64 n] w fun e w' => e = .returned (.agg #[.int .i64 (M.milliF n).1, .int .i64 (M.milliF n).2]) ∧ Below w.heap.size w w' := by
  obtain ⟨W, hW, hB, hS, b0⟩ := lay1 w #[.int .i64 0, .int .i64 0] 27
  obtain ⟨p0, hp0⟩ := gw_start W
  have HW := Lib.hid (hW.trans hp0)
  clear hW hp0
  have c_b0_0 : ∀ q, (gw W q).cell? ⟨w.heap.size, 0, none⟩ = some (.int .i64 0) := cell_gw (blk_cell b0 0 _ rfl)
  have c_b0_1 : ∀ q, (gw W q).cell? ⟨w.heap.size, 1, none⟩ = some (.int .i64 0) := cell_gw (blk_cell b0 1 _ rfl)
  have f_b0 := blk_frozen b0
  have cM := fun w => rmake_any n 1000 hn (by unfold M.isI; omega) w
  unfold M.milliF
  generalize M.makeF n 1000 = R at cM ⊢
  by_cases h1 : n < -1000000000000000000
  · rw [if_pos (Or.inl h1)]
    go_enter Tryd.func33, Tryd.ntmps33
    go_wp2_with fail
    rw [HW.out]
    go_wp2
    refine bodyPost_ret (v := .agg #[.int .i64 0, .int .i64 0]) (by simp [results, Tryd.results33, go_sem, c_b0_0, c_b0_1]) rfl ⟨rfl, ?_⟩
    repeat (refine belowSet ?_ (by omega))
    exact below_gw hB _
  · by_cases h2 : n > 1000000000000000000
    · rw [if_pos (Or.inr h2)]
      have h1' : decide (n < -1000000000000000000) = false := decide_eq_false h1
      go_enter Tryd.func33, Tryd.ntmps33
      go_wp2_with fail
      rw [HW.out]
      go_wp2
      refine bodyPost_ret (v := .agg #[.int .i64 0, .int .i64 0]) (by simp [results, Tryd.results33, go_sem, c_b0_0, c_b0_1]) rfl ⟨rfl, ?_⟩
      repeat (refine belowSet ?_ (by omega))
      exact below_gw hB _
    · rw [if_neg (by omega)]
      have h1' : decide (n < -1000000000000000000) = false := decide_eq_false h1
      have h2' : decide (1000000000000000000 < n) = false := decide_eq_false h2
      go_enter Tryd.func33, Tryd.ntmps33
      go_wp2_with fail
      rw [HW.out]
      go_upto_region 4 with (go_at_call 16; with_reducible refine (callsGw (cM _)).mono ?_; rintro e w1 ⟨rfl, q, rfl⟩)
      obtain ⟨X, x, ex, hnx, gex, ltx, bx, kx, lx⟩ := laid W #[.int .i64 R.1, .int .i64 R.2.1] 27 q
      rw [ex]
      simp only [hnx]
      have b0 := kx _ _ b0
      have hB := lx _ hB
      clear ex hnx
      have c_bx_0 : ∀ q, (gw X q).cell? ⟨x, 0, none⟩ = some (.int .i64 R.1) := cell_gw (blk_cell bx 0 _ rfl)
      have c_bx_1 : ∀ q, (gw X q).cell? ⟨x, 1, none⟩ = some (.int .i64 R.2.1) := cell_gw (blk_cell bx 1 _ rfl)
      have f_bx := blk_frozen bx
      have c_b0_0 : ∀ q, (gw X q).cell? ⟨w.heap.size, 0, none⟩ = some (.int .i64 0) := cell_gw (blk_cell b0 0 _ rfl)
      have c_b0_1 : ∀ q, (gw X q).cell? ⟨w.heap.size, 1, none⟩ = some (.int .i64 0) := cell_gw (blk_cell b0 1 _ rfl)
      have f_b0 := blk_frozen b0
      go_wp2
      refine bodyPost_ret (v := .agg #[.int .i64 R.1, .int .i64 R.2.1]) (by simp [results, Tryd.results33, go_sem, c_b0_0, c_b0_1]) rfl ⟨rfl, ?_⟩
      repeat (refine belowSet ?_ (by omega))
      exact below_gw hB _
set_option maxRecDepth 100000 in
theorem whole_any (n : Int) (w : World) :
    Calls Tryd.prog 70 #[.int .i64 n] w fun e w' => e = .returned (.agg #[.int .i64 n, .int .i64 1]) ∧ Below w.heap.size w w' := by
  obtain ⟨W, hW, hB, hS, b0⟩ := lay1 w #[.int .i64 n, .int .i64 1] 27
  obtain ⟨p0, hp0⟩ := gw_start W
  have HW := Lib.hid (hW.trans hp0)
  clear hW hp0
  have c_b0_0 : ∀ q, (gw W q).cell? ⟨w.heap.size, 0, none⟩ = some (.int .i64 n) := cell_gw (blk_cell b0 0 _ rfl)
  have c_b0_1 : ∀ q, (gw W q).cell? ⟨w.heap.size, 1, none⟩ = some (.int .i64 1) := cell_gw (blk_cell b0 1 _ rfl)
  have f_b0 := blk_frozen b0
  go_enter Tryd.func70, Tryd.ntmps70
  go_wp2_with fail
  rw [HW.out]
  refine bodyPost_ret (v := .agg #[.int .i64 n, .int .i64 1]) (by simp [results, Tryd.results70, go_sem, c_b0_0, c_b0_1]) rfl ⟨rfl, ?_⟩
  repeat (refine belowSet ?_ (by omega))
  exact below_gw hB _
end Go.Proofs.YthieengihbbnpaaDoor
