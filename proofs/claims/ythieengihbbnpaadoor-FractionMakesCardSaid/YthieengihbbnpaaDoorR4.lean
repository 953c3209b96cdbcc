/- The reference's small and build. -/
import Derived.Test.YthieengihbbnpaaDoorR3
import Derived.Test.YthieengihbbnpaaDoorM10
namespace Go.Proofs.YthieengihbbnpaaDoor
open Go.RowKit Go.Sort
set_option linter.unusedVariables false
set_option maxRecDepth 100000 in
theorem small_any (X : Int) (h0 : 0 ≤ X) (w : World) :
    Calls Tryd.prog 81 #[.agg #[.int .u64 (X / 18446744073709551616), .int .u64 (X % 18446744073709551616)]] w fun e w' => e = .returned (.bool (decide (X ≤ 1000000000000000000))) ∧ Below w.heap.size w w' := by
  obtain ⟨W, hW, hB, hS, b0⟩ := lay1 w #[.int .u64 (X / 18446744073709551616), .int .u64 (X % 18446744073709551616)] 62
  obtain ⟨p0, hp0⟩ := gw_start W
  have HW := Lib.hid (hW.trans hp0)
  clear hW hp0
  have c_b0_0 : ∀ q, (gw W q).cell? ⟨w.heap.size, 0, none⟩ = some (.int .u64 (X / 18446744073709551616)) := cell_gw (blk_cell b0 0 _ rfl)
  have c_b0_1 : ∀ q, (gw W q).cell? ⟨w.heap.size, 1, none⟩ = some (.int .u64 (X % 18446744073709551616)) := cell_gw (blk_cell b0 1 _ rfl)
  have f_b0 := blk_frozen b0
  by_cases hz : X / 18446744073709551616 = 0
  · have h1 : (X / 18446744073709551616 == 0) = true := beq_iff_eq.mpr hz
    have e : decide (X ≤ 1000000000000000000) = decide (X % 18446744073709551616 ≤ 1000000000000000000) := by
      rw [show X % 18446744073709551616 = X by omega]
    rw [e]
    clear e hz
    go_enter Tryd.func81, Tryd.ntmps81
    go_wp2_with fail
    rw [HW.out]
    go_wp2_with fail
    go_ret
    exact ⟨rfl, below_gw hB _⟩
  · have h1 : (X / 18446744073709551616 == 0) = false := beq_eq_false_iff_ne.mpr hz
    rw [decide_eq_false (show ¬ X ≤ 1000000000000000000 by omega)]
    clear hz
    go_enter Tryd.func81, Tryd.ntmps81
    go_wp2_with fail
    rw [HW.out]
    go_wp2_with fail
    go_ret
    exact ⟨rfl, below_gw hB _⟩
set_option maxRecDepth 100000 in
set_option maxHeartbeats 4000000 in
theorem build_any (s : Bool) (N D : Int) (hN0 : 0 ≤ N) (hN1 : N ≤ 170141183460469231731687303715884105728) (hD0 : 0 < D) (hD1 : D ≤ 170141183460469231731687303715884105728) (w : World) :
    Calls Tryd.prog 52 #[.bool s, .agg #[.int .u64 (N / 18446744073709551616), .int .u64 (N % 18446744073709551616)], .agg #[.int .u64 (D / 18446744073709551616), .int .u64 (D % 18446744073709551616)]] w fun e w' => e = .returned (.tuple #[.agg #[.int .i64 (M.norm (if s = true then -N else N) D).1, .int .i64 (M.norm (if s = true then -N else N) D).2.1], .int .i64 (M.norm (if s = true then -N else N) D).2.2]) ∧ Below w.heap.size w w' := by
  obtain ⟨W, hW, hB, hS, b0, b1, b2⟩ := lay3 w #[.int .u64 (N / 18446744073709551616), .int .u64 (N % 18446744073709551616)] 62 #[.int .u64 (D / 18446744073709551616), .int .u64 (D % 18446744073709551616)] 62 #[.int .i64 0, .int .i64 0] 27
  obtain ⟨p0, hp0⟩ := gw_start W
  have HW := Lib.hid (hW.trans hp0)
  clear hW hp0
  have c_b0_0 : ∀ q, (gw W q).cell? ⟨w.heap.size, 0, none⟩ = some (.int .u64 (N / 18446744073709551616)) := cell_gw (blk_cell b0 0 _ rfl)
  have c_b0_1 : ∀ q, (gw W q).cell? ⟨w.heap.size, 1, none⟩ = some (.int .u64 (N % 18446744073709551616)) := cell_gw (blk_cell b0 1 _ rfl)
  have f_b0 := blk_frozen b0
  have c_b1_0 : ∀ q, (gw W q).cell? ⟨w.heap.size + 1, 0, none⟩ = some (.int .u64 (D / 18446744073709551616)) := cell_gw (blk_cell b1 0 _ rfl)
  have c_b1_1 : ∀ q, (gw W q).cell? ⟨w.heap.size + 1, 1, none⟩ = some (.int .u64 (D % 18446744073709551616)) := cell_gw (blk_cell b1 1 _ rfl)
  have f_b1 := blk_frozen b1
  have c_b2_0 : ∀ q, (gw W q).cell? ⟨w.heap.size + 1 + 1, 0, none⟩ = some (.int .i64 0) := cell_gw (blk_cell b2 0 _ rfl)
  have c_b2_1 : ∀ q, (gw W q).cell? ⟨w.heap.size + 1 + 1, 1, none⟩ = some (.int .i64 0) := cell_gw (blk_cell b2 1 _ rfl)
  have f_b2 := blk_frozen b2
  have cG := fun w => divisor_any N D hN0 (by omega) (by omega) hD1 w
  rw [M.norm_sign s hN0 hD0]
  have g0 : 0 < M.gcdI N D := M.gcdI_pos_right hD0
  have g1 : M.gcdI N D ≤ D := Int.le_of_dvd hD0 (M.gcdI_dvd_right N D)
  generalize M.gcdI N D = g at cG g0 g1 ⊢
  have cN := fun w => divide_any N g hN0 (by omega) g0 (by omega) w
  have cD := fun w => divide_any D g (by omega) (by omega) g0 (by omega) w
  have n0 : 0 ≤ N / g := Int.ediv_nonneg hN0 (by omega)
  have d0 : 0 ≤ D / g := Int.ediv_nonneg (by omega) (by omega)
  generalize N / g = n at cN n0 ⊢
  generalize D / g = d at cD d0 ⊢
  generalize N % g = n' at cN
  generalize D % g = d' at cD
  have cS := fun w => small_any n n0 w
  have cT := fun w => small_any d d0 w
  by_cases hn : n ≤ 1000000000000000000 <;> by_cases hd : d ≤ 1000000000000000000
  · rw [if_pos ⟨hn, hd⟩]
    rw [decide_eq_true hn] at cS
    rw [decide_eq_true hd] at cT
    have e1 : n % 18446744073709551616 = n := by omega
    have e2 : d % 18446744073709551616 = d := by omega
    have e3 : wrap64 (-n) = -n := M.wrapI_of (by unfold M.isI; omega)
    have E1 := Lib.hid e1
    have E2 := Lib.hid e2
    have Hn := Lib.hid hn
    have Hd := Lib.hid hd
    clear hn hd e1 e2
    cases s
    · go_enter Tryd.func52, Tryd.ntmps52
      go_wp2_with fail
      rw [HW.out]
      go_upto_region 2 with (go_at_call 55; with_reducible refine (callsGw (cG _)).mono ?_; rintro e w1 ⟨rfl, q, rfl⟩)
      obtain ⟨X, x, ex, hnx, gex, ltx, bx, kx, lx⟩ := laid W #[.int .u64 (g / 18446744073709551616), .int .u64 (g % 18446744073709551616)] 62 q
      rw [ex]
      simp only [hnx]
      have b0 := kx _ _ b0
      have b1 := kx _ _ b1
      have b2 := kx _ _ b2
      have hB := lx _ hB
      clear ex hnx
      have c_bx_0 : ∀ q, (gw X q).cell? ⟨x, 0, none⟩ = some (.int .u64 (g / 18446744073709551616)) := cell_gw (blk_cell bx 0 _ rfl)
      have c_bx_1 : ∀ q, (gw X q).cell? ⟨x, 1, none⟩ = some (.int .u64 (g % 18446744073709551616)) := cell_gw (blk_cell bx 1 _ rfl)
      have f_bx := blk_frozen bx
      have c_b0_0 : ∀ q, (gw X q).cell? ⟨w.heap.size, 0, none⟩ = some (.int .u64 (N / 18446744073709551616)) := cell_gw (blk_cell b0 0 _ rfl)
      have c_b0_1 : ∀ q, (gw X q).cell? ⟨w.heap.size, 1, none⟩ = some (.int .u64 (N % 18446744073709551616)) := cell_gw (blk_cell b0 1 _ rfl)
      have f_b0 := blk_frozen b0
      go_upto_region 3 with (go_at_call 80; with_reducible refine (callsGw (cN _)).mono ?_; rintro e w1 ⟨rfl, q, rfl⟩)
      obtain ⟨Y, u, eu, hnu, geu, ltu, bu, bu', ku, lu⟩ := laid2 X #[.int .u64 (n / 18446744073709551616), .int .u64 (n % 18446744073709551616)] #[.int .u64 (n' / 18446744073709551616), .int .u64 (n' % 18446744073709551616)] 62 62 q
      rw [eu]
      simp only [hnu]
      have b0 := ku _ _ b0
      have b1 := ku _ _ b1
      have b2 := ku _ _ b2
      have bx := ku _ _ bx
      have hB := lu _ hB
      clear eu hnu
      have c_bu_0 : ∀ q, (gw Y q).cell? ⟨u, 0, none⟩ = some (.int .u64 (n / 18446744073709551616)) := cell_gw (blk_cell bu 0 _ rfl)
      have c_bu_1 : ∀ q, (gw Y q).cell? ⟨u, 1, none⟩ = some (.int .u64 (n % 18446744073709551616)) := cell_gw (blk_cell bu 1 _ rfl)
      have f_bu := blk_frozen bu
      have c_bu'_0 : ∀ q, (gw Y q).cell? ⟨u + 1, 0, none⟩ = some (.int .u64 (n' / 18446744073709551616)) := cell_gw (blk_cell bu' 0 _ rfl)
      have c_bu'_1 : ∀ q, (gw Y q).cell? ⟨u + 1, 1, none⟩ = some (.int .u64 (n' % 18446744073709551616)) := cell_gw (blk_cell bu' 1 _ rfl)
      have f_bu' := blk_frozen bu'
      have c_b1_0 : ∀ q, (gw Y q).cell? ⟨w.heap.size + 1, 0, none⟩ = some (.int .u64 (D / 18446744073709551616)) := cell_gw (blk_cell b1 0 _ rfl)
      have c_b1_1 : ∀ q, (gw Y q).cell? ⟨w.heap.size + 1, 1, none⟩ = some (.int .u64 (D % 18446744073709551616)) := cell_gw (blk_cell b1 1 _ rfl)
      have f_b1 := blk_frozen b1
      have c_bx_0 : ∀ q, (gw Y q).cell? ⟨x, 0, none⟩ = some (.int .u64 (g / 18446744073709551616)) := cell_gw (blk_cell bx 0 _ rfl)
      have c_bx_1 : ∀ q, (gw Y q).cell? ⟨x, 1, none⟩ = some (.int .u64 (g % 18446744073709551616)) := cell_gw (blk_cell bx 1 _ rfl)
      have f_bx := blk_frozen bx
      go_upto_region 4 with (go_at_call 80; with_reducible refine (callsGw (cD _)).mono ?_; rintro e w1 ⟨rfl, q, rfl⟩)
      obtain ⟨Z, v, ev, hnv, gev, ltv, bv, bv', kv, lv⟩ := laid2 Y #[.int .u64 (d / 18446744073709551616), .int .u64 (d % 18446744073709551616)] #[.int .u64 (d' / 18446744073709551616), .int .u64 (d' % 18446744073709551616)] 62 62 q
      rw [ev]
      simp only [hnv]
      have b2 := kv _ _ b2
      have bu := kv _ _ bu
      have hB := lv _ hB
      clear ev hnv
      have c_bv_0 : ∀ q, (gw Z q).cell? ⟨v, 0, none⟩ = some (.int .u64 (d / 18446744073709551616)) := cell_gw (blk_cell bv 0 _ rfl)
      have c_bv_1 : ∀ q, (gw Z q).cell? ⟨v, 1, none⟩ = some (.int .u64 (d % 18446744073709551616)) := cell_gw (blk_cell bv 1 _ rfl)
      have f_bv := blk_frozen bv
      have c_bv'_0 : ∀ q, (gw Z q).cell? ⟨v + 1, 0, none⟩ = some (.int .u64 (d' / 18446744073709551616)) := cell_gw (blk_cell bv' 0 _ rfl)
      have c_bv'_1 : ∀ q, (gw Z q).cell? ⟨v + 1, 1, none⟩ = some (.int .u64 (d' % 18446744073709551616)) := cell_gw (blk_cell bv' 1 _ rfl)
      have f_bv' := blk_frozen bv'
      have c_b2_0 : ∀ q, (gw Z q).cell? ⟨w.heap.size + 1 + 1, 0, none⟩ = some (.int .i64 0) := cell_gw (blk_cell b2 0 _ rfl)
      have c_b2_1 : ∀ q, (gw Z q).cell? ⟨w.heap.size + 1 + 1, 1, none⟩ = some (.int .i64 0) := cell_gw (blk_cell b2 1 _ rfl)
      have f_b2 := blk_frozen b2
      have c_bu_0 : ∀ q, (gw Z q).cell? ⟨u, 0, none⟩ = some (.int .u64 (n / 18446744073709551616)) := cell_gw (blk_cell bu 0 _ rfl)
      have c_bu_1 : ∀ q, (gw Z q).cell? ⟨u, 1, none⟩ = some (.int .u64 (n % 18446744073709551616)) := cell_gw (blk_cell bu 1 _ rfl)
      have f_bu := blk_frozen bu
      go_upto_region 6 with (first | (go_at_call 81; with_reducible refine (callsGw (cS _)).mono ?_; rintro e w1 ⟨rfl, q, rfl⟩) | (go_at_call 81; with_reducible refine (callsGw (cT _)).mono ?_; rintro e w1 ⟨rfl, q, rfl⟩))
      rw [E1.out] at c_bu_1
      rw [E2.out] at c_bv_1
      have hn := Hn.out
      have hd := Hd.out
      go_wp2_with fail
      refine bodyPost_ret (v := .tuple #[.agg #[.int .i64 n, .int .i64 d], .int .i64 0]) (by simp [results, Tryd.results52, go_sem, c_b2_0, c_b2_1]) rfl ⟨rfl, ?_⟩
      repeat (refine belowSet ?_ (by omega))
      exact below_gw hB _
    · go_enter Tryd.func52, Tryd.ntmps52
      go_wp2_with fail
      rw [HW.out]
      go_upto_region 2 with (go_at_call 55; with_reducible refine (callsGw (cG _)).mono ?_; rintro e w1 ⟨rfl, q, rfl⟩)
      obtain ⟨X, x, ex, hnx, gex, ltx, bx, kx, lx⟩ := laid W #[.int .u64 (g / 18446744073709551616), .int .u64 (g % 18446744073709551616)] 62 q
      rw [ex]
      simp only [hnx]
      have b0 := kx _ _ b0
      have b1 := kx _ _ b1
      have b2 := kx _ _ b2
      have hB := lx _ hB
      clear ex hnx
      have c_bx_0 : ∀ q, (gw X q).cell? ⟨x, 0, none⟩ = some (.int .u64 (g / 18446744073709551616)) := cell_gw (blk_cell bx 0 _ rfl)
      have c_bx_1 : ∀ q, (gw X q).cell? ⟨x, 1, none⟩ = some (.int .u64 (g % 18446744073709551616)) := cell_gw (blk_cell bx 1 _ rfl)
      have f_bx := blk_frozen bx
      have c_b0_0 : ∀ q, (gw X q).cell? ⟨w.heap.size, 0, none⟩ = some (.int .u64 (N / 18446744073709551616)) := cell_gw (blk_cell b0 0 _ rfl)
      have c_b0_1 : ∀ q, (gw X q).cell? ⟨w.heap.size, 1, none⟩ = some (.int .u64 (N % 18446744073709551616)) := cell_gw (blk_cell b0 1 _ rfl)
      have f_b0 := blk_frozen b0
      go_upto_region 3 with (go_at_call 80; with_reducible refine (callsGw (cN _)).mono ?_; rintro e w1 ⟨rfl, q, rfl⟩)
      obtain ⟨Y, u, eu, hnu, geu, ltu, bu, bu', ku, lu⟩ := laid2 X #[.int .u64 (n / 18446744073709551616), .int .u64 (n % 18446744073709551616)] #[.int .u64 (n' / 18446744073709551616), .int .u64 (n' % 18446744073709551616)] 62 62 q
      rw [eu]
      simp only [hnu]
      have b0 := ku _ _ b0
      have b1 := ku _ _ b1
      have b2 := ku _ _ b2
      have bx := ku _ _ bx
      have hB := lu _ hB
      clear eu hnu
      have c_bu_0 : ∀ q, (gw Y q).cell? ⟨u, 0, none⟩ = some (.int .u64 (n / 18446744073709551616)) := cell_gw (blk_cell bu 0 _ rfl)
      have c_bu_1 : ∀ q, (gw Y q).cell? ⟨u, 1, none⟩ = some (.int .u64 (n % 18446744073709551616)) := cell_gw (blk_cell bu 1 _ rfl)
      have f_bu := blk_frozen bu
      have c_bu'_0 : ∀ q, (gw Y q).cell? ⟨u + 1, 0, none⟩ = some (.int .u64 (n' / 18446744073709551616)) := cell_gw (blk_cell bu' 0 _ rfl)
      have c_bu'_1 : ∀ q, (gw Y q).cell? ⟨u + 1, 1, none⟩ = some (.int .u64 (n' % 18446744073709551616)) := cell_gw (blk_cell bu' 1 _ rfl)
      have f_bu' := blk_frozen bu'
      have c_b1_0 : ∀ q, (gw Y q).cell? ⟨w.heap.size + 1, 0, none⟩ = some (.int .u64 (D / 18446744073709551616)) := cell_gw (blk_cell b1 0 _ rfl)
      have c_b1_1 : ∀ q, (gw Y q).cell? ⟨w.heap.size + 1, 1, none⟩ = some (.int .u64 (D % 18446744073709551616)) := cell_gw (blk_cell b1 1 _ rfl)
      have f_b1 := blk_frozen b1
      have c_bx_0 : ∀ q, (gw Y q).cell? ⟨x, 0, none⟩ = some (.int .u64 (g / 18446744073709551616)) := cell_gw (blk_cell bx 0 _ rfl)
      have c_bx_1 : ∀ q, (gw Y q).cell? ⟨x, 1, none⟩ = some (.int .u64 (g % 18446744073709551616)) := cell_gw (blk_cell bx 1 _ rfl)
      have f_bx := blk_frozen bx
      go_upto_region 4 with (go_at_call 80; with_reducible refine (callsGw (cD _)).mono ?_; rintro e w1 ⟨rfl, q, rfl⟩)
      obtain ⟨Z, v, ev, hnv, gev, ltv, bv, bv', kv, lv⟩ := laid2 Y #[.int .u64 (d / 18446744073709551616), .int .u64 (d % 18446744073709551616)] #[.int .u64 (d' / 18446744073709551616), .int .u64 (d' % 18446744073709551616)] 62 62 q
      rw [ev]
      simp only [hnv]
      have b2 := kv _ _ b2
      have bu := kv _ _ bu
      have hB := lv _ hB
      clear ev hnv
      have c_bv_0 : ∀ q, (gw Z q).cell? ⟨v, 0, none⟩ = some (.int .u64 (d / 18446744073709551616)) := cell_gw (blk_cell bv 0 _ rfl)
      have c_bv_1 : ∀ q, (gw Z q).cell? ⟨v, 1, none⟩ = some (.int .u64 (d % 18446744073709551616)) := cell_gw (blk_cell bv 1 _ rfl)
      have f_bv := blk_frozen bv
      have c_bv'_0 : ∀ q, (gw Z q).cell? ⟨v + 1, 0, none⟩ = some (.int .u64 (d' / 18446744073709551616)) := cell_gw (blk_cell bv' 0 _ rfl)
      have c_bv'_1 : ∀ q, (gw Z q).cell? ⟨v + 1, 1, none⟩ = some (.int .u64 (d' % 18446744073709551616)) := cell_gw (blk_cell bv' 1 _ rfl)
      have f_bv' := blk_frozen bv'
      have c_b2_0 : ∀ q, (gw Z q).cell? ⟨w.heap.size + 1 + 1, 0, none⟩ = some (.int .i64 0) := cell_gw (blk_cell b2 0 _ rfl)
      have c_b2_1 : ∀ q, (gw Z q).cell? ⟨w.heap.size + 1 + 1, 1, none⟩ = some (.int .i64 0) := cell_gw (blk_cell b2 1 _ rfl)
      have f_b2 := blk_frozen b2
      have c_bu_0 : ∀ q, (gw Z q).cell? ⟨u, 0, none⟩ = some (.int .u64 (n / 18446744073709551616)) := cell_gw (blk_cell bu 0 _ rfl)
      have c_bu_1 : ∀ q, (gw Z q).cell? ⟨u, 1, none⟩ = some (.int .u64 (n % 18446744073709551616)) := cell_gw (blk_cell bu 1 _ rfl)
      have f_bu := blk_frozen bu
      go_upto_region 6 with (first | (go_at_call 81; with_reducible refine (callsGw (cS _)).mono ?_; rintro e w1 ⟨rfl, q, rfl⟩) | (go_at_call 81; with_reducible refine (callsGw (cT _)).mono ?_; rintro e w1 ⟨rfl, q, rfl⟩))
      rw [E1.out] at c_bu_1
      rw [E2.out] at c_bv_1
      have hn := Hn.out
      have hd := Hd.out
      go_wp2_with fail
      refine bodyPost_ret (v := .tuple #[.agg #[.int .i64 (-n), .int .i64 d], .int .i64 0]) (by simp [results, Tryd.results52, go_sem, c_b2_0, c_b2_1]) rfl ⟨rfl, ?_⟩
      repeat (refine belowSet ?_ (by omega))
      exact below_gw hB _
  all_goals
    rw [if_neg (by omega)]
    first
    | rw [decide_eq_true hn] at cS
    | rw [decide_eq_false hn] at cS
    first
    | rw [decide_eq_true hd] at cT
    | rw [decide_eq_false hd] at cT
    clear hn hd
    go_enter Tryd.func52, Tryd.ntmps52
    go_wp2_with fail
    rw [HW.out]
    go_upto_region 2 with (go_at_call 55; with_reducible refine (callsGw (cG _)).mono ?_; rintro e w1 ⟨rfl, q, rfl⟩)
    obtain ⟨X, x, ex, hnx, gex, ltx, bx, kx, lx⟩ := laid W #[.int .u64 (g / 18446744073709551616), .int .u64 (g % 18446744073709551616)] 62 q
    rw [ex]
    simp only [hnx]
    have b0 := kx _ _ b0
    have b1 := kx _ _ b1
    have b2 := kx _ _ b2
    have hB := lx _ hB
    clear ex hnx
    have c_bx_0 : ∀ q, (gw X q).cell? ⟨x, 0, none⟩ = some (.int .u64 (g / 18446744073709551616)) := cell_gw (blk_cell bx 0 _ rfl)
    have c_bx_1 : ∀ q, (gw X q).cell? ⟨x, 1, none⟩ = some (.int .u64 (g % 18446744073709551616)) := cell_gw (blk_cell bx 1 _ rfl)
    have f_bx := blk_frozen bx
    have c_b0_0 : ∀ q, (gw X q).cell? ⟨w.heap.size, 0, none⟩ = some (.int .u64 (N / 18446744073709551616)) := cell_gw (blk_cell b0 0 _ rfl)
    have c_b0_1 : ∀ q, (gw X q).cell? ⟨w.heap.size, 1, none⟩ = some (.int .u64 (N % 18446744073709551616)) := cell_gw (blk_cell b0 1 _ rfl)
    have f_b0 := blk_frozen b0
    go_upto_region 3 with (go_at_call 80; with_reducible refine (callsGw (cN _)).mono ?_; rintro e w1 ⟨rfl, q, rfl⟩)
    obtain ⟨Y, u, eu, hnu, geu, ltu, bu, bu', ku, lu⟩ := laid2 X #[.int .u64 (n / 18446744073709551616), .int .u64 (n % 18446744073709551616)] #[.int .u64 (n' / 18446744073709551616), .int .u64 (n' % 18446744073709551616)] 62 62 q
    rw [eu]
    simp only [hnu]
    have b0 := ku _ _ b0
    have b1 := ku _ _ b1
    have b2 := ku _ _ b2
    have bx := ku _ _ bx
    have hB := lu _ hB
    clear eu hnu
    have c_bu_0 : ∀ q, (gw Y q).cell? ⟨u, 0, none⟩ = some (.int .u64 (n / 18446744073709551616)) := cell_gw (blk_cell bu 0 _ rfl)
    have c_bu_1 : ∀ q, (gw Y q).cell? ⟨u, 1, none⟩ = some (.int .u64 (n % 18446744073709551616)) := cell_gw (blk_cell bu 1 _ rfl)
    have f_bu := blk_frozen bu
    have c_bu'_0 : ∀ q, (gw Y q).cell? ⟨u + 1, 0, none⟩ = some (.int .u64 (n' / 18446744073709551616)) := cell_gw (blk_cell bu' 0 _ rfl)
    have c_bu'_1 : ∀ q, (gw Y q).cell? ⟨u + 1, 1, none⟩ = some (.int .u64 (n' % 18446744073709551616)) := cell_gw (blk_cell bu' 1 _ rfl)
    have f_bu' := blk_frozen bu'
    have c_b1_0 : ∀ q, (gw Y q).cell? ⟨w.heap.size + 1, 0, none⟩ = some (.int .u64 (D / 18446744073709551616)) := cell_gw (blk_cell b1 0 _ rfl)
    have c_b1_1 : ∀ q, (gw Y q).cell? ⟨w.heap.size + 1, 1, none⟩ = some (.int .u64 (D % 18446744073709551616)) := cell_gw (blk_cell b1 1 _ rfl)
    have f_b1 := blk_frozen b1
    have c_bx_0 : ∀ q, (gw Y q).cell? ⟨x, 0, none⟩ = some (.int .u64 (g / 18446744073709551616)) := cell_gw (blk_cell bx 0 _ rfl)
    have c_bx_1 : ∀ q, (gw Y q).cell? ⟨x, 1, none⟩ = some (.int .u64 (g % 18446744073709551616)) := cell_gw (blk_cell bx 1 _ rfl)
    have f_bx := blk_frozen bx
    go_upto_region 4 with (go_at_call 80; with_reducible refine (callsGw (cD _)).mono ?_; rintro e w1 ⟨rfl, q, rfl⟩)
    obtain ⟨Z, v, ev, hnv, gev, ltv, bv, bv', kv, lv⟩ := laid2 Y #[.int .u64 (d / 18446744073709551616), .int .u64 (d % 18446744073709551616)] #[.int .u64 (d' / 18446744073709551616), .int .u64 (d' % 18446744073709551616)] 62 62 q
    rw [ev]
    simp only [hnv]
    have b2 := kv _ _ b2
    have bu := kv _ _ bu
    have hB := lv _ hB
    clear ev hnv
    have c_bv_0 : ∀ q, (gw Z q).cell? ⟨v, 0, none⟩ = some (.int .u64 (d / 18446744073709551616)) := cell_gw (blk_cell bv 0 _ rfl)
    have c_bv_1 : ∀ q, (gw Z q).cell? ⟨v, 1, none⟩ = some (.int .u64 (d % 18446744073709551616)) := cell_gw (blk_cell bv 1 _ rfl)
    have f_bv := blk_frozen bv
    have c_bv'_0 : ∀ q, (gw Z q).cell? ⟨v + 1, 0, none⟩ = some (.int .u64 (d' / 18446744073709551616)) := cell_gw (blk_cell bv' 0 _ rfl)
    have c_bv'_1 : ∀ q, (gw Z q).cell? ⟨v + 1, 1, none⟩ = some (.int .u64 (d' % 18446744073709551616)) := cell_gw (blk_cell bv' 1 _ rfl)
    have f_bv' := blk_frozen bv'
    have c_b2_0 : ∀ q, (gw Z q).cell? ⟨w.heap.size + 1 + 1, 0, none⟩ = some (.int .i64 0) := cell_gw (blk_cell b2 0 _ rfl)
    have c_b2_1 : ∀ q, (gw Z q).cell? ⟨w.heap.size + 1 + 1, 1, none⟩ = some (.int .i64 0) := cell_gw (blk_cell b2 1 _ rfl)
    have f_b2 := blk_frozen b2
    have c_bu_0 : ∀ q, (gw Z q).cell? ⟨u, 0, none⟩ = some (.int .u64 (n / 18446744073709551616)) := cell_gw (blk_cell bu 0 _ rfl)
    have c_bu_1 : ∀ q, (gw Z q).cell? ⟨u, 1, none⟩ = some (.int .u64 (n % 18446744073709551616)) := cell_gw (blk_cell bu 1 _ rfl)
    have f_bu := blk_frozen bu
    go_wp2_with (first | (go_at_call 81; with_reducible refine (callsGw (cS _)).mono ?_; rintro e w1 ⟨rfl, q, rfl⟩) | (go_at_call 81; with_reducible refine (callsGw (cT _)).mono ?_; rintro e w1 ⟨rfl, q, rfl⟩))
    refine bodyPost_ret (v := .tuple #[.agg #[.int .i64 0, .int .i64 0], .int .i64 5]) (by simp [results, Tryd.results52, go_sem, c_b2_0, c_b2_1]) rfl ⟨rfl, ?_⟩
    repeat (refine belowSet ?_ (by omega))
    exact below_gw hB _
end Go.Proofs.YthieengihbbnpaaDoor
