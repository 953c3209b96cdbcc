/- The reference's intervals. -/
import Derived.Test.YtimdklineeeieaaR7
import Derived.Test.YtimdklineeeieaaM11
namespace Go.Proofs.Ytimdklineeeieaa
open Go.RowKit Go.Sort
set_option linter.unusedVariables false
set_option maxRecDepth 100000 in
set_option maxHeartbeats 4000000 in
theorem rivalid_any (a b c d : Int) (w : World) :
    Calls Try.prog 12 #[.agg #[.int .i64 a, .int .i64 b, .int .i64 c, .int .i64 d]] w fun e w' => e = .returned (.bool (M.ivld a b c d)) ∧ Below w.heap.size w w' := by
  obtain ⟨W, hW, hB, hS, b0⟩ := lay1 w #[.int .i64 a, .int .i64 b, .int .i64 c, .int .i64 d] 25
  obtain ⟨p0, hp0⟩ := gw_start W
  have HW := Lib.hid (hW.trans hp0)
  clear hW hp0
  have c_b0_0 : ∀ q, (gw W q).cell? ⟨w.heap.size, 0, none⟩ = some (.int .i64 a) := cell_gw (blk_cell b0 0 _ rfl)
  have c_b0_1 : ∀ q, (gw W q).cell? ⟨w.heap.size, 1, none⟩ = some (.int .i64 b) := cell_gw (blk_cell b0 1 _ rfl)
  have c_b0_2 : ∀ q, (gw W q).cell? ⟨w.heap.size, 2, none⟩ = some (.int .i64 c) := cell_gw (blk_cell b0 2 _ rfl)
  have c_b0_3 : ∀ q, (gw W q).cell? ⟨w.heap.size, 3, none⟩ = some (.int .i64 d) := cell_gw (blk_cell b0 3 _ rfl)
  have f_b0 := blk_frozen b0
  obtain ⟨v1, hv1⟩ : ∃ v, M.vld a b = v := ⟨_, rfl⟩
  obtain ⟨v2, hv2⟩ : ∃ v, M.vld c d = v := ⟨_, rfl⟩
  obtain ⟨r, hr⟩ : ∃ r, M.cmpF a b c d = r := ⟨_, rfl⟩
  have cV := fun w => rvalid_any a b w
  have cW := fun w => rvalid_any c d w
  have cC := fun w => rcmp_any a b c d w
  unfold M.ivld
  rw [hv1] at cV ⊢
  rw [hv2] at cW ⊢
  rw [hr] at cC ⊢
  clear hv1 hv2 hr
  cases v1 <;> cases v2 <;>
  ( go_enter Try.func12, Try.ntmps12
    go_wp2_with fail
    rw [HW.out]
    go_wp2_with (first | (go_at_call 34; with_reducible refine (callsGw (cC _)).mono ?_; rintro e w1 ⟨rfl, q, rfl⟩) | (go_at_call 39; with_reducible refine (callsGw (cV _)).mono ?_; rintro e w1 ⟨rfl, q, rfl⟩) | (go_at_call 39; with_reducible refine (callsGw (cW _)).mono ?_; rintro e w1 ⟨rfl, q, rfl⟩))
    go_ret
    exact ⟨by simp, below_gw hB _⟩ )
set_option maxRecDepth 100000 in
set_option maxHeartbeats 4000000 in
theorem ricont_any (a b c d x y : Int) (w : World) :
    Calls Try.prog 15 #[.agg #[.int .i64 a, .int .i64 b, .int .i64 c, .int .i64 d], .agg #[.int .i64 x, .int .i64 y]] w fun e w' => e = .returned (.bool (M.icont a b c d x y)) ∧ Below w.heap.size w w' := by
  obtain ⟨W, hW, hB, hS, b0, b1⟩ := lay2 w #[.int .i64 a, .int .i64 b, .int .i64 c, .int .i64 d] 25 #[.int .i64 x, .int .i64 y] 23
  obtain ⟨p0, hp0⟩ := gw_start W
  have HW := Lib.hid (hW.trans hp0)
  clear hW hp0
  have c_b0_0 : ∀ q, (gw W q).cell? ⟨w.heap.size, 0, none⟩ = some (.int .i64 a) := cell_gw (blk_cell b0 0 _ rfl)
  have c_b0_1 : ∀ q, (gw W q).cell? ⟨w.heap.size, 1, none⟩ = some (.int .i64 b) := cell_gw (blk_cell b0 1 _ rfl)
  have c_b0_2 : ∀ q, (gw W q).cell? ⟨w.heap.size, 2, none⟩ = some (.int .i64 c) := cell_gw (blk_cell b0 2 _ rfl)
  have c_b0_3 : ∀ q, (gw W q).cell? ⟨w.heap.size, 3, none⟩ = some (.int .i64 d) := cell_gw (blk_cell b0 3 _ rfl)
  have f_b0 := blk_frozen b0
  have c_b1_0 : ∀ q, (gw W q).cell? ⟨w.heap.size + 1, 0, none⟩ = some (.int .i64 x) := cell_gw (blk_cell b1 0 _ rfl)
  have c_b1_1 : ∀ q, (gw W q).cell? ⟨w.heap.size + 1, 1, none⟩ = some (.int .i64 y) := cell_gw (blk_cell b1 1 _ rfl)
  have f_b1 := blk_frozen b1
  have cV := fun w => rivalid_any a b c d w
  have cW := fun w => rvalid_any x y w
  have cC := fun w => rcmp_any a b x y w
  have cD := fun w => rcmp_any x y c d w
  unfold M.icont
  generalize M.ivld a b c d = v1 at cV ⊢
  generalize M.vld x y = v2 at cW ⊢
  generalize M.cmpF a b x y = r1 at cC ⊢
  generalize M.cmpF x y c d = r2 at cD ⊢
  obtain ⟨v3, hv3⟩ : ∃ v, decide (r1 ≤ 0) = v := ⟨_, rfl⟩
  rw [hv3]
  cases v1 <;> cases v2 <;> cases v3 <;>
  ( go_enter Try.func15, Try.ntmps15
    go_wp2_with fail
    rw [HW.out]
    go_wp2_with (first | (go_at_call 12; with_reducible refine (callsGw (cV _)).mono ?_; rintro e w1 ⟨rfl, q, rfl⟩) | (go_at_call 39; with_reducible refine (callsGw (cW _)).mono ?_; rintro e w1 ⟨rfl, q, rfl⟩) | (go_at_call 34; with_reducible refine (callsGw (cC _)).mono ?_; rintro e w1 ⟨rfl, q, rfl⟩) | (go_at_call 34; with_reducible refine (callsGw (cD _)).mono ?_; rintro e w1 ⟨rfl, q, rfl⟩))
    go_ret
    exact ⟨by simp, below_gw hB _⟩ )
set_option maxRecDepth 100000 in
set_option maxHeartbeats 4000000 in
theorem riin_any (a b c d e f g h : Int) (w : World) :
    Calls Try.prog 17 #[.agg #[.int .i64 a, .int .i64 b, .int .i64 c, .int .i64 d], .agg #[.int .i64 e, .int .i64 f, .int .i64 g, .int .i64 h]] w fun x w' => x = .returned (.bool (M.riin a b c d e f g h)) ∧ Below w.heap.size w w' := by
  obtain ⟨W, hW, hB, hS, b0, b1⟩ := lay2 w #[.int .i64 a, .int .i64 b, .int .i64 c, .int .i64 d] 25 #[.int .i64 e, .int .i64 f, .int .i64 g, .int .i64 h] 25
  obtain ⟨p0, hp0⟩ := gw_start W
  have HW := Lib.hid (hW.trans hp0)
  clear hW hp0
  have c_b0_0 : ∀ q, (gw W q).cell? ⟨w.heap.size, 0, none⟩ = some (.int .i64 a) := cell_gw (blk_cell b0 0 _ rfl)
  have c_b0_1 : ∀ q, (gw W q).cell? ⟨w.heap.size, 1, none⟩ = some (.int .i64 b) := cell_gw (blk_cell b0 1 _ rfl)
  have c_b0_2 : ∀ q, (gw W q).cell? ⟨w.heap.size, 2, none⟩ = some (.int .i64 c) := cell_gw (blk_cell b0 2 _ rfl)
  have c_b0_3 : ∀ q, (gw W q).cell? ⟨w.heap.size, 3, none⟩ = some (.int .i64 d) := cell_gw (blk_cell b0 3 _ rfl)
  have f_b0 := blk_frozen b0
  have c_b1_0 : ∀ q, (gw W q).cell? ⟨w.heap.size + 1, 0, none⟩ = some (.int .i64 e) := cell_gw (blk_cell b1 0 _ rfl)
  have c_b1_1 : ∀ q, (gw W q).cell? ⟨w.heap.size + 1, 1, none⟩ = some (.int .i64 f) := cell_gw (blk_cell b1 1 _ rfl)
  have c_b1_2 : ∀ q, (gw W q).cell? ⟨w.heap.size + 1, 2, none⟩ = some (.int .i64 g) := cell_gw (blk_cell b1 2 _ rfl)
  have c_b1_3 : ∀ q, (gw W q).cell? ⟨w.heap.size + 1, 3, none⟩ = some (.int .i64 h) := cell_gw (blk_cell b1 3 _ rfl)
  have f_b1 := blk_frozen b1
  have cV := fun w => rivalid_any a b c d w
  have cW := fun w => rivalid_any e f g h w
  have cC := fun w => rcmp_any e f a b w
  have cD := fun w => rcmp_any c d g h w
  unfold M.riin
  generalize M.ivld a b c d = v1 at cV ⊢
  generalize M.ivld e f g h = v2 at cW ⊢
  generalize M.cmpF e f a b = r1 at cC ⊢
  generalize M.cmpF c d g h = r2 at cD ⊢
  obtain ⟨v3, hv3⟩ : ∃ v, decide (r1 ≤ 0) = v := ⟨_, rfl⟩
  rw [hv3]
  cases v1 <;> cases v2 <;> cases v3 <;>
  ( go_enter Try.func17, Try.ntmps17
    go_wp2_with fail
    rw [HW.out]
    go_wp2_with (first | (go_at_call 12; with_reducible refine (callsGw (cV _)).mono ?_; rintro e w1 ⟨rfl, q, rfl⟩) | (go_at_call 12; with_reducible refine (callsGw (cW _)).mono ?_; rintro e w1 ⟨rfl, q, rfl⟩) | (go_at_call 34; with_reducible refine (callsGw (cC _)).mono ?_; rintro e w1 ⟨rfl, q, rfl⟩) | (go_at_call 34; with_reducible refine (callsGw (cD _)).mono ?_; rintro e w1 ⟨rfl, q, rfl⟩))
    go_ret
    exact ⟨by simp, below_gw hB _⟩ )
set_option maxRecDepth 100000 in
set_option maxHeartbeats 4000000 in
theorem rlessr_any (a b c d : Int) (w : World) :
    Calls Try.prog 46 #[.agg #[.int .i64 a, .int .i64 b], .agg #[.int .i64 c, .int .i64 d]] w fun e w' => e = .returned (.agg #[.int .i64 (M.lessr a b c d).1, .int .i64 (M.lessr a b c d).2.1]) ∧ Below w.heap.size w w' := by
  obtain ⟨W, hW, hB, hS, b0, b1, b2⟩ := lay3 w #[.int .i64 a, .int .i64 b] 23 #[.int .i64 c, .int .i64 d] 23 #[.int .i64 0, .int .i64 0] 23
  obtain ⟨p0, hp0⟩ := gw_start W
  have HW := Lib.hid (hW.trans hp0)
  clear hW hp0
  have c_b0_0 : ∀ q, (gw W q).cell? ⟨w.heap.size, 0, none⟩ = some (.int .i64 a) := cell_gw (blk_cell b0 0 _ rfl)
  have c_b0_1 : ∀ q, (gw W q).cell? ⟨w.heap.size, 1, none⟩ = some (.int .i64 b) := cell_gw (blk_cell b0 1 _ rfl)
  have f_b0 := blk_frozen b0
  have c_b1_0 : ∀ q, (gw W q).cell? ⟨w.heap.size + 1, 0, none⟩ = some (.int .i64 c) := cell_gw (blk_cell b1 0 _ rfl)
  have c_b1_1 : ∀ q, (gw W q).cell? ⟨w.heap.size + 1, 1, none⟩ = some (.int .i64 d) := cell_gw (blk_cell b1 1 _ rfl)
  have f_b1 := blk_frozen b1
  have c_b2_0 : ∀ q, (gw W q).cell? ⟨w.heap.size + 1 + 1, 0, none⟩ = some (.int .i64 0) := cell_gw (blk_cell b2 0 _ rfl)
  have c_b2_1 : ∀ q, (gw W q).cell? ⟨w.heap.size + 1 + 1, 1, none⟩ = some (.int .i64 0) := cell_gw (blk_cell b2 1 _ rfl)
  have f_b2 := blk_frozen b2
  have cC := fun w => rcmp_any a b c d w
  by_cases hr : M.cmpF a b c d ≤ 0
  · rw [show M.lessr a b c d = (a, b, 0) by unfold M.lessr; rw [if_pos hr]]
    have hd := decide_eq_true hr
    generalize M.cmpF a b c d = r at cC hd
    clear hr
    go_enter Try.func46, Try.ntmps46
    go_wp2_with fail
    rw [HW.out]
    go_wp2_with (go_at_call 34; with_reducible refine (callsGw (cC _)).mono ?_; rintro e w1 ⟨rfl, q, rfl⟩)
    refine bodyPost_ret (v := .agg #[.int .i64 a, .int .i64 b]) (by simp [results, Try.results46, go_sem, c_b2_0, c_b2_1]) rfl ⟨rfl, ?_⟩
    repeat (refine belowSet ?_ (by omega))
    exact below_gw hB _
  · rw [show M.lessr a b c d = (c, d, 0) by unfold M.lessr; rw [if_neg hr]]
    have hd := decide_eq_false hr
    generalize M.cmpF a b c d = r at cC hd
    clear hr
    go_enter Try.func46, Try.ntmps46
    go_wp2_with fail
    rw [HW.out]
    go_wp2_with (go_at_call 34; with_reducible refine (callsGw (cC _)).mono ?_; rintro e w1 ⟨rfl, q, rfl⟩)
    refine bodyPost_ret (v := .agg #[.int .i64 c, .int .i64 d]) (by simp [results, Try.results46, go_sem, c_b2_0, c_b2_1]) rfl ⟨rfl, ?_⟩
    repeat (refine belowSet ?_ (by omega))
    exact below_gw hB _
set_option maxRecDepth 100000 in
set_option maxHeartbeats 4000000 in
theorem rmorer_any (a b c d : Int) (w : World) :
    Calls Try.prog 47 #[.agg #[.int .i64 a, .int .i64 b], .agg #[.int .i64 c, .int .i64 d]] w fun e w' => e = .returned (.agg #[.int .i64 (M.morer a b c d).1, .int .i64 (M.morer a b c d).2.1]) ∧ Below w.heap.size w w' := by
  obtain ⟨W, hW, hB, hS, b0, b1, b2⟩ := lay3 w #[.int .i64 a, .int .i64 b] 23 #[.int .i64 c, .int .i64 d] 23 #[.int .i64 0, .int .i64 0] 23
  obtain ⟨p0, hp0⟩ := gw_start W
  have HW := Lib.hid (hW.trans hp0)
  clear hW hp0
  have c_b0_0 : ∀ q, (gw W q).cell? ⟨w.heap.size, 0, none⟩ = some (.int .i64 a) := cell_gw (blk_cell b0 0 _ rfl)
  have c_b0_1 : ∀ q, (gw W q).cell? ⟨w.heap.size, 1, none⟩ = some (.int .i64 b) := cell_gw (blk_cell b0 1 _ rfl)
  have f_b0 := blk_frozen b0
  have c_b1_0 : ∀ q, (gw W q).cell? ⟨w.heap.size + 1, 0, none⟩ = some (.int .i64 c) := cell_gw (blk_cell b1 0 _ rfl)
  have c_b1_1 : ∀ q, (gw W q).cell? ⟨w.heap.size + 1, 1, none⟩ = some (.int .i64 d) := cell_gw (blk_cell b1 1 _ rfl)
  have f_b1 := blk_frozen b1
  have c_b2_0 : ∀ q, (gw W q).cell? ⟨w.heap.size + 1 + 1, 0, none⟩ = some (.int .i64 0) := cell_gw (blk_cell b2 0 _ rfl)
  have c_b2_1 : ∀ q, (gw W q).cell? ⟨w.heap.size + 1 + 1, 1, none⟩ = some (.int .i64 0) := cell_gw (blk_cell b2 1 _ rfl)
  have f_b2 := blk_frozen b2
  have cC := fun w => rcmp_any a b c d w
  by_cases hr : 0 ≤ M.cmpF a b c d
  · rw [show M.morer a b c d = (a, b, 0) by unfold M.morer; rw [if_pos hr]]
    have hd := decide_eq_true hr
    generalize M.cmpF a b c d = r at cC hd
    clear hr
    go_enter Try.func47, Try.ntmps47
    go_wp2_with fail
    rw [HW.out]
    go_wp2_with (go_at_call 34; with_reducible refine (callsGw (cC _)).mono ?_; rintro e w1 ⟨rfl, q, rfl⟩)
    refine bodyPost_ret (v := .agg #[.int .i64 a, .int .i64 b]) (by simp [results, Try.results47, go_sem, c_b2_0, c_b2_1]) rfl ⟨rfl, ?_⟩
    repeat (refine belowSet ?_ (by omega))
    exact below_gw hB _
  · rw [show M.morer a b c d = (c, d, 0) by unfold M.morer; rw [if_neg hr]]
    have hd := decide_eq_false hr
    generalize M.cmpF a b c d = r at cC hd
    clear hr
    go_enter Try.func47, Try.ntmps47
    go_wp2_with fail
    rw [HW.out]
    go_wp2_with (go_at_call 34; with_reducible refine (callsGw (cC _)).mono ?_; rintro e w1 ⟨rfl, q, rfl⟩)
    refine bodyPost_ret (v := .agg #[.int .i64 c, .int .i64 d]) (by simp [results, Try.results47, go_sem, c_b2_0, c_b2_1]) rfl ⟨rfl, ?_⟩
    repeat (refine belowSet ?_ (by omega))
    exact below_gw hB _
set_option maxRecDepth 100000 in
set_option maxHeartbeats 4000000 in
theorem do0_any (a b c d : Int) (w : World) :
    Calls Try.prog 24 #[.int .i64 0, .agg #[.int .i64 a, .int .i64 b], .agg #[.int .i64 c, .int .i64 d]] w fun e w' => e = .returned (.tuple #[.agg #[.int .i64 (M.addF a b c d).1, .int .i64 (M.addF a b c d).2.1], .int .i64 (M.addF a b c d).2.2]) ∧ Below w.heap.size w w' := by
  obtain ⟨W, hW, hB, hS, b0, b1, b2⟩ := lay3 w #[.int .i64 a, .int .i64 b] 23 #[.int .i64 c, .int .i64 d] 23 #[.int .i64 0, .int .i64 0] 23
  obtain ⟨p0, hp0⟩ := gw_start W
  have HW := Lib.hid (hW.trans hp0)
  clear hW hp0
  have c_b0_0 : ∀ q, (gw W q).cell? ⟨w.heap.size, 0, none⟩ = some (.int .i64 a) := cell_gw (blk_cell b0 0 _ rfl)
  have c_b0_1 : ∀ q, (gw W q).cell? ⟨w.heap.size, 1, none⟩ = some (.int .i64 b) := cell_gw (blk_cell b0 1 _ rfl)
  have f_b0 := blk_frozen b0
  have c_b1_0 : ∀ q, (gw W q).cell? ⟨w.heap.size + 1, 0, none⟩ = some (.int .i64 c) := cell_gw (blk_cell b1 0 _ rfl)
  have c_b1_1 : ∀ q, (gw W q).cell? ⟨w.heap.size + 1, 1, none⟩ = some (.int .i64 d) := cell_gw (blk_cell b1 1 _ rfl)
  have f_b1 := blk_frozen b1
  have c_b2_0 : ∀ q, (gw W q).cell? ⟨w.heap.size + 1 + 1, 0, none⟩ = some (.int .i64 0) := cell_gw (blk_cell b2 0 _ rfl)
  have c_b2_1 : ∀ q, (gw W q).cell? ⟨w.heap.size + 1 + 1, 1, none⟩ = some (.int .i64 0) := cell_gw (blk_cell b2 1 _ rfl)
  have f_b2 := blk_frozen b2
  have cA := fun w => radd_any a b c d w
  generalize M.addF a b c d = R at cA ⊢
  go_enter Try.func24, Try.ntmps24
  go_wp2_with fail
  rw [HW.out]
  go_wp2_with (go_at_call 51; with_reducible refine (callsGw (cA _)).mono ?_; rintro e w1 ⟨rfl, q, rfl⟩)
  refine bodyPost_ret (v := .tuple #[.agg #[.int .i64 R.1, .int .i64 R.2.1], .int .i64 R.2.2]) (by simp [results, Try.results24, go_sem, c_b2_0, c_b2_1]) rfl ⟨rfl, ?_⟩
  repeat (refine belowSet ?_ (by omega))
  exact below_gw hB _
set_option maxRecDepth 100000 in
set_option maxHeartbeats 4000000 in
theorem do1_any (a b c d : Int) (w : World) :
    Calls Try.prog 24 #[.int .i64 1, .agg #[.int .i64 a, .int .i64 b], .agg #[.int .i64 c, .int .i64 d]] w fun e w' => e = .returned (.tuple #[.agg #[.int .i64 (M.subF a b c d).1, .int .i64 (M.subF a b c d).2.1], .int .i64 (M.subF a b c d).2.2]) ∧ Below w.heap.size w w' := by
  obtain ⟨W, hW, hB, hS, b0, b1, b2⟩ := lay3 w #[.int .i64 a, .int .i64 b] 23 #[.int .i64 c, .int .i64 d] 23 #[.int .i64 0, .int .i64 0] 23
  obtain ⟨p0, hp0⟩ := gw_start W
  have HW := Lib.hid (hW.trans hp0)
  clear hW hp0
  have c_b0_0 : ∀ q, (gw W q).cell? ⟨w.heap.size, 0, none⟩ = some (.int .i64 a) := cell_gw (blk_cell b0 0 _ rfl)
  have c_b0_1 : ∀ q, (gw W q).cell? ⟨w.heap.size, 1, none⟩ = some (.int .i64 b) := cell_gw (blk_cell b0 1 _ rfl)
  have f_b0 := blk_frozen b0
  have c_b1_0 : ∀ q, (gw W q).cell? ⟨w.heap.size + 1, 0, none⟩ = some (.int .i64 c) := cell_gw (blk_cell b1 0 _ rfl)
  have c_b1_1 : ∀ q, (gw W q).cell? ⟨w.heap.size + 1, 1, none⟩ = some (.int .i64 d) := cell_gw (blk_cell b1 1 _ rfl)
  have f_b1 := blk_frozen b1
  have c_b2_0 : ∀ q, (gw W q).cell? ⟨w.heap.size + 1 + 1, 0, none⟩ = some (.int .i64 0) := cell_gw (blk_cell b2 0 _ rfl)
  have c_b2_1 : ∀ q, (gw W q).cell? ⟨w.heap.size + 1 + 1, 1, none⟩ = some (.int .i64 0) := cell_gw (blk_cell b2 1 _ rfl)
  have f_b2 := blk_frozen b2
  have cA := fun w => rsub_any a b c d w
  generalize M.subF a b c d = R at cA ⊢
  go_enter Try.func24, Try.ntmps24
  go_wp2_with fail
  rw [HW.out]
  go_wp2_with (go_at_call 52; with_reducible refine (callsGw (cA _)).mono ?_; rintro e w1 ⟨rfl, q, rfl⟩)
  refine bodyPost_ret (v := .tuple #[.agg #[.int .i64 R.1, .int .i64 R.2.1], .int .i64 R.2.2]) (by simp [results, Try.results24, go_sem, c_b2_0, c_b2_1]) rfl ⟨rfl, ?_⟩
  repeat (refine belowSet ?_ (by omega))
  exact below_gw hB _
set_option maxRecDepth 100000 in
set_option maxHeartbeats 4000000 in
theorem do2_any (a b c d : Int) (w : World) :
    Calls Try.prog 24 #[.int .i64 2, .agg #[.int .i64 a, .int .i64 b], .agg #[.int .i64 c, .int .i64 d]] w fun e w' => e = .returned (.tuple #[.agg #[.int .i64 (M.mulF a b c d).1, .int .i64 (M.mulF a b c d).2.1], .int .i64 (M.mulF a b c d).2.2]) ∧ Below w.heap.size w w' := by
  obtain ⟨W, hW, hB, hS, b0, b1, b2⟩ := lay3 w #[.int .i64 a, .int .i64 b] 23 #[.int .i64 c, .int .i64 d] 23 #[.int .i64 0, .int .i64 0] 23
  obtain ⟨p0, hp0⟩ := gw_start W
  have HW := Lib.hid (hW.trans hp0)
  clear hW hp0
  have c_b0_0 : ∀ q, (gw W q).cell? ⟨w.heap.size, 0, none⟩ = some (.int .i64 a) := cell_gw (blk_cell b0 0 _ rfl)
  have c_b0_1 : ∀ q, (gw W q).cell? ⟨w.heap.size, 1, none⟩ = some (.int .i64 b) := cell_gw (blk_cell b0 1 _ rfl)
  have f_b0 := blk_frozen b0
  have c_b1_0 : ∀ q, (gw W q).cell? ⟨w.heap.size + 1, 0, none⟩ = some (.int .i64 c) := cell_gw (blk_cell b1 0 _ rfl)
  have c_b1_1 : ∀ q, (gw W q).cell? ⟨w.heap.size + 1, 1, none⟩ = some (.int .i64 d) := cell_gw (blk_cell b1 1 _ rfl)
  have f_b1 := blk_frozen b1
  have c_b2_0 : ∀ q, (gw W q).cell? ⟨w.heap.size + 1 + 1, 0, none⟩ = some (.int .i64 0) := cell_gw (blk_cell b2 0 _ rfl)
  have c_b2_1 : ∀ q, (gw W q).cell? ⟨w.heap.size + 1 + 1, 1, none⟩ = some (.int .i64 0) := cell_gw (blk_cell b2 1 _ rfl)
  have f_b2 := blk_frozen b2
  have cA := fun w => rmul_any a b c d w
  generalize M.mulF a b c d = R at cA ⊢
  go_enter Try.func24, Try.ntmps24
  go_wp2_with fail
  rw [HW.out]
  go_wp2_with (go_at_call 53; with_reducible refine (callsGw (cA _)).mono ?_; rintro e w1 ⟨rfl, q, rfl⟩)
  refine bodyPost_ret (v := .tuple #[.agg #[.int .i64 R.1, .int .i64 R.2.1], .int .i64 R.2.2]) (by simp [results, Try.results24, go_sem, c_b2_0, c_b2_1]) rfl ⟨rfl, ?_⟩
  repeat (refine belowSet ?_ (by omega))
  exact below_gw hB _
set_option maxRecDepth 100000 in
set_option maxHeartbeats 4000000 in
theorem do5_any (a b c d : Int) (w : World) :
    Calls Try.prog 24 #[.int .i64 5, .agg #[.int .i64 a, .int .i64 b], .agg #[.int .i64 c, .int .i64 d]] w fun e w' => e = .returned (.tuple #[.agg #[.int .i64 (M.divF a b c d).1, .int .i64 (M.divF a b c d).2.1], .int .i64 (M.divF a b c d).2.2]) ∧ Below w.heap.size w w' := by
  obtain ⟨W, hW, hB, hS, b0, b1, b2⟩ := lay3 w #[.int .i64 a, .int .i64 b] 23 #[.int .i64 c, .int .i64 d] 23 #[.int .i64 0, .int .i64 0] 23
  obtain ⟨p0, hp0⟩ := gw_start W
  have HW := Lib.hid (hW.trans hp0)
  clear hW hp0
  have c_b0_0 : ∀ q, (gw W q).cell? ⟨w.heap.size, 0, none⟩ = some (.int .i64 a) := cell_gw (blk_cell b0 0 _ rfl)
  have c_b0_1 : ∀ q, (gw W q).cell? ⟨w.heap.size, 1, none⟩ = some (.int .i64 b) := cell_gw (blk_cell b0 1 _ rfl)
  have f_b0 := blk_frozen b0
  have c_b1_0 : ∀ q, (gw W q).cell? ⟨w.heap.size + 1, 0, none⟩ = some (.int .i64 c) := cell_gw (blk_cell b1 0 _ rfl)
  have c_b1_1 : ∀ q, (gw W q).cell? ⟨w.heap.size + 1, 1, none⟩ = some (.int .i64 d) := cell_gw (blk_cell b1 1 _ rfl)
  have f_b1 := blk_frozen b1
  have c_b2_0 : ∀ q, (gw W q).cell? ⟨w.heap.size + 1 + 1, 0, none⟩ = some (.int .i64 0) := cell_gw (blk_cell b2 0 _ rfl)
  have c_b2_1 : ∀ q, (gw W q).cell? ⟨w.heap.size + 1 + 1, 1, none⟩ = some (.int .i64 0) := cell_gw (blk_cell b2 1 _ rfl)
  have f_b2 := blk_frozen b2
  have cA := fun w => rdiv_any a b c d w
  generalize M.divF a b c d = R at cA ⊢
  go_enter Try.func24, Try.ntmps24
  go_wp2_with fail
  rw [HW.out]
  go_wp2_with (go_at_call 54; with_reducible refine (callsGw (cA _)).mono ?_; rintro e w1 ⟨rfl, q, rfl⟩)
  refine bodyPost_ret (v := .tuple #[.agg #[.int .i64 R.1, .int .i64 R.2.1], .int .i64 R.2.2]) (by simp [results, Try.results24, go_sem, c_b2_0, c_b2_1]) rfl ⟨rfl, ?_⟩
  repeat (refine belowSet ?_ (by omega))
  exact below_gw hB _
set_option maxRecDepth 100000 in
set_option maxHeartbeats 4000000 in
theorem do3_any (a b c d : Int) (w : World) :
    Calls Try.prog 24 #[.int .i64 3, .agg #[.int .i64 a, .int .i64 b], .agg #[.int .i64 c, .int .i64 d]] w fun e w' => e = .returned (.tuple #[.agg #[.int .i64 (M.lessr a b c d).1, .int .i64 (M.lessr a b c d).2.1], .int .i64 (M.lessr a b c d).2.2]) ∧ Below w.heap.size w w' := by
  obtain ⟨W, hW, hB, hS, b0, b1, b2⟩ := lay3 w #[.int .i64 a, .int .i64 b] 23 #[.int .i64 c, .int .i64 d] 23 #[.int .i64 0, .int .i64 0] 23
  obtain ⟨p0, hp0⟩ := gw_start W
  have HW := Lib.hid (hW.trans hp0)
  clear hW hp0
  have c_b0_0 : ∀ q, (gw W q).cell? ⟨w.heap.size, 0, none⟩ = some (.int .i64 a) := cell_gw (blk_cell b0 0 _ rfl)
  have c_b0_1 : ∀ q, (gw W q).cell? ⟨w.heap.size, 1, none⟩ = some (.int .i64 b) := cell_gw (blk_cell b0 1 _ rfl)
  have f_b0 := blk_frozen b0
  have c_b1_0 : ∀ q, (gw W q).cell? ⟨w.heap.size + 1, 0, none⟩ = some (.int .i64 c) := cell_gw (blk_cell b1 0 _ rfl)
  have c_b1_1 : ∀ q, (gw W q).cell? ⟨w.heap.size + 1, 1, none⟩ = some (.int .i64 d) := cell_gw (blk_cell b1 1 _ rfl)
  have f_b1 := blk_frozen b1
  have c_b2_0 : ∀ q, (gw W q).cell? ⟨w.heap.size + 1 + 1, 0, none⟩ = some (.int .i64 0) := cell_gw (blk_cell b2 0 _ rfl)
  have c_b2_1 : ∀ q, (gw W q).cell? ⟨w.heap.size + 1 + 1, 1, none⟩ = some (.int .i64 0) := cell_gw (blk_cell b2 1 _ rfl)
  have f_b2 := blk_frozen b2
  have cA := fun w => rlessr_any a b c d w
  rw [show (M.lessr a b c d).2.2 = 0 by unfold M.lessr; split <;> rfl]
  generalize M.lessr a b c d = R at cA ⊢
  go_enter Try.func24, Try.ntmps24
  go_wp2_with fail
  rw [HW.out]
  go_wp2_with (go_at_call 46; with_reducible refine (callsGw (cA _)).mono ?_; rintro e w1 ⟨rfl, q, rfl⟩)
  refine bodyPost_ret (v := .tuple #[.agg #[.int .i64 R.1, .int .i64 R.2.1], .int .i64 0]) (by simp [results, Try.results24, go_sem, c_b2_0, c_b2_1]) rfl ⟨rfl, ?_⟩
  repeat (refine belowSet ?_ (by omega))
  exact below_gw hB _
set_option maxRecDepth 100000 in
set_option maxHeartbeats 4000000 in
theorem do4_any (a b c d : Int) (w : World) :
    Calls Try.prog 24 #[.int .i64 4, .agg #[.int .i64 a, .int .i64 b], .agg #[.int .i64 c, .int .i64 d]] w fun e w' => e = .returned (.tuple #[.agg #[.int .i64 (M.morer a b c d).1, .int .i64 (M.morer a b c d).2.1], .int .i64 (M.morer a b c d).2.2]) ∧ Below w.heap.size w w' := by
  obtain ⟨W, hW, hB, hS, b0, b1, b2⟩ := lay3 w #[.int .i64 a, .int .i64 b] 23 #[.int .i64 c, .int .i64 d] 23 #[.int .i64 0, .int .i64 0] 23
  obtain ⟨p0, hp0⟩ := gw_start W
  have HW := Lib.hid (hW.trans hp0)
  clear hW hp0
  have c_b0_0 : ∀ q, (gw W q).cell? ⟨w.heap.size, 0, none⟩ = some (.int .i64 a) := cell_gw (blk_cell b0 0 _ rfl)
  have c_b0_1 : ∀ q, (gw W q).cell? ⟨w.heap.size, 1, none⟩ = some (.int .i64 b) := cell_gw (blk_cell b0 1 _ rfl)
  have f_b0 := blk_frozen b0
  have c_b1_0 : ∀ q, (gw W q).cell? ⟨w.heap.size + 1, 0, none⟩ = some (.int .i64 c) := cell_gw (blk_cell b1 0 _ rfl)
  have c_b1_1 : ∀ q, (gw W q).cell? ⟨w.heap.size + 1, 1, none⟩ = some (.int .i64 d) := cell_gw (blk_cell b1 1 _ rfl)
  have f_b1 := blk_frozen b1
  have c_b2_0 : ∀ q, (gw W q).cell? ⟨w.heap.size + 1 + 1, 0, none⟩ = some (.int .i64 0) := cell_gw (blk_cell b2 0 _ rfl)
  have c_b2_1 : ∀ q, (gw W q).cell? ⟨w.heap.size + 1 + 1, 1, none⟩ = some (.int .i64 0) := cell_gw (blk_cell b2 1 _ rfl)
  have f_b2 := blk_frozen b2
  have cA := fun w => rmorer_any a b c d w
  rw [show (M.morer a b c d).2.2 = 0 by unfold M.morer; split <;> rfl]
  generalize M.morer a b c d = R at cA ⊢
  go_enter Try.func24, Try.ntmps24
  go_wp2_with fail
  rw [HW.out]
  go_wp2_with (go_at_call 47; with_reducible refine (callsGw (cA _)).mono ?_; rintro e w1 ⟨rfl, q, rfl⟩)
  refine bodyPost_ret (v := .tuple #[.agg #[.int .i64 R.1, .int .i64 R.2.1], .int .i64 0]) (by simp [results, Try.results24, go_sem, c_b2_0, c_b2_1]) rfl ⟨rfl, ?_⟩
  repeat (refine belowSet ?_ (by omega))
  exact below_gw hB _
end Go.Proofs.Ytimdklineeeieaa
