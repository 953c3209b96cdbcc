/- Package interval: Valid, Contains, Inside, both, lesser, greater. -/
import Derived.Test.YtimdklineeeieaaH8
import Derived.Test.YtimdklineeeieaaM8
namespace Go.Proofs.Ytimdklineeeieaa
open Go.RowKit Go.Sort
set_option linter.unusedVariables false
set_option maxRecDepth 100000 in
set_option maxHeartbeats 4000000 in
theorem ivalid_any (a b c d : Int) (w : World) :
    Calls Try.prog 13 #[.agg #[.int .i64 a, .int .i64 b, .int .i64 c, .int .i64 d]] w fun e w' => e = .returned (.bool (M.ivld a b c d)) ∧ Below w.heap.size w w' := by
  obtain ⟨W, hW, hB, hS, b0⟩ := lay1 w #[.int .i64 a, .int .i64 b, .int .i64 c, .int .i64 d] 25
  obtain ⟨p0, hp0⟩ := gw_start W
  have HW := Lib.hid (hW.trans hp0)
  clear hW hp0
  have c_b0_0 : ∀ q, (gw W q).cell? ⟨w.heap.size, 0, none⟩ = some (.int .i64 a) := cell_gw (blk_cell b0 0 _ rfl)
  have c_b0_1 : ∀ q, (gw W q).cell? ⟨w.heap.size, 1, none⟩ = some (.int .i64 b) := cell_gw (blk_cell b0 1 _ rfl)
  have c_b0_2 : ∀ q, (gw W q).cell? ⟨w.heap.size, 2, none⟩ = some (.int .i64 c) := cell_gw (blk_cell b0 2 _ rfl)
  have c_b0_3 : ∀ q, (gw W q).cell? ⟨w.heap.size, 3, none⟩ = some (.int .i64 d) := cell_gw (blk_cell b0 3 _ rfl)
  have f_b0 := blk_frozen b0
  obtain ⟨v1, hv1⟩ : ∃ v, M.vld a b = v := ⟨_, rfl⟩
  obtain ⟨v2, hv2⟩ : ∃ v, M.vld c d = v := ⟨_, rfl⟩
  obtain ⟨r, hr⟩ : ∃ r, M.cmpF a b c d = r := ⟨_, rfl⟩
  have cV := fun w => valid_any a b w
  have cW := fun w => valid_any c d w
  have cC := fun w => cmp_any a b c d w
  unfold M.ivld
  rw [hv1] at cV ⊢
  rw [hv2] at cW ⊢
  rw [hr] at cC ⊢
  clear hv1 hv2 hr
  cases v1 <;> cases v2 <;>
  ( go_enter Try.func13, Try.ntmps13
    go_wp2_with fail
    rw [HW.out]
    go_wp2_with (first | (go_at_call 41; with_reducible refine (callsGw (cC _)).mono ?_; rintro e w1 ⟨rfl, q, rfl⟩) | (go_at_call 40; with_reducible refine (callsGw (cV _)).mono ?_; rintro e w1 ⟨rfl, q, rfl⟩) | (go_at_call 40; with_reducible refine (callsGw (cW _)).mono ?_; rintro e w1 ⟨rfl, q, rfl⟩))
    go_ret
    exact ⟨by simp, below_gw hB _⟩ )
set_option maxRecDepth 100000 in
set_option maxHeartbeats 4000000 in
theorem both_any (a b c d e f g h : Int) (w : World) :
    Calls Try.prog 42 #[.agg #[.int .i64 a, .int .i64 b, .int .i64 c, .int .i64 d], .agg #[.int .i64 e, .int .i64 f, .int .i64 g, .int .i64 h]] w fun x w' => x = .returned (.bool (M.ivld a b c d && M.ivld e f g h)) ∧ Below w.heap.size w w' := by
  obtain ⟨W, hW, hB, hS, b0, b1⟩ := lay2 w #[.int .i64 a, .int .i64 b, .int .i64 c, .int .i64 d] 25 #[.int .i64 e, .int .i64 f, .int .i64 g, .int .i64 h] 25
  obtain ⟨p0, hp0⟩ := gw_start W
  have HW := Lib.hid (hW.trans hp0)
  clear hW hp0
  have c_b0_0 : ∀ q, (gw W q).cell? ⟨w.heap.size, 0, none⟩ = some (.int .i64 a) := cell_gw (blk_cell b0 0 _ rfl)
  have c_b0_1 : ∀ q, (gw W q).cell? ⟨w.heap.size, 1, none⟩ = some (.int .i64 b) := cell_gw (blk_cell b0 1 _ rfl)
  have c_b0_2 : ∀ q, (gw W q).cell? ⟨w.heap.size, 2, none⟩ = some (.int .i64 c) := cell_gw (blk_cell b0 2 _ rfl)
  have c_b0_3 : ∀ q, (gw W q).cell? ⟨w.heap.size, 3, none⟩ = some (.int .i64 d) := cell_gw (blk_cell b0 3 _ rfl)
  have f_b0 := blk_frozen b0
  have c_b1_0 : ∀ q, (gw W q).cell? ⟨w.heap.size + 1, 0, none⟩ = some (.int .i64 e) := cell_gw (blk_cell b1 0 _ rfl)
  have c_b1_1 : ∀ q, (gw W q).cell? ⟨w.heap.size + 1, 1, none⟩ = some (.int .i64 f) := cell_gw (blk_cell b1 1 _ rfl)
  have c_b1_2 : ∀ q, (gw W q).cell? ⟨w.heap.size + 1, 2, none⟩ = some (.int .i64 g) := cell_gw (blk_cell b1 2 _ rfl)
  have c_b1_3 : ∀ q, (gw W q).cell? ⟨w.heap.size + 1, 3, none⟩ = some (.int .i64 h) := cell_gw (blk_cell b1 3 _ rfl)
  have f_b1 := blk_frozen b1
  have cV := fun w => ivalid_any a b c d w
  have cW := fun w => ivalid_any e f g h w
  generalize M.ivld a b c d = v1 at cV ⊢
  generalize M.ivld e f g h = v2 at cW ⊢
  cases v1 <;>
  ( go_enter Try.func42, Try.ntmps42
    go_wp2_with fail
    rw [HW.out]
    go_wp2_with (first | (go_at_call 13; with_reducible refine (callsGw (cV _)).mono ?_; rintro e w1 ⟨rfl, q, rfl⟩) | (go_at_call 13; with_reducible refine (callsGw (cW _)).mono ?_; rintro e w1 ⟨rfl, q, rfl⟩))
    go_ret
    exact ⟨by simp, below_gw hB _⟩ )
set_option maxRecDepth 100000 in
set_option maxHeartbeats 4000000 in
theorem icont_any (a b c d x y : Int) (w : World) :
    Calls Try.prog 14 #[.agg #[.int .i64 a, .int .i64 b, .int .i64 c, .int .i64 d], .agg #[.int .i64 x, .int .i64 y]] w fun e w' => e = .returned (.bool (M.icont a b c d x y)) ∧ Below w.heap.size w w' := by
  obtain ⟨W, hW, hB, hS, b0, b1⟩ := lay2 w #[.int .i64 a, .int .i64 b, .int .i64 c, .int .i64 d] 25 #[.int .i64 x, .int .i64 y] 23
  obtain ⟨p0, hp0⟩ := gw_start W
  have HW := Lib.hid (hW.trans hp0)
  clear hW hp0
  have c_b0_0 : ∀ q, (gw W q).cell? ⟨w.heap.size, 0, none⟩ = some (.int .i64 a) := cell_gw (blk_cell b0 0 _ rfl)
  have c_b0_1 : ∀ q, (gw W q).cell? ⟨w.heap.size, 1, none⟩ = some (.int .i64 b) := cell_gw (blk_cell b0 1 _ rfl)
  have c_b0_2 : ∀ q, (gw W q).cell? ⟨w.heap.size, 2, none⟩ = some (.int .i64 c) := cell_gw (blk_cell b0 2 _ rfl)
  have c_b0_3 : ∀ q, (gw W q).cell? ⟨w.heap.size, 3, none⟩ = some (.int .i64 d) := cell_gw (blk_cell b0 3 _ rfl)
  have f_b0 := blk_frozen b0
  have c_b1_0 : ∀ q, (gw W q).cell? ⟨w.heap.size + 1, 0, none⟩ = some (.int .i64 x) := cell_gw (blk_cell b1 0 _ rfl)
  have c_b1_1 : ∀ q, (gw W q).cell? ⟨w.heap.size + 1, 1, none⟩ = some (.int .i64 y) := cell_gw (blk_cell b1 1 _ rfl)
  have f_b1 := blk_frozen b1
  have cV := fun w => ivalid_any a b c d w
  have cW := fun w => valid_any x y w
  have cC := fun w => cmp_any a b x y w
  have cD := fun w => cmp_any x y c d w
  unfold M.icont
  generalize M.ivld a b c d = v1 at cV ⊢
  generalize M.vld x y = v2 at cW ⊢
  generalize M.cmpF a b x y = r1 at cC ⊢
  generalize M.cmpF x y c d = r2 at cD ⊢
  obtain ⟨v3, hv3⟩ : ∃ v, decide (r1 ≤ 0) = v := ⟨_, rfl⟩
  rw [hv3]
  cases v1 <;> cases v2 <;> cases v3 <;>
  ( go_enter Try.func14, Try.ntmps14
    go_wp2_with fail
    rw [HW.out]
    go_wp2_with (first | (go_at_call 13; with_reducible refine (callsGw (cV _)).mono ?_; rintro e w1 ⟨rfl, q, rfl⟩) | (go_at_call 40; with_reducible refine (callsGw (cW _)).mono ?_; rintro e w1 ⟨rfl, q, rfl⟩) | (go_at_call 41; with_reducible refine (callsGw (cC _)).mono ?_; rintro e w1 ⟨rfl, q, rfl⟩) | (go_at_call 41; with_reducible refine (callsGw (cD _)).mono ?_; rintro e w1 ⟨rfl, q, rfl⟩))
    go_ret
    exact ⟨by simp, below_gw hB _⟩ )
set_option maxRecDepth 100000 in
set_option maxHeartbeats 4000000 in
theorem iin_any (a b c d e f g h : Int) (w : World) :
    Calls Try.prog 16 #[.agg #[.int .i64 a, .int .i64 b, .int .i64 c, .int .i64 d], .agg #[.int .i64 e, .int .i64 f, .int .i64 g, .int .i64 h]] w fun x w' => x = .returned (.bool (M.iin a b c d e f g h)) ∧ Below w.heap.size w w' := by
  obtain ⟨W, hW, hB, hS, b0, b1⟩ := lay2 w #[.int .i64 a, .int .i64 b, .int .i64 c, .int .i64 d] 25 #[.int .i64 e, .int .i64 f, .int .i64 g, .int .i64 h] 25
  obtain ⟨p0, hp0⟩ := gw_start W
  have HW := Lib.hid (hW.trans hp0)
  clear hW hp0
  have c_b0_0 : ∀ q, (gw W q).cell? ⟨w.heap.size, 0, none⟩ = some (.int .i64 a) := cell_gw (blk_cell b0 0 _ rfl)
  have c_b0_1 : ∀ q, (gw W q).cell? ⟨w.heap.size, 1, none⟩ = some (.int .i64 b) := cell_gw (blk_cell b0 1 _ rfl)
  have c_b0_2 : ∀ q, (gw W q).cell? ⟨w.heap.size, 2, none⟩ = some (.int .i64 c) := cell_gw (blk_cell b0 2 _ rfl)
  have c_b0_3 : ∀ q, (gw W q).cell? ⟨w.heap.size, 3, none⟩ = some (.int .i64 d) := cell_gw (blk_cell b0 3 _ rfl)
  have f_b0 := blk_frozen b0
  have c_b1_0 : ∀ q, (gw W q).cell? ⟨w.heap.size + 1, 0, none⟩ = some (.int .i64 e) := cell_gw (blk_cell b1 0 _ rfl)
  have c_b1_1 : ∀ q, (gw W q).cell? ⟨w.heap.size + 1, 1, none⟩ = some (.int .i64 f) := cell_gw (blk_cell b1 1 _ rfl)
  have c_b1_2 : ∀ q, (gw W q).cell? ⟨w.heap.size + 1, 2, none⟩ = some (.int .i64 g) := cell_gw (blk_cell b1 2 _ rfl)
  have c_b1_3 : ∀ q, (gw W q).cell? ⟨w.heap.size + 1, 3, none⟩ = some (.int .i64 h) := cell_gw (blk_cell b1 3 _ rfl)
  have f_b1 := blk_frozen b1
  have cV := fun w => ivalid_any a b c d w
  have cC := fun w => icont_any e f g h a b w
  have cD := fun w => icont_any e f g h c d w
  unfold M.iin
  generalize M.ivld a b c d = v1 at cV ⊢
  generalize M.icont e f g h a b = v2 at cC ⊢
  generalize M.icont e f g h c d = v3 at cD ⊢
  cases v1 <;> cases v2 <;>
  ( go_enter Try.func16, Try.ntmps16
    go_wp2_with fail
    rw [HW.out]
    go_wp2_with (first | (go_at_call 13; with_reducible refine (callsGw (cV _)).mono ?_; rintro e w1 ⟨rfl, q, rfl⟩) | (go_at_call 14; with_reducible refine (callsGw (cC _)).mono ?_; rintro e w1 ⟨rfl, q, rfl⟩) | (go_at_call 14; with_reducible refine (callsGw (cD _)).mono ?_; rintro e w1 ⟨rfl, q, rfl⟩))
    go_ret
    exact ⟨by simp, below_gw hB _⟩ )
set_option maxRecDepth 100000 in
set_option maxHeartbeats 4000000 in
theorem lessr_any (a b c d : Int) (w : World) :
    Calls Try.prog 45 #[.agg #[.int .i64 a, .int .i64 b], .agg #[.int .i64 c, .int .i64 d]] w fun e w' => e = .returned (.tuple #[.agg #[.int .i64 (M.lessr a b c d).1, .int .i64 (M.lessr a b c d).2.1], .int .i64 (M.lessr a b c d).2.2]) ∧ Below w.heap.size w w' := by
  obtain ⟨W, hW, hB, hS, b0, b1, b2⟩ := lay3 w #[.int .i64 a, .int .i64 b] 23 #[.int .i64 c, .int .i64 d] 23 #[.int .i64 0, .int .i64 0] 23
  obtain ⟨p0, hp0⟩ := gw_start W
  have HW := Lib.hid (hW.trans hp0)
  clear hW hp0
  have c_b0_0 : ∀ q, (gw W q).cell? ⟨w.heap.size, 0, none⟩ = some (.int .i64 a) := cell_gw (blk_cell b0 0 _ rfl)
  have c_b0_1 : ∀ q, (gw W q).cell? ⟨w.heap.size, 1, none⟩ = some (.int .i64 b) := cell_gw (blk_cell b0 1 _ rfl)
  have f_b0 := blk_frozen b0
  have c_b1_0 : ∀ q, (gw W q).cell? ⟨w.heap.size + 1, 0, none⟩ = some (.int .i64 c) := cell_gw (blk_cell b1 0 _ rfl)
  have c_b1_1 : ∀ q, (gw W q).cell? ⟨w.heap.size + 1, 1, none⟩ = some (.int .i64 d) := cell_gw (blk_cell b1 1 _ rfl)
  have f_b1 := blk_frozen b1
  have c_b2_0 : ∀ q, (gw W q).cell? ⟨w.heap.size + 1 + 1, 0, none⟩ = some (.int .i64 0) := cell_gw (blk_cell b2 0 _ rfl)
  have c_b2_1 : ∀ q, (gw W q).cell? ⟨w.heap.size + 1 + 1, 1, none⟩ = some (.int .i64 0) := cell_gw (blk_cell b2 1 _ rfl)
  have f_b2 := blk_frozen b2
  have cC := fun w => cmp_any a b c d w
  by_cases hr : M.cmpF a b c d ≤ 0
  · rw [show M.lessr a b c d = (a, b, 0) by unfold M.lessr; rw [if_pos hr]]
    have hd := decide_eq_true hr
    generalize M.cmpF a b c d = r at cC hd
    clear hr
    go_enter Try.func45, Try.ntmps45
    go_wp2_with fail
    rw [HW.out]
    go_wp2_with (go_at_call 41; with_reducible refine (callsGw (cC _)).mono ?_; rintro e w1 ⟨rfl, q, rfl⟩)
    refine bodyPost_ret (v := .tuple #[.agg #[.int .i64 a, .int .i64 b], .int .i64 0]) (by simp [results, Try.results45, go_sem, c_b2_0, c_b2_1]) rfl ⟨rfl, ?_⟩
    repeat (refine belowSet ?_ (by omega))
    exact below_gw hB _
  · rw [show M.lessr a b c d = (c, d, 0) by unfold M.lessr; rw [if_neg hr]]
    have hd := decide_eq_false hr
    generalize M.cmpF a b c d = r at cC hd
    clear hr
    go_enter Try.func45, Try.ntmps45
    go_wp2_with fail
    rw [HW.out]
    go_wp2_with (go_at_call 41; with_reducible refine (callsGw (cC _)).mono ?_; rintro e w1 ⟨rfl, q, rfl⟩)
    refine bodyPost_ret (v := .tuple #[.agg #[.int .i64 c, .int .i64 d], .int .i64 0]) (by simp [results, Try.results45, go_sem, c_b2_0, c_b2_1]) rfl ⟨rfl, ?_⟩
    repeat (refine belowSet ?_ (by omega))
    exact below_gw hB _
set_option maxRecDepth 100000 in
set_option maxHeartbeats 4000000 in
theorem morer_any (a b c d : Int) (w : World) :
    Calls Try.prog 44 #[.agg #[.int .i64 a, .int .i64 b], .agg #[.int .i64 c, .int .i64 d]] w fun e w' => e = .returned (.tuple #[.agg #[.int .i64 (M.morer a b c d).1, .int .i64 (M.morer a b c d).2.1], .int .i64 (M.morer a b c d).2.2]) ∧ Below w.heap.size w w' := by
  obtain ⟨W, hW, hB, hS, b0, b1, b2⟩ := lay3 w #[.int .i64 a, .int .i64 b] 23 #[.int .i64 c, .int .i64 d] 23 #[.int .i64 0, .int .i64 0] 23
  obtain ⟨p0, hp0⟩ := gw_start W
  have HW := Lib.hid (hW.trans hp0)
  clear hW hp0
  have c_b0_0 : ∀ q, (gw W q).cell? ⟨w.heap.size, 0, none⟩ = some (.int .i64 a) := cell_gw (blk_cell b0 0 _ rfl)
  have c_b0_1 : ∀ q, (gw W q).cell? ⟨w.heap.size, 1, none⟩ = some (.int .i64 b) := cell_gw (blk_cell b0 1 _ rfl)
  have f_b0 := blk_frozen b0
  have c_b1_0 : ∀ q, (gw W q).cell? ⟨w.heap.size + 1, 0, none⟩ = some (.int .i64 c) := cell_gw (blk_cell b1 0 _ rfl)
  have c_b1_1 : ∀ q, (gw W q).cell? ⟨w.heap.size + 1, 1, none⟩ = some (.int .i64 d) := cell_gw (blk_cell b1 1 _ rfl)
  have f_b1 := blk_frozen b1
  have c_b2_0 : ∀ q, (gw W q).cell? ⟨w.heap.size + 1 + 1, 0, none⟩ = some (.int .i64 0) := cell_gw (blk_cell b2 0 _ rfl)
  have c_b2_1 : ∀ q, (gw W q).cell? ⟨w.heap.size + 1 + 1, 1, none⟩ = some (.int .i64 0) := cell_gw (blk_cell b2 1 _ rfl)
  have f_b2 := blk_frozen b2
  have cC := fun w => cmp_any a b c d w
  by_cases hr : 0 ≤ M.cmpF a b c d
  · rw [show M.morer a b c d = (a, b, 0) by unfold M.morer; rw [if_pos hr]]
    have hd := decide_eq_true hr
    generalize M.cmpF a b c d = r at cC hd
    clear hr
    go_enter Try.func44, Try.ntmps44
    go_wp2_with fail
    rw [HW.out]
    go_wp2_with (go_at_call 41; with_reducible refine (callsGw (cC _)).mono ?_; rintro e w1 ⟨rfl, q, rfl⟩)
    refine bodyPost_ret (v := .tuple #[.agg #[.int .i64 a, .int .i64 b], .int .i64 0]) (by simp [results, Try.results44, go_sem, c_b2_0, c_b2_1]) rfl ⟨rfl, ?_⟩
    repeat (refine belowSet ?_ (by omega))
    exact below_gw hB _
  · rw [show M.morer a b c d = (c, d, 0) by unfold M.morer; rw [if_neg hr]]
    have hd := decide_eq_false hr
    generalize M.cmpF a b c d = r at cC hd
    clear hr
    go_enter Try.func44, Try.ntmps44
    go_wp2_with fail
    rw [HW.out]
    go_wp2_with (go_at_call 41; with_reducible refine (callsGw (cC _)).mono ?_; rintro e w1 ⟨rfl, q, rfl⟩)
    refine bodyPost_ret (v := .tuple #[.agg #[.int .i64 c, .int .i64 d], .int .i64 0]) (by simp [results, Try.results44, go_sem, c_b2_0, c_b2_1]) rfl ⟨rfl, ?_⟩
    repeat (refine belowSet ?_ (by omega))
    exact below_gw hB _
end Go.Proofs.Ytimdklineeeieaa
