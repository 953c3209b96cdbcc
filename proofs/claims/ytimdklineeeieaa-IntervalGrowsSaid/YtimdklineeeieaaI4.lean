/- Package interval: the operations of two intervals. -/
import Derived.Test.YtimdklineeeieaaI3
namespace Go.Proofs.Ytimdklineeeieaa
open Go.RowKit Go.Sort
set_option linter.unusedVariables false
theorem ext2 (fid : FuncId) (op : Int → Int → Int → Int → Int × Int × Int) (ent : ∀ args w, (callFunc fid args).run Try.prog w = .ok (.enter fid args) w) (hop : OpAt fid op) (a b c d e f g h : Int) (n : Nat) (w : World) (T : TypeId)
    (hb : w.heap[n]? = some (.cells #[.int .i64 a, .int .i64 b, .int .i64 c, .int .i64 d, .int .i64 e, .int .i64 f, .int .i64 g, .int .i64 h] T)) :
    Calls Try.prog 55 #[.func (.func fid) #[] #[], .slice (some ⟨n, 0, none⟩) 2 2] w fun x w' => x = .returned (.tuple #[.agg #[.int .i64 (M.extF op [(a, b, c, d), (e, f, g, h)]).1, .int .i64 (M.extF op [(a, b, c, d), (e, f, g, h)]).2.1, .int .i64 (M.extF op [(a, b, c, d), (e, f, g, h)]).2.2.1, .int .i64 (M.extF op [(a, b, c, d), (e, f, g, h)]).2.2.2.1], .int .i64 (M.extF op [(a, b, c, d), (e, f, g, h)]).2.2.2.2]) ∧ Below w.heap.size w w' := by
  refine extend_any fid op ent hop [(a, b, c, d), (e, f, g, h)] n 2 w (by simp) (by simp) ?_ ?_ ?_ ?_
  all_goals
    intro i hi
    rcases i with _ | _ | i
    · exact blk_cell hb _ _ rfl
    · exact blk_cell hb _ _ rfl
    · simp at hi; omega
theorem ext4 (fid : FuncId) (op : Int → Int → Int → Int → Int × Int × Int) (ent : ∀ args w, (callFunc fid args).run Try.prog w = .ok (.enter fid args) w) (hop : OpAt fid op) (a b c d e f g h i j k l m n o p : Int) (z : Nat) (w : World) (T : TypeId)
    (hb : w.heap[z]? = some (.cells #[.int .i64 a, .int .i64 b, .int .i64 c, .int .i64 d, .int .i64 e, .int .i64 f, .int .i64 g, .int .i64 h, .int .i64 i, .int .i64 j, .int .i64 k, .int .i64 l, .int .i64 m, .int .i64 n, .int .i64 o, .int .i64 p] T)) :
    Calls Try.prog 55 #[.func (.func fid) #[] #[], .slice (some ⟨z, 0, none⟩) 4 4] w fun x w' => x = .returned (.tuple #[.agg #[.int .i64 (M.extF op [(a, b, c, d), (e, f, g, h), (i, j, k, l), (m, n, o, p)]).1, .int .i64 (M.extF op [(a, b, c, d), (e, f, g, h), (i, j, k, l), (m, n, o, p)]).2.1, .int .i64 (M.extF op [(a, b, c, d), (e, f, g, h), (i, j, k, l), (m, n, o, p)]).2.2.1, .int .i64 (M.extF op [(a, b, c, d), (e, f, g, h), (i, j, k, l), (m, n, o, p)]).2.2.2.1], .int .i64 (M.extF op [(a, b, c, d), (e, f, g, h), (i, j, k, l), (m, n, o, p)]).2.2.2.2]) ∧ Below w.heap.size w w' := by
  refine extend_any fid op ent hop [(a, b, c, d), (e, f, g, h), (i, j, k, l), (m, n, o, p)] z 4 w (by simp) (by simp) ?_ ?_ ?_ ?_
  all_goals
    intro x hx
    rcases x with _ | _ | _ | _ | x
    · exact blk_cell hb _ _ rfl
    · exact blk_cell hb _ _ rfl
    · exact blk_cell hb _ _ rfl
    · exact blk_cell hb _ _ rfl
    · simp at hx; omega
theorem ent_add (args : Array Value) (w : World) : (callFunc 70 args).run Try.prog w = .ok (.enter 70 args) w := by go_simp
theorem ent_sub (args : Array Value) (w : World) : (callFunc 62 args).run Try.prog w = .ok (.enter 62 args) w := by go_simp
theorem ent_mul (args : Array Value) (w : World) : (callFunc 26 args).run Try.prog w = .ok (.enter 26 args) w := by go_simp
theorem ent_div (args : Array Value) (w : World) : (callFunc 28 args).run Try.prog w = .ok (.enter 28 args) w := by go_simp
theorem ent_less (args : Array Value) (w : World) : (callFunc 45 args).run Try.prog w = .ok (.enter 45 args) w := by go_simp
theorem ent_more (args : Array Value) (w : World) : (callFunc 44 args).run Try.prog w = .ok (.enter 44 args) w := by go_simp
set_option maxRecDepth 100000 in
set_option maxHeartbeats 4000000 in
theorem iadd_any (a b c d e f g h : Int) (w : World) :
    Calls Try.prog 48 #[.agg #[.int .i64 a, .int .i64 b, .int .i64 c, .int .i64 d], .agg #[.int .i64 e, .int .i64 f, .int .i64 g, .int .i64 h]] w fun x w' => x = .returned (.tuple #[.agg #[.int .i64 (M.iadd a b c d e f g h).1, .int .i64 (M.iadd a b c d e f g h).2.1, .int .i64 (M.iadd a b c d e f g h).2.2.1, .int .i64 (M.iadd a b c d e f g h).2.2.2.1], .int .i64 (M.iadd a b c d e f g h).2.2.2.2]) ∧ Below w.heap.size w w' := by
  obtain ⟨W, hW, hB, hS, b0, b1, b2⟩ := lay3 w #[.int .i64 a, .int .i64 b, .int .i64 c, .int .i64 d] 25 #[.int .i64 e, .int .i64 f, .int .i64 g, .int .i64 h] 25 #[.int .i64 0, .int .i64 0, .int .i64 0, .int .i64 0] 25
  obtain ⟨p0, hp0⟩ := gw_start W
  have HW := Lib.hid (hW.trans hp0)
  clear hW hp0
  have c_b0_0 : ∀ q, (gw W q).cell? ⟨w.heap.size, 0, none⟩ = some (.int .i64 a) := cell_gw (blk_cell b0 0 _ rfl)
  have c_b0_1 : ∀ q, (gw W q).cell? ⟨w.heap.size, 1, none⟩ = some (.int .i64 b) := cell_gw (blk_cell b0 1 _ rfl)
  have c_b0_2 : ∀ q, (gw W q).cell? ⟨w.heap.size, 2, none⟩ = some (.int .i64 c) := cell_gw (blk_cell b0 2 _ rfl)
  have c_b0_3 : ∀ q, (gw W q).cell? ⟨w.heap.size, 3, none⟩ = some (.int .i64 d) := cell_gw (blk_cell b0 3 _ rfl)
  have f_b0 := blk_frozen b0
  have c_b1_0 : ∀ q, (gw W q).cell? ⟨w.heap.size + 1, 0, none⟩ = some (.int .i64 e) := cell_gw (blk_cell b1 0 _ rfl)
  have c_b1_1 : ∀ q, (gw W q).cell? ⟨w.heap.size + 1, 1, none⟩ = some (.int .i64 f) := cell_gw (blk_cell b1 1 _ rfl)
  have c_b1_2 : ∀ q, (gw W q).cell? ⟨w.heap.size + 1, 2, none⟩ = some (.int .i64 g) := cell_gw (blk_cell b1 2 _ rfl)
  have c_b1_3 : ∀ q, (gw W q).cell? ⟨w.heap.size + 1, 3, none⟩ = some (.int .i64 h) := cell_gw (blk_cell b1 3 _ rfl)
  have f_b1 := blk_frozen b1
  have c_b2_0 : ∀ q, (gw W q).cell? ⟨w.heap.size + 1 + 1, 0, none⟩ = some (.int .i64 0) := cell_gw (blk_cell b2 0 _ rfl)
  have c_b2_1 : ∀ q, (gw W q).cell? ⟨w.heap.size + 1 + 1, 1, none⟩ = some (.int .i64 0) := cell_gw (blk_cell b2 1 _ rfl)
  have c_b2_2 : ∀ q, (gw W q).cell? ⟨w.heap.size + 1 + 1, 2, none⟩ = some (.int .i64 0) := cell_gw (blk_cell b2 2 _ rfl)
  have c_b2_3 : ∀ q, (gw W q).cell? ⟨w.heap.size + 1 + 1, 3, none⟩ = some (.int .i64 0) := cell_gw (blk_cell b2 3 _ rfl)
  have f_b2 := blk_frozen b2
  have cV := fun w => both_any a b c d e f g h w
  obtain ⟨v, hv⟩ : ∃ v, (M.ivld a b c d && M.ivld e f g h) = v := ⟨_, rfl⟩
  rw [hv] at cV
  unfold M.iadd
  rw [hv]
  clear hv
  cases v
  · rw [if_neg (by simp)]
    go_enter Try.func48, Try.ntmps48
    go_wp2_with fail
    rw [HW.out]
    go_wp2_with (go_at_call 42; with_reducible refine (callsGw (cV _)).mono ?_; rintro e w1 ⟨rfl, q, rfl⟩)
    refine bodyPost_ret (v := .tuple #[.agg #[.int .i64 0, .int .i64 0, .int .i64 0, .int .i64 0], .int .i64 1]) (by simp [results, Try.results48, go_sem, c_b2_0, c_b2_1, c_b2_2, c_b2_3]) rfl ⟨rfl, ?_⟩
    repeat (refine belowSet ?_ (by omega))
    exact below_gw hB _
  · rw [if_pos rfl]
    have cE := fun n w T hb => ext2 _ M.addF ent_add add_any a b e f c d g h n w T hb
    generalize M.extF M.addF [(a, b, e, f), (c, d, g, h)] = R at cE ⊢
    go_enter Try.func48, Try.ntmps48
    go_wp2_with fail
    rw [HW.out]
    go_wp2_with (go_at_call 42; with_reducible refine (callsGw (cV _)).mono ?_; rintro e w1 ⟨rfl, q, rfl⟩)
    clear c_b0_0 c_b0_1 c_b0_2 c_b0_3 f_b0 c_b1_0 c_b1_1 c_b1_2 c_b1_3 f_b1 c_b2_0 c_b2_1 c_b2_2 c_b2_3 f_b2
    obtain ⟨X, n, en, hnn, gen, ltn, bn, kn, ln⟩ := laid W #[.int .i64 a, .int .i64 b, .int .i64 e, .int .i64 f, .int .i64 c, .int .i64 d, .int .i64 g, .int .i64 h] 55 q
    rw [en]
    simp only [hnn]
    have b0 := kn _ _ b0
    have b1 := kn _ _ b1
    have b2 := kn _ _ b2
    have hB := ln _ hB
    clear en hnn
    have c_bn_0 : ∀ q, (gw X q).cell? ⟨n, 0, none⟩ = some (.int .i64 a) := cell_gw (blk_cell bn 0 _ rfl)
    have c_bn_1 : ∀ q, (gw X q).cell? ⟨n, 1, none⟩ = some (.int .i64 b) := cell_gw (blk_cell bn 1 _ rfl)
    have c_bn_2 : ∀ q, (gw X q).cell? ⟨n, 2, none⟩ = some (.int .i64 e) := cell_gw (blk_cell bn 2 _ rfl)
    have c_bn_3 : ∀ q, (gw X q).cell? ⟨n, 3, none⟩ = some (.int .i64 f) := cell_gw (blk_cell bn 3 _ rfl)
    have c_bn_4 : ∀ q, (gw X q).cell? ⟨n, 4, none⟩ = some (.int .i64 c) := cell_gw (blk_cell bn 4 _ rfl)
    have c_bn_5 : ∀ q, (gw X q).cell? ⟨n, 5, none⟩ = some (.int .i64 d) := cell_gw (blk_cell bn 5 _ rfl)
    have c_bn_6 : ∀ q, (gw X q).cell? ⟨n, 6, none⟩ = some (.int .i64 g) := cell_gw (blk_cell bn 6 _ rfl)
    have c_bn_7 : ∀ q, (gw X q).cell? ⟨n, 7, none⟩ = some (.int .i64 h) := cell_gw (blk_cell bn 7 _ rfl)
    have f_bn := blk_frozen bn
    have c_b2_0 : ∀ q, (gw X q).cell? ⟨w.heap.size + 1 + 1, 0, none⟩ = some (.int .i64 0) := cell_gw (blk_cell b2 0 _ rfl)
    have c_b2_1 : ∀ q, (gw X q).cell? ⟨w.heap.size + 1 + 1, 1, none⟩ = some (.int .i64 0) := cell_gw (blk_cell b2 1 _ rfl)
    have c_b2_2 : ∀ q, (gw X q).cell? ⟨w.heap.size + 1 + 1, 2, none⟩ = some (.int .i64 0) := cell_gw (blk_cell b2 2 _ rfl)
    have c_b2_3 : ∀ q, (gw X q).cell? ⟨w.heap.size + 1 + 1, 3, none⟩ = some (.int .i64 0) := cell_gw (blk_cell b2 3 _ rfl)
    have f_b2 := blk_frozen b2
    refine (callsGw (cE n _ _ (block_gw bn _))).mono ?_
    rintro x w1 ⟨rfl, q1, rfl⟩
    go_wp2_with fail
    refine bodyPost_ret (v := .tuple #[.agg #[.int .i64 R.1, .int .i64 R.2.1, .int .i64 R.2.2.1, .int .i64 R.2.2.2.1], .int .i64 R.2.2.2.2]) (by simp [results, Try.results48, go_sem, c_b2_0, c_b2_1, c_b2_2, c_b2_3]) rfl ⟨rfl, ?_⟩
    repeat (refine belowSet ?_ (by omega))
    exact below_gw hB _
set_option maxRecDepth 100000 in
set_option maxHeartbeats 4000000 in
theorem isub_any (a b c d e f g h : Int) (w : World) :
    Calls Try.prog 37 #[.agg #[.int .i64 a, .int .i64 b, .int .i64 c, .int .i64 d], .agg #[.int .i64 e, .int .i64 f, .int .i64 g, .int .i64 h]] w fun x w' => x = .returned (.tuple #[.agg #[.int .i64 (M.isub a b c d e f g h).1, .int .i64 (M.isub a b c d e f g h).2.1, .int .i64 (M.isub a b c d e f g h).2.2.1, .int .i64 (M.isub a b c d e f g h).2.2.2.1], .int .i64 (M.isub a b c d e f g h).2.2.2.2]) ∧ Below w.heap.size w w' := by
  obtain ⟨W, hW, hB, hS, b0, b1, b2⟩ := lay3 w #[.int .i64 a, .int .i64 b, .int .i64 c, .int .i64 d] 25 #[.int .i64 e, .int .i64 f, .int .i64 g, .int .i64 h] 25 #[.int .i64 0, .int .i64 0, .int .i64 0, .int .i64 0] 25
  obtain ⟨p0, hp0⟩ := gw_start W
  have HW := Lib.hid (hW.trans hp0)
  clear hW hp0
  have c_b0_0 : ∀ q, (gw W q).cell? ⟨w.heap.size, 0, none⟩ = some (.int .i64 a) := cell_gw (blk_cell b0 0 _ rfl)
  have c_b0_1 : ∀ q, (gw W q).cell? ⟨w.heap.size, 1, none⟩ = some (.int .i64 b) := cell_gw (blk_cell b0 1 _ rfl)
  have c_b0_2 : ∀ q, (gw W q).cell? ⟨w.heap.size, 2, none⟩ = some (.int .i64 c) := cell_gw (blk_cell b0 2 _ rfl)
  have c_b0_3 : ∀ q, (gw W q).cell? ⟨w.heap.size, 3, none⟩ = some (.int .i64 d) := cell_gw (blk_cell b0 3 _ rfl)
  have f_b0 := blk_frozen b0
  have c_b1_0 : ∀ q, (gw W q).cell? ⟨w.heap.size + 1, 0, none⟩ = some (.int .i64 e) := cell_gw (blk_cell b1 0 _ rfl)
  have c_b1_1 : ∀ q, (gw W q).cell? ⟨w.heap.size + 1, 1, none⟩ = some (.int .i64 f) := cell_gw (blk_cell b1 1 _ rfl)
  have c_b1_2 : ∀ q, (gw W q).cell? ⟨w.heap.size + 1, 2, none⟩ = some (.int .i64 g) := cell_gw (blk_cell b1 2 _ rfl)
  have c_b1_3 : ∀ q, (gw W q).cell? ⟨w.heap.size + 1, 3, none⟩ = some (.int .i64 h) := cell_gw (blk_cell b1 3 _ rfl)
  have f_b1 := blk_frozen b1
  have c_b2_0 : ∀ q, (gw W q).cell? ⟨w.heap.size + 1 + 1, 0, none⟩ = some (.int .i64 0) := cell_gw (blk_cell b2 0 _ rfl)
  have c_b2_1 : ∀ q, (gw W q).cell? ⟨w.heap.size + 1 + 1, 1, none⟩ = some (.int .i64 0) := cell_gw (blk_cell b2 1 _ rfl)
  have c_b2_2 : ∀ q, (gw W q).cell? ⟨w.heap.size + 1 + 1, 2, none⟩ = some (.int .i64 0) := cell_gw (blk_cell b2 2 _ rfl)
  have c_b2_3 : ∀ q, (gw W q).cell? ⟨w.heap.size + 1 + 1, 3, none⟩ = some (.int .i64 0) := cell_gw (blk_cell b2 3 _ rfl)
  have f_b2 := blk_frozen b2
  have cV := fun w => both_any a b c d e f g h w
  obtain ⟨v, hv⟩ : ∃ v, (M.ivld a b c d && M.ivld e f g h) = v := ⟨_, rfl⟩
  rw [hv] at cV
  unfold M.isub
  rw [hv]
  clear hv
  cases v
  · rw [if_neg (by simp)]
    go_enter Try.func37, Try.ntmps37
    go_wp2_with fail
    rw [HW.out]
    go_wp2_with (go_at_call 42; with_reducible refine (callsGw (cV _)).mono ?_; rintro e w1 ⟨rfl, q, rfl⟩)
    refine bodyPost_ret (v := .tuple #[.agg #[.int .i64 0, .int .i64 0, .int .i64 0, .int .i64 0], .int .i64 1]) (by simp [results, Try.results37, go_sem, c_b2_0, c_b2_1, c_b2_2, c_b2_3]) rfl ⟨rfl, ?_⟩
    repeat (refine belowSet ?_ (by omega))
    exact below_gw hB _
  · rw [if_pos rfl]
    have cE := fun n w T hb => ext2 _ M.subF ent_sub sub_any a b g h c d e f n w T hb
    generalize M.extF M.subF [(a, b, g, h), (c, d, e, f)] = R at cE ⊢
    go_enter Try.func37, Try.ntmps37
    go_wp2_with fail
    rw [HW.out]
    go_wp2_with (go_at_call 42; with_reducible refine (callsGw (cV _)).mono ?_; rintro e w1 ⟨rfl, q, rfl⟩)
    clear c_b0_0 c_b0_1 c_b0_2 c_b0_3 f_b0 c_b1_0 c_b1_1 c_b1_2 c_b1_3 f_b1 c_b2_0 c_b2_1 c_b2_2 c_b2_3 f_b2
    obtain ⟨X, n, en, hnn, gen, ltn, bn, kn, ln⟩ := laid W #[.int .i64 a, .int .i64 b, .int .i64 g, .int .i64 h, .int .i64 c, .int .i64 d, .int .i64 e, .int .i64 f] 55 q
    rw [en]
    simp only [hnn]
    have b0 := kn _ _ b0
    have b1 := kn _ _ b1
    have b2 := kn _ _ b2
    have hB := ln _ hB
    clear en hnn
    have c_bn_0 : ∀ q, (gw X q).cell? ⟨n, 0, none⟩ = some (.int .i64 a) := cell_gw (blk_cell bn 0 _ rfl)
    have c_bn_1 : ∀ q, (gw X q).cell? ⟨n, 1, none⟩ = some (.int .i64 b) := cell_gw (blk_cell bn 1 _ rfl)
    have c_bn_2 : ∀ q, (gw X q).cell? ⟨n, 2, none⟩ = some (.int .i64 g) := cell_gw (blk_cell bn 2 _ rfl)
    have c_bn_3 : ∀ q, (gw X q).cell? ⟨n, 3, none⟩ = some (.int .i64 h) := cell_gw (blk_cell bn 3 _ rfl)
    have c_bn_4 : ∀ q, (gw X q).cell? ⟨n, 4, none⟩ = some (.int .i64 c) := cell_gw (blk_cell bn 4 _ rfl)
    have c_bn_5 : ∀ q, (gw X q).cell? ⟨n, 5, none⟩ = some (.int .i64 d) := cell_gw (blk_cell bn 5 _ rfl)
    have c_bn_6 : ∀ q, (gw X q).cell? ⟨n, 6, none⟩ = some (.int .i64 e) := cell_gw (blk_cell bn 6 _ rfl)
    have c_bn_7 : ∀ q, (gw X q).cell? ⟨n, 7, none⟩ = some (.int .i64 f) := cell_gw (blk_cell bn 7 _ rfl)
    have f_bn := blk_frozen bn
    have c_b2_0 : ∀ q, (gw X q).cell? ⟨w.heap.size + 1 + 1, 0, none⟩ = some (.int .i64 0) := cell_gw (blk_cell b2 0 _ rfl)
    have c_b2_1 : ∀ q, (gw X q).cell? ⟨w.heap.size + 1 + 1, 1, none⟩ = some (.int .i64 0) := cell_gw (blk_cell b2 1 _ rfl)
    have c_b2_2 : ∀ q, (gw X q).cell? ⟨w.heap.size + 1 + 1, 2, none⟩ = some (.int .i64 0) := cell_gw (blk_cell b2 2 _ rfl)
    have c_b2_3 : ∀ q, (gw X q).cell? ⟨w.heap.size + 1 + 1, 3, none⟩ = some (.int .i64 0) := cell_gw (blk_cell b2 3 _ rfl)
    have f_b2 := blk_frozen b2
    refine (callsGw (cE n _ _ (block_gw bn _))).mono ?_
    rintro x w1 ⟨rfl, q1, rfl⟩
    go_wp2_with fail
    refine bodyPost_ret (v := .tuple #[.agg #[.int .i64 R.1, .int .i64 R.2.1, .int .i64 R.2.2.1, .int .i64 R.2.2.2.1], .int .i64 R.2.2.2.2]) (by simp [results, Try.results37, go_sem, c_b2_0, c_b2_1, c_b2_2, c_b2_3]) rfl ⟨rfl, ?_⟩
    repeat (refine belowSet ?_ (by omega))
    exact below_gw hB _
set_option maxRecDepth 100000 in
set_option maxHeartbeats 4000000 in
theorem imin_any (a b c d e f g h : Int) (w : World) :
    Calls Try.prog 49 #[.agg #[.int .i64 a, .int .i64 b, .int .i64 c, .int .i64 d], .agg #[.int .i64 e, .int .i64 f, .int .i64 g, .int .i64 h]] w fun x w' => x = .returned (.tuple #[.agg #[.int .i64 (M.imin a b c d e f g h).1, .int .i64 (M.imin a b c d e f g h).2.1, .int .i64 (M.imin a b c d e f g h).2.2.1, .int .i64 (M.imin a b c d e f g h).2.2.2.1], .int .i64 (M.imin a b c d e f g h).2.2.2.2]) ∧ Below w.heap.size w w' := by
  obtain ⟨W, hW, hB, hS, b0, b1, b2⟩ := lay3 w #[.int .i64 a, .int .i64 b, .int .i64 c, .int .i64 d] 25 #[.int .i64 e, .int .i64 f, .int .i64 g, .int .i64 h] 25 #[.int .i64 0, .int .i64 0, .int .i64 0, .int .i64 0] 25
  obtain ⟨p0, hp0⟩ := gw_start W
  have HW := Lib.hid (hW.trans hp0)
  clear hW hp0
  have c_b0_0 : ∀ q, (gw W q).cell? ⟨w.heap.size, 0, none⟩ = some (.int .i64 a) := cell_gw (blk_cell b0 0 _ rfl)
  have c_b0_1 : ∀ q, (gw W q).cell? ⟨w.heap.size, 1, none⟩ = some (.int .i64 b) := cell_gw (blk_cell b0 1 _ rfl)
  have c_b0_2 : ∀ q, (gw W q).cell? ⟨w.heap.size, 2, none⟩ = some (.int .i64 c) := cell_gw (blk_cell b0 2 _ rfl)
  have c_b0_3 : ∀ q, (gw W q).cell? ⟨w.heap.size, 3, none⟩ = some (.int .i64 d) := cell_gw (blk_cell b0 3 _ rfl)
  have f_b0 := blk_frozen b0
  have c_b1_0 : ∀ q, (gw W q).cell? ⟨w.heap.size + 1, 0, none⟩ = some (.int .i64 e) := cell_gw (blk_cell b1 0 _ rfl)
  have c_b1_1 : ∀ q, (gw W q).cell? ⟨w.heap.size + 1, 1, none⟩ = some (.int .i64 f) := cell_gw (blk_cell b1 1 _ rfl)
  have c_b1_2 : ∀ q, (gw W q).cell? ⟨w.heap.size + 1, 2, none⟩ = some (.int .i64 g) := cell_gw (blk_cell b1 2 _ rfl)
  have c_b1_3 : ∀ q, (gw W q).cell? ⟨w.heap.size + 1, 3, none⟩ = some (.int .i64 h) := cell_gw (blk_cell b1 3 _ rfl)
  have f_b1 := blk_frozen b1
  have c_b2_0 : ∀ q, (gw W q).cell? ⟨w.heap.size + 1 + 1, 0, none⟩ = some (.int .i64 0) := cell_gw (blk_cell b2 0 _ rfl)
  have c_b2_1 : ∀ q, (gw W q).cell? ⟨w.heap.size + 1 + 1, 1, none⟩ = some (.int .i64 0) := cell_gw (blk_cell b2 1 _ rfl)
  have c_b2_2 : ∀ q, (gw W q).cell? ⟨w.heap.size + 1 + 1, 2, none⟩ = some (.int .i64 0) := cell_gw (blk_cell b2 2 _ rfl)
  have c_b2_3 : ∀ q, (gw W q).cell? ⟨w.heap.size + 1 + 1, 3, none⟩ = some (.int .i64 0) := cell_gw (blk_cell b2 3 _ rfl)
  have f_b2 := blk_frozen b2
  have cV := fun w => both_any a b c d e f g h w
  obtain ⟨v, hv⟩ : ∃ v, (M.ivld a b c d && M.ivld e f g h) = v := ⟨_, rfl⟩
  rw [hv] at cV
  unfold M.imin
  rw [hv]
  clear hv
  cases v
  · rw [if_neg (by simp)]
    go_enter Try.func49, Try.ntmps49
    go_wp2_with fail
    rw [HW.out]
    go_wp2_with (go_at_call 42; with_reducible refine (callsGw (cV _)).mono ?_; rintro e w1 ⟨rfl, q, rfl⟩)
    refine bodyPost_ret (v := .tuple #[.agg #[.int .i64 0, .int .i64 0, .int .i64 0, .int .i64 0], .int .i64 1]) (by simp [results, Try.results49, go_sem, c_b2_0, c_b2_1, c_b2_2, c_b2_3]) rfl ⟨rfl, ?_⟩
    repeat (refine belowSet ?_ (by omega))
    exact below_gw hB _
  · rw [if_pos rfl]
    have cE := fun n w T hb => ext2 _ M.lessr ent_less lessr_any a b e f c d g h n w T hb
    generalize M.extF M.lessr [(a, b, e, f), (c, d, g, h)] = R at cE ⊢
    go_enter Try.func49, Try.ntmps49
    go_wp2_with fail
    rw [HW.out]
    go_wp2_with (go_at_call 42; with_reducible refine (callsGw (cV _)).mono ?_; rintro e w1 ⟨rfl, q, rfl⟩)
    clear c_b0_0 c_b0_1 c_b0_2 c_b0_3 f_b0 c_b1_0 c_b1_1 c_b1_2 c_b1_3 f_b1 c_b2_0 c_b2_1 c_b2_2 c_b2_3 f_b2
    obtain ⟨X, n, en, hnn, gen, ltn, bn, kn, ln⟩ := laid W #[.int .i64 a, .int .i64 b, .int .i64 e, .int .i64 f, .int .i64 c, .int .i64 d, .int .i64 g, .int .i64 h] 55 q
    rw [en]
    simp only [hnn]
    have b0 := kn _ _ b0
    have b1 := kn _ _ b1
    have b2 := kn _ _ b2
    have hB := ln _ hB
    clear en hnn
    have c_bn_0 : ∀ q, (gw X q).cell? ⟨n, 0, none⟩ = some (.int .i64 a) := cell_gw (blk_cell bn 0 _ rfl)
    have c_bn_1 : ∀ q, (gw X q).cell? ⟨n, 1, none⟩ = some (.int .i64 b) := cell_gw (blk_cell bn 1 _ rfl)
    have c_bn_2 : ∀ q, (gw X q).cell? ⟨n, 2, none⟩ = some (.int .i64 e) := cell_gw (blk_cell bn 2 _ rfl)
    have c_bn_3 : ∀ q, (gw X q).cell? ⟨n, 3, none⟩ = some (.int .i64 f) := cell_gw (blk_cell bn 3 _ rfl)
    have c_bn_4 : ∀ q, (gw X q).cell? ⟨n, 4, none⟩ = some (.int .i64 c) := cell_gw (blk_cell bn 4 _ rfl)
    have c_bn_5 : ∀ q, (gw X q).cell? ⟨n, 5, none⟩ = some (.int .i64 d) := cell_gw (blk_cell bn 5 _ rfl)
    have c_bn_6 : ∀ q, (gw X q).cell? ⟨n, 6, none⟩ = some (.int .i64 g) := cell_gw (blk_cell bn 6 _ rfl)
    have c_bn_7 : ∀ q, (gw X q).cell? ⟨n, 7, none⟩ = some (.int .i64 h) := cell_gw (blk_cell bn 7 _ rfl)
    have f_bn := blk_frozen bn
    have c_b2_0 : ∀ q, (gw X q).cell? ⟨w.heap.size + 1 + 1, 0, none⟩ = some (.int .i64 0) := cell_gw (blk_cell b2 0 _ rfl)
    have c_b2_1 : ∀ q, (gw X q).cell? ⟨w.heap.size + 1 + 1, 1, none⟩ = some (.int .i64 0) := cell_gw (blk_cell b2 1 _ rfl)
    have c_b2_2 : ∀ q, (gw X q).cell? ⟨w.heap.size + 1 + 1, 2, none⟩ = some (.int .i64 0) := cell_gw (blk_cell b2 2 _ rfl)
    have c_b2_3 : ∀ q, (gw X q).cell? ⟨w.heap.size + 1 + 1, 3, none⟩ = some (.int .i64 0) := cell_gw (blk_cell b2 3 _ rfl)
    have f_b2 := blk_frozen b2
    refine (callsGw (cE n _ _ (block_gw bn _))).mono ?_
    rintro x w1 ⟨rfl, q1, rfl⟩
    go_wp2_with fail
    refine bodyPost_ret (v := .tuple #[.agg #[.int .i64 R.1, .int .i64 R.2.1, .int .i64 R.2.2.1, .int .i64 R.2.2.2.1], .int .i64 R.2.2.2.2]) (by simp [results, Try.results49, go_sem, c_b2_0, c_b2_1, c_b2_2, c_b2_3]) rfl ⟨rfl, ?_⟩
    repeat (refine belowSet ?_ (by omega))
    exact below_gw hB _
set_option maxRecDepth 100000 in
set_option maxHeartbeats 4000000 in
theorem imax_any (a b c d e f g h : Int) (w : World) :
    Calls Try.prog 38 #[.agg #[.int .i64 a, .int .i64 b, .int .i64 c, .int .i64 d], .agg #[.int .i64 e, .int .i64 f, .int .i64 g, .int .i64 h]] w fun x w' => x = .returned (.tuple #[.agg #[.int .i64 (M.imax a b c d e f g h).1, .int .i64 (M.imax a b c d e f g h).2.1, .int .i64 (M.imax a b c d e f g h).2.2.1, .int .i64 (M.imax a b c d e f g h).2.2.2.1], .int .i64 (M.imax a b c d e f g h).2.2.2.2]) ∧ Below w.heap.size w w' := by
  obtain ⟨W, hW, hB, hS, b0, b1, b2⟩ := lay3 w #[.int .i64 a, .int .i64 b, .int .i64 c, .int .i64 d] 25 #[.int .i64 e, .int .i64 f, .int .i64 g, .int .i64 h] 25 #[.int .i64 0, .int .i64 0, .int .i64 0, .int .i64 0] 25
  obtain ⟨p0, hp0⟩ := gw_start W
  have HW := Lib.hid (hW.trans hp0)
  clear hW hp0
  have c_b0_0 : ∀ q, (gw W q).cell? ⟨w.heap.size, 0, none⟩ = some (.int .i64 a) := cell_gw (blk_cell b0 0 _ rfl)
  have c_b0_1 : ∀ q, (gw W q).cell? ⟨w.heap.size, 1, none⟩ = some (.int .i64 b) := cell_gw (blk_cell b0 1 _ rfl)
  have c_b0_2 : ∀ q, (gw W q).cell? ⟨w.heap.size, 2, none⟩ = some (.int .i64 c) := cell_gw (blk_cell b0 2 _ rfl)
  have c_b0_3 : ∀ q, (gw W q).cell? ⟨w.heap.size, 3, none⟩ = some (.int .i64 d) := cell_gw (blk_cell b0 3 _ rfl)
  have f_b0 := blk_frozen b0
  have c_b1_0 : ∀ q, (gw W q).cell? ⟨w.heap.size + 1, 0, none⟩ = some (.int .i64 e) := cell_gw (blk_cell b1 0 _ rfl)
  have c_b1_1 : ∀ q, (gw W q).cell? ⟨w.heap.size + 1, 1, none⟩ = some (.int .i64 f) := cell_gw (blk_cell b1 1 _ rfl)
  have c_b1_2 : ∀ q, (gw W q).cell? ⟨w.heap.size + 1, 2, none⟩ = some (.int .i64 g) := cell_gw (blk_cell b1 2 _ rfl)
  have c_b1_3 : ∀ q, (gw W q).cell? ⟨w.heap.size + 1, 3, none⟩ = some (.int .i64 h) := cell_gw (blk_cell b1 3 _ rfl)
  have f_b1 := blk_frozen b1
  have c_b2_0 : ∀ q, (gw W q).cell? ⟨w.heap.size + 1 + 1, 0, none⟩ = some (.int .i64 0) := cell_gw (blk_cell b2 0 _ rfl)
  have c_b2_1 : ∀ q, (gw W q).cell? ⟨w.heap.size + 1 + 1, 1, none⟩ = some (.int .i64 0) := cell_gw (blk_cell b2 1 _ rfl)
  have c_b2_2 : ∀ q, (gw W q).cell? ⟨w.heap.size + 1 + 1, 2, none⟩ = some (.int .i64 0) := cell_gw (blk_cell b2 2 _ rfl)
  have c_b2_3 : ∀ q, (gw W q).cell? ⟨w.heap.size + 1 + 1, 3, none⟩ = some (.int .i64 0) := cell_gw (blk_cell b2 3 _ rfl)
  have f_b2 := blk_frozen b2
  have cV := fun w => both_any a b c d e f g h w
  obtain ⟨v, hv⟩ : ∃ v, (M.ivld a b c d && M.ivld e f g h) = v := ⟨_, rfl⟩
  rw [hv] at cV
  unfold M.imax
  rw [hv]
  clear hv
  cases v
  · rw [if_neg (by simp)]
    go_enter Try.func38, Try.ntmps38
    go_wp2_with fail
    rw [HW.out]
    go_wp2_with (go_at_call 42; with_reducible refine (callsGw (cV _)).mono ?_; rintro e w1 ⟨rfl, q, rfl⟩)
    refine bodyPost_ret (v := .tuple #[.agg #[.int .i64 0, .int .i64 0, .int .i64 0, .int .i64 0], .int .i64 1]) (by simp [results, Try.results38, go_sem, c_b2_0, c_b2_1, c_b2_2, c_b2_3]) rfl ⟨rfl, ?_⟩
    repeat (refine belowSet ?_ (by omega))
    exact below_gw hB _
  · rw [if_pos rfl]
    have cE := fun n w T hb => ext2 _ M.morer ent_more morer_any a b e f c d g h n w T hb
    generalize M.extF M.morer [(a, b, e, f), (c, d, g, h)] = R at cE ⊢
    go_enter Try.func38, Try.ntmps38
    go_wp2_with fail
    rw [HW.out]
    go_wp2_with (go_at_call 42; with_reducible refine (callsGw (cV _)).mono ?_; rintro e w1 ⟨rfl, q, rfl⟩)
    clear c_b0_0 c_b0_1 c_b0_2 c_b0_3 f_b0 c_b1_0 c_b1_1 c_b1_2 c_b1_3 f_b1 c_b2_0 c_b2_1 c_b2_2 c_b2_3 f_b2
    obtain ⟨X, n, en, hnn, gen, ltn, bn, kn, ln⟩ := laid W #[.int .i64 a, .int .i64 b, .int .i64 e, .int .i64 f, .int .i64 c, .int .i64 d, .int .i64 g, .int .i64 h] 55 q
    rw [en]
    simp only [hnn]
    have b0 := kn _ _ b0
    have b1 := kn _ _ b1
    have b2 := kn _ _ b2
    have hB := ln _ hB
    clear en hnn
    have c_bn_0 : ∀ q, (gw X q).cell? ⟨n, 0, none⟩ = some (.int .i64 a) := cell_gw (blk_cell bn 0 _ rfl)
    have c_bn_1 : ∀ q, (gw X q).cell? ⟨n, 1, none⟩ = some (.int .i64 b) := cell_gw (blk_cell bn 1 _ rfl)
    have c_bn_2 : ∀ q, (gw X q).cell? ⟨n, 2, none⟩ = some (.int .i64 e) := cell_gw (blk_cell bn 2 _ rfl)
    have c_bn_3 : ∀ q, (gw X q).cell? ⟨n, 3, none⟩ = some (.int .i64 f) := cell_gw (blk_cell bn 3 _ rfl)
    have c_bn_4 : ∀ q, (gw X q).cell? ⟨n, 4, none⟩ = some (.int .i64 c) := cell_gw (blk_cell bn 4 _ rfl)
    have c_bn_5 : ∀ q, (gw X q).cell? ⟨n, 5, none⟩ = some (.int .i64 d) := cell_gw (blk_cell bn 5 _ rfl)
    have c_bn_6 : ∀ q, (gw X q).cell? ⟨n, 6, none⟩ = some (.int .i64 g) := cell_gw (blk_cell bn 6 _ rfl)
    have c_bn_7 : ∀ q, (gw X q).cell? ⟨n, 7, none⟩ = some (.int .i64 h) := cell_gw (blk_cell bn 7 _ rfl)
    have f_bn := blk_frozen bn
    have c_b2_0 : ∀ q, (gw X q).cell? ⟨w.heap.size + 1 + 1, 0, none⟩ = some (.int .i64 0) := cell_gw (blk_cell b2 0 _ rfl)
    have c_b2_1 : ∀ q, (gw X q).cell? ⟨w.heap.size + 1 + 1, 1, none⟩ = some (.int .i64 0) := cell_gw (blk_cell b2 1 _ rfl)
    have c_b2_2 : ∀ q, (gw X q).cell? ⟨w.heap.size + 1 + 1, 2, none⟩ = some (.int .i64 0) := cell_gw (blk_cell b2 2 _ rfl)
    have c_b2_3 : ∀ q, (gw X q).cell? ⟨w.heap.size + 1 + 1, 3, none⟩ = some (.int .i64 0) := cell_gw (blk_cell b2 3 _ rfl)
    have f_b2 := blk_frozen b2
    refine (callsGw (cE n _ _ (block_gw bn _))).mono ?_
    rintro x w1 ⟨rfl, q1, rfl⟩
    go_wp2_with fail
    refine bodyPost_ret (v := .tuple #[.agg #[.int .i64 R.1, .int .i64 R.2.1, .int .i64 R.2.2.1, .int .i64 R.2.2.2.1], .int .i64 R.2.2.2.2]) (by simp [results, Try.results38, go_sem, c_b2_0, c_b2_1, c_b2_2, c_b2_3]) rfl ⟨rfl, ?_⟩
    repeat (refine belowSet ?_ (by omega))
    exact below_gw hB _
set_option maxRecDepth 100000 in
set_option maxHeartbeats 4000000 in
theorem imul_any (a b c d e f g h : Int) (w : World) :
    Calls Try.prog 35 #[.agg #[.int .i64 a, .int .i64 b, .int .i64 c, .int .i64 d], .agg #[.int .i64 e, .int .i64 f, .int .i64 g, .int .i64 h]] w fun x w' => x = .returned (.tuple #[.agg #[.int .i64 (M.imul a b c d e f g h).1, .int .i64 (M.imul a b c d e f g h).2.1, .int .i64 (M.imul a b c d e f g h).2.2.1, .int .i64 (M.imul a b c d e f g h).2.2.2.1], .int .i64 (M.imul a b c d e f g h).2.2.2.2]) ∧ Below w.heap.size w w' := by
  obtain ⟨W, hW, hB, hS, b0, b1, b2⟩ := lay3 w #[.int .i64 a, .int .i64 b, .int .i64 c, .int .i64 d] 25 #[.int .i64 e, .int .i64 f, .int .i64 g, .int .i64 h] 25 #[.int .i64 0, .int .i64 0, .int .i64 0, .int .i64 0] 25
  obtain ⟨p0, hp0⟩ := gw_start W
  have HW := Lib.hid (hW.trans hp0)
  clear hW hp0
  have c_b0_0 : ∀ q, (gw W q).cell? ⟨w.heap.size, 0, none⟩ = some (.int .i64 a) := cell_gw (blk_cell b0 0 _ rfl)
  have c_b0_1 : ∀ q, (gw W q).cell? ⟨w.heap.size, 1, none⟩ = some (.int .i64 b) := cell_gw (blk_cell b0 1 _ rfl)
  have c_b0_2 : ∀ q, (gw W q).cell? ⟨w.heap.size, 2, none⟩ = some (.int .i64 c) := cell_gw (blk_cell b0 2 _ rfl)
  have c_b0_3 : ∀ q, (gw W q).cell? ⟨w.heap.size, 3, none⟩ = some (.int .i64 d) := cell_gw (blk_cell b0 3 _ rfl)
  have f_b0 := blk_frozen b0
  have c_b1_0 : ∀ q, (gw W q).cell? ⟨w.heap.size + 1, 0, none⟩ = some (.int .i64 e) := cell_gw (blk_cell b1 0 _ rfl)
  have c_b1_1 : ∀ q, (gw W q).cell? ⟨w.heap.size + 1, 1, none⟩ = some (.int .i64 f) := cell_gw (blk_cell b1 1 _ rfl)
  have c_b1_2 : ∀ q, (gw W q).cell? ⟨w.heap.size + 1, 2, none⟩ = some (.int .i64 g) := cell_gw (blk_cell b1 2 _ rfl)
  have c_b1_3 : ∀ q, (gw W q).cell? ⟨w.heap.size + 1, 3, none⟩ = some (.int .i64 h) := cell_gw (blk_cell b1 3 _ rfl)
  have f_b1 := blk_frozen b1
  have c_b2_0 : ∀ q, (gw W q).cell? ⟨w.heap.size + 1 + 1, 0, none⟩ = some (.int .i64 0) := cell_gw (blk_cell b2 0 _ rfl)
  have c_b2_1 : ∀ q, (gw W q).cell? ⟨w.heap.size + 1 + 1, 1, none⟩ = some (.int .i64 0) := cell_gw (blk_cell b2 1 _ rfl)
  have c_b2_2 : ∀ q, (gw W q).cell? ⟨w.heap.size + 1 + 1, 2, none⟩ = some (.int .i64 0) := cell_gw (blk_cell b2 2 _ rfl)
  have c_b2_3 : ∀ q, (gw W q).cell? ⟨w.heap.size + 1 + 1, 3, none⟩ = some (.int .i64 0) := cell_gw (blk_cell b2 3 _ rfl)
  have f_b2 := blk_frozen b2
  have cV := fun w => both_any a b c d e f g h w
  obtain ⟨v, hv⟩ : ∃ v, (M.ivld a b c d && M.ivld e f g h) = v := ⟨_, rfl⟩
  rw [hv] at cV
  unfold M.imul
  rw [hv]
  clear hv
  cases v
  · rw [if_neg (by simp)]
    go_enter Try.func35, Try.ntmps35
    go_wp2_with fail
    rw [HW.out]
    go_wp2_with (go_at_call 42; with_reducible refine (callsGw (cV _)).mono ?_; rintro e w1 ⟨rfl, q, rfl⟩)
    refine bodyPost_ret (v := .tuple #[.agg #[.int .i64 0, .int .i64 0, .int .i64 0, .int .i64 0], .int .i64 1]) (by simp [results, Try.results35, go_sem, c_b2_0, c_b2_1, c_b2_2, c_b2_3]) rfl ⟨rfl, ?_⟩
    repeat (refine belowSet ?_ (by omega))
    exact below_gw hB _
  · rw [if_pos rfl]
    have cE := fun n w T hb => ext4 _ M.mulF ent_mul mul_any a b e f a b g h c d e f c d g h n w T hb
    generalize M.extF M.mulF [(a, b, e, f), (a, b, g, h), (c, d, e, f), (c, d, g, h)] = R at cE ⊢
    go_enter Try.func35, Try.ntmps35
    go_wp2_with fail
    rw [HW.out]
    go_wp2_with (go_at_call 42; with_reducible refine (callsGw (cV _)).mono ?_; rintro e w1 ⟨rfl, q, rfl⟩)
    clear c_b0_0 c_b0_1 c_b0_2 c_b0_3 f_b0 c_b1_0 c_b1_1 c_b1_2 c_b1_3 f_b1 c_b2_0 c_b2_1 c_b2_2 c_b2_3 f_b2
    obtain ⟨X, n, en, hnn, gen, ltn, bn, kn, ln⟩ := laid W #[.int .i64 a, .int .i64 b, .int .i64 e, .int .i64 f, .int .i64 a, .int .i64 b, .int .i64 g, .int .i64 h, .int .i64 c, .int .i64 d, .int .i64 e, .int .i64 f, .int .i64 c, .int .i64 d, .int .i64 g, .int .i64 h] 55 q
    rw [en]
    simp only [hnn]
    have b0 := kn _ _ b0
    have b1 := kn _ _ b1
    have b2 := kn _ _ b2
    have hB := ln _ hB
    clear en hnn
    have c_bn_0 : ∀ q, (gw X q).cell? ⟨n, 0, none⟩ = some (.int .i64 a) := cell_gw (blk_cell bn 0 _ rfl)
    have c_bn_1 : ∀ q, (gw X q).cell? ⟨n, 1, none⟩ = some (.int .i64 b) := cell_gw (blk_cell bn 1 _ rfl)
    have c_bn_2 : ∀ q, (gw X q).cell? ⟨n, 2, none⟩ = some (.int .i64 e) := cell_gw (blk_cell bn 2 _ rfl)
    have c_bn_3 : ∀ q, (gw X q).cell? ⟨n, 3, none⟩ = some (.int .i64 f) := cell_gw (blk_cell bn 3 _ rfl)
    have c_bn_4 : ∀ q, (gw X q).cell? ⟨n, 4, none⟩ = some (.int .i64 a) := cell_gw (blk_cell bn 4 _ rfl)
    have c_bn_5 : ∀ q, (gw X q).cell? ⟨n, 5, none⟩ = some (.int .i64 b) := cell_gw (blk_cell bn 5 _ rfl)
    have c_bn_6 : ∀ q, (gw X q).cell? ⟨n, 6, none⟩ = some (.int .i64 g) := cell_gw (blk_cell bn 6 _ rfl)
    have c_bn_7 : ∀ q, (gw X q).cell? ⟨n, 7, none⟩ = some (.int .i64 h) := cell_gw (blk_cell bn 7 _ rfl)
    have c_bn_8 : ∀ q, (gw X q).cell? ⟨n, 8, none⟩ = some (.int .i64 c) := cell_gw (blk_cell bn 8 _ rfl)
    have c_bn_9 : ∀ q, (gw X q).cell? ⟨n, 9, none⟩ = some (.int .i64 d) := cell_gw (blk_cell bn 9 _ rfl)
    have c_bn_10 : ∀ q, (gw X q).cell? ⟨n, 10, none⟩ = some (.int .i64 e) := cell_gw (blk_cell bn 10 _ rfl)
    have c_bn_11 : ∀ q, (gw X q).cell? ⟨n, 11, none⟩ = some (.int .i64 f) := cell_gw (blk_cell bn 11 _ rfl)
    have c_bn_12 : ∀ q, (gw X q).cell? ⟨n, 12, none⟩ = some (.int .i64 c) := cell_gw (blk_cell bn 12 _ rfl)
    have c_bn_13 : ∀ q, (gw X q).cell? ⟨n, 13, none⟩ = some (.int .i64 d) := cell_gw (blk_cell bn 13 _ rfl)
    have c_bn_14 : ∀ q, (gw X q).cell? ⟨n, 14, none⟩ = some (.int .i64 g) := cell_gw (blk_cell bn 14 _ rfl)
    have c_bn_15 : ∀ q, (gw X q).cell? ⟨n, 15, none⟩ = some (.int .i64 h) := cell_gw (blk_cell bn 15 _ rfl)
    have f_bn := blk_frozen bn
    have c_b2_0 : ∀ q, (gw X q).cell? ⟨w.heap.size + 1 + 1, 0, none⟩ = some (.int .i64 0) := cell_gw (blk_cell b2 0 _ rfl)
    have c_b2_1 : ∀ q, (gw X q).cell? ⟨w.heap.size + 1 + 1, 1, none⟩ = some (.int .i64 0) := cell_gw (blk_cell b2 1 _ rfl)
    have c_b2_2 : ∀ q, (gw X q).cell? ⟨w.heap.size + 1 + 1, 2, none⟩ = some (.int .i64 0) := cell_gw (blk_cell b2 2 _ rfl)
    have c_b2_3 : ∀ q, (gw X q).cell? ⟨w.heap.size + 1 + 1, 3, none⟩ = some (.int .i64 0) := cell_gw (blk_cell b2 3 _ rfl)
    have f_b2 := blk_frozen b2
    refine (callsGw (cE n _ _ (block_gw bn _))).mono ?_
    rintro x w1 ⟨rfl, q1, rfl⟩
    go_wp2_with fail
    refine bodyPost_ret (v := .tuple #[.agg #[.int .i64 R.1, .int .i64 R.2.1, .int .i64 R.2.2.1, .int .i64 R.2.2.2.1], .int .i64 R.2.2.2.2]) (by simp [results, Try.results35, go_sem, c_b2_0, c_b2_1, c_b2_2, c_b2_3]) rfl ⟨rfl, ?_⟩
    repeat (refine belowSet ?_ (by omega))
    exact below_gw hB _
end Go.Proofs.Ytimdklineeeieaa
