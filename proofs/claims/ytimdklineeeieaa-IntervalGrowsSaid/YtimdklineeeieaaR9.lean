/- The reference's intervals: ends, Point, Hull, Neg, Width. -/
import Derived.Test.YtimdklineeeieaaR8
namespace Go.Proofs.Ytimdklineeeieaa
open Go.RowKit Go.Sort
set_option linter.unusedVariables false
set_option maxRecDepth 100000 in
set_option maxHeartbeats 4000000 in
theorem ends0_any (a b c d e f g h : Int) (w : World) :
    Calls Try.prog 50 #[.int .i64 0, .agg #[.int .i64 a, .int .i64 b, .int .i64 c, .int .i64 d], .agg #[.int .i64 e, .int .i64 f, .int .i64 g, .int .i64 h]] w fun x w' => ∃ n, x = .returned (.slice (some ⟨n, 0, none⟩) 2 2) ∧ Below w.heap.size w w' ∧ w.heap.size ≤ n ∧ w'.heap[n]? = some (.cells #[.int .i64 a, .int .i64 b, .int .i64 e, .int .i64 f, .int .i64 c, .int .i64 d, .int .i64 g, .int .i64 h] 25) := by
  obtain ⟨W, hW, hB, hS, b0, b1, b2⟩ := lay3 w #[.int .i64 a, .int .i64 b, .int .i64 c, .int .i64 d] 25 #[.int .i64 e, .int .i64 f, .int .i64 g, .int .i64 h] 25 #[.int .i64 a, .int .i64 b, .int .i64 e, .int .i64 f, .int .i64 c, .int .i64 d, .int .i64 g, .int .i64 h] 25
  obtain ⟨p0, hp0⟩ := gw_start W
  have HW := Lib.hid (hW.trans hp0)
  clear hW hp0
  have c_b0_0 : ∀ q, (gw W q).cell? ⟨w.heap.size, 0, none⟩ = some (.int .i64 a) := cell_gw (blk_cell b0 0 _ rfl)
  have c_b0_1 : ∀ q, (gw W q).cell? ⟨w.heap.size, 1, none⟩ = some (.int .i64 b) := cell_gw (blk_cell b0 1 _ rfl)
  have c_b0_2 : ∀ q, (gw W q).cell? ⟨w.heap.size, 2, none⟩ = some (.int .i64 c) := cell_gw (blk_cell b0 2 _ rfl)
  have c_b0_3 : ∀ q, (gw W q).cell? ⟨w.heap.size, 3, none⟩ = some (.int .i64 d) := cell_gw (blk_cell b0 3 _ rfl)
  have f_b0 := blk_frozen b0
  have c_b1_0 : ∀ q, (gw W q).cell? ⟨w.heap.size + 1, 0, none⟩ = some (.int .i64 e) := cell_gw (blk_cell b1 0 _ rfl)
  have c_b1_1 : ∀ q, (gw W q).cell? ⟨w.heap.size + 1, 1, none⟩ = some (.int .i64 f) := cell_gw (blk_cell b1 1 _ rfl)
  have c_b1_2 : ∀ q, (gw W q).cell? ⟨w.heap.size + 1, 2, none⟩ = some (.int .i64 g) := cell_gw (blk_cell b1 2 _ rfl)
  have c_b1_3 : ∀ q, (gw W q).cell? ⟨w.heap.size + 1, 3, none⟩ = some (.int .i64 h) := cell_gw (blk_cell b1 3 _ rfl)
  have f_b1 := blk_frozen b1
  have c_b2_0 : ∀ q, (gw W q).cell? ⟨w.heap.size + 1 + 1, 0, none⟩ = some (.int .i64 a) := cell_gw (blk_cell b2 0 _ rfl)
  have c_b2_1 : ∀ q, (gw W q).cell? ⟨w.heap.size + 1 + 1, 1, none⟩ = some (.int .i64 b) := cell_gw (blk_cell b2 1 _ rfl)
  have c_b2_2 : ∀ q, (gw W q).cell? ⟨w.heap.size + 1 + 1, 2, none⟩ = some (.int .i64 e) := cell_gw (blk_cell b2 2 _ rfl)
  have c_b2_3 : ∀ q, (gw W q).cell? ⟨w.heap.size + 1 + 1, 3, none⟩ = some (.int .i64 f) := cell_gw (blk_cell b2 3 _ rfl)
  have c_b2_4 : ∀ q, (gw W q).cell? ⟨w.heap.size + 1 + 1, 4, none⟩ = some (.int .i64 c) := cell_gw (blk_cell b2 4 _ rfl)
  have c_b2_5 : ∀ q, (gw W q).cell? ⟨w.heap.size + 1 + 1, 5, none⟩ = some (.int .i64 d) := cell_gw (blk_cell b2 5 _ rfl)
  have c_b2_6 : ∀ q, (gw W q).cell? ⟨w.heap.size + 1 + 1, 6, none⟩ = some (.int .i64 g) := cell_gw (blk_cell b2 6 _ rfl)
  have c_b2_7 : ∀ q, (gw W q).cell? ⟨w.heap.size + 1 + 1, 7, none⟩ = some (.int .i64 h) := cell_gw (blk_cell b2 7 _ rfl)
  have f_b2 := blk_frozen b2
  clear hS
  go_enter Try.func50, Try.ntmps50
  go_wp2_with fail
  rw [HW.out]
  go_ret
  exact ⟨_, rfl, below_gw hB _, by omega, block_gw b2 _⟩
set_option maxRecDepth 100000 in
set_option maxHeartbeats 4000000 in
theorem ends3_any (a b c d e f g h : Int) (w : World) :
    Calls Try.prog 50 #[.int .i64 3, .agg #[.int .i64 a, .int .i64 b, .int .i64 c, .int .i64 d], .agg #[.int .i64 e, .int .i64 f, .int .i64 g, .int .i64 h]] w fun x w' => ∃ n, x = .returned (.slice (some ⟨n, 0, none⟩) 2 2) ∧ Below w.heap.size w w' ∧ w.heap.size ≤ n ∧ w'.heap[n]? = some (.cells #[.int .i64 a, .int .i64 b, .int .i64 e, .int .i64 f, .int .i64 c, .int .i64 d, .int .i64 g, .int .i64 h] 25) := by
  obtain ⟨W, hW, hB, hS, b0, b1, b2⟩ := lay3 w #[.int .i64 a, .int .i64 b, .int .i64 c, .int .i64 d] 25 #[.int .i64 e, .int .i64 f, .int .i64 g, .int .i64 h] 25 #[.int .i64 a, .int .i64 b, .int .i64 e, .int .i64 f, .int .i64 c, .int .i64 d, .int .i64 g, .int .i64 h] 25
  obtain ⟨p0, hp0⟩ := gw_start W
  have HW := Lib.hid (hW.trans hp0)
  clear hW hp0
  have c_b0_0 : ∀ q, (gw W q).cell? ⟨w.heap.size, 0, none⟩ = some (.int .i64 a) := cell_gw (blk_cell b0 0 _ rfl)
  have c_b0_1 : ∀ q, (gw W q).cell? ⟨w.heap.size, 1, none⟩ = some (.int .i64 b) := cell_gw (blk_cell b0 1 _ rfl)
  have c_b0_2 : ∀ q, (gw W q).cell? ⟨w.heap.size, 2, none⟩ = some (.int .i64 c) := cell_gw (blk_cell b0 2 _ rfl)
  have c_b0_3 : ∀ q, (gw W q).cell? ⟨w.heap.size, 3, none⟩ = some (.int .i64 d) := cell_gw (blk_cell b0 3 _ rfl)
  have f_b0 := blk_frozen b0
  have c_b1_0 : ∀ q, (gw W q).cell? ⟨w.heap.size + 1, 0, none⟩ = some (.int .i64 e) := cell_gw (blk_cell b1 0 _ rfl)
  have c_b1_1 : ∀ q, (gw W q).cell? ⟨w.heap.size + 1, 1, none⟩ = some (.int .i64 f) := cell_gw (blk_cell b1 1 _ rfl)
  have c_b1_2 : ∀ q, (gw W q).cell? ⟨w.heap.size + 1, 2, none⟩ = some (.int .i64 g) := cell_gw (blk_cell b1 2 _ rfl)
  have c_b1_3 : ∀ q, (gw W q).cell? ⟨w.heap.size + 1, 3, none⟩ = some (.int .i64 h) := cell_gw (blk_cell b1 3 _ rfl)
  have f_b1 := blk_frozen b1
  have c_b2_0 : ∀ q, (gw W q).cell? ⟨w.heap.size + 1 + 1, 0, none⟩ = some (.int .i64 a) := cell_gw (blk_cell b2 0 _ rfl)
  have c_b2_1 : ∀ q, (gw W q).cell? ⟨w.heap.size + 1 + 1, 1, none⟩ = some (.int .i64 b) := cell_gw (blk_cell b2 1 _ rfl)
  have c_b2_2 : ∀ q, (gw W q).cell? ⟨w.heap.size + 1 + 1, 2, none⟩ = some (.int .i64 e) := cell_gw (blk_cell b2 2 _ rfl)
  have c_b2_3 : ∀ q, (gw W q).cell? ⟨w.heap.size + 1 + 1, 3, none⟩ = some (.int .i64 f) := cell_gw (blk_cell b2 3 _ rfl)
  have c_b2_4 : ∀ q, (gw W q).cell? ⟨w.heap.size + 1 + 1, 4, none⟩ = some (.int .i64 c) := cell_gw (blk_cell b2 4 _ rfl)
  have c_b2_5 : ∀ q, (gw W q).cell? ⟨w.heap.size + 1 + 1, 5, none⟩ = some (.int .i64 d) := cell_gw (blk_cell b2 5 _ rfl)
  have c_b2_6 : ∀ q, (gw W q).cell? ⟨w.heap.size + 1 + 1, 6, none⟩ = some (.int .i64 g) := cell_gw (blk_cell b2 6 _ rfl)
  have c_b2_7 : ∀ q, (gw W q).cell? ⟨w.heap.size + 1 + 1, 7, none⟩ = some (.int .i64 h) := cell_gw (blk_cell b2 7 _ rfl)
  have f_b2 := blk_frozen b2
  clear hS
  go_enter Try.func50, Try.ntmps50
  go_wp2_with fail
  rw [HW.out]
  go_ret
  exact ⟨_, rfl, below_gw hB _, by omega, block_gw b2 _⟩
set_option maxRecDepth 100000 in
set_option maxHeartbeats 4000000 in
theorem ends4_any (a b c d e f g h : Int) (w : World) :
    Calls Try.prog 50 #[.int .i64 4, .agg #[.int .i64 a, .int .i64 b, .int .i64 c, .int .i64 d], .agg #[.int .i64 e, .int .i64 f, .int .i64 g, .int .i64 h]] w fun x w' => ∃ n, x = .returned (.slice (some ⟨n, 0, none⟩) 2 2) ∧ Below w.heap.size w w' ∧ w.heap.size ≤ n ∧ w'.heap[n]? = some (.cells #[.int .i64 a, .int .i64 b, .int .i64 e, .int .i64 f, .int .i64 c, .int .i64 d, .int .i64 g, .int .i64 h] 25) := by
  obtain ⟨W, hW, hB, hS, b0, b1, b2⟩ := lay3 w #[.int .i64 a, .int .i64 b, .int .i64 c, .int .i64 d] 25 #[.int .i64 e, .int .i64 f, .int .i64 g, .int .i64 h] 25 #[.int .i64 a, .int .i64 b, .int .i64 e, .int .i64 f, .int .i64 c, .int .i64 d, .int .i64 g, .int .i64 h] 25
  obtain ⟨p0, hp0⟩ := gw_start W
  have HW := Lib.hid (hW.trans hp0)
  clear hW hp0
  have c_b0_0 : ∀ q, (gw W q).cell? ⟨w.heap.size, 0, none⟩ = some (.int .i64 a) := cell_gw (blk_cell b0 0 _ rfl)
  have c_b0_1 : ∀ q, (gw W q).cell? ⟨w.heap.size, 1, none⟩ = some (.int .i64 b) := cell_gw (blk_cell b0 1 _ rfl)
  have c_b0_2 : ∀ q, (gw W q).cell? ⟨w.heap.size, 2, none⟩ = some (.int .i64 c) := cell_gw (blk_cell b0 2 _ rfl)
  have c_b0_3 : ∀ q, (gw W q).cell? ⟨w.heap.size, 3, none⟩ = some (.int .i64 d) := cell_gw (blk_cell b0 3 _ rfl)
  have f_b0 := blk_frozen b0
  have c_b1_0 : ∀ q, (gw W q).cell? ⟨w.heap.size + 1, 0, none⟩ = some (.int .i64 e) := cell_gw (blk_cell b1 0 _ rfl)
  have c_b1_1 : ∀ q, (gw W q).cell? ⟨w.heap.size + 1, 1, none⟩ = some (.int .i64 f) := cell_gw (blk_cell b1 1 _ rfl)
  have c_b1_2 : ∀ q, (gw W q).cell? ⟨w.heap.size + 1, 2, none⟩ = some (.int .i64 g) := cell_gw (blk_cell b1 2 _ rfl)
  have c_b1_3 : ∀ q, (gw W q).cell? ⟨w.heap.size + 1, 3, none⟩ = some (.int .i64 h) := cell_gw (blk_cell b1 3 _ rfl)
  have f_b1 := blk_frozen b1
  have c_b2_0 : ∀ q, (gw W q).cell? ⟨w.heap.size + 1 + 1, 0, none⟩ = some (.int .i64 a) := cell_gw (blk_cell b2 0 _ rfl)
  have c_b2_1 : ∀ q, (gw W q).cell? ⟨w.heap.size + 1 + 1, 1, none⟩ = some (.int .i64 b) := cell_gw (blk_cell b2 1 _ rfl)
  have c_b2_2 : ∀ q, (gw W q).cell? ⟨w.heap.size + 1 + 1, 2, none⟩ = some (.int .i64 e) := cell_gw (blk_cell b2 2 _ rfl)
  have c_b2_3 : ∀ q, (gw W q).cell? ⟨w.heap.size + 1 + 1, 3, none⟩ = some (.int .i64 f) := cell_gw (blk_cell b2 3 _ rfl)
  have c_b2_4 : ∀ q, (gw W q).cell? ⟨w.heap.size + 1 + 1, 4, none⟩ = some (.int .i64 c) := cell_gw (blk_cell b2 4 _ rfl)
  have c_b2_5 : ∀ q, (gw W q).cell? ⟨w.heap.size + 1 + 1, 5, none⟩ = some (.int .i64 d) := cell_gw (blk_cell b2 5 _ rfl)
  have c_b2_6 : ∀ q, (gw W q).cell? ⟨w.heap.size + 1 + 1, 6, none⟩ = some (.int .i64 g) := cell_gw (blk_cell b2 6 _ rfl)
  have c_b2_7 : ∀ q, (gw W q).cell? ⟨w.heap.size + 1 + 1, 7, none⟩ = some (.int .i64 h) := cell_gw (blk_cell b2 7 _ rfl)
  have f_b2 := blk_frozen b2
  clear hS
  go_enter Try.func50, Try.ntmps50
  go_wp2_with fail
  rw [HW.out]
  go_ret
  exact ⟨_, rfl, below_gw hB _, by omega, block_gw b2 _⟩
set_option maxRecDepth 100000 in
set_option maxHeartbeats 4000000 in
theorem ends1_any (a b c d e f g h : Int) (w : World) :
    Calls Try.prog 50 #[.int .i64 1, .agg #[.int .i64 a, .int .i64 b, .int .i64 c, .int .i64 d], .agg #[.int .i64 e, .int .i64 f, .int .i64 g, .int .i64 h]] w fun x w' => ∃ n, x = .returned (.slice (some ⟨n, 0, none⟩) 2 2) ∧ Below w.heap.size w w' ∧ w.heap.size ≤ n ∧ w'.heap[n]? = some (.cells #[.int .i64 a, .int .i64 b, .int .i64 g, .int .i64 h, .int .i64 c, .int .i64 d, .int .i64 e, .int .i64 f] 25) := by
  obtain ⟨W, hW, hB, hS, b0, b1, b2⟩ := lay3 w #[.int .i64 a, .int .i64 b, .int .i64 c, .int .i64 d] 25 #[.int .i64 e, .int .i64 f, .int .i64 g, .int .i64 h] 25 #[.int .i64 a, .int .i64 b, .int .i64 g, .int .i64 h, .int .i64 c, .int .i64 d, .int .i64 e, .int .i64 f] 25
  obtain ⟨p0, hp0⟩ := gw_start W
  have HW := Lib.hid (hW.trans hp0)
  clear hW hp0
  have c_b0_0 : ∀ q, (gw W q).cell? ⟨w.heap.size, 0, none⟩ = some (.int .i64 a) := cell_gw (blk_cell b0 0 _ rfl)
  have c_b0_1 : ∀ q, (gw W q).cell? ⟨w.heap.size, 1, none⟩ = some (.int .i64 b) := cell_gw (blk_cell b0 1 _ rfl)
  have c_b0_2 : ∀ q, (gw W q).cell? ⟨w.heap.size, 2, none⟩ = some (.int .i64 c) := cell_gw (blk_cell b0 2 _ rfl)
  have c_b0_3 : ∀ q, (gw W q).cell? ⟨w.heap.size, 3, none⟩ = some (.int .i64 d) := cell_gw (blk_cell b0 3 _ rfl)
  have f_b0 := blk_frozen b0
  have c_b1_0 : ∀ q, (gw W q).cell? ⟨w.heap.size + 1, 0, none⟩ = some (.int .i64 e) := cell_gw (blk_cell b1 0 _ rfl)
  have c_b1_1 : ∀ q, (gw W q).cell? ⟨w.heap.size + 1, 1, none⟩ = some (.int .i64 f) := cell_gw (blk_cell b1 1 _ rfl)
  have c_b1_2 : ∀ q, (gw W q).cell? ⟨w.heap.size + 1, 2, none⟩ = some (.int .i64 g) := cell_gw (blk_cell b1 2 _ rfl)
  have c_b1_3 : ∀ q, (gw W q).cell? ⟨w.heap.size + 1, 3, none⟩ = some (.int .i64 h) := cell_gw (blk_cell b1 3 _ rfl)
  have f_b1 := blk_frozen b1
  have c_b2_0 : ∀ q, (gw W q).cell? ⟨w.heap.size + 1 + 1, 0, none⟩ = some (.int .i64 a) := cell_gw (blk_cell b2 0 _ rfl)
  have c_b2_1 : ∀ q, (gw W q).cell? ⟨w.heap.size + 1 + 1, 1, none⟩ = some (.int .i64 b) := cell_gw (blk_cell b2 1 _ rfl)
  have c_b2_2 : ∀ q, (gw W q).cell? ⟨w.heap.size + 1 + 1, 2, none⟩ = some (.int .i64 g) := cell_gw (blk_cell b2 2 _ rfl)
  have c_b2_3 : ∀ q, (gw W q).cell? ⟨w.heap.size + 1 + 1, 3, none⟩ = some (.int .i64 h) := cell_gw (blk_cell b2 3 _ rfl)
  have c_b2_4 : ∀ q, (gw W q).cell? ⟨w.heap.size + 1 + 1, 4, none⟩ = some (.int .i64 c) := cell_gw (blk_cell b2 4 _ rfl)
  have c_b2_5 : ∀ q, (gw W q).cell? ⟨w.heap.size + 1 + 1, 5, none⟩ = some (.int .i64 d) := cell_gw (blk_cell b2 5 _ rfl)
  have c_b2_6 : ∀ q, (gw W q).cell? ⟨w.heap.size + 1 + 1, 6, none⟩ = some (.int .i64 e) := cell_gw (blk_cell b2 6 _ rfl)
  have c_b2_7 : ∀ q, (gw W q).cell? ⟨w.heap.size + 1 + 1, 7, none⟩ = some (.int .i64 f) := cell_gw (blk_cell b2 7 _ rfl)
  have f_b2 := blk_frozen b2
  clear hS
  go_enter Try.func50, Try.ntmps50
  go_wp2_with fail
  rw [HW.out]
  go_ret
  exact ⟨_, rfl, below_gw hB _, by omega, block_gw b2 _⟩
set_option maxRecDepth 100000 in
set_option maxHeartbeats 4000000 in
theorem ends2_any (a b c d e f g h : Int) (w : World) :
    Calls Try.prog 50 #[.int .i64 2, .agg #[.int .i64 a, .int .i64 b, .int .i64 c, .int .i64 d], .agg #[.int .i64 e, .int .i64 f, .int .i64 g, .int .i64 h]] w fun x w' => ∃ n, x = .returned (.slice (some ⟨n, 0, none⟩) 4 4) ∧ Below w.heap.size w w' ∧ w.heap.size ≤ n ∧ w'.heap[n]? = some (.cells #[.int .i64 a, .int .i64 b, .int .i64 e, .int .i64 f, .int .i64 a, .int .i64 b, .int .i64 g, .int .i64 h, .int .i64 c, .int .i64 d, .int .i64 e, .int .i64 f, .int .i64 c, .int .i64 d, .int .i64 g, .int .i64 h] 25) := by
  obtain ⟨W, hW, hB, hS, b0, b1, b2⟩ := lay3 w #[.int .i64 a, .int .i64 b, .int .i64 c, .int .i64 d] 25 #[.int .i64 e, .int .i64 f, .int .i64 g, .int .i64 h] 25 #[.int .i64 a, .int .i64 b, .int .i64 e, .int .i64 f, .int .i64 a, .int .i64 b, .int .i64 g, .int .i64 h, .int .i64 c, .int .i64 d, .int .i64 e, .int .i64 f, .int .i64 c, .int .i64 d, .int .i64 g, .int .i64 h] 25
  obtain ⟨p0, hp0⟩ := gw_start W
  have HW := Lib.hid (hW.trans hp0)
  clear hW hp0
  have c_b0_0 : ∀ q, (gw W q).cell? ⟨w.heap.size, 0, none⟩ = some (.int .i64 a) := cell_gw (blk_cell b0 0 _ rfl)
  have c_b0_1 : ∀ q, (gw W q).cell? ⟨w.heap.size, 1, none⟩ = some (.int .i64 b) := cell_gw (blk_cell b0 1 _ rfl)
  have c_b0_2 : ∀ q, (gw W q).cell? ⟨w.heap.size, 2, none⟩ = some (.int .i64 c) := cell_gw (blk_cell b0 2 _ rfl)
  have c_b0_3 : ∀ q, (gw W q).cell? ⟨w.heap.size, 3, none⟩ = some (.int .i64 d) := cell_gw (blk_cell b0 3 _ rfl)
  have f_b0 := blk_frozen b0
  have c_b1_0 : ∀ q, (gw W q).cell? ⟨w.heap.size + 1, 0, none⟩ = some (.int .i64 e) := cell_gw (blk_cell b1 0 _ rfl)
  have c_b1_1 : ∀ q, (gw W q).cell? ⟨w.heap.size + 1, 1, none⟩ = some (.int .i64 f) := cell_gw (blk_cell b1 1 _ rfl)
  have c_b1_2 : ∀ q, (gw W q).cell? ⟨w.heap.size + 1, 2, none⟩ = some (.int .i64 g) := cell_gw (blk_cell b1 2 _ rfl)
  have c_b1_3 : ∀ q, (gw W q).cell? ⟨w.heap.size + 1, 3, none⟩ = some (.int .i64 h) := cell_gw (blk_cell b1 3 _ rfl)
  have f_b1 := blk_frozen b1
  have c_b2_0 : ∀ q, (gw W q).cell? ⟨w.heap.size + 1 + 1, 0, none⟩ = some (.int .i64 a) := cell_gw (blk_cell b2 0 _ rfl)
  have c_b2_1 : ∀ q, (gw W q).cell? ⟨w.heap.size + 1 + 1, 1, none⟩ = some (.int .i64 b) := cell_gw (blk_cell b2 1 _ rfl)
  have c_b2_2 : ∀ q, (gw W q).cell? ⟨w.heap.size + 1 + 1, 2, none⟩ = some (.int .i64 e) := cell_gw (blk_cell b2 2 _ rfl)
  have c_b2_3 : ∀ q, (gw W q).cell? ⟨w.heap.size + 1 + 1, 3, none⟩ = some (.int .i64 f) := cell_gw (blk_cell b2 3 _ rfl)
  have c_b2_4 : ∀ q, (gw W q).cell? ⟨w.heap.size + 1 + 1, 4, none⟩ = some (.int .i64 a) := cell_gw (blk_cell b2 4 _ rfl)
  have c_b2_5 : ∀ q, (gw W q).cell? ⟨w.heap.size + 1 + 1, 5, none⟩ = some (.int .i64 b) := cell_gw (blk_cell b2 5 _ rfl)
  have c_b2_6 : ∀ q, (gw W q).cell? ⟨w.heap.size + 1 + 1, 6, none⟩ = some (.int .i64 g) := cell_gw (blk_cell b2 6 _ rfl)
  have c_b2_7 : ∀ q, (gw W q).cell? ⟨w.heap.size + 1 + 1, 7, none⟩ = some (.int .i64 h) := cell_gw (blk_cell b2 7 _ rfl)
  have c_b2_8 : ∀ q, (gw W q).cell? ⟨w.heap.size + 1 + 1, 8, none⟩ = some (.int .i64 c) := cell_gw (blk_cell b2 8 _ rfl)
  have c_b2_9 : ∀ q, (gw W q).cell? ⟨w.heap.size + 1 + 1, 9, none⟩ = some (.int .i64 d) := cell_gw (blk_cell b2 9 _ rfl)
  have c_b2_10 : ∀ q, (gw W q).cell? ⟨w.heap.size + 1 + 1, 10, none⟩ = some (.int .i64 e) := cell_gw (blk_cell b2 10 _ rfl)
  have c_b2_11 : ∀ q, (gw W q).cell? ⟨w.heap.size + 1 + 1, 11, none⟩ = some (.int .i64 f) := cell_gw (blk_cell b2 11 _ rfl)
  have c_b2_12 : ∀ q, (gw W q).cell? ⟨w.heap.size + 1 + 1, 12, none⟩ = some (.int .i64 c) := cell_gw (blk_cell b2 12 _ rfl)
  have c_b2_13 : ∀ q, (gw W q).cell? ⟨w.heap.size + 1 + 1, 13, none⟩ = some (.int .i64 d) := cell_gw (blk_cell b2 13 _ rfl)
  have c_b2_14 : ∀ q, (gw W q).cell? ⟨w.heap.size + 1 + 1, 14, none⟩ = some (.int .i64 g) := cell_gw (blk_cell b2 14 _ rfl)
  have c_b2_15 : ∀ q, (gw W q).cell? ⟨w.heap.size + 1 + 1, 15, none⟩ = some (.int .i64 h) := cell_gw (blk_cell b2 15 _ rfl)
  have f_b2 := blk_frozen b2
  clear hS
  go_enter Try.func50, Try.ntmps50
  go_wp2_with fail
  rw [HW.out]
  go_ret
  exact ⟨_, rfl, below_gw hB _, by omega, block_gw b2 _⟩
set_option maxRecDepth 100000 in
set_option maxHeartbeats 4000000 in
theorem ends5_any (a b c d e f g h : Int) (w : World) :
    Calls Try.prog 50 #[.int .i64 5, .agg #[.int .i64 a, .int .i64 b, .int .i64 c, .int .i64 d], .agg #[.int .i64 e, .int .i64 f, .int .i64 g, .int .i64 h]] w fun x w' => ∃ n, x = .returned (.slice (some ⟨n, 0, none⟩) 4 4) ∧ Below w.heap.size w w' ∧ w.heap.size ≤ n ∧ w'.heap[n]? = some (.cells #[.int .i64 a, .int .i64 b, .int .i64 e, .int .i64 f, .int .i64 a, .int .i64 b, .int .i64 g, .int .i64 h, .int .i64 c, .int .i64 d, .int .i64 e, .int .i64 f, .int .i64 c, .int .i64 d, .int .i64 g, .int .i64 h] 25) := by
  obtain ⟨W, hW, hB, hS, b0, b1, b2⟩ := lay3 w #[.int .i64 a, .int .i64 b, .int .i64 c, .int .i64 d] 25 #[.int .i64 e, .int .i64 f, .int .i64 g, .int .i64 h] 25 #[.int .i64 a, .int .i64 b, .int .i64 e, .int .i64 f, .int .i64 a, .int .i64 b, .int .i64 g, .int .i64 h, .int .i64 c, .int .i64 d, .int .i64 e, .int .i64 f, .int .i64 c, .int .i64 d, .int .i64 g, .int .i64 h] 25
  obtain ⟨p0, hp0⟩ := gw_start W
  have HW := Lib.hid (hW.trans hp0)
  clear hW hp0
  have c_b0_0 : ∀ q, (gw W q).cell? ⟨w.heap.size, 0, none⟩ = some (.int .i64 a) := cell_gw (blk_cell b0 0 _ rfl)
  have c_b0_1 : ∀ q, (gw W q).cell? ⟨w.heap.size, 1, none⟩ = some (.int .i64 b) := cell_gw (blk_cell b0 1 _ rfl)
  have c_b0_2 : ∀ q, (gw W q).cell? ⟨w.heap.size, 2, none⟩ = some (.int .i64 c) := cell_gw (blk_cell b0 2 _ rfl)
  have c_b0_3 : ∀ q, (gw W q).cell? ⟨w.heap.size, 3, none⟩ = some (.int .i64 d) := cell_gw (blk_cell b0 3 _ rfl)
  have f_b0 := blk_frozen b0
  have c_b1_0 : ∀ q, (gw W q).cell? ⟨w.heap.size + 1, 0, none⟩ = some (.int .i64 e) := cell_gw (blk_cell b1 0 _ rfl)
  have c_b1_1 : ∀ q, (gw W q).cell? ⟨w.heap.size + 1, 1, none⟩ = some (.int .i64 f) := cell_gw (blk_cell b1 1 _ rfl)
  have c_b1_2 : ∀ q, (gw W q).cell? ⟨w.heap.size + 1, 2, none⟩ = some (.int .i64 g) := cell_gw (blk_cell b1 2 _ rfl)
  have c_b1_3 : ∀ q, (gw W q).cell? ⟨w.heap.size + 1, 3, none⟩ = some (.int .i64 h) := cell_gw (blk_cell b1 3 _ rfl)
  have f_b1 := blk_frozen b1
  have c_b2_0 : ∀ q, (gw W q).cell? ⟨w.heap.size + 1 + 1, 0, none⟩ = some (.int .i64 a) := cell_gw (blk_cell b2 0 _ rfl)
  have c_b2_1 : ∀ q, (gw W q).cell? ⟨w.heap.size + 1 + 1, 1, none⟩ = some (.int .i64 b) := cell_gw (blk_cell b2 1 _ rfl)
  have c_b2_2 : ∀ q, (gw W q).cell? ⟨w.heap.size + 1 + 1, 2, none⟩ = some (.int .i64 e) := cell_gw (blk_cell b2 2 _ rfl)
  have c_b2_3 : ∀ q, (gw W q).cell? ⟨w.heap.size + 1 + 1, 3, none⟩ = some (.int .i64 f) := cell_gw (blk_cell b2 3 _ rfl)
  have c_b2_4 : ∀ q, (gw W q).cell? ⟨w.heap.size + 1 + 1, 4, none⟩ = some (.int .i64 a) := cell_gw (blk_cell b2 4 _ rfl)
  have c_b2_5 : ∀ q, (gw W q).cell? ⟨w.heap.size + 1 + 1, 5, none⟩ = some (.int .i64 b) := cell_gw (blk_cell b2 5 _ rfl)
  have c_b2_6 : ∀ q, (gw W q).cell? ⟨w.heap.size + 1 + 1, 6, none⟩ = some (.int .i64 g) := cell_gw (blk_cell b2 6 _ rfl)
  have c_b2_7 : ∀ q, (gw W q).cell? ⟨w.heap.size + 1 + 1, 7, none⟩ = some (.int .i64 h) := cell_gw (blk_cell b2 7 _ rfl)
  have c_b2_8 : ∀ q, (gw W q).cell? ⟨w.heap.size + 1 + 1, 8, none⟩ = some (.int .i64 c) := cell_gw (blk_cell b2 8 _ rfl)
  have c_b2_9 : ∀ q, (gw W q).cell? ⟨w.heap.size + 1 + 1, 9, none⟩ = some (.int .i64 d) := cell_gw (blk_cell b2 9 _ rfl)
  have c_b2_10 : ∀ q, (gw W q).cell? ⟨w.heap.size + 1 + 1, 10, none⟩ = some (.int .i64 e) := cell_gw (blk_cell b2 10 _ rfl)
  have c_b2_11 : ∀ q, (gw W q).cell? ⟨w.heap.size + 1 + 1, 11, none⟩ = some (.int .i64 f) := cell_gw (blk_cell b2 11 _ rfl)
  have c_b2_12 : ∀ q, (gw W q).cell? ⟨w.heap.size + 1 + 1, 12, none⟩ = some (.int .i64 c) := cell_gw (blk_cell b2 12 _ rfl)
  have c_b2_13 : ∀ q, (gw W q).cell? ⟨w.heap.size + 1 + 1, 13, none⟩ = some (.int .i64 d) := cell_gw (blk_cell b2 13 _ rfl)
  have c_b2_14 : ∀ q, (gw W q).cell? ⟨w.heap.size + 1 + 1, 14, none⟩ = some (.int .i64 g) := cell_gw (blk_cell b2 14 _ rfl)
  have c_b2_15 : ∀ q, (gw W q).cell? ⟨w.heap.size + 1 + 1, 15, none⟩ = some (.int .i64 h) := cell_gw (blk_cell b2 15 _ rfl)
  have f_b2 := blk_frozen b2
  clear hS
  go_enter Try.func50, Try.ntmps50
  go_wp2_with fail
  rw [HW.out]
  go_ret
  exact ⟨_, rfl, below_gw hB _, by omega, block_gw b2 _⟩
end Go.Proofs.Ytimdklineeeieaa
