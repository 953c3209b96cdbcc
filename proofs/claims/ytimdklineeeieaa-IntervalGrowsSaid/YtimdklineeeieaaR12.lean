/- The reference's intervals: Of and Do for each operation. -/
import Derived.Test.YtimdklineeeieaaR11
import Derived.Test.YtimdklineeeieaaM12
namespace Go.Proofs.Ytimdklineeeieaa
open Go.RowKit Go.Sort
set_option linter.unusedVariables false
theorem do_any (k : Int) (h0 : 0 ≤ k) (h5 : k ≤ 5) (a b c d : Int) (w : World) :
    Calls Try.prog 24 #[.int .i64 k, .agg #[.int .i64 a, .int .i64 b], .agg #[.int .i64 c, .int .i64 d]] w fun e w' => e = .returned (.tuple #[.agg #[.int .i64 (M.opF k a b c d).1, .int .i64 (M.opF k a b c d).2.1], .int .i64 (M.opF k a b c d).2.2]) ∧ Below w.heap.size w w' := by
  rcases (by omega : k = 0 ∨ k = 1 ∨ k = 2 ∨ k = 3 ∨ k = 4 ∨ k = 5) with rfl | rfl | rfl | rfl | rfl | rfl
  · exact do0_any a b c d w
  · exact do1_any a b c d w
  · exact do2_any a b c d w
  · exact do3_any a b c d w
  · exact do4_any a b c d w
  · exact do5_any a b c d w
theorem of_any (k : Int) (h0 : 0 ≤ k) (h5 : k ≤ 5) (a b c d e f g h : Int) (w : World) :
    Calls Try.prog 23 #[.int .i64 k, .agg #[.int .i64 a, .int .i64 b, .int .i64 c, .int .i64 d], .agg #[.int .i64 e, .int .i64 f, .int .i64 g, .int .i64 h]] w fun x w' => x = .returned (.tuple #[.agg #[.int .i64 (M.rof k a b c d e f g h).1, .int .i64 (M.rof k a b c d e f g h).2.1, .int .i64 (M.rof k a b c d e f g h).2.2.1, .int .i64 (M.rof k a b c d e f g h).2.2.2.1], .int .i64 (M.rof k a b c d e f g h).2.2.2.2]) ∧ Below w.heap.size w w' := by
  have hD := do_any k h0 h5
  rcases (by omega : k = 0 ∨ k = 1 ∨ k = 2 ∨ k = 3 ∨ k = 4 ∨ k = 5) with rfl | rfl | rfl | rfl | rfl | rfl
  · exact of_core 0 (M.opF 0) a b c d e f g h [(a, b, e, f), (c, d, g, h)] _ (by simp) (by simp) hD (ends0_any a b c d e f g h) (fun i hi => by
      rcases (by simp at hi; omega : i = 0 ∨ i = 1) with rfl | rfl <;> exact ⟨rfl, rfl, rfl, rfl⟩) _ _ _ _ rfl rfl rfl rfl w
  · exact of_core 1 (M.opF 1) a b c d e f g h [(a, b, g, h), (c, d, e, f)] _ (by simp) (by simp) hD (ends1_any a b c d e f g h) (fun i hi => by
      rcases (by simp at hi; omega : i = 0 ∨ i = 1) with rfl | rfl <;> exact ⟨rfl, rfl, rfl, rfl⟩) _ _ _ _ rfl rfl rfl rfl w
  · exact of_core 2 (M.opF 2) a b c d e f g h [(a, b, e, f), (a, b, g, h), (c, d, e, f), (c, d, g, h)] _ (by simp) (by simp) hD (ends2_any a b c d e f g h) (fun i hi => by
      rcases (by simp at hi; omega : i = 0 ∨ i = 1 ∨ i = 2 ∨ i = 3) with rfl | rfl | rfl | rfl <;> exact ⟨rfl, rfl, rfl, rfl⟩) _ _ _ _ rfl rfl rfl rfl w
  · exact of_core 3 (M.opF 3) a b c d e f g h [(a, b, e, f), (c, d, g, h)] _ (by simp) (by simp) hD (ends3_any a b c d e f g h) (fun i hi => by
      rcases (by simp at hi; omega : i = 0 ∨ i = 1) with rfl | rfl <;> exact ⟨rfl, rfl, rfl, rfl⟩) _ _ _ _ rfl rfl rfl rfl w
  · exact of_core 4 (M.opF 4) a b c d e f g h [(a, b, e, f), (c, d, g, h)] _ (by simp) (by simp) hD (ends4_any a b c d e f g h) (fun i hi => by
      rcases (by simp at hi; omega : i = 0 ∨ i = 1) with rfl | rfl <;> exact ⟨rfl, rfl, rfl, rfl⟩) _ _ _ _ rfl rfl rfl rfl w
  · exact of_core 5 (M.opF 5) a b c d e f g h [(a, b, e, f), (a, b, g, h), (c, d, e, f), (c, d, g, h)] _ (by simp) (by simp) hD (ends5_any a b c d e f g h) (fun i hi => by
      rcases (by simp at hi; omega : i = 0 ∨ i = 1 ∨ i = 2 ∨ i = 3) with rfl | rfl | rfl | rfl <;> exact ⟨rfl, rfl, rfl, rfl⟩) _ _ _ _ rfl rfl rfl rfl w
end Go.Proofs.Ytimdklineeeieaa
