/- Package fraction: by, signed, Cmp. -/
import Derived.Test.YthieengihbbnpaaDoorH2
import Derived.Outline
namespace Go.Proofs.YthieengihbbnpaaDoor
open Go.RowKit Go.Sort
set_option linter.unusedVariables false

theorem by_any (a b n : Int) (h0 : 0 ≤ a) (h1 : 0 ≤ b) (h2 : b < 18446744073709551616) (h3 : 0 < n) (h4 : n < 18446744073709551616) (w : World) :
    Calls Tryd.prog 66 #[.agg #[.int .u64 a, .int .u64 b], .int .u64 n] w fun e w' => e = .returned (.int .u64 (if n ≤ a then 18446744073709551615 else (a * 18446744073709551616 + b) / n)) ∧ Below w.heap.size w w' := by
  by_cases h : n ≤ a
  · rw [if_pos h]
    go_enter Tryd.func66, Tryd.ntmps66
    go_wp2
    go_ret
    exact ⟨rfl, (by repeat (first | exact Below.refl _ _ | apply belowAlloc | apply belowDrewN | apply belowDrew | refine belowSet ?_ (by simp; done) | refine belowSet ?_ (by simp; omega)))⟩
  · rw [if_neg h]
    go_enter Tryd.func66, Tryd.ntmps66
    go_wp2_with (go_at_call 65; refine (div64_any _ _ _ h1 h2 h0 (by omega) h4 _).mono ?_; rintro e w' ⟨rfl, hb⟩)
    go_ret
    exact ⟨rfl, belowThen ((by repeat (first | exact Below.refl _ _ | apply belowAlloc | apply belowDrewN | apply belowDrew | refine belowSet ?_ (by simp; done) | refine belowSet ?_ (by simp; omega)))) hb⟩

theorem signed_any (neg : Bool) (n d : Int) (h0 : 0 ≤ n) (h1 : n < 18446744073709551616) (h2 : 0 ≤ d) (h3 : d < 18446744073709551616) (w : World) :
    Calls Tryd.prog 59 #[.bool neg, .int .u64 n, .int .u64 d] w fun e w' => e = .returned (.tuple #[.agg #[.int .i64 (M.sgn neg n d).1, .int .i64 (M.sgn neg n d).2.1], .int .i64 (M.sgn neg n d).2.2]) ∧ Below w.heap.size w w' := by
  unfold M.sgn
  by_cases c1 : n > 1000000000000000000
  · rw [if_pos c1]
    have hd := decide_eq_true c1
    go_enter Tryd.func59, Tryd.ntmps59
    go_wp2
    exact bodyPost_ret (v := .tuple #[.agg #[.int .i64 0, .int .i64 0], .int .i64 5]) (by simp [results, Tryd.results59, go_sem]) rfl ⟨rfl, (by repeat (first | exact Below.refl _ _ | apply belowAlloc | apply belowDrewN | apply belowDrew | refine belowSet ?_ (by simp; done) | refine belowSet ?_ (by simp; omega)))⟩
  · rw [if_neg c1]
    have hd1 := decide_eq_false c1
    by_cases c2 : d > 1000000000000000000
    · rw [if_pos c2]
      have hd := decide_eq_true c2
      go_enter Tryd.func59, Tryd.ntmps59
      go_wp2
      exact bodyPost_ret (v := .tuple #[.agg #[.int .i64 0, .int .i64 0], .int .i64 5]) (by simp [results, Tryd.results59, go_sem]) rfl ⟨rfl, (by repeat (first | exact Below.refl _ _ | apply belowAlloc | apply belowDrewN | apply belowDrew | refine belowSet ?_ (by simp; done) | refine belowSet ?_ (by simp; omega)))⟩
    · rw [if_neg c2]
      have hd := decide_eq_false c2
      cases neg
      · go_enter Tryd.func59, Tryd.ntmps59
        go_wp2
        exact bodyPost_ret (v := .tuple #[.agg #[.int .i64 n, .int .i64 d], .int .i64 0]) (by simp [results, Tryd.results59, go_sem]) rfl ⟨rfl, (by repeat (first | exact Below.refl _ _ | apply belowAlloc | apply belowDrewN | apply belowDrew | refine belowSet ?_ (by simp; done) | refine belowSet ?_ (by simp; omega)))⟩
      · go_enter Tryd.func59, Tryd.ntmps59
        go_wp2
        exact bodyPost_ret (v := .tuple #[.agg #[.int .i64 (-n), .int .i64 d], .int .i64 0]) (by simp [results, Tryd.results59, go_sem]) rfl ⟨rfl, (by repeat (first | exact Below.refl _ _ | apply belowAlloc | apply belowDrewN | apply belowDrew | refine belowSet ?_ (by simp; done) | refine belowSet ?_ (by simp; omega)))⟩
end Go.Proofs.YthieengihbbnpaaDoor
