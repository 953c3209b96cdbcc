/- The reference's wide numbers: the small functions. -/
import Derived.Test.YthieengihbbnpaaDoorH8
import Derived.Test.YthieengihbbnpaaDoorM9
namespace Go.Proofs.YthieengihbbnpaaDoor
open Go.RowKit Go.Sort
set_option linter.unusedVariables false
theorem rsize_any (a : Int) (h1 : -9223372036854775808 ≤ a) (h2 : a < 9223372036854775808) (w : World) :
    Calls Tryd.prog 45 #[.int .i64 a] w fun e w' => e = .returned (.int .u64 (M.absI a)) ∧ w' = w := by
  go_enter Tryd.func45, Tryd.ntmps45
  go_wp2
  · go_ret
    refine ⟨retI ?_, rfl⟩
    unfold M.absI; omega
  · go_ret
    refine ⟨retI ?_, rfl⟩
    unfold M.absI; omega
theorem rproduct_any (x y : Int) (hx : 0 ≤ x) (hx2 : x < 18446744073709551616) (hy : 0 ≤ y) (hy2 : y < 18446744073709551616) (w : World) :
    Calls Tryd.prog 61 #[.int .u64 x, .int .u64 y] w fun e w' => e = .returned (.agg #[.int .u64 (x * y / 18446744073709551616), .int .u64 (x * y % 18446744073709551616)]) ∧ Below w.heap.size w w' := by
  go_enter Tryd.func61, Tryd.ntmps61
  go_wp2_with (go_at_call 83; refine (mul64_any _ _ hx hx2 hy hy2 _).mono ?_; rintro e w' ⟨rfl, rfl⟩)
  exact bodyPost_ret (v := .agg #[.int .u64 (x * y / 18446744073709551616), .int .u64 (x * y % 18446744073709551616)]) (by simp [results, Tryd.results61, go_sem]) rfl ⟨rfl, (by repeat (first | exact Below.refl _ _ | apply belowAlloc | apply belowDrewN | apply belowDrew | refine belowSet ?_ (by simp; done) | refine belowSet ?_ (by simp; omega)))⟩

theorem rplus_any (a b c d : Int) (h0 : 0 ≤ a) (h1 : 0 ≤ b) (h2 : 0 ≤ c) (h3 : 0 ≤ d) (g1 : b < 18446744073709551616) (g3 : d < 18446744073709551616) (w : World) :
    Calls Tryd.prog 67 #[.agg #[.int .u64 a, .int .u64 b], .agg #[.int .u64 c, .int .u64 d]] w fun e w' => e = .returned (.agg #[.int .u64 ((a + c + ((b + d) / 18446744073709551616)) % 18446744073709551616), .int .u64 ((b + d) % 18446744073709551616)]) ∧ Below w.heap.size w w' := by
  have hd : 0 ≤ (b + d) / 18446744073709551616 := by omega
  have hd1 : (b + d) / 18446744073709551616 ≤ 1 := by omega
  have ha : ∀ w : World, _ := run_add b d 0 h1 h3 (by omega) (by omega)
  rw [Int.add_zero] at ha
  have hb := run_add a c ((b + d) / 18446744073709551616) h0 h2 hd hd1
  go_enter Tryd.func67, Tryd.ntmps67
  go_wp2
  exact bodyPost_ret (v := .agg #[.int .u64 ((a + c + ((b + d) / 18446744073709551616)) % 18446744073709551616), .int .u64 ((b + d) % 18446744073709551616)]) (by simp [results, Tryd.results67, go_sem]) rfl ⟨rfl, (by repeat (first | exact Below.refl _ _ | apply belowAlloc | apply belowDrewN | apply belowDrew | refine belowSet ?_ (by simp; done) | refine belowSet ?_ (by simp; omega)))⟩

theorem rminus_any (a b c d : Int) (h0 : 0 ≤ a) (h1 : 0 ≤ b) (h2 : 0 ≤ c) (h3 : 0 ≤ d) (g1 : c < 18446744073709551616) (g3 : d < 18446744073709551616) (w : World) :
    Calls Tryd.prog 69 #[.agg #[.int .u64 a, .int .u64 b], .agg #[.int .u64 c, .int .u64 d]] w fun e w' => e = .returned (.agg #[.int .u64 ((a - c - borrow b d 0) % 18446744073709551616), .int .u64 ((b - d) % 18446744073709551616)]) ∧ Below w.heap.size w w' := by
  have hd : 0 ≤ borrow b d 0 := by unfold borrow; split <;> omega
  have hd1 : borrow b d 0 ≤ 1 := by unfold borrow; split <;> omega
  have ha : ∀ w : World, _ := run_sub b d 0 h1 h3 g3 (by omega) (by omega)
  rw [Int.sub_zero] at ha
  have hb := run_sub a c (borrow b d 0) h0 h2 g1 hd hd1
  go_enter Tryd.func69, Tryd.ntmps69
  go_wp2
  exact bodyPost_ret (v := .agg #[.int .u64 ((a - c - borrow b d 0) % 18446744073709551616), .int .u64 ((b - d) % 18446744073709551616)]) (by simp [results, Tryd.results69, go_sem]) rfl ⟨rfl, (by repeat (first | exact Below.refl _ _ | apply belowAlloc | apply belowDrewN | apply belowDrew | refine belowSet ?_ (by simp; done) | refine belowSet ?_ (by simp; omega)))⟩

theorem rless_any (a b c d : Int) (w : World) :
    Calls Tryd.prog 68 #[.agg #[.int .u64 a, .int .u64 b], .agg #[.int .u64 c, .int .u64 d]] w fun e w' => e = .returned (.bool (M.wless a b c d)) ∧ Below w.heap.size w w' := by
  by_cases h : a < c
  · have e : M.wless a b c d = true := by unfold M.wless; rw [decide_eq_true h]; rfl
    rw [e]; clear e
    have hd := decide_eq_true h
    clear h
    go_enter Tryd.func68, Tryd.ntmps68
    go_wp2
    go_ret
    exact ⟨rfl, (by repeat (first | exact Below.refl _ _ | apply belowAlloc | apply belowDrewN | apply belowDrew | refine belowSet ?_ (by simp; done) | refine belowSet ?_ (by simp; omega)))⟩
  · have hd := decide_eq_false h
    by_cases h2 : a = c
    · have e : M.wless a b c d = decide (b < d) := by unfold M.wless; rw [hd, beq_iff_eq.mpr h2]; rfl
      rw [e]; clear e
      have hc := beq_iff_eq.mpr h2
      clear h h2
      go_enter Tryd.func68, Tryd.ntmps68
      go_wp2
      go_ret
      exact ⟨rfl, (by repeat (first | exact Below.refl _ _ | apply belowAlloc | apply belowDrewN | apply belowDrew | refine belowSet ?_ (by simp; done) | refine belowSet ?_ (by simp; omega)))⟩
    · have hc := beq_eq_false_iff_ne.mpr h2
      have e : M.wless a b c d = false := by unfold M.wless; rw [hd, hc]; rfl
      rw [e]; clear e
      clear h h2
      go_enter Tryd.func68, Tryd.ntmps68
      go_wp2
      go_ret
      exact ⟨rfl, (by repeat (first | exact Below.refl _ _ | apply belowAlloc | apply belowDrewN | apply belowDrew | refine belowSet ?_ (by simp; done) | refine belowSet ?_ (by simp; omega)))⟩
theorem rplus2_any (A B : Int) (h0 : 0 ≤ A) (h1 : 0 ≤ B) (h2 : A + B < 340282366920938463463374607431768211456) (w : World) :
    Calls Tryd.prog 67 #[.agg #[.int .u64 (A / 18446744073709551616), .int .u64 (A % 18446744073709551616)], .agg #[.int .u64 (B / 18446744073709551616), .int .u64 (B % 18446744073709551616)]] w fun e w' => e = .returned (.agg #[.int .u64 ((A + B) / 18446744073709551616), .int .u64 ((A + B) % 18446744073709551616)]) ∧ Below w.heap.size w w' := by
  have h := rplus_any (A / 18446744073709551616) (A % 18446744073709551616) (B / 18446744073709551616) (B % 18446744073709551616) (by omega) (by omega) (by omega) (by omega) (by omega) (by omega) w
  rw [(M.plus_halves h0 h1 h2).1, (M.plus_halves h0 h1 h2).2] at h
  exact h
theorem rminus2_any (A B : Int) (h0 : 0 ≤ B) (h1 : B ≤ A) (h2 : A < 340282366920938463463374607431768211456) (w : World) :
    Calls Tryd.prog 69 #[.agg #[.int .u64 (A / 18446744073709551616), .int .u64 (A % 18446744073709551616)], .agg #[.int .u64 (B / 18446744073709551616), .int .u64 (B % 18446744073709551616)]] w fun e w' => e = .returned (.agg #[.int .u64 ((A - B) / 18446744073709551616), .int .u64 ((A - B) % 18446744073709551616)]) ∧ Below w.heap.size w w' := by
  have h := rminus_any (A / 18446744073709551616) (A % 18446744073709551616) (B / 18446744073709551616) (B % 18446744073709551616) (by omega) (by omega) (by omega) (by omega) (by omega) (by omega) w
  have e := M.minus_halves (A := A) (B := B) (bo := borrow (A % 18446744073709551616) (B % 18446744073709551616) 0) rfl h0 h1 h2
  rw [e.1, e.2] at h
  exact h
theorem rless2_any (A B : Int) (w : World) :
    Calls Tryd.prog 68 #[.agg #[.int .u64 (A / 18446744073709551616), .int .u64 (A % 18446744073709551616)], .agg #[.int .u64 (B / 18446744073709551616), .int .u64 (B % 18446744073709551616)]] w fun e w' => e = .returned (.bool (decide (A < B))) ∧ Below w.heap.size w w' := by
  have h := rless_any (A / 18446744073709551616) (A % 18446744073709551616) (B / 18446744073709551616) (B % 18446744073709551616) w
  rw [M.wless_eq] at h
  exact h
end Go.Proofs.YthieengihbbnpaaDoor
