/- Text, of the program and of the reference. -/
import Derived.Test.YthieengihbbnpaaDoorF5
namespace Go.Proofs.YthieengihbbnpaaDoor
open Go.RowKit Go.Sort
set_option linter.unusedVariables false
theorem retS1 {X : ByteArray} {l : List UInt8} (h : X.data.toList = l) : Ending.returned (.string X) = .returned (.string ⟨l.toArray⟩) := by
  rw [show X = ⟨l.toArray⟩ from M.bytes_ext (by rw [h])]
set_option maxRecDepth 100000 in
set_option maxHeartbeats 8000000 in
theorem text_any (a b : Int) (w : World) (ht : Tab w) :
    Calls Tryd.prog 18 #[.agg #[.int .i64 a, .int .i64 b]] w fun e w' => e = .returned (.string ⟨(M.textL a b).toArray⟩) ∧ Below w.heap.size w w' := by
  obtain ⟨W, hW, hB, hS, b0⟩ := lay1 w #[.int .i64 a, .int .i64 b] 27
  obtain ⟨p0, hp0⟩ := gw_start W
  have HW := Lib.hid (hW.trans hp0)
  clear hW hp0
  have c_b0_0 : ∀ q, (gw W q).cell? ⟨w.heap.size, 0, none⟩ = some (.int .i64 a) := cell_gw (blk_cell b0 0 _ rfl)
  have c_b0_1 : ∀ q, (gw W q).cell? ⟨w.heap.size, 1, none⟩ = some (.int .i64 b) := cell_gw (blk_cell b0 1 _ rfl)
  have f_b0 := blk_frozen b0
  have cV := fun w => valid_any a b w
  unfold M.textL
  obtain ⟨v, hv⟩ : ∃ v, M.vld a b = v := ⟨_, rfl⟩
  rw [hv] at cV ⊢
  cases v
  · clear hv
    go_enter Tryd.func18, Tryd.ntmps18
    go_wp2_with fail
    rw [HW.out]
    go_wp2_with (go_at_call 30; with_reducible refine (callsGw (cV _)).mono ?_; rintro e w1 ⟨rfl, q, rfl⟩)
    go_ret
    exact ⟨rfl, below_gw hB _⟩
  · obtain ⟨a1, a2, a3, a4, _⟩ := M.vld_of hv
    have cA := fun q => fmtInt_any a (by unfold M.isI; omega) (gw W q) (tab_gw ht hB q)
    have cB := fun q => fmtInt_any b (by unfold M.isI; omega) (gw W q) (tab_gw ht hB q)
    have la := M.itoa_len2 (n := a) (by omega) (by omega)
    have lb := M.itoa_len2 (n := b) (by omega) (by omega)
    generalize Lib.itoa a = A at cA la ⊢
    generalize Lib.itoa b = B at cB lb ⊢
    obtain ⟨S, hS⟩ : ∃ S : ByteArray, (⟨A.toArray⟩ : ByteArray) = S := ⟨_, rfl⟩
    obtain ⟨T, hT⟩ : ∃ S : ByteArray, (⟨B.toArray⟩ : ByteArray) = S := ⟨_, rfl⟩
    have hS1 : S.data.toList = A := by rw [← hS]
    have hT1 : T.data.toList = B := by rw [← hT]
    have hS2 : S.size ≤ 21 := by rw [M.bytes_size, hS1]; exact la
    have hT2 : T.size ≤ 21 := by rw [M.bytes_size, hT1]; exact lb
    rw [hS] at cA
    rw [hT] at cB
    have hc1 := fun W => run_string_add_sum (P := Tryd.prog) W ⟨#[47]⟩ T (by show 1 + _ ≤ _; omega)
    have hsz : (ByteArray.mk #[47] ++ T).size = 1 + T.size := by rw [ByteArray.size_append]; rfl
    have hc2 := fun W => run_string_add_sum (P := Tryd.prog) W S (⟨#[47]⟩ ++ T) (by rw [hsz]; omega)
    have hc3 := fun W => run_string_add_sum (P := Tryd.prog) W S ⟨#[47]⟩ (by show _ + 1 ≤ _; omega)
    have hsz2 : (S ++ ByteArray.mk #[47]).size = S.size + 1 := by rw [ByteArray.size_append]; rfl
    have hc4 := fun W => run_string_add_sum (P := Tryd.prog) W (S ++ ⟨#[47]⟩) T (by rw [hsz2]; omega)
    have HS1 := Lib.hid hS1
    have HT1 := Lib.hid hT1
    clear hS hT hS1 hT1 la lb hsz hsz2 hv
    rw [if_pos rfl]
    by_cases hb : b = 1
    · subst hb
      rw [if_pos rfl]
      go_enter Tryd.func18, Tryd.ntmps18
      go_wp2_with fail
      rw [HW.out]
      go_wp2_with (first | (go_at_call 30; with_reducible refine (callsGw (cV _)).mono ?_; rintro e w1 ⟨rfl, q, rfl⟩) | (go_at_call 54; with_reducible refine (callsGw (cA _)).mono ?_; rintro e w1 ⟨rfl, q, rfl⟩))
      go_ret
      exact ⟨retS1 HS1.out, below_gw hB _⟩
    · have hb2 : (b == 1) = false := beq_eq_false_iff_ne.mpr hb
      rw [if_neg hb]
      go_enter Tryd.func18, Tryd.ntmps18
      go_wp2_with fail
      rw [HW.out]
      go_wp2_with (first | (go_at_call 30; with_reducible refine (callsGw (cV _)).mono ?_; rintro e w1 ⟨rfl, q, rfl⟩) | (go_at_call 54; with_reducible refine (callsGw (cA _)).mono ?_; rintro e w1 ⟨rfl, q, rfl⟩) | (go_at_call 54; with_reducible refine (callsGw (cB _)).mono ?_; rintro e w1 ⟨rfl, q, rfl⟩))
      go_ret
      exact ⟨retS1 (by simp only [M.bytes_append, HS1.out, HT1.out]; rfl), below_gw hB _⟩
set_option maxRecDepth 100000 in
set_option maxHeartbeats 8000000 in
theorem rtext_any (a b : Int) (w : World) (ht : Tab w) :
    Calls Tryd.prog 19 #[.agg #[.int .i64 a, .int .i64 b]] w fun e w' => e = .returned (.string ⟨(M.textL a b).toArray⟩) ∧ Below w.heap.size w w' := by
  obtain ⟨W, hW, hB, hS, b0⟩ := lay1 w #[.int .i64 a, .int .i64 b] 27
  obtain ⟨p0, hp0⟩ := gw_start W
  have HW := Lib.hid (hW.trans hp0)
  clear hW hp0
  have c_b0_0 : ∀ q, (gw W q).cell? ⟨w.heap.size, 0, none⟩ = some (.int .i64 a) := cell_gw (blk_cell b0 0 _ rfl)
  have c_b0_1 : ∀ q, (gw W q).cell? ⟨w.heap.size, 1, none⟩ = some (.int .i64 b) := cell_gw (blk_cell b0 1 _ rfl)
  have f_b0 := blk_frozen b0
  have cV := fun w => rvalid_any a b w
  unfold M.textL
  obtain ⟨v, hv⟩ : ∃ v, M.vld a b = v := ⟨_, rfl⟩
  rw [hv] at cV ⊢
  cases v
  · clear hv
    go_enter Tryd.func19, Tryd.ntmps19
    go_wp2_with fail
    rw [HW.out]
    go_wp2_with (go_at_call 20; with_reducible refine (callsGw (cV _)).mono ?_; rintro e w1 ⟨rfl, q, rfl⟩)
    go_ret
    exact ⟨rfl, below_gw hB _⟩
  · obtain ⟨a1, a2, a3, a4, _⟩ := M.vld_of hv
    have cA := fun q => fmtInt_any a (by unfold M.isI; omega) (gw W q) (tab_gw ht hB q)
    have cB := fun q => fmtInt_any b (by unfold M.isI; omega) (gw W q) (tab_gw ht hB q)
    have la := M.itoa_len2 (n := a) (by omega) (by omega)
    have lb := M.itoa_len2 (n := b) (by omega) (by omega)
    generalize Lib.itoa a = A at cA la ⊢
    generalize Lib.itoa b = B at cB lb ⊢
    obtain ⟨S, hS⟩ : ∃ S : ByteArray, (⟨A.toArray⟩ : ByteArray) = S := ⟨_, rfl⟩
    obtain ⟨T, hT⟩ : ∃ S : ByteArray, (⟨B.toArray⟩ : ByteArray) = S := ⟨_, rfl⟩
    have hS1 : S.data.toList = A := by rw [← hS]
    have hT1 : T.data.toList = B := by rw [← hT]
    have hS2 : S.size ≤ 21 := by rw [M.bytes_size, hS1]; exact la
    have hT2 : T.size ≤ 21 := by rw [M.bytes_size, hT1]; exact lb
    rw [hS] at cA
    rw [hT] at cB
    have hc1 := fun W => run_string_add_sum (P := Tryd.prog) W ⟨#[47]⟩ T (by show 1 + _ ≤ _; omega)
    have hsz : (ByteArray.mk #[47] ++ T).size = 1 + T.size := by rw [ByteArray.size_append]; rfl
    have hc2 := fun W => run_string_add_sum (P := Tryd.prog) W S (⟨#[47]⟩ ++ T) (by rw [hsz]; omega)
    have hc3 := fun W => run_string_add_sum (P := Tryd.prog) W S ⟨#[47]⟩ (by show _ + 1 ≤ _; omega)
    have hsz2 : (S ++ ByteArray.mk #[47]).size = S.size + 1 := by rw [ByteArray.size_append]; rfl
    have hc4 := fun W => run_string_add_sum (P := Tryd.prog) W (S ++ ⟨#[47]⟩) T (by rw [hsz2]; omega)
    have HS1 := Lib.hid hS1
    have HT1 := Lib.hid hT1
    clear hS hT hS1 hT1 la lb hsz hsz2 hv
    rw [if_pos rfl]
    by_cases hb : b = 1
    · subst hb
      rw [if_pos rfl]
      go_enter Tryd.func19, Tryd.ntmps19
      go_wp2_with fail
      rw [HW.out]
      go_wp2_with (first | (go_at_call 20; with_reducible refine (callsGw (cV _)).mono ?_; rintro e w1 ⟨rfl, q, rfl⟩) | (go_at_call 54; with_reducible refine (callsGw (cA _)).mono ?_; rintro e w1 ⟨rfl, q, rfl⟩))
      go_ret
      exact ⟨retS1 HS1.out, below_gw hB _⟩
    · have hb2 : (b == 1) = false := beq_eq_false_iff_ne.mpr hb
      rw [if_neg hb]
      go_enter Tryd.func19, Tryd.ntmps19
      go_wp2_with fail
      rw [HW.out]
      go_wp2_with (first | (go_at_call 20; with_reducible refine (callsGw (cV _)).mono ?_; rintro e w1 ⟨rfl, q, rfl⟩) | (go_at_call 54; with_reducible refine (callsGw (cA _)).mono ?_; rintro e w1 ⟨rfl, q, rfl⟩) | (go_at_call 54; with_reducible refine (callsGw (cB _)).mono ?_; rintro e w1 ⟨rfl, q, rfl⟩))
      go_ret
      exact ⟨retS1 (by simp only [M.bytes_append, HS1.out, HT1.out]; rfl), below_gw hB _⟩
end Go.Proofs.YthieengihbbnpaaDoor
