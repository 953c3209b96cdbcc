/- The reference's divisor of wide numbers. -/
import Derived.Test.YthieengihbbnpaaDoorR2
namespace Go.Proofs.YthieengihbbnpaaDoor
open Go.RowKit Go.Sort
set_option linter.unusedVariables false
/-- the wide number in a block -/
def wideAt (w : World) (b : Nat) : Int := intOf ((w.cell? ⟨b, 0, none⟩).getD undef) * 18446744073709551616 + intOf ((w.cell? ⟨b, 1, none⟩).getD undef)
theorem wide_at {W : World} {b : Nat} {T : TypeId} {y : Int} (h : W.heap[b]? = some (.cells #[.int .u64 (y / 18446744073709551616), .int .u64 (y % 18446744073709551616)] T)) (q : Regrown) : wideAt (gw W q) b = y := by
  unfold wideAt
  rw [cell_gw (blk_cell h 0 _ rfl) q, cell_gw (blk_cell h 1 _ rfl) q]
  simp [intOf]
  omega
theorem wide_nz {y : Int} (h : ¬ y = 0) : (y / 18446744073709551616 == 0) = false ∨ ((y / 18446744073709551616 == 0) = true ∧ (y % 18446744073709551616 == 0) = false) := by
  by_cases h0 : y / 18446744073709551616 = 0
  · exact .inr ⟨beq_iff_eq.mpr h0, beq_eq_false_iff_ne.mpr (by omega)⟩
  · exact .inl (beq_eq_false_iff_ne.mpr h0)
set_option maxRecDepth 100000 in
set_option maxHeartbeats 4000000 in
theorem divisor_any (A B : Int) (hA0 : 0 ≤ A) (hA1 : A < 340282366920938463463374607431768211456) (hB0 : 0 ≤ B) (hB1 : B ≤ 170141183460469231731687303715884105728) (w : World) :
    Calls Tryd.prog 55 #[.agg #[.int .u64 (A / 18446744073709551616), .int .u64 (A % 18446744073709551616)], .agg #[.int .u64 (B / 18446744073709551616), .int .u64 (B % 18446744073709551616)]] w fun e w' => e = .returned (.agg #[.int .u64 ((M.gcdI A B) / 18446744073709551616), .int .u64 ((M.gcdI A B) % 18446744073709551616)]) ∧ Below w.heap.size w w' := by
  obtain ⟨W, hW, hB, hS, b0, b1, b2⟩ := lay3 w #[.int .u64 (A / 18446744073709551616), .int .u64 (A % 18446744073709551616)] 62 #[.int .u64 (B / 18446744073709551616), .int .u64 (B % 18446744073709551616)] 62 #[.int .u64 0, .int .u64 0] 62
  obtain ⟨p0, hp0⟩ := gw_start W
  have HW := Lib.hid (hW.trans hp0)
  clear hW hp0
  have c_b0_0 : ∀ q, (gw W q).cell? ⟨w.heap.size, 0, none⟩ = some (.int .u64 (A / 18446744073709551616)) := cell_gw (blk_cell b0 0 _ rfl)
  have c_b0_1 : ∀ q, (gw W q).cell? ⟨w.heap.size, 1, none⟩ = some (.int .u64 (A % 18446744073709551616)) := cell_gw (blk_cell b0 1 _ rfl)
  have f_b0 := blk_frozen b0
  have c_b1_0 : ∀ q, (gw W q).cell? ⟨w.heap.size + 1, 0, none⟩ = some (.int .u64 (B / 18446744073709551616)) := cell_gw (blk_cell b1 0 _ rfl)
  have c_b1_1 : ∀ q, (gw W q).cell? ⟨w.heap.size + 1, 1, none⟩ = some (.int .u64 (B % 18446744073709551616)) := cell_gw (blk_cell b1 1 _ rfl)
  have f_b1 := blk_frozen b1
  have c_b2_0 : ∀ q, (gw W q).cell? ⟨w.heap.size + 1 + 1, 0, none⟩ = some (.int .u64 0) := cell_gw (blk_cell b2 0 _ rfl)
  have c_b2_1 : ∀ q, (gw W q).cell? ⟨w.heap.size + 1 + 1, 1, none⟩ = some (.int .u64 0) := cell_gw (blk_cell b2 1 _ rfl)
  have f_b2 := blk_frozen b2
  obtain ⟨G, hG⟩ : ∃ G, M.gcdI A B = G := ⟨_, rfl⟩
  rw [hG]
  have HG := Lib.hid hG
  clear hG
  go_enter Tryd.func55, Tryd.ntmps55
  go_wp2_with fail
  rw [HW.out]
  clear HW c_b0_0 c_b0_1 f_b0 c_b1_0 c_b1_1 f_b1 c_b2_0 c_b2_1 f_b2
  go_loopw [10] (fun v wr => ∃ (Y : World) (x y : Int) (q : Regrown), wr = gw Y q ∧ 0 ≤ x ∧ x < 340282366920938463463374607431768211456 ∧ 0 ≤ y ∧ y ≤ 170141183460469231731687303715884105728 ∧ Hid (M.gcdI x y = G) ∧ Below w.heap.size w Y ∧ w.heap.size + 3 ≤ Y.heap.size ∧
    Y.heap[w.heap.size]? = some (.cells #[.int .u64 (x / 18446744073709551616), .int .u64 (x % 18446744073709551616)] 62) ∧ Y.heap[w.heap.size + 1]? = some (.cells #[.int .u64 (y / 18446744073709551616), .int .u64 (y % 18446744073709551616)] 62) ∧
    Y.heap[w.heap.size + 1 + 1]? = some (.cells #[.int .u64 0, .int .u64 0] 62)) (fun _ wr => (wideAt wr (w.heap.size + 1)).toNat)
  case atStart => exact ⟨W, A, B, p0, rfl, hA0, hA1, hB0, hB1, HG, hB, by omega, b0, b1, b2⟩
  case round =>
    clear b0 b1 b2 hB
    obtain ⟨Y, x, y, q, rfl, hx0, hx1, hy0, hy1, hg, hB, hY, b0, b1, b2⟩ := hrel
    have c_b0_0 : ∀ q, (gw Y q).cell? ⟨w.heap.size, 0, none⟩ = some (.int .u64 (x / 18446744073709551616)) := cell_gw (blk_cell b0 0 _ rfl)
    have c_b0_1 : ∀ q, (gw Y q).cell? ⟨w.heap.size, 1, none⟩ = some (.int .u64 (x % 18446744073709551616)) := cell_gw (blk_cell b0 1 _ rfl)
    have f_b0 := blk_frozen b0
    have c_b1_0 : ∀ q, (gw Y q).cell? ⟨w.heap.size + 1, 0, none⟩ = some (.int .u64 (y / 18446744073709551616)) := cell_gw (blk_cell b1 0 _ rfl)
    have c_b1_1 : ∀ q, (gw Y q).cell? ⟨w.heap.size + 1, 1, none⟩ = some (.int .u64 (y % 18446744073709551616)) := cell_gw (blk_cell b1 1 _ rfl)
    have f_b1 := blk_frozen b1
    by_cases h0 : y = 0
    · subst h0
      have e : x = G := by rw [← hg.out, M.gcdI_zero x hx0]
      subst e
      clear hg
      have c_b2_0 : ∀ q, (gw Y q).cell? ⟨w.heap.size + 1 + 1, 0, none⟩ = some (.int .u64 0) := cell_gw (blk_cell b2 0 _ rfl)
      have c_b2_1 : ∀ q, (gw Y q).cell? ⟨w.heap.size + 1 + 1, 1, none⟩ = some (.int .u64 0) := cell_gw (blk_cell b2 1 _ rfl)
      have f_b2 := blk_frozen b2
      go_wp2_with fail
      refine bodyPost_ret (v := .agg #[.int .u64 (x / 18446744073709551616), .int .u64 (x % 18446744073709551616)]) (by simp [results, Tryd.results55, go_sem, c_b2_0, c_b2_1]) rfl ⟨rfl, ?_⟩
      repeat (refine belowSet ?_ (by omega))
      exact below_gw hB _
    · have hy : 0 < y := by omega
      have hz := wide_nz h0
      have hM := wide_at b1 q
      have HM := Lib.hid hM
      have cD := fun w => divide_any x y hx0 hx1 hy hy1 w
      have r0 : 0 ≤ x % y := Int.emod_nonneg _ (by omega)
      have r1 : x % y < y := Int.emod_lt_of_pos _ hy
      obtain ⟨r, hr⟩ : ∃ r, x % y = r := ⟨_, rfl⟩
      obtain ⟨d, hd⟩ : ∃ d, x / y = d := ⟨_, rfl⟩
      rw [hr] at cD r0 r1
      rw [hd] at cD
      have hg2 : Hid (M.gcdI y r = G) := Lib.hid (by rw [← hg.out, M.gcdI_step x y, Int.tmod_eq_emod_of_nonneg hx0, hr])
      clear hr hd hg hM h0
      have hlt := blk_lt b2
      rcases hz with hz1 | ⟨hz1, hz2⟩
      all_goals
        go_upto_region 3 with (go_at_call 80; with_reducible refine (callsGw (cD _)).mono ?_; rintro e w1 ⟨rfl, q, rfl⟩)
        obtain ⟨Z, n, en, hnn, gen, ltn, bn, bn', kn, ln⟩ := laid2 Y #[.int .u64 (d / 18446744073709551616), .int .u64 (d % 18446744073709551616)] #[.int .u64 (r / 18446744073709551616), .int .u64 (r % 18446744073709551616)] 62 62 q
        rw [en]
        simp only [hnn]
        have b0 := kn _ _ b0
        have b1 := kn _ _ b1
        have b2 := kn _ _ b2
        have hB := ln _ hB
        clear en hnn
        have c_bn_0 : ∀ q, (gw Z q).cell? ⟨n, 0, none⟩ = some (.int .u64 (d / 18446744073709551616)) := cell_gw (blk_cell bn 0 _ rfl)
        have c_bn_1 : ∀ q, (gw Z q).cell? ⟨n, 1, none⟩ = some (.int .u64 (d % 18446744073709551616)) := cell_gw (blk_cell bn 1 _ rfl)
        have f_bn := blk_frozen bn
        have c_bn'_0 : ∀ q, (gw Z q).cell? ⟨n + 1, 0, none⟩ = some (.int .u64 (r / 18446744073709551616)) := cell_gw (blk_cell bn' 0 _ rfl)
        have c_bn'_1 : ∀ q, (gw Z q).cell? ⟨n + 1, 1, none⟩ = some (.int .u64 (r % 18446744073709551616)) := cell_gw (blk_cell bn' 1 _ rfl)
        have f_bn' := blk_frozen bn'
        have c_b0_0 : ∀ q, (gw Z q).cell? ⟨w.heap.size, 0, none⟩ = some (.int .u64 (x / 18446744073709551616)) := cell_gw (blk_cell b0 0 _ rfl)
        have c_b0_1 : ∀ q, (gw Z q).cell? ⟨w.heap.size, 1, none⟩ = some (.int .u64 (x % 18446744073709551616)) := cell_gw (blk_cell b0 1 _ rfl)
        have f_b0 := blk_frozen b0
        have c_b1_0 : ∀ q, (gw Z q).cell? ⟨w.heap.size + 1, 0, none⟩ = some (.int .u64 (y / 18446744073709551616)) := cell_gw (blk_cell b1 0 _ rfl)
        have c_b1_1 : ∀ q, (gw Z q).cell? ⟨w.heap.size + 1, 1, none⟩ = some (.int .u64 (y % 18446744073709551616)) := cell_gw (blk_cell b1 1 _ rfl)
        have f_b1 := blk_frozen b1
        go_wp2_with fail
        go_region
        all_goals
          obtain ⟨V1, eV1, sV1, nb, kV1, lV1⟩ := storedS2 ⟨q.d,#[]⟩ b0 (.int .u64 (y / 18446744073709551616)) (.int .u64 (y % 18446744073709551616))
          rw [eV1]
          have b1 := kV1 _ _ (by omega) b1
          have b2 := kV1 _ _ (by omega) b2
          have hB := lV1 _ (by omega) hB
          have b0 := nb
          clear nb
          have c_b0_0 : ∀ q, (gw V1 q).cell? ⟨w.heap.size, 0, none⟩ = some (.int .u64 (y / 18446744073709551616)) := cell_gw (blk_cell b0 0 _ rfl)
          have c_b0_1 : ∀ q, (gw V1 q).cell? ⟨w.heap.size, 1, none⟩ = some (.int .u64 (y % 18446744073709551616)) := cell_gw (blk_cell b0 1 _ rfl)
          have f_b0 := blk_frozen b0
          obtain ⟨V2, eV2, sV2, nb, kV2, lV2⟩ := storedS2 ⟨q.d,#[]⟩ b1 (.int .u64 (r / 18446744073709551616)) (.int .u64 (r % 18446744073709551616))
          rw [eV2]
          have b0 := kV2 _ _ (by omega) b0
          have b2 := kV2 _ _ (by omega) b2
          have hB := lV2 _ (by omega) hB
          have b1 := nb
          clear nb
          have c_b1_0 : ∀ q, (gw V2 q).cell? ⟨w.heap.size + 1, 0, none⟩ = some (.int .u64 (r / 18446744073709551616)) := cell_gw (blk_cell b1 0 _ rfl)
          have c_b1_1 : ∀ q, (gw V2 q).cell? ⟨w.heap.size + 1, 1, none⟩ = some (.int .u64 (r % 18446744073709551616)) := cell_gw (blk_cell b1 1 _ rfl)
          have f_b1 := blk_frozen b1
          rw [drew_gw]
          clear c_b0_0 c_b0_1 f_b0 c_b1_0 c_b1_1 f_b1
          go_wp2_with fail
          go_roundw
          case rel => exact ⟨V2, y, r, _, rfl, by omega, by omega, r0, by omega, hg2, hB, by omega, b0, b1, b2⟩
          case measure =>
            rw [wide_at b1, HM.out]
            omega
end Go.Proofs.YthieengihbbnpaaDoor
