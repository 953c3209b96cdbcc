/- strconv.FormatUint and FormatInt at base 10. -/
import Derived.Test.YthieengihbbnpaaDoorF1
import Derived.Test.YthieengihbbnpaaDoorSh01
import Derived.Lib.AppendIntMem
namespace Go.Proofs.YthieengihbbnpaaDoor
open Go.RowKit Go.Sort
set_option linter.unusedVariables false
/-- the library's table of powers of ten lies where it was laid -/
def Tab (w : World) : Prop := Lib.TabIs Tryd.prog w "internal/strconv.uint64pow10" .u64 Lib.pow10Tab
theorem tab_below {w w' : World} (h : Tab w) (hb : Below w.heap.size w w') : Tab w' := Lib.tabBelow_of_tabIs h w' hb
theorem tab_gw {w W : World} (h : Tab w) (hb : Below w.heap.size w W) (q : Regrown) : Tab (gw W q) := tab_below h (below_gw hb q)
theorem below_grown {w w' : World} (h : ∃ k os, w' = grow (w.drewN k) os) : Below w.heap.size w w' := by
  obtain ⟨k, os, rfl⟩ := h
  exact belowThen (belowDrewN (belowRefl w) k) (below_gw1 (w.drewN k) ⟨(w.drewN k).drawn, os⟩)
theorem fmtInt_any (n : Int) (hn : M.isI n) (w : World) (ht : Tab w) :
    Calls Tryd.prog 54 #[.int .i64 n, .int .i64 10] w fun e w' => e = .returned (.string ⟨(Lib.itoa n).toArray⟩) ∧ Below w.heap.size w w' :=
  (Tryd.strconv_FormatInt_10 n hn.1 (by have := hn.2; omega) w ht).mono fun _ _ ⟨h1, h2⟩ => ⟨h1, below_grown h2⟩
set_option maxRecDepth 100000 in
set_option maxHeartbeats 4000000 in
theorem fmtUint_in (u : Nat) (hu64 : u < 18446744073709551616) (w : World) (ht : u < 100 ∨ Tab w) :
    Calls Tryd.prog 71 #[.int .u64 u, .int .i64 10] w fun e w' => e = .returned (.string ⟨(Lib.decDigits u).toArray⟩) ∧ ∃ k os, w' = grow (w.drewN k) os := by
  by_cases hs : u < 100
  · have h1 : decide ((u : Int) < 100) = true := decide_eq_true (by omega)
    go_enter Tryd.func71, Tryd.ntmps71
    go_wp2_with (go_at_call 87; refine (Tryd.internal_strconv_small u hs _).mono ?_; rintro e w' ⟨rfl, rfl⟩)
    go_ret
    exact ⟨rfl, 0, #[], by simp [World.drewN_zero]⟩
  · have h1 : decide ((u : Int) < 100) = false := decide_eq_false (by omega)
    have htab : Lib.TabIs Tryd.prog w "internal/strconv.uint64pow10" .u64 Lib.pow10Tab := ht.resolve_left hs
    have hu1 : 1 ≤ u := by omega
    have hnd20 : Lib.nDigits u ≤ 20 := by have := Lib.numDigits_eq u hu1 hu64; split at this <;> omega
    have hsl1 : ∀ W, (Instr.sliceAt 100 (.pointer (some ⟨w.heap.size, 0, none⟩)) none (some (.int .i64 (Lib.nDigits u : Int))) none).run Tryd.prog W = .ok (.slice (some ⟨w.heap.size, 0, none⟩) (Lib.nDigits u) 24) W := fun W => by
      have hal : Tryd.prog.arrayLen 100 = 24 := by kernel_rfl
      rw [run_sliceAt_array_h W 100 ⟨w.heap.size, 0, none⟩ (by kernel_rfl) .i64 (Lib.nDigits u : Int) (by omega) (by rw [hal]; omega), hal]
      go_simp
    have hH0 := Lib.holds_zero0 w 100 (Lib.nDigits u) (by omega)
    have hfmt := Tryd.internal_strconv_formatBase10 w.heap.size 0 24 u (Array.replicate (Lib.nDigits u) 0) (w.alloc (.cells Lib.zeros24 100)) hH0 (by rw [Array.size_replicate]; exact Lib.lt_pow_nDigits u) hu64 (by rw [Array.size_replicate]; omega)
    rw [Array.size_replicate] at hfmt
    have HH0 := Lib.hid hH0
    clear hH0 ht
    go_enter Tryd.func71, Tryd.ntmps71
    go_wp2_with (go_at_call 88; refine (Tryd.internal_strconv_numDigits u hu1 hu64 _ (Lib.tabIs_alloc htab _)).mono ?_; rintro e w' ⟨rfl, rfl⟩)
    go_at_call 89
    refine hfmt.mono ?_
    rintro e w' ⟨rfl, k, v', dk, rfl, hF⟩
    have hcv : (convert 84 9 (.slice (some ⟨w.heap.size, 0, none⟩) (Lib.nDigits u) 24)).run Tryd.prog ((putRow (fun (b : UInt8) => Value.int .u8 (b.toNat : Int)) (w.alloc (.cells Lib.zeros24 100)) w.heap.size 0 dk).drewN k) = .ok (.string ⟨(Lib.decDigits u).toArray⟩) ((putRow (fun (b : UInt8) => Value.int .u8 (b.toNat : Int)) (w.alloc (.cells Lib.zeros24 100)) w.heap.size 0 dk).drewN k) := by
      have h := run_convert_bytes_back (P := Tryd.prog) ((putRow (fun (b : UInt8) => Value.int .u8 (b.toNat : Int)) (w.alloc (.cells Lib.zeros24 100)) w.heap.size 0 dk).drewN k) 84 9 5 ⟨w.heap.size, 0, none⟩ 24 (Lib.decDigits u) Tryd.underlying84 Tryd.underlying5 Tryd.underlying9 (fun j hj => by
        rw [Lib.row_is_numeral hF j hj, Lib.add_plain, World.cell?_drewN]
        exact cell?_putRow (fun (b : UInt8) => Value.int .u8 (b.toNat : Int)) _ w.heap.size 0 _ dk HH0.out (by rw [hF.size, Array.size_replicate]) j (by rw [hF.size]; rw [Lib.decDigits_length] at hj; exact hj))
      rw [Lib.decDigits_length] at h
      exact h
    go_wp2
    go_ret
    obtain ⟨os, eo⟩ := Lib.fin_at w (.cells Lib.zeros24 100) dk k 0
    exact ⟨rfl, k, os, eo⟩
theorem fmtUint_any (u : Int) (hu : M.isU u) (w : World) (ht : u < 100 ∨ Tab w) :
    Calls Tryd.prog 42 #[.int .u64 u, .int .i64 10] w fun e w' => e = .returned (.string ⟨(Lib.itoa u).toArray⟩) ∧ Below w.heap.size w w' := by
  obtain ⟨n, rfl⟩ := Int.eq_ofNat_of_zero_le hu.1
  have hn : n < 18446744073709551616 := by have := hu.2; omega
  rw [Lib.itoa_nonneg]
  have ht2 : n < 100 ∨ Tab w := ht.imp (fun h => by omega) id
  have c : Calls Tryd.prog 71 #[.int .u64 n, .int .i64 10] w fun e w' => e = .returned (.string ⟨(Lib.decDigits n).toArray⟩) ∧ Below w.heap.size w w' := (fmtUint_in n hn w ht2).mono fun _ _ h => ⟨h.1, below_grown h.2⟩
  clear ht ht2 hu
  go_enter Tryd.func42, Tryd.ntmps42
  go_wp2_with (go_at_call 71; refine c.mono ?_; rintro e w' ⟨rfl, hb⟩)
  go_ret
  exact ⟨rfl, hb⟩
end Go.Proofs.YthieengihbbnpaaDoor
