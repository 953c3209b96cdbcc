/- Package fraction: allValid. -/
import Derived.Test.YthieengihbbnpaaDoorH4
import Derived.Outline
namespace Go.Proofs.YthieengihbbnpaaDoor
open Go.RowKit Go.Sort
set_option linter.unusedVariables false
set_option maxHeartbeats 2000000 in
theorem allValid_walk (xs : List (Int × Int)) (b o c : Nat) (w : World) (hn : xs.length ≤ 70368744177664)
    (h0 : ∀ i, i < xs.length → w.cell? ⟨b, o + i * 2, none⟩ = some (.int .i64 (xs.getD i (0, 0)).1)) (h1 : ∀ i, i < xs.length → w.cell? ⟨b, o + i * 2 + 1, none⟩ = some (.int .i64 (xs.getD i (0, 0)).2)) :
    Calls Tryd.prog 56 #[.slice (some ⟨b, o, none⟩) xs.length c] w fun e w' => e = .returned (.bool (xs.all fun x => M.vld x.1 x.2)) ∧ Below w.heap.size w w' := by
  obtain ⟨p0, hp0⟩ := gw_start w
  have HP := Lib.hid hp0
  clear hp0
  obtain ⟨r, hr⟩ : ∃ r, (xs.all fun x => M.vld x.1 x.2) = r := ⟨_, rfl⟩
  rw [hr]
  have HR := Lib.hid hr
  clear hr
  go_enter Tryd.func56, Tryd.ntmps56
  go_wp2
  rw [HP.out]
  go_loopw [7] (fun v wr => ∃ k : Nat, v = .int .i64 k ∧ k ≤ xs.length ∧ Hid ((xs.take k).all (fun x => M.vld x.1 x.2) = true) ∧ ∃ p, wr = gw w p) (fun v _ => xs.length - (intOf v).toNat)
  case atStart => exact ⟨0, rfl, Nat.zero_le _, Lib.hid rfl, p0, rfl⟩
  case round =>
    obtain ⟨k, rfl, hk, hall, p, rfl⟩ := hrel
    by_cases hlt : k < xs.length
    · have c0 := cell_gw (h0 k hlt) p
      have c1 := cell_gw (h1 k hlt) p
      obtain ⟨x, y, hxy⟩ : ∃ x y, xs.getD k (0, 0) = (x, y) := ⟨_, _, rfl⟩
      rw [hxy] at c0 c1
      have hs : (xs.take (k + 1)).all (fun x => M.vld x.1 x.2) = M.vld x y := by
        have e : xs[k] = (x, y) := by rw [← hxy, List.getD_eq_getElem?_getD, List.getElem?_eq_getElem hlt]; rfl
        rw [List.take_succ_eq_append_getElem hlt, List.all_append, hall.out, e]; simp
      have Hs := Lib.hid hs
      have Hxy := Lib.hid hxy
      clear hs hxy h0 h1
      have hf : M.vld x y = false → r = false := by
        intro h
        rw [← HR.out, List.all_eq_false]
        refine ⟨xs[k], List.getElem_mem hlt, ?_⟩
        have e : xs[k] = (x, y) := by rw [← Hxy.out, List.getD_eq_getElem?_getD, List.getElem?_eq_getElem hlt]; rfl
        rw [e, h]; simp
      have Hf := Lib.hid hf
      clear hf
      cases hv : M.vld x y
      · have Hr := Lib.hid (Hf.out hv)
        go_wp2_with ((with_reducible refine (valid_any _ _ _).mono ?_); rintro e w1 ⟨rfl, hb⟩)
        go_ret
        refine ⟨retB Hr.out.symm, belowThen (belowAlloc (below_gw1 _ _) _) hb⟩
      · rw [hv] at Hs
        go_wp2_with ((with_reducible refine (valid_any _ _ _).mono ?_); rintro e w1 ⟨rfl, hb⟩)
        have hg := gw_of_below (belowThen (belowAlloc (below_gw1 w p) _) hb)
        obtain ⟨q, rfl⟩ := hg
        go_roundw
        case rel => exact ⟨k + 1, by go_num, hlt, Hs, q, rfl⟩
        case measure => simp [intOf]; omega
    · have hke : k = xs.length := by omega
      have e : r = true := by rw [← HR.out]; have := hall.out; rw [hke, List.take_length] at this; exact this
      have E := Lib.hid e
      clear hall h0 h1 e hke
      go_wp2
      go_ret
      exact ⟨retB E.out.symm, below_gw1 _ _⟩
end Go.Proofs.YthieengihbbnpaaDoor
