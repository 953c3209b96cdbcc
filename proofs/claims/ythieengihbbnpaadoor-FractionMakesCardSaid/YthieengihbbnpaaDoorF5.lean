/- The reference's Decimal. -/
import Derived.Test.YthieengihbbnpaaDoorF4
import Derived.Test.YthieengihbbnpaaDoorF2
namespace Go.Proofs.YthieengihbbnpaaDoor
open Go.RowKit Go.Sort
set_option linter.unusedVariables false
def RDecRel (k : Nat) (L : List UInt8) (v : Value) : Prop := ∃ (P : ByteArray) (j : Nat), v = .string P ∧ Hid (P.data.toList = List.replicate j 48 ++ L) ∧ P.size = j + L.length ∧ (j = 0 ∨ P.size ≤ k + 1)
set_option maxRecDepth 100000 in
set_option maxHeartbeats 8000000 in
theorem rdecimal_gw (n d : Int) (hn : M.isI n) (w W : World) (p : Regrown) (hB : Below w.heap.size w W) (ht : M.absI n < 100 ∨ Tab w) :
    Calls Tryd.prog 13 #[.int .i64 n, .int .i64 d] (gw W p) fun e w' => e = .returned (.tuple #[.string ⟨(M.decF n d).1.toArray⟩, .int .i64 (M.decF n d).2]) ∧ Below w.heap.size w w' := by
  unfold M.decF
  by_cases d1 : d < 0
  · rw [if_pos (Or.inl d1)]
    go_enter Tryd.func13, Tryd.ntmps13
    go_wp2
    go_ret2
    exact ⟨rfl, below_gw hB _⟩
  · by_cases d2 : d > 6
    · rw [if_pos (Or.inr d2)]
      have d1' : decide (d < 0) = false := decide_eq_false d1
      go_enter Tryd.func13, Tryd.ntmps13
      go_wp2
      go_ret2
      exact ⟨rfl, below_gw hB _⟩
    · rw [if_neg (by omega)]
      obtain ⟨k, rfl⟩ := Int.eq_ofNat_of_zero_le (show 0 ≤ d by omega)
      have hk : (k : Int) ≤ 6 := by omega
      have d1' : decide ((k : Int) < 0) = false := decide_eq_false d1
      have d2' : decide (6 < (k : Int)) = false := decide_eq_false d2
      have hA := M.absI_isU hn
      have cS := fun w => quietBelow (rsize_any n hn.1 hn.2 w)
      have cF := fun q => fmtUint_any (M.absI n) hA (gw W q) (ht.imp id (fun h => tab_gw h hB q))
      obtain ⟨l1, l2⟩ := M.itoa_len hA.1 hA.2
      unfold M.decL
      rw [Int.toNat_natCast]
      generalize Lib.itoa (M.absI n) = L at cF l1 l2 ⊢
      generalize M.absI n = x at cS cF
      obtain ⟨S, hS⟩ : ∃ S : ByteArray, (⟨L.toArray⟩ : ByteArray) = S := ⟨_, rfl⟩
      have hS1 : S.data.toList = L := by rw [← hS]
      have hS2 : S.size = L.length := by rw [← hS]; rfl
      rw [hS] at cF
      rw [← hS2] at l1 l2
      have s1 : (1 : Int) ≤ S.size := by omega
      have s2 : (S.size : Int) ≤ 20 := by omega
      have HS1 := Lib.hid hS1
      have HS2 := Lib.hid hS2
      clear hS hS1 hS2 ht d1 d2 hA
      obtain ⟨sn, hsn⟩ : ∃ s, decide (n < 0) = s := ⟨_, rfl⟩
      have e : (if n < 0 then 45 :: M.dot k (M.pad k L) else M.dot k (M.pad k L)) = (if sn = true then 45 :: M.dot k (M.pad k L) else M.dot k (M.pad k L)) := by
        rw [← hsn]; by_cases h : n < 0 <;> simp [h]
      rw [e]
      clear e
      go_enter Tryd.func13, Tryd.ntmps13
      go_wp2_with (first | (go_at_call 45; with_reducible refine (callsGw (cS _)).mono ?_; rintro e w1 ⟨rfl, q, rfl⟩) | (go_at_call 42; with_reducible refine (callsGw (cF _)).mono ?_; rintro e w1 ⟨rfl, q, rfl⟩))
      go_loop [6] (RDecRel k L) (fun v => match v with | .string b => k + 1 - b.size | _ => 0)
      case atStart => exact ⟨S, 0, rfl, Lib.hid HS1.out, by have := HS2.out; omega, .inl rfl⟩
      case round =>
        obtain ⟨P, j, rfl, HP0, hsz, hj⟩ := hrel
        have HSz := Lib.hid hsz
        clear hsz
        by_cases hl : P.size ≤ k
        · have hd : decide (P.size ≤ k) = true := decide_eq_true hl
          have hc := fun W => run_string_add_sum (P := Tryd.prog) W ⟨#[48]⟩ P (by show 1 + _ ≤ _; omega)
          have hs1 : (ByteArray.mk #[48] ++ P).size = 1 + P.size := by rw [ByteArray.size_append]; rfl
          have hp1 : Hid ((ByteArray.mk #[48] ++ P).data.toList = List.replicate (j + 1) 48 ++ L) := Lib.hid (by rw [M.bytes_append, HP0.out, List.replicate_succ]; rfl)
          have Hs1 := Lib.hid hs1
          clear hs1
          go_wp2
          go_round
          case rel => exact ⟨_, j + 1, rfl, hp1, by rw [Hs1.out, HSz.out]; omega, .inr (by rw [Hs1.out]; omega)⟩
          case measure =>
            show k + 1 - (ByteArray.mk #[48] ++ P).size < k + 1 - P.size
            rw [Hs1.out]; omega
        · have hd : decide (P.size ≤ k) = false := decide_eq_false hl
          have HP : Hid (P.data.toList = M.pad k L) := Lib.hid (by
            rw [HP0.out]
            unfold M.pad
            have h1 := HSz.out
            have h2 := HS2.out
            rw [show k + 1 - L.length = j by omega])
          have p1 : (k : Int) < P.size := by omega
          have p2 : (P.size : Int) ≤ 30 := by have h1 := HSz.out; have h2 := HS2.out; omega
          clear hj hl hd HP0 HSz cS cF HS1 HS2 l1 l2 s1 s2
          have hd : decide (P.size ≤ k) = false := decide_eq_false (by omega)
          have hc0 := fun W => run_string_add_sum (P := Tryd.prog) W ⟨#[45]⟩ P (by show 1 + _ ≤ _; omega)
          go_upto_if 23 with fail
          clear hd
          by_cases hk0 : k = 0
          · subst hk0
            have hd : decide ((0 : Int) < ((0 : Nat) : Int)) = false := rfl
            cases sn
            · go_wp2
              go_ret2
              exact ⟨retS (by rw [HP.out]; rfl), below_gw hB _⟩
            · go_wp2
              go_ret2
              exact ⟨retS (by rw [M.bytes_append, HP.out]; rfl), below_gw hB _⟩
          · have hk1 : 0 < k := by omega
            have hd0 := dot_bytes P k (by omega) (by omega)
            obtain ⟨r, hr⟩ : ∃ r : Nat, (P.size : Int) - k = r := ⟨P.size - k, by omega⟩
            have hr2 : P.size - k = r := by omega
            have hr3 : (r : Int) ≤ P.size := by omega
            have hr4 : r ≤ P.size := by omega
            have hr5 : r ≤ P.size := hr4
            have hrw : IntKind.i64.wrap (r : Int) = (r : Int) := IntWalk.i64_in _ (by omega)
            rw [hr2, HP.out] at hd0
            have hx1 : (P.extract 0 r).size = r := by rw [M.bytes_size, M.bytes_extract, List.length_take, List.length_drop, ← M.bytes_size]; omega
            have hx2 : (P.extract r P.size).size = P.size - r := by rw [M.bytes_size, M.bytes_extract, List.length_take, List.length_drop, ← M.bytes_size]; omega
            have hc1 := fun W => run_string_add_sum (P := Tryd.prog) W (P.extract 0 r) ⟨#[46]⟩ (by rw [hx1]; show r + 1 ≤ _; omega)
            have hy : (P.extract 0 r ++ ⟨#[46]⟩).size = r + 1 := by rw [ByteArray.size_append, hx1]; rfl
            have hc2 := fun W => run_string_add_sum (P := Tryd.prog) W (P.extract 0 r ++ ⟨#[46]⟩) (P.extract r P.size) (by rw [hy, hx2]; omega)
            have hc3 := fun W => run_string_add_sum (P := Tryd.prog) W ⟨#[45]⟩ (P.extract 0 r ++ ⟨#[46]⟩ ++ P.extract r P.size) (by rw [ByteArray.size_append (a := P.extract 0 r ++ ⟨#[46]⟩), hy, hx2]; show 1 + _ ≤ _; omega)
            clear hx1 hx2 hy hr3 hr4
            have HD := Lib.hid hd0
            clear hd0 hr2 hk0
            go_upto_region 7 with fail
            refine wp_alo0 14 1 (by kernel_rfl) rfl (by kernel_rfl) (by kernel_rfl) ?_
            simp only [List.take_succ_cons, List.take_zero, List.drop_succ_cons, List.drop_zero]
            repeat (refine wpQb_step (fun K hK => ?_); go_simp; first | (refine hK _ ?_; clear hK K) | (apply Exists.intro; refine ⟨fun _ => ?_, hK _ ?_⟩; (fail); clear hK K))
            refine wpQb_nil ?_
            intro q
            cases sn
            · go_wp2
              go_ret2
              exact ⟨retS (by rw [HD.out]), below_gw hB _⟩
            · go_wp2
              go_ret2
              exact ⟨retS (by rw [M.bytes_append, HD.out]; rfl), below_gw hB _⟩
theorem rdecimal_any (n d : Int) (hn : M.isI n) (w : World) (ht : M.absI n < 100 ∨ Tab w) :
    Calls Tryd.prog 13 #[.int .i64 n, .int .i64 d] w fun e w' => e = .returned (.tuple #[.string ⟨(M.decF n d).1.toArray⟩, .int .i64 (M.decF n d).2]) ∧ Below w.heap.size w w' := by
  obtain ⟨p0, hp0⟩ := gw_start w
  have h := rdecimal_gw n d hn w w p0 (belowRefl w) ht
  rwa [← hp0] at h
end Go.Proofs.YthieengihbbnpaaDoor
