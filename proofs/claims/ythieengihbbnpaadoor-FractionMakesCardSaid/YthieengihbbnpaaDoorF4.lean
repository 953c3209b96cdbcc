/- Package fraction: Decimal. -/
import Derived.Test.YthieengihbbnpaaDoorF3
import Derived.Test.YthieengihbbnpaaDoorM21
import Derived.IntWalk
namespace Go.Proofs.YthieengihbbnpaaDoor
open Go.RowKit Go.Sort
set_option linter.unusedVariables false
theorem dot_bytes (P : ByteArray) (k : Nat) (hk : 0 < k) (hp : k ≤ P.size) : (P.extract 0 (P.size - k) ++ ⟨#[46]⟩ ++ P.extract (P.size - k) P.size).data.toList = M.dot k P.data.toList := by
  unfold M.dot
  rw [if_neg (by omega), M.bytes_append, M.bytes_append, M.bytes_extract, M.bytes_extract, M.bytes_size]
  rw [List.drop_zero, Nat.sub_zero]
  have e : (List.drop (P.data.toList.length - k) P.data.toList).take (P.data.toList.length - (P.data.toList.length - k)) = List.drop (P.data.toList.length - k) P.data.toList := by
    apply List.take_of_length_le
    rw [List.length_drop]
    exact Nat.le_refl _
  rw [e]
  simp
theorem retS {X : ByteArray} {l : List UInt8} {v : Value} (h : X.data.toList = l) : Ending.returned (.tuple #[.string X, v]) = .returned (.tuple #[.string ⟨l.toArray⟩, v]) := by
  rw [show X = ⟨l.toArray⟩ from M.bytes_ext (by rw [h])]
theorem rep_bytes (c : Nat) : Lib.repeatL [48] c = List.replicate c 48 := by
  induction c with
  | zero => rfl
  | succ c ih => rw [Lib.repeatL, ih, List.replicate_succ]; rfl
set_option maxRecDepth 100000 in
set_option maxHeartbeats 8000000 in
theorem decimal_gw (n d : Int) (hn : M.isI n) (w W : World) (p : Regrown) (hB : Below w.heap.size w W) (ht : M.absI n < 100 ∨ Tab w) :
    Calls Tryd.prog 12 #[.int .i64 n, .int .i64 d] (gw W p) fun e w' => e = .returned (.tuple #[.string ⟨(M.decF n d).1.toArray⟩, .int .i64 (M.decF n d).2]) ∧ Below w.heap.size w w' := by
  unfold M.decF
  by_cases d1 : d < 0
  · rw [if_pos (Or.inl d1)]
    go_enter Tryd.func12, Tryd.ntmps12
    go_wp2
    go_ret2
    exact ⟨rfl, below_gw hB _⟩
  · by_cases d2 : d > 6
    · rw [if_pos (Or.inr d2)]
      have d1' : decide (d < 0) = false := decide_eq_false d1
      go_enter Tryd.func12, Tryd.ntmps12
      go_wp2
      go_ret2
      exact ⟨rfl, below_gw hB _⟩
    · rw [if_neg (by omega)]
      obtain ⟨k, rfl⟩ := Int.eq_ofNat_of_zero_le (show 0 ≤ d by omega)
      have hk : (k : Int) ≤ 6 := by omega
      have d1' : decide ((k : Int) < 0) = false := decide_eq_false d1
      have d2' : decide (6 < (k : Int)) = false := decide_eq_false d2
      have hA := M.absI_isU hn
      have cS := fun w => sizeB_any n hn w
      have cF := fun q => fmtUint_any (M.absI n) hA (gw W q) (ht.imp id (fun h => tab_gw h hB q))
      obtain ⟨l1, l2⟩ := M.itoa_len hA.1 hA.2
      unfold M.decL
      rw [Int.toNat_natCast]
      generalize Lib.itoa (M.absI n) = L at cF l1 l2 ⊢
      generalize M.absI n = x at cS cF
      obtain ⟨S, hS⟩ : ∃ S : ByteArray, (⟨L.toArray⟩ : ByteArray) = S := ⟨_, rfl⟩
      have hS1 : S.data.toList = L := by rw [← hS]
      have hS2 : S.size = L.length := by rw [← hS]; rfl
      rw [hS] at cF
      rw [← hS2] at l1 l2
      have s1 : (1 : Int) ≤ S.size := by omega
      have s2 : (S.size : Int) ≤ 20 := by omega
      have HS1 := Lib.hid hS1
      have HS2 := Lib.hid hS2
      clear hS hS1 hS2 ht d1 d2 hA
      obtain ⟨sn, hsn⟩ : ∃ s, decide (n < 0) = s := ⟨_, rfl⟩
      have e : (if n < 0 then 45 :: M.dot k (M.pad k L) else M.dot k (M.pad k L)) = (if sn = true then 45 :: M.dot k (M.pad k L) else M.dot k (M.pad k L)) := by
        rw [← hsn]; by_cases h : n < 0 <;> simp [h]
      rw [e]
      clear e
      go_enter Tryd.func12, Tryd.ntmps12
      go_upto_if 23 with (first | (go_at_call 43; with_reducible refine (callsGw (cS _)).mono ?_; rintro e w1 ⟨rfl, q, rfl⟩) | (go_at_call 42; with_reducible refine (callsGw (cF _)).mono ?_; rintro e w1 ⟨rfl, q, rfl⟩))
      go_cut [6, 7] (fun s6 s7 wx => ∃ (P : ByteArray) (q : Regrown), s6 = .string P ∧ wx = gw W q ∧ Hid (P.data.toList = M.pad k L) ∧ (k : Int) < P.size ∧ (P.size : Int) ≤ 30)
      case first =>
        by_cases hl : S.size < k + 1
        · have hd : decide ((S.size : Int) < (k : Int) + 1) = true := decide_eq_true (by omega)
          have hl2 : (S.size : Int) < (k : Int) + 1 := by omega
          obtain ⟨c, hc⟩ : ∃ c : Nat, (k : Int) + 1 - S.size = c := ⟨k + 1 - S.size, by omega⟩
          have cR := fun w => Tryd.strings_Repeat ⟨#[48]⟩ c w (by omega) (by show 1 * c ≤ _; omega)
          obtain ⟨Z, hZ⟩ : ∃ Z : ByteArray, (⟨(Lib.repeatL (ByteArray.mk #[48]).data.toList c).toArray⟩ : ByteArray) = Z := ⟨_, rfl⟩
          have hZ1 : Z.data.toList = List.replicate c 48 := by rw [← hZ]; exact rep_bytes c
          have hP : Hid ((Z ++ S).data.toList = M.pad k L) := Lib.hid (by
            rw [M.bytes_append, hZ1, HS1.out]
            unfold M.pad
            rw [← HS2.out, show c = k + 1 - S.size by omega])
          have hsz : (Z ++ S).size = k + 1 := by rw [M.bytes_size, M.bytes_append, hZ1, List.length_append, List.length_replicate, ← M.bytes_size]; omega
          rw [hZ] at cR
          have hzs : Z.size + S.size ≤ 9223372036854775807 := by
            rw [M.bytes_size, M.bytes_append, List.length_append, ← M.bytes_size, ← M.bytes_size] at hsz
            omega
          have Hsz := Lib.hid hsz
          clear hZ hZ1 hsz hl
          go_wp2_with (go_at_call 44; with_reducible refine (callsGw (cR _)).mono ?_; rintro e w1 ⟨rfl, q, rfl⟩)
          go_meet
          exact ⟨Z ++ S, _, rfl, rfl, hP, by rw [Hsz.out]; omega, by rw [Hsz.out]; omega⟩
        · have hd : decide ((S.size : Int) < (k : Int) + 1) = false := decide_eq_false (by omega)
          have hP : Hid (S.data.toList = M.pad k L) := Lib.hid (by
            rw [HS1.out]
            unfold M.pad
            rw [← HS2.out, show k + 1 - S.size = 0 by omega]
            rfl)
          have h3 : (k : Int) < S.size := by omega
          clear hl
          go_wp2
          go_meet
          exact ⟨S, _, rfl, rfl, hP, h3, by omega⟩
      case rest =>
        clear cS cF HS1 HS2 l1 l2 s1 s2
        obtain ⟨P, q, rfl, rfl, HP, p1, p2⟩ := hcut
        have hc0 := fun W => run_string_add_sum (P := Tryd.prog) W ⟨#[45]⟩ P (by show 1 + _ ≤ _; omega)
        by_cases hk0 : k = 0
        · subst hk0
          have hd : decide ((0 : Int) < ((0 : Nat) : Int)) = false := rfl
          cases sn
          · go_wp2
            go_ret2
            exact ⟨retS (by rw [HP.out]; rfl), below_gw hB _⟩
          · go_wp2
            go_ret2
            exact ⟨retS (by rw [M.bytes_append, HP.out]; rfl), below_gw hB _⟩
        · have hk1 : 0 < k := by omega
          have hd0 := dot_bytes P k (by omega) (by omega)
          obtain ⟨r, hr⟩ : ∃ r : Nat, (P.size : Int) - k = r := ⟨P.size - k, by omega⟩
          have hr2 : P.size - k = r := by omega
          have hr3 : (r : Int) ≤ P.size := by omega
          have hr4 : r ≤ P.size := by omega
          have hr5 : r ≤ P.size := hr4
          have hrw : IntKind.i64.wrap (r : Int) = (r : Int) := IntWalk.i64_in _ (by omega)
          rw [hr2, HP.out] at hd0
          have hx1 : (P.extract 0 r).size = r := by rw [M.bytes_size, M.bytes_extract, List.length_take, List.length_drop, ← M.bytes_size]; omega
          have hx2 : (P.extract r P.size).size = P.size - r := by rw [M.bytes_size, M.bytes_extract, List.length_take, List.length_drop, ← M.bytes_size]; omega
          have hc1 := fun W => run_string_add_sum (P := Tryd.prog) W (P.extract 0 r) ⟨#[46]⟩ (by rw [hx1]; show r + 1 ≤ _; omega)
          have hy : (P.extract 0 r ++ ⟨#[46]⟩).size = r + 1 := by rw [ByteArray.size_append, hx1]; rfl
          have hc2 := fun W => run_string_add_sum (P := Tryd.prog) W (P.extract 0 r ++ ⟨#[46]⟩) (P.extract r P.size) (by rw [hy, hx2]; omega)
          have hc3 := fun W => run_string_add_sum (P := Tryd.prog) W ⟨#[45]⟩ (P.extract 0 r ++ ⟨#[46]⟩ ++ P.extract r P.size) (by rw [ByteArray.size_append (a := P.extract 0 r ++ ⟨#[46]⟩), hy, hx2]; show 1 + _ ≤ _; omega)
          clear hx1 hx2 hy hr3 hr4
          have HD := Lib.hid hd0
          clear hd0 hr2 hk0
          go_upto_region 8 with fail
          refine wp_alo0 14 1 (by kernel_rfl) rfl (by kernel_rfl) (by kernel_rfl) ?_
          simp only [List.take_succ_cons, List.take_zero, List.drop_succ_cons, List.drop_zero]
          repeat (refine wpQb_step (fun K hK => ?_); go_simp; first | (refine hK _ ?_; clear hK K) | (apply Exists.intro; refine ⟨fun _ => ?_, hK _ ?_⟩; (fail); clear hK K))
          refine wpQb_nil ?_
          intro q
          cases sn
          · go_wp2
            go_ret2
            exact ⟨retS (by rw [HD.out]), below_gw hB _⟩
          · go_wp2
            go_ret2
            exact ⟨retS (by rw [M.bytes_append, HD.out]; rfl), below_gw hB _⟩
theorem decimal_any (n d : Int) (hn : M.isI n) (w : World) (ht : M.absI n < 100 ∨ Tab w) :
    Calls Tryd.prog 12 #[.int .i64 n, .int .i64 d] w fun e w' => e = .returned (.tuple #[.string ⟨(M.decF n d).1.toArray⟩, .int .i64 (M.decF n d).2]) ∧ Below w.heap.size w w' := by
  obtain ⟨p0, hp0⟩ := gw_start w
  have h := decimal_gw n d hn w w p0 (belowRefl w) ht
  rwa [← hp0] at h
end Go.Proofs.YthieengihbbnpaaDoor
