/- Package fraction: Parse. -/
import Derived.Test.YthieengihbbnpaaDoorF8
import Derived.Test.YthieengihbbnpaaDoorM24
namespace Go.Proofs.YthieengihbbnpaaDoor
open Go.RowKit Go.Sort
set_option linter.unusedVariables false
theorem num19_any (s : ByteArray) (w : World) :
    Calls Tryd.prog 49 #[.string s, .int .i64 19] w fun e w' => e = .returned (.tuple #[.int .u64 (M.numF 19 s.data.toList).1, .bool (M.numF 19 s.data.toList).2]) ∧ Below w.heap.size w w' :=
  (number_any s 19 (by decide) w).mono fun _ _ h => ⟨h.1, by rw [← h.2]; exact belowRefl w⟩
theorem num18_any (s : ByteArray) (w : World) :
    Calls Tryd.prog 49 #[.string s, .int .i64 18] w fun e w' => e = .returned (.tuple #[.int .u64 (M.numF 18 s.data.toList).1, .bool (M.numF 18 s.data.toList).2]) ∧ Below w.heap.size w w' :=
  (number_any s 18 (by decide) w).mono fun _ _ h => ⟨h.1, by rw [← h.2]; exact belowRefl w⟩
theorem power18_any (w : World) : Calls Tryd.prog 50 #[.int .i64 18] w fun e w' => e = .returned (.int .u64 1000000000000000000) ∧ Below w.heap.size w w' := by
  have h := power_any 18 (by decide) w
  exact h
theorem power0_any (w : World) : Calls Tryd.prog 50 #[.int .i64 0] w fun e w' => e = .returned (.int .u64 1) ∧ Below w.heap.size w w' := by
  have h := power_any 0 (by decide) w
  exact h
theorem str_of (l : List UInt8) : ∃ S : ByteArray, (⟨l.toArray⟩ : ByteArray) = S ∧ Hid (S.data.toList = l) ∧ S.size = l.length := ⟨_, rfl, Lib.hid rfl, rfl⟩
set_option maxRecDepth 100000 in
set_option maxHeartbeats 8000000 in
theorem parse_any (s : ByteArray) (hs : s.size ≤ 140737488355328) (w : World) :
    Calls Tryd.prog 15 #[.string s] w fun e w' => e = .returned (.tuple #[.agg #[.int .i64 (M.parseF s.data.toList).1, .int .i64 (M.parseF s.data.toList).2.1], .int .i64 (M.parseF s.data.toList).2.2]) ∧ Below w.heap.size w w' := by
  obtain ⟨W, hW, hB, hS, b0⟩ := lay1 w #[.int .i64 0, .int .i64 0] 27
  obtain ⟨p0, hp0⟩ := gw_start W
  have HW := Lib.hid (hW.trans hp0)
  clear hW hp0
  have c_b0_0 : ∀ q, (gw W q).cell? ⟨w.heap.size, 0, none⟩ = some (.int .i64 0) := cell_gw (blk_cell b0 0 _ rfl)
  have c_b0_1 : ∀ q, (gw W q).cell? ⟨w.heap.size, 1, none⟩ = some (.int .i64 0) := cell_gw (blk_cell b0 1 _ rfl)
  have f_b0 := blk_frozen b0
  have cP := fun w => quietBelow (Tryd.strings_CutPrefix s ⟨#[45]⟩ w)
  obtain ⟨neg, hneg⟩ : ∃ b, Lib.hasPrefix s.data.toList [45] = b := ⟨_, rfl⟩
  obtain ⟨t, ht⟩ : ∃ t, Lib.trimPrefix s.data.toList [45] = t := ⟨_, rfl⟩
  have htl := M.trim_len s.data.toList [45]
  unfold M.parseF
  rw [show (ByteArray.mk #[45]).data.toList = [45] from rfl, hneg, ht] at cP
  rw [hneg, ht]
  rw [ht, ← M.bytes_size] at htl
  obtain ⟨T, hT, HT, hT2⟩ := str_of t
  rw [hT] at cP
  rw [← hT2] at htl
  have hTs : T.size ≤ 140737488355328 := Nat.le_trans htl hs
  have c1 := fun w => cut_any T 47 hTs w
  have c2 := fun w => cut_any T 46 hTs w
  have cN := fun w => num19_any T w
  obtain ⟨l1, l2⟩ := M.cutC_len 47 T.data.toList
  obtain ⟨l3, l4⟩ := M.cutC_len 46 T.data.toList
  rw [HT.out] at c1 c2 cN l1 l2 l3 l4
  obtain ⟨pu1, pu2⟩ := M.parts_isU t
  obtain ⟨R, hR⟩ : ∃ R, M.parts t = R := ⟨_, rfl⟩
  rw [hR] at pu1 pu2 ⊢
  have HR := Lib.hid hR
  obtain ⟨X, hX⟩ : ∃ X, (if R.2.2 = true then (if R.2.1 = 0 then (0, 0, 1) else M.norm (if neg = true then -R.1 else R.1) R.2.1) else (0, 0, 2) : Int × Int × Int) = X := ⟨_, rfl⟩
  rw [hX]
  have HX := Lib.hid hX
  obtain ⟨A1, hA1, HA1, sA1⟩ := str_of (M.cutC 47 t).1
  obtain ⟨B1, hB1, HB1, sB1⟩ := str_of (M.cutC 47 t).2.1
  obtain ⟨A2, hA2, HA2, sA2⟩ := str_of (M.cutC 46 t).1
  obtain ⟨B2, hB2, HB2, sB2⟩ := str_of (M.cutC 46 t).2.1
  rw [hA1, hB1] at c1
  rw [hA2, hB2] at c2
  obtain ⟨v1, hv1⟩ : ∃ v, (M.cutC 47 t).2.2 = v := ⟨_, rfl⟩
  obtain ⟨v2, hv2⟩ : ∃ v, (M.cutC 46 t).2.2 = v := ⟨_, rfl⟩
  rw [hv1] at c1
  rw [hv2] at c2
  have HV1 := Lib.hid hv1
  have HV2 := Lib.hid hv2
  have cA := fun w => num19_any A1 w
  have cB := fun w => num19_any B1 w
  rw [HA1.out] at cA
  rw [HB1.out] at cB
  have hsum : A2.size + B2.size ≤ 9223372036854775807 := by rw [sA2, sB2]; have := hTs; rw [hT2] at this; omega
  have hcat := fun W => run_string_add_sum (P := Tryd.prog) W A2 B2 hsum
  have cC := fun w => num18_any (A2 ++ B2) w
  rw [M.bytes_append, HA2.out, HB2.out] at cC
  have hb2 : (B2.size : Int) ≤ 140737488355328 := by rw [sB2]; have := hTs; rw [hT2] at this; omega
  have HsA := Lib.hid sA2
  have HsB := Lib.hid sB2
  have HT2 := Lib.hid hT2
  clear hneg ht htl hT hA1 hB1 hA2 hB2 hv1 hv2 hR hX sA1 sB1 sA2 sB2 hsum l1 l2 l3 l4 hT2 hTs
  go_enter Tryd.func15, Tryd.ntmps15
  go_wp2_with fail
  rw [HW.out]
  go_upto_region 3 with (go_at_call 47; with_reducible refine (callsGw (cP _)).mono ?_; rintro e w1 ⟨rfl, q, rfl⟩)
  clear c_b0_0 c_b0_1 f_b0
  cases v1
  · -- no slash
    go_upto_region 9 with (go_at_call 48; with_reducible refine (callsGw (c1 _)).mono ?_; rintro e w1 ⟨rfl, q, rfl⟩)
    clear c1 cA cB HA1 HB1
    cases v2
    · -- no point either
      have eR : R = ((M.numF 19 t).1, 1, (M.numF 19 t).2) := by
        rw [← HR.out]; unfold M.parts; rw [HV1.out, HV2.out]; rfl
      clear cC hcat hb2 HsA HsB HA2 HB2 HV1 HV2 HR
      generalize M.numF 19 t = N at cN eR
      obtain ⟨n, b⟩ := N
      dsimp only at cN eR
      subst eR
      dsimp only at pu1 pu2 HX
      cases b
      · have eX : X = (0, 0, 2) := by rw [← HX.out]; rfl
        subst eX
        clear HX pu1 pu2
        have c_b0_0 : ∀ q, (gw W q).cell? ⟨w.heap.size, 0, none⟩ = some (.int .i64 0) := cell_gw (blk_cell b0 0 _ rfl)
        have c_b0_1 : ∀ q, (gw W q).cell? ⟨w.heap.size, 1, none⟩ = some (.int .i64 0) := cell_gw (blk_cell b0 1 _ rfl)
        have f_b0 := blk_frozen b0
        go_wp2_with (first | (go_at_call 48; with_reducible refine (callsGw (c2 _)).mono ?_; rintro e w1 ⟨rfl, q, rfl⟩) | (go_at_call 49; with_reducible refine (callsGw (cN _)).mono ?_; rintro e w1 ⟨rfl, q, rfl⟩))
        refine bodyPost_ret (v := .tuple #[.agg #[.int .i64 0, .int .i64 0], .int .i64 2]) (by simp [results, Tryd.results15, go_sem, c_b0_0, c_b0_1]) rfl ⟨rfl, ?_⟩
        repeat (refine belowSet ?_ (by omega))
        exact below_gw hB _
      · have cR := fun w => reduced_any neg n 1 pu1 pu2 (by decide) w
        have eX : X = M.norm (if neg = true then -n else n) 1 := by rw [← HX.out]; rfl
        generalize M.norm (if neg = true then -n else n) 1 = Y at cR eX
        subst eX
        clear HX pu1 pu2
        have c_b0_0 : ∀ q, (gw W q).cell? ⟨w.heap.size, 0, none⟩ = some (.int .i64 0) := cell_gw (blk_cell b0 0 _ rfl)
        have c_b0_1 : ∀ q, (gw W q).cell? ⟨w.heap.size, 1, none⟩ = some (.int .i64 0) := cell_gw (blk_cell b0 1 _ rfl)
        have f_b0 := blk_frozen b0
        go_wp2_with (first | (go_at_call 48; with_reducible refine (callsGw (c2 _)).mono ?_; rintro e w1 ⟨rfl, q, rfl⟩) | (go_at_call 49; with_reducible refine (callsGw (cN _)).mono ?_; rintro e w1 ⟨rfl, q, rfl⟩) | (go_at_call 51; with_reducible refine (callsGw (cR _)).mono ?_; rintro e w1 ⟨rfl, q, rfl⟩))
        refine bodyPost_ret (v := .tuple #[.agg #[.int .i64 X.1, .int .i64 X.2.1], .int .i64 X.2.2]) (by simp [results, Tryd.results15, go_sem, c_b0_0, c_b0_1]) rfl ⟨rfl, ?_⟩
        repeat (refine belowSet ?_ (by omega))
        exact below_gw hB _
    · have eR : R = ((M.numF 18 ((M.cutC 46 t).1 ++ (M.cutC 46 t).2.1)).1, 10 ^ (min (M.cutC 46 t).2.1.length 18), (M.numF 18 ((M.cutC 46 t).1 ++ (M.cutC 46 t).2.1)).2 && !(M.cutC 46 t).1.isEmpty && !(M.cutC 46 t).2.1.isEmpty) := by
        rw [← HR.out]; unfold M.parts; rw [HV1.out, HV2.out]; rfl
      clear cN HV1 HV2 HR
      obtain ⟨N, hN⟩ : ∃ N, M.numF 18 ((M.cutC 46 t).1 ++ (M.cutC 46 t).2.1) = N := ⟨_, rfl⟩
      rw [hN] at cC eR
      obtain ⟨n, b⟩ := N
      have HN := Lib.hid hN
      clear hN
      have eE : ∀ l : List UInt8, l.isEmpty = decide (l.length = 0) := fun l => by cases l <;> simp
      rw [eE, eE, ← HsA.out, ← HsB.out] at eR
      clear eE
      dsimp only at cC eR
      have c_b0_0 : ∀ q, (gw W q).cell? ⟨w.heap.size, 0, none⟩ = some (.int .i64 0) := cell_gw (blk_cell b0 0 _ rfl)
      have c_b0_1 : ∀ q, (gw W q).cell? ⟨w.heap.size, 1, none⟩ = some (.int .i64 0) := cell_gw (blk_cell b0 1 _ rfl)
      have f_b0 := blk_frozen b0
      by_cases hB18 : B2.size ≤ 18
      · have cW := fun w => power_any B2.size hB18 w
        rw [Nat.min_eq_left hB18] at eR
        have hmin : decide ((18 : Int) < B2.size) = false := decide_eq_false (by omega)
        have hmin2 : ¬ (18 : Int) < B2.size := by omega
        subst eR
        dsimp only at pu1 pu2 HX
        clear HN
        have hB19 : (B2.size : Int) ≤ 18 := by omega
        have hmn : min (B2.size : Int) 18 = (B2.size : Int) := Int.min_eq_left hB19
        cases b
        · have eX : X = (0, 0, 2) := by rw [← HX.out]; rfl
          subst eX
          clear HX pu1 pu2 HA2 HB2 HsA HsB
          go_wp2_with (first | (go_at_call 48; with_reducible refine (callsGw (c2 _)).mono ?_; rintro e w1 ⟨rfl, q, rfl⟩) | (go_at_call 49; with_reducible refine (callsGw (cC _)).mono ?_; rintro e w1 ⟨rfl, q, rfl⟩) | (go_at_call 50; with_reducible refine (callsGw (cW _)).mono ?_; rintro e w1 ⟨rfl, q, rfl⟩))
          refine bodyPost_ret (v := .tuple #[.agg #[.int .i64 0, .int .i64 0], .int .i64 2]) (by simp [results, Tryd.results15, go_sem, c_b0_0, c_b0_1]) rfl ⟨rfl, ?_⟩
          repeat (refine belowSet ?_ (by omega))
          exact below_gw hB _
        · have hk := M.ten_pos B2.size
          have tl : ∀ X : ByteArray, X.size ≠ 0 → X.toList.isEmpty = false ∧ ¬ X.toList = [] := fun X hX => by
            rw [ByteArray.toList_eq]
            have : X.data.toList ≠ [] := fun h => hX (by rw [M.bytes_size, h]; rfl)
            exact ⟨by simpa using this, this⟩
          have nl : ∀ X : ByteArray, X.size = 0 → X = ⟨#[]⟩ := fun X hX => M.bytes_ext (by rw [M.bytes_size] at hX; exact List.eq_nil_of_length_eq_zero hX)
          have hc : (A2.size = 0 ∨ A2.size ≠ 0 ∧ B2.size = 0) ∨ A2.size ≠ 0 ∧ B2.size ≠ 0 := by omega
          rcases hc with (z1 | ⟨z1, z2⟩) | ⟨z1, z2⟩
          · have eX : X = (0, 0, 2) := by rw [← HX.out, z1]; rfl
            subst eX
            have eA := nl A2 z1
            subst eA
            clear HX pu1 pu2 HA2 HB2 HsA HsB nl tl z1
            go_wp2_with (first | (go_at_call 48; with_reducible refine (callsGw (c2 _)).mono ?_; rintro e w1 ⟨rfl, q, rfl⟩) | (go_at_call 49; with_reducible refine (callsGw (cC _)).mono ?_; rintro e w1 ⟨rfl, q, rfl⟩) | (go_at_call 50; with_reducible refine (callsGw (cW _)).mono ?_; rintro e w1 ⟨rfl, q, rfl⟩))
            refine bodyPost_ret (v := .tuple #[.agg #[.int .i64 0, .int .i64 0], .int .i64 2]) (by simp [results, Tryd.results15, go_sem, c_b0_0, c_b0_1]) rfl ⟨rfl, ?_⟩
            repeat (refine belowSet ?_ (by omega))
            exact below_gw hB _
          · have eX : X = (0, 0, 2) := by rw [← HX.out, z2, Bool.and_comm]; rfl
            subst eX
            obtain ⟨a1, a2⟩ := tl A2 z1
            have eB := nl B2 z2
            subst eB
            clear cW hmn
            have cW := fun w => power0_any w
            have hm0 : min (0 : Int) 18 = 0 := by decide
            clear HX pu1 pu2 HA2 HB2 HsA HsB nl tl z1 z2
            go_wp2_with (first | (go_at_call 48; with_reducible refine (callsGw (c2 _)).mono ?_; rintro e w1 ⟨rfl, q, rfl⟩) | (go_at_call 49; with_reducible refine (callsGw (cC _)).mono ?_; rintro e w1 ⟨rfl, q, rfl⟩) | (go_at_call 50; with_reducible refine (callsGw (cW _)).mono ?_; rintro e w1 ⟨rfl, q, rfl⟩))
            refine bodyPost_ret (v := .tuple #[.agg #[.int .i64 0, .int .i64 0], .int .i64 2]) (by simp [results, Tryd.results15, go_sem, c_b0_0, c_b0_1]) rfl ⟨rfl, ?_⟩
            repeat (refine belowSet ?_ (by omega))
            exact below_gw hB _
          · obtain ⟨a1, a2⟩ := tl A2 z1
            obtain ⟨a3, a4⟩ := tl B2 z2
            have cR := fun w => reduced_any neg n (10 ^ B2.size) pu1 pu2 (by omega) w
            have eX : X = M.norm (if neg = true then -n else n) (10 ^ B2.size) := by
              rw [← HX.out, decide_eq_false z1, decide_eq_false z2]
              show (if true = true then (if (10 : Int) ^ B2.size = 0 then _ else _) else _) = _
              rw [if_pos rfl, if_neg (by omega)]
            generalize M.norm (if neg = true then -n else n) (10 ^ B2.size) = Y at cR eX
            have hd2 : ((10 : Int) ^ B2.size == 0) = false := beq_eq_false_iff_ne.mpr (by omega)
            obtain ⟨D, hD⟩ : ∃ D : Int, 10 ^ B2.size = D := ⟨_, rfl⟩
            rw [hD] at cR cW hd2
            subst eX
            clear HX pu1 pu2 HA2 HB2 HsA HsB nl tl z1 z2 hk hD
            go_wp2_with (first | (go_at_call 48; with_reducible refine (callsGw (c2 _)).mono ?_; rintro e w1 ⟨rfl, q, rfl⟩) | (go_at_call 49; with_reducible refine (callsGw (cC _)).mono ?_; rintro e w1 ⟨rfl, q, rfl⟩) | (go_at_call 50; with_reducible refine (callsGw (cW _)).mono ?_; rintro e w1 ⟨rfl, q, rfl⟩) | (go_at_call 51; with_reducible refine (callsGw (cR _)).mono ?_; rintro e w1 ⟨rfl, q, rfl⟩))
            refine bodyPost_ret (v := .tuple #[.agg #[.int .i64 X.1, .int .i64 X.2.1], .int .i64 X.2.2]) (by simp [results, Tryd.results15, go_sem, c_b0_0, c_b0_1]) rfl ⟨rfl, ?_⟩
            repeat (refine belowSet ?_ (by omega))
            exact below_gw hB _
      · have hb : b = false := by
          have : (M.numF 18 ((M.cutC 46 t).1 ++ (M.cutC 46 t).2.1)).2 = false := by
            unfold M.numF
            rw [if_neg]
            rintro ⟨_, h, _⟩
            rw [List.length_append, ← HsB.out] at h
            omega
          rw [HN.out] at this
          exact this
        subst hb
        have cW := fun w => power18_any w
        have hB19 : (18 : Int) < B2.size := by omega
        have hmn : min (B2.size : Int) 18 = 18 := Int.min_eq_right (by omega)
        have eX : X = (0, 0, 2) := by rw [← HX.out, eR]; rfl
        subst eX
        clear HX pu1 pu2 HA2 HB2 HsA HsB eR
        go_wp2_with (first | (go_at_call 48; with_reducible refine (callsGw (c2 _)).mono ?_; rintro e w1 ⟨rfl, q, rfl⟩) | (go_at_call 49; with_reducible refine (callsGw (cC _)).mono ?_; rintro e w1 ⟨rfl, q, rfl⟩) | (go_at_call 50; with_reducible refine (callsGw (cW _)).mono ?_; rintro e w1 ⟨rfl, q, rfl⟩))
        refine bodyPost_ret (v := .tuple #[.agg #[.int .i64 0, .int .i64 0], .int .i64 2]) (by simp [results, Tryd.results15, go_sem, c_b0_0, c_b0_1]) rfl ⟨rfl, ?_⟩
        repeat (refine belowSet ?_ (by omega))
        exact below_gw hB _
  · -- a slash
    have eR : R = ((M.numF 19 (M.cutC 47 t).1).1, (M.numF 19 (M.cutC 47 t).2.1).1, (M.numF 19 (M.cutC 47 t).1).2 && (M.numF 19 (M.cutC 47 t).2.1).2) := by
      rw [← HR.out]; unfold M.parts; rw [HV1.out]; rfl
    clear cC hcat hb2 HsA HsB HA2 HB2 HV1 HV2 HR c2 cN
    generalize M.numF 19 (M.cutC 47 t).1 = N at cA eR
    generalize M.numF 19 (M.cutC 47 t).2.1 = D at cB eR
    obtain ⟨n, b⟩ := N
    obtain ⟨d, g⟩ := D
    dsimp only at cA cB eR
    subst eR
    dsimp only at pu1 pu2 HX
    have c_b0_0 : ∀ q, (gw W q).cell? ⟨w.heap.size, 0, none⟩ = some (.int .i64 0) := cell_gw (blk_cell b0 0 _ rfl)
    have c_b0_1 : ∀ q, (gw W q).cell? ⟨w.heap.size, 1, none⟩ = some (.int .i64 0) := cell_gw (blk_cell b0 1 _ rfl)
    have f_b0 := blk_frozen b0
    have hbg : (b = false ∨ b = true ∧ g = false) ∨ b = true ∧ g = true := by cases b <;> cases g <;> simp
    rcases hbg with (rfl | ⟨rfl, rfl⟩) | ⟨rfl, rfl⟩
    · have eX : X = (0, 0, 2) := by rw [← HX.out]; rfl
      subst eX
      clear HX pu1 pu2
      go_wp2_with (first | (go_at_call 48; with_reducible refine (callsGw (c1 _)).mono ?_; rintro e w1 ⟨rfl, q, rfl⟩) | (go_at_call 49; with_reducible refine (callsGw (cA _)).mono ?_; rintro e w1 ⟨rfl, q, rfl⟩) | (go_at_call 49; with_reducible refine (callsGw (cB _)).mono ?_; rintro e w1 ⟨rfl, q, rfl⟩))
      refine bodyPost_ret (v := .tuple #[.agg #[.int .i64 0, .int .i64 0], .int .i64 2]) (by simp [results, Tryd.results15, go_sem, c_b0_0, c_b0_1]) rfl ⟨rfl, ?_⟩
      repeat (refine belowSet ?_ (by omega))
      exact below_gw hB _
    · have eX : X = (0, 0, 2) := by rw [← HX.out]; rfl
      subst eX
      clear HX pu1 pu2
      go_wp2_with (first | (go_at_call 48; with_reducible refine (callsGw (c1 _)).mono ?_; rintro e w1 ⟨rfl, q, rfl⟩) | (go_at_call 49; with_reducible refine (callsGw (cA _)).mono ?_; rintro e w1 ⟨rfl, q, rfl⟩) | (go_at_call 49; with_reducible refine (callsGw (cB _)).mono ?_; rintro e w1 ⟨rfl, q, rfl⟩))
      refine bodyPost_ret (v := .tuple #[.agg #[.int .i64 0, .int .i64 0], .int .i64 2]) (by simp [results, Tryd.results15, go_sem, c_b0_0, c_b0_1]) rfl ⟨rfl, ?_⟩
      repeat (refine belowSet ?_ (by omega))
      exact below_gw hB _
    · by_cases hd : d = 0
      · subst hd
        have eX : X = (0, 0, 1) := by rw [← HX.out]; rfl
        subst eX
        clear HX pu1 pu2
        go_wp2_with (first | (go_at_call 48; with_reducible refine (callsGw (c1 _)).mono ?_; rintro e w1 ⟨rfl, q, rfl⟩) | (go_at_call 49; with_reducible refine (callsGw (cA _)).mono ?_; rintro e w1 ⟨rfl, q, rfl⟩) | (go_at_call 49; with_reducible refine (callsGw (cB _)).mono ?_; rintro e w1 ⟨rfl, q, rfl⟩))
        refine bodyPost_ret (v := .tuple #[.agg #[.int .i64 0, .int .i64 0], .int .i64 1]) (by simp [results, Tryd.results15, go_sem, c_b0_0, c_b0_1]) rfl ⟨rfl, ?_⟩
        repeat (refine belowSet ?_ (by omega))
        exact below_gw hB _
      · have d0 : 0 < d := by have := pu2.1; omega
        have cR := fun w => reduced_any neg n d pu1 pu2 d0 w
        have eX : X = M.norm (if neg = true then -n else n) d := by rw [← HX.out]; show (if true = true then (if d = 0 then _ else _) else _) = _; rw [if_pos rfl, if_neg hd]
        generalize M.norm (if neg = true then -n else n) d = Y at cR eX
        subst eX
        have hd2 : (d == 0) = false := beq_eq_false_iff_ne.mpr hd
        clear HX pu1 pu2 hd d0
        go_wp2_with (first | (go_at_call 48; with_reducible refine (callsGw (c1 _)).mono ?_; rintro e w1 ⟨rfl, q, rfl⟩) | (go_at_call 49; with_reducible refine (callsGw (cA _)).mono ?_; rintro e w1 ⟨rfl, q, rfl⟩) | (go_at_call 49; with_reducible refine (callsGw (cB _)).mono ?_; rintro e w1 ⟨rfl, q, rfl⟩) | (go_at_call 51; with_reducible refine (callsGw (cR _)).mono ?_; rintro e w1 ⟨rfl, q, rfl⟩))
        refine bodyPost_ret (v := .tuple #[.agg #[.int .i64 X.1, .int .i64 X.2.1], .int .i64 X.2.2]) (by simp [results, Tryd.results15, go_sem, c_b0_0, c_b0_1]) rfl ⟨rfl, ?_⟩
        repeat (refine belowSet ?_ (by omega))
        exact below_gw hB _
end Go.Proofs.YthieengihbbnpaaDoor
