/- math/bits.Div64: the quotient and the remainder of a number of 128 bits, where the quotient has at most 64 bits. -/
import Derived.Test.YthieengihbbnpaaDoorH1
import Derived.Test.YthieengihbbnpaaDoorH0b
import Derived.Test.YthieengihbbnpaaDoorM3
import Derived.Lib.ItoaNum
import Derived.Deep.DeepCutAuto
import Derived.Deep.CutBlock
namespace Go.Proofs.YthieengihbbnpaaDoor
open Go.RowKit Go.Sort
set_option linter.unusedVariables false
set_option maxRecDepth 100000 in
set_option maxHeartbeats 1000000 in
theorem div64_walk (hi lo y : Int) (s : Nat) (Y U L : Int) (h0 : 0 ≤ lo) (h1 : lo < 18446744073709551616) (hy0 : 0 < y) (hy1 : y < 18446744073709551616) (hh0 : 0 < hi) (hh : hi < y)
    (hs : Hid ((64 - (Lib.bitLen y.toNat : Int)) = s)) (hs1 : s ≤ 63)
    (hYl : 9223372036854775808 ≤ Y) (hYu : Y < 18446744073709551616) (eY : IntKind.u64.wrap (y * 2 ^ s) = Y)
    (hU0 : 0 ≤ U) (hU1 : U < Y) (eU : bits BinOp.or IntKind.u64 (IntKind.u64.wrap (hi * 2 ^ s)) (lo / 2 ^ (64 - s)) = U)
    (hL0 : 0 ≤ L) (hL1 : L < 18446744073709551616) (eL : IntKind.u64.wrap (lo * 2 ^ s) = L) (w : World) :
    Calls Tryd.prog 65 #[.int .u64 hi, .int .u64 lo, .int .u64 y] w fun e w' => e = .returned (.tuple #[.int .u64 ((U * 18446744073709551616 + L) / Y), .int .u64 ((U * 18446744073709551616 + L) % Y / 2 ^ s)]) ∧ Below w.heap.size w w' := by
  have c1 : (y == 0) = false := by simp; omega
  have c2 : (hi == 0) = false := by simp; omega
  have c3 : decide (y ≤ hi) = false := by simp; omega
  obtain ⟨y1, ey1⟩ : ∃ y1, Y / 4294967296 = y1 := ⟨_, rfl⟩
  obtain ⟨y0, ey0⟩ : ∃ y0, Y % 4294967296 = y0 := ⟨_, rfl⟩
  obtain ⟨l1, el1⟩ : ∃ l1, L / 4294967296 = l1 := ⟨_, rfl⟩
  obtain ⟨l0, el0⟩ : ∃ l0, L % 4294967296 = l0 := ⟨_, rfl⟩
  have mY : bits BinOp.and IntKind.u64 Y 4294967295 = y0 := by
    rw [← ey0]; exact bits_mask .u64 64 (by decide) (fun n h1 h2 => by rw [M.wrapU]; omega) 32 (by decide) Y (by omega) (by omega)
  have mL : bits BinOp.and IntKind.u64 L 4294967295 = l0 := by
    rw [← el0]; exact bits_mask .u64 64 (by decide) (fun n h1 h2 => by rw [M.wrapU]; omega) 32 (by decide) L (by omega) (by omega)
  have D1 : M.Dig U l1 y1 y0 := ⟨by omega, by omega, by omega, by omega, by omega, by omega, by omega, by omega⟩
  have hYY : Y = y1 * 4294967296 + y0 := by omega
  have hy1l := D1.y1l
  have hy1u := D1.y1u
  obtain ⟨q, eq⟩ : ∃ q, U / y1 = q := ⟨_, rfl⟩
  have hq0 : 0 ≤ q := by rw [← eq]; exact Int.ediv_nonneg hU0 (by omega)
  have hq1 : q ≤ 4294967297 := by rw [← eq]; exact M.first_le D1
  have hq2 : M.quot U l1 y1 y0 ≤ q := by rw [← eq]; exact M.quot_first D1
  have hqr : q * y1 + U % y1 = U := by have := Int.emod_add_mul_ediv U y1; rw [eq] at this; rw [Int.mul_comm]; omega
  have hr0 : 0 ≤ U % y1 := Int.emod_nonneg _ (by omega)
  have hr1 : U % y1 < y1 := Int.emod_lt_of_pos _ (by omega)
  obtain ⟨r, er⟩ : ∃ r, U % y1 = r := ⟨_, rfl⟩
  rw [er] at hqr hr0 hr1
  have hqy : 0 ≤ q * y1 := Int.mul_nonneg hq0 (by omega)
  have e1 : IntKind.u64.wrap (q * y1) = U - r := by rw [M.wrapU]; omega
  have eYn : ¬ y1 = 0 := by omega
  have HQR := Lib.hid hqr
  have HYY := Lib.hid hYY
  have HL := Lib.hid (show L = l1 * 4294967296 + l0 by omega)
  have hl10 := D1.u0
  have hl11 := D1.u1
  have hl00 : 0 ≤ l0 := by omega
  have hl01 : l0 < 4294967296 := by omega
  clear ey0 el0 er hqr hYY
  go_enter Tryd.func65, Tryd.ntmps65
  go_upto_block 0 with (go_at_call 86; refine (clz_any _ _ (by omega) (by omega)).mono ?_; rintro e w' ⟨rfl, rfl⟩; rw [hs.out])
  go_cut [15] (fun s15 wx => s15 = .int .u64 (M.quot U l1 y1 y0) ∧ wx = w')
  case first =>
    go_wp2
    go_loop [15, 16] (fun v15 v16 => ∃ a c : Int, v15 = .int .u64 a ∧ v16 = .int .u64 c ∧ 0 ≤ a ∧ a ≤ 4294967297 ∧ 0 ≤ c ∧ c < 4294967296 ∧ Hid (a * y1 + c = U) ∧ M.quot U l1 y1 y0 ≤ a) (fun v15 _ => (intOf v15).toNat)
    case atStart => exact ⟨q, r, by rw [eq], by congr 1; omega, hq0, hq1, hr0, by omega, HQR, hq2⟩
    case round =>
      obtain ⟨a, c, rfl, rfl, ha0, ha1, hc0, hc1, HA, hge⟩ := hrel
      clear HQR hq2 hqy e1 hr0 hr1 hq0 hq1 eq HYY HL
      by_cases hb1 : 4294967296 ≤ a
      · have hd : M.quot U l1 y1 y0 ≤ a - 1 := M.quot_dec D1 HA.out (.inl hb1)
        have hA2 : Hid ((a - 1) * y1 + (c + y1) = U) := Lib.hid (by rw [Int.sub_mul]; have := HA.out; omega)
        by_cases hb3 : 4294967296 ≤ c + y1
        · have E := Lib.hid (M.quot_eq D1 hA2.out hd (M.quot_break D1 (by omega) hb3))
          clear HA
          go_wp2
          go_meet
          exact ⟨by rw [E.out], rfl⟩
        · clear HA
          go_wp2
          go_round
          case rel => exact ⟨a - 1, c + y1, rfl, rfl, by omega, by omega, by omega, by omega, hA2, hd⟩
          case measure => simp [intOf]; omega
      · obtain ⟨p, hp⟩ : ∃ p, a * y0 = p := ⟨_, rfl⟩
        have hp0 : 0 ≤ p := by rw [← hp]; exact Int.mul_nonneg ha0 D1.y0l
        have hp1 : p ≤ 18446744073709551615 := by
          have h1 : a * y0 ≤ 4294967295 * y0 := Int.mul_le_mul_of_nonneg_right (by omega) D1.y0l
          have h2 := D1.y0u
          omega
        have ep : IntKind.u64.wrap (a * y0) = p := by rw [hp, M.wrapU]; omega
        by_cases hb2 : 4294967296 * c + l1 < p
        · have hd : M.quot U l1 y1 y0 ≤ a - 1 := M.quot_dec D1 HA.out (.inr (by rw [hp]; exact hb2))
          have hA2 : Hid ((a - 1) * y1 + (c + y1) = U) := Lib.hid (by rw [Int.sub_mul]; have := HA.out; omega)
          have hq0 := M.quot_nonneg D1
          by_cases hb3 : 4294967296 ≤ c + y1
          · have E := Lib.hid (M.quot_eq D1 hA2.out hd (M.quot_break D1 (by omega) hb3))
            clear HA hp
            go_wp2
            go_meet
            exact ⟨by rw [E.out], rfl⟩
          · clear HA hp
            go_wp2
            go_round
            case rel => exact ⟨a - 1, c + y1, rfl, rfl, by omega, by omega, by omega, by omega, hA2, hd⟩
            case measure => simp [intOf]; omega
        · have E := Lib.hid (M.quot_eq D1 HA.out hge (by rw [hp]; omega))
          clear HA hp
          go_wp2
          go_meet
          exact ⟨by rw [E.out], rfl⟩
  case rest =>
    obtain ⟨rfl, rfl⟩ := hcut
    clear HQR hq2 hqy e1 hr0 hr1 hq0 hq1 eq
    have g1 := M.quot_nonneg D1
    have g2 := M.quot_lt D1
    have g3 := M.quot_rest (U := U) (u := l1) (y1 := y1) (y0 := y0)
    have g4 : M.quot U l1 y1 y0 = (U * 4294967296 + l1) / Y := by rw [HYY.out]; rfl
    rw [← HYY.out] at g3
    obtain ⟨Q, hQ⟩ : ∃ Q, M.quot U l1 y1 y0 = Q := ⟨_, rfl⟩
    rw [hQ] at g1 g2 g3 g4
    have HQ := Lib.hid g4
    rw [hQ]
    clear hQ g4
    obtain ⟨R, hR⟩ : ∃ R, (U * 4294967296 + l1) % Y = R := ⟨_, rfl⟩
    rw [hR] at g3
    have hR0 : 0 ≤ R := by rw [← hR]; exact Int.emod_nonneg _ (by omega)
    have hR1 : R < Y := by rw [← hR]; exact Int.emod_lt_of_pos _ (by omega)
    have eR : IntKind.u64.wrap (IntKind.u64.wrap (IntKind.u64.wrap (U * 4294967296) + l1) - IntKind.u64.wrap (Q * Y)) = R := by
      simp only [M.wrapU]; omega
    have D2 : M.Dig R l0 y1 y0 := ⟨hR0, hl00, hl01, hy1l, hy1u, D1.y0l, D1.y0u, by have := HYY.out; omega⟩
    obtain ⟨k, ekq⟩ : ∃ k, R / y1 = k := ⟨_, rfl⟩
    have kq0 : 0 ≤ k := by rw [← ekq]; exact Int.ediv_nonneg hR0 (by omega)
    have kq1 : k ≤ 4294967297 := by rw [← ekq]; exact M.first_le D2
    have kq2 : M.quot R l0 y1 y0 ≤ k := by rw [← ekq]; exact M.quot_first D2
    have kqr : k * y1 + R % y1 = R := by have := Int.emod_add_mul_ediv R y1; rw [ekq] at this; rw [Int.mul_comm]; omega
    have kr0 : 0 ≤ R % y1 := Int.emod_nonneg _ (by omega)
    have kr1 : R % y1 < y1 := Int.emod_lt_of_pos _ (by omega)
    obtain ⟨r2, er2⟩ : ∃ r, R % y1 = r := ⟨_, rfl⟩
    rw [er2] at kqr kr0 kr1
    have kqy : 0 ≤ k * y1 := Int.mul_nonneg kq0 (by omega)
    have k1 : IntKind.u64.wrap (k * y1) = R - r2 := by rw [M.wrapU]; omega
    have HQR2 := Lib.hid kqr
    have HR := Lib.hid hR
    clear er2 kqr hR g3
    go_upto_block 2 with (fail)
    go_cut [18] (fun s18 wx => s18 = .int .u64 (M.quot R l0 y1 y0) ∧ wx = wc)
    case first =>
      go_wp2
      go_loop [18, 16] (fun v15 v16 => ∃ a c : Int, v15 = .int .u64 a ∧ v16 = .int .u64 c ∧ 0 ≤ a ∧ a ≤ 4294967297 ∧ 0 ≤ c ∧ c < 4294967296 ∧ Hid (a * y1 + c = R) ∧ M.quot R l0 y1 y0 ≤ a) (fun v15 _ => (intOf v15).toNat)
      case atStart => exact ⟨k, r2, by rw [ekq], by congr 1; omega, kq0, kq1, kr0, by omega, HQR2, kq2⟩
      case round =>
        obtain ⟨a, c, rfl, rfl, ha0, ha1, hc0, hc1, HA, hge⟩ := hrel
        clear HQR2 kq2 kqy k1 kr0 kr1 kq0 kq1 ekq HYY HL
        by_cases hb1 : 4294967296 ≤ a
        · have hd : M.quot R l0 y1 y0 ≤ a - 1 := M.quot_dec D2 HA.out (.inl hb1)
          have hA2 : Hid ((a - 1) * y1 + (c + y1) = R) := Lib.hid (by rw [Int.sub_mul]; have := HA.out; omega)
          by_cases hb3 : 4294967296 ≤ c + y1
          · have E := Lib.hid (M.quot_eq D2 hA2.out hd (M.quot_break D2 (by omega) hb3))
            clear HA
            go_wp2
            go_meet
            exact ⟨by rw [E.out], rfl⟩
          · clear HA
            go_wp2
            go_round
            case rel => exact ⟨a - 1, c + y1, rfl, rfl, by omega, by omega, by omega, by omega, hA2, hd⟩
            case measure => simp [intOf]; omega
        · obtain ⟨p, hp⟩ : ∃ p, a * y0 = p := ⟨_, rfl⟩
          have hp0 : 0 ≤ p := by rw [← hp]; exact Int.mul_nonneg ha0 D2.y0l
          have hp1 : p ≤ 18446744073709551615 := by
            have h1 : a * y0 ≤ 4294967295 * y0 := Int.mul_le_mul_of_nonneg_right (by omega) D2.y0l
            have h2 := D2.y0u
            omega
          have ep : IntKind.u64.wrap (a * y0) = p := by rw [hp, M.wrapU]; omega
          by_cases hb2 : 4294967296 * c + l0 < p
          · have hd : M.quot R l0 y1 y0 ≤ a - 1 := M.quot_dec D2 HA.out (.inr (by rw [hp]; exact hb2))
            have hA2 : Hid ((a - 1) * y1 + (c + y1) = R) := Lib.hid (by rw [Int.sub_mul]; have := HA.out; omega)
            have hq0 := M.quot_nonneg D2
            by_cases hb3 : 4294967296 ≤ c + y1
            · have E := Lib.hid (M.quot_eq D2 hA2.out hd (M.quot_break D2 (by omega) hb3))
              clear HA hp
              go_wp2
              go_meet
              exact ⟨by rw [E.out], rfl⟩
            · clear HA hp
              go_wp2
              go_round
              case rel => exact ⟨a - 1, c + y1, rfl, rfl, by omega, by omega, by omega, by omega, hA2, hd⟩
              case measure => simp [intOf]; omega
          · have E := Lib.hid (M.quot_eq D2 HA.out hge (by rw [hp]; omega))
            clear HA hp
            go_wp2
            go_meet
            exact ⟨by rw [E.out], rfl⟩
    case rest =>
      obtain ⟨rfl, rfl⟩ := hcut
      clear HQR2 kq2 kqy k1 kr0 kr1 kq0 kq1 ekq
      have j1 := M.quot_nonneg D2
      have j2 := M.quot_lt D2
      have j3 := M.quot_rest (U := R) (u := l0) (y1 := y1) (y0 := y0)
      have j4 : M.quot R l0 y1 y0 = (R * 4294967296 + l0) / Y := by rw [HYY.out]; rfl
      rw [← HYY.out] at j3
      obtain ⟨P, hP⟩ : ∃ P, M.quot R l0 y1 y0 = P := ⟨_, rfl⟩
      rw [hP] at j1 j2 j3 j4
      have e3 : IntKind.u64.wrap (IntKind.u64.wrap (IntKind.u64.wrap (R * 4294967296) + l0) - IntKind.u64.wrap (P * Y)) = (R * 4294967296 + l0) % Y := by
        have q0 : 0 ≤ (R * 4294967296 + l0) % Y := Int.emod_nonneg _ (by omega)
        have q1 : (R * 4294967296 + l0) % Y < Y := Int.emod_lt_of_pos _ (by omega)
        simp only [M.wrapU]; omega
      have HF := Lib.hid (M.two_digits (n := U * 18446744073709551616 + L) (Y := Y) (U := U) (u1 := l1) (u0 := l0) (by omega) (by have := HL.out; omega))
      have HP := Lib.hid j4
      rw [hP]
      clear hP j4 j3
      go_wp2
      go_ret2
      have F := HF.out
      rw [HR.out, ← HQ.out, ← HP.out] at F
      rw [← F.1, ← F.2]
      exact ⟨rfl, belowRefl _⟩

theorem div64_any (hi lo y : Int) (h0 : 0 ≤ lo) (h1 : lo < 18446744073709551616) (hh0 : 0 ≤ hi) (hh : hi < y) (hy1 : y < 18446744073709551616) (w : World) :
    Calls Tryd.prog 65 #[.int .u64 hi, .int .u64 lo, .int .u64 y] w fun e w' => e = .returned (.tuple #[.int .u64 ((hi * 18446744073709551616 + lo) / y), .int .u64 ((hi * 18446744073709551616 + lo) % y)]) ∧ Below w.heap.size w w' := by
  by_cases hz : hi = 0
  · subst hz
    have c1 : (y == 0) = false := by simp; omega
    have c3 : decide (y ≤ 0) = false := by simp; omega
    have c4 : ¬ y = 0 := by omega
    go_enter Tryd.func65, Tryd.ntmps65
    go_wp2_with fail
    go_quiet (fail)
    go_wp2
    go_ret2
    exact ⟨by simp, belowDrewN (belowRefl _) _⟩
  · have hyN : y.toNat ≠ 0 := by omega
    have hb := Lib.bitLenAux_bounds 64 y.toNat (by omega) hyN
    have hbe : Lib.bitLenAux 64 y.toNat = Lib.bitLen y.toNat := rfl
    rw [hbe] at hb
    obtain ⟨B, hB⟩ : ∃ B, Lib.bitLen y.toNat = B := ⟨_, rfl⟩
    have hBl : B ≤ 64 := by
      by_cases h : B ≤ 64
      · exact h
      · have : 2 ^ 64 ≤ 2 ^ (B - 1) := Nat.pow_le_pow_right (by decide) (by omega)
        rw [hB] at hb; omega
    rw [hB] at hb
    obtain ⟨hb1, hb2, hb3⟩ := hb
    have hpp : (2 : Nat) ^ (64 - B) * 2 ^ B = 18446744073709551616 := by rw [← Nat.pow_add, show 64 - B + B = 64 from by omega]
    have hpq : (2 : Nat) ^ (64 - B) * 2 ^ (B - 1) = 9223372036854775808 := by rw [← Nat.pow_add, show 64 - B + (B - 1) = 63 from by omega]
    have hs64 : 64 - (64 - B) = B := by omega
    obtain ⟨p, hp⟩ : ∃ p : Nat, 2 ^ (64 - B) = p := ⟨_, rfl⟩
    obtain ⟨p', hp'⟩ : ∃ p : Nat, 2 ^ B = p := ⟨_, rfl⟩
    have p0 : 0 < p := by rw [← hp]; exact Nat.two_pow_pos _
    have p0' : 0 < p' := by rw [← hp']; exact Nat.two_pow_pos _
    have hpI : ((2 : Int) ^ (64 - B)) = (p : Int) := by rw [← hp, Int.natCast_pow]; rfl
    have hpI' : ((2 : Int) ^ B) = (p' : Int) := by rw [← hp', Int.natCast_pow]; rfl
    have hppI : (p : Int) * p' = 18446744073709551616 := by rw [hp, hp'] at hpp; rw [← Int.natCast_mul, hpp]; rfl
    have sl := M.shift_low (lo := lo) (p := p) (p' := p') (by omega) (by omega) hppI h0 h1
    have hY1 : (9223372036854775808 : Int) ≤ y * p := by
      have h1 : p * 2 ^ (B - 1) ≤ p * y.toNat := Nat.mul_le_mul_left _ hb2
      rw [← hp, hpq, hp] at h1
      have h2 : ((p * y.toNat : Nat) : Int) = y * p := by rw [Int.natCast_mul, Int.mul_comm]; congr 1; omega
      omega
    have hY2 : y * p < 18446744073709551616 := by
      have h1 : p * y.toNat < p * p' := Nat.mul_lt_mul_of_pos_left (by rw [← hp']; exact hb3) p0
      have h2 : ((p * y.toNat : Nat) : Int) = y * p := by rw [Int.natCast_mul, Int.mul_comm]; congr 1; omega
      have h3 : ((p * p' : Nat) : Int) = 18446744073709551616 := by rw [Int.natCast_mul]; exact hppI
      omega
    have hhp : hi * p ≤ (y - 1) * p := Int.mul_le_mul_of_nonneg_right (by omega) (by omega)
    have hhp0 : 0 ≤ hi * p := Int.mul_nonneg hh0 (by omega)
    rw [Int.sub_mul] at hhp
    have hw := div64_walk hi lo y (64 - B) (y * p) (hi * p + lo / p') (lo * p % 18446744073709551616) h0 h1 (by omega) hy1 (by omega) hh
      (Lib.hid (by rw [hB]; omega)) (by omega) hY1 hY2 (by rw [hpI, M.wrapU]; omega)
      (by omega) (by omega)
      (by
        rw [hs64, hpI', hpI, M.wrapU, show hi * p % 18446744073709551616 = hi * p from by omega, ← hpI]
        exact M.or_add hi (lo / p') (64 - B) (by omega) hh0 (by rw [hpI]; omega) sl.1 (by rw [hpI]; exact sl.2.1))
      (by omega) (by omega) (by rw [hpI, M.wrapU]) w
    have e : (hi * p + lo / p') * 18446744073709551616 + lo * p % 18446744073709551616 = (hi * 18446744073709551616 + lo) * p := by
      have h1 := sl.2.2
      have h2 : (hi * 18446744073709551616 + lo) * p = hi * p * 18446744073709551616 + lo * p := by
        rw [Int.add_mul]
        have : hi * 18446744073709551616 * p = hi * p * 18446744073709551616 := by rw [Int.mul_right_comm]
        omega
      omega
    have dv := M.div_shift (n := hi * 18446744073709551616 + lo) (y := y) (p := p) (by omega)
    rw [e, hpI, dv.1, dv.2] at hw
    exact hw
end Go.Proofs.YthieengihbbnpaaDoor
