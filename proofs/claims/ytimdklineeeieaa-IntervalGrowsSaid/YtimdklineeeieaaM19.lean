/- The extension of an operation contains all results. -/
import Derived.Test.YtimdklineeeieaaM18
namespace Go.Proofs.Ytimdklineeeieaa.M
theorem lessr_vals {a b c d : Int} (h1 : vld a b = true) (h2 : vld c d = true) : vld (lessr a b c d).1 (lessr a b c d).2.1 = true ∧ val (lessr a b c d).1 (lessr a b c d).2.1 ≤ val a b ∧ val (lessr a b c d).1 (lessr a b c d).2.1 ≤ val c d := by
  unfold lessr
  by_cases hc : cmpF a b c d ≤ 0
  · rw [if_pos hc]
    exact ⟨h1, Rat.le_refl, (val_le h1 h2).mp ((cmpF_le h1 h2).mp hc)⟩
  · rw [if_neg hc]
    refine ⟨h2, ?_, Rat.le_refl⟩
    rcases le_total a b c d with q | q
    · exact absurd ((cmpF_le h1 h2).mpr q) hc
    · exact (val_le h2 h1).mp q
theorem morer_vals {a b c d : Int} (h1 : vld a b = true) (h2 : vld c d = true) : vld (morer a b c d).1 (morer a b c d).2.1 = true ∧ val a b ≤ val (morer a b c d).1 (morer a b c d).2.1 ∧ val c d ≤ val (morer a b c d).1 (morer a b c d).2.1 := by
  unfold morer
  by_cases hc : 0 ≤ cmpF a b c d
  · rw [if_pos hc]
    exact ⟨h1, Rat.le_refl, (val_le h2 h1).mp ((cmpF_ge h1 h2).mp hc)⟩
  · rw [if_neg hc]
    refine ⟨h2, ?_, Rat.le_refl⟩
    rcases le_total a b c d with q | q
    · exact (val_le h1 h2).mp q
    · exact absurd ((cmpF_ge h1 h2).mpr q) hc
theorem fold_bounds (l : List (Int × Int)) (hl : ∀ p ∈ l, vld p.1 p.2 = true) : ∀ s : Int × Int × Int × Int, vld s.1 s.2.1 = true → vld s.2.2.1 s.2.2.2 = true →
    let r := l.foldl spanStep s
    vld r.1 r.2.1 = true ∧ vld r.2.2.1 r.2.2.2 = true ∧ val r.1 r.2.1 ≤ val s.1 s.2.1 ∧ val s.2.2.1 s.2.2.2 ≤ val r.2.2.1 r.2.2.2 ∧ ∀ p ∈ l, val r.1 r.2.1 ≤ val p.1 p.2 ∧ val p.1 p.2 ≤ val r.2.2.1 r.2.2.2 := by
  induction l with
  | nil => intro s h1 h2; exact ⟨h1, h2, Rat.le_refl, Rat.le_refl, fun p hp => by cases hp⟩
  | cons x l ih =>
    intro s h1 h2
    have hx := hl x (by simp)
    obtain ⟨a1, a2, a3⟩ := lessr_vals h1 hx
    obtain ⟨b1, b2, b3⟩ := morer_vals h2 hx
    obtain ⟨c1, c2, c3, c4, c5⟩ := ih (fun p hp => hl p (List.mem_cons_of_mem _ hp)) (spanStep s x) a1 b1
    refine ⟨c1, c2, Rat.le_trans c3 a2, Rat.le_trans b2 c4, fun p hp => ?_⟩
    rcases List.mem_cons.mp hp with rfl | hp
    · exact ⟨Rat.le_trans c3 a3, Rat.le_trans b3 c4⟩
    · exact c5 p hp
theorem span_bounds {l : List (Int × Int)} (hl : ∀ p ∈ l, vld p.1 p.2 = true) (hne : l ≠ []) : vld (spanF l).1 (spanF l).2.1 = true ∧ vld (spanF l).2.2.1 (spanF l).2.2.2 = true ∧
    ∀ p ∈ l, val (spanF l).1 (spanF l).2.1 ≤ val p.1 p.2 ∧ val p.1 p.2 ≤ val (spanF l).2.2.1 (spanF l).2.2.2 := by
  cases l with
  | nil => exact absurd rfl hne
  | cons x l =>
    have hx := hl x (by simp)
    obtain ⟨c1, c2, c3, c4, c5⟩ := fold_bounds l (fun p hp => hl p (List.mem_cons_of_mem _ hp)) (x.1, x.2, x.1, x.2) hx hx
    refine ⟨c1, c2, fun p hp => ?_⟩
    rcases List.mem_cons.mp hp with rfl | hp
    · exact ⟨c3, c4⟩
    · exact c5 p hp
/-- what an extension says: each pair has a result, of the operation's value, between the ends -/
theorem ext_bounds {k x y z t : Int} {ps : List (Int × Int × Int × Int)} (hv : ∀ p ∈ ps, vld p.1 p.2.1 = true ∧ vld p.2.2.1 p.2.2.2 = true) (hne : ps ≠ []) (h : extF (opF k) ps = (x, y, z, t, 0)) :
    vld x y = true ∧ vld z t = true ∧ ∀ p ∈ ps, val x y ≤ opQ k (val p.1 p.2.1) (val p.2.2.1 p.2.2.2) ∧ opQ k (val p.1 p.2.1) (val p.2.2.1 p.2.2.2) ≤ val z t := by
  obtain ⟨hz, _, _⟩ := ext_pick hne h
  unfold extF at h
  by_cases hall : ps.all (fun p => (opF k p.1 p.2.1 p.2.2.1 p.2.2.2).2.2 == 0) = true
  · rw [if_pos hall] at h
    simp only [Prod.mk.injEq] at h
    obtain ⟨e1, e2, e3, e4, _⟩ := h
    have hr : ∀ p ∈ ps, vld (opF k p.1 p.2.1 p.2.2.1 p.2.2.2).1 (opF k p.1 p.2.1 p.2.2.1 p.2.2.2).2.1 = true ∧ val (opF k p.1 p.2.1 p.2.2.1 p.2.2.2).1 (opF k p.1 p.2.1 p.2.2.1 p.2.2.2).2.1 = opQ k (val p.1 p.2.1) (val p.2.2.1 p.2.2.2) := by
      intro p hp
      obtain ⟨g1, g2, _⟩ := opF_ok (hv p hp).1 (hv p hp).2 (show opF k p.1 p.2.1 p.2.2.1 p.2.2.2 = (_, _, 0) by rw [← hz p hp])
      exact ⟨g1, g2⟩
    obtain ⟨s1, s2, s3⟩ := span_bounds (l := ps.map fun p => ((opF k p.1 p.2.1 p.2.2.1 p.2.2.2).1, (opF k p.1 p.2.1 p.2.2.1 p.2.2.2).2.1)) (by
      intro q hq
      obtain ⟨p, hp, rfl⟩ := List.mem_map.mp hq
      exact (hr p hp).1) (by simpa using hne)
    rw [e1, e2] at s1
    rw [e3, e4] at s2
    refine ⟨s1, s2, fun p hp => ?_⟩
    have := s3 _ (List.mem_map.mpr ⟨p, hp, rfl⟩)
    rw [e1, e2, e3, e4, (hr p hp).2] at this
    exact this
  · rw [if_neg hall] at h
    simp at h
/-- a line between two points -/
theorem between {X Z s p q r : Rat} (h1 : p ≤ q) (h2 : q ≤ r) (a1 : X ≤ p * s) (a2 : p * s ≤ Z) (b1 : X ≤ r * s) (b2 : r * s ≤ Z) : X ≤ q * s ∧ q * s ≤ Z := by
  rcases (Rat.le_total : 0 ≤ s ∨ s ≤ 0) with hs | hs
  · have e1 := Rat.mul_le_mul_of_nonneg_right h1 hs
    have e2 := Rat.mul_le_mul_of_nonneg_right h2 hs
    exact ⟨Rat.le_trans a1 e1, Rat.le_trans e2 b2⟩
  · have hn : 0 ≤ -s := by grind
    have e1 := Rat.mul_le_mul_of_nonneg_right h1 hn
    have e2 := Rat.mul_le_mul_of_nonneg_right h2 hn
    rw [Rat.mul_neg, Rat.mul_neg] at e1 e2
    constructor <;> grind
theorem point_or {k e f g h : Int} (hk : 0 ≤ k ∧ k ≤ 4 ∨ k = 5 ∧ e = g ∧ f = h) : (k = 5 → e = g ∧ f = h) := by
  intro h5
  rcases hk with h1 | h1
  · omega
  · exact h1.2
/-- the values of results are between the ends of the interval of results -/
theorem sound {k a b c d e f g h x y z t p q r s u v : Int} (hk : 0 ≤ k ∧ k ≤ 4 ∨ k = 5 ∧ e = g ∧ f = h) (hr : rof k a b c d e f g h = (x, y, z, t, 0)) (hf : icont a b c d p q = true) (hg : icont e f g h r s = true)
    (ho : opF k p q r s = (u, v, 0)) : icont x y z t u v = true := by
  obtain ⟨_, _, he⟩ := rof_valid hr
  obtain ⟨ia, vp, l1, l2⟩ := (icont_iff _ _ _ _ _ _).mp hf
  obtain ⟨ib, vr, m1, m2⟩ := (icont_iff _ _ _ _ _ _).mp hg
  obtain ⟨va, vc, _⟩ := (ivld_iff _ _ _ _).mp ia
  obtain ⟨ve, vg, _⟩ := (ivld_iff _ _ _ _).mp ib
  rw [val_le va vp] at l1
  rw [val_le vp vc] at l2
  rw [val_le ve vr] at m1
  rw [val_le vr vg] at m2
  obtain ⟨vu, eu, _⟩ := opF_ok vp vr ho
  obtain ⟨vx, vz, B⟩ := ext_bounds (k := k) (by
    intro p hp
    rcases ends_mem hp with rfl | rfl | rfl | rfl
    · exact ⟨va, ve⟩
    · exact ⟨vc, ve⟩
    · exact ⟨va, vg⟩
    · exact ⟨vc, vg⟩) (ends_ne _ _ _ _ _ _ _ _ _) he
  have key : val x y ≤ opQ k (val p q) (val r s) ∧ opQ k (val p q) (val r s) ≤ val z t := by
    generalize val x y = X at B ⊢
    generalize val z t = Z at B ⊢
    generalize val p q = F at l1 l2 ⊢
    rcases (by omega : k = 0 ∨ k = 1 ∨ k = 2 ∨ k = 3 ∨ k = 4 ∨ k = 5) with rfl | rfl | rfl | rfl | rfl | rfl
    · have b1 := B (a, b, e, f) (by simp [endsF])
      have b2 := B (c, d, g, h) (by simp [endsF])
      simp only [opQ, if_true] at b1 b2 ⊢
      constructor <;> grind
    · have b1 := B (a, b, g, h) (by simp [endsF])
      have b2 := B (c, d, e, f) (by simp [endsF])
      simp [opQ] at b1 b2 ⊢
      constructor <;> grind
    · have b1 := B (a, b, e, f) (by simp [endsF])
      have b2 := B (a, b, g, h) (by simp [endsF])
      have b3 := B (c, d, e, f) (by simp [endsF])
      have b4 := B (c, d, g, h) (by simp [endsF])
      simp [opQ] at b1 b2 b3 b4 ⊢
      rw [Rat.mul_comm] at b1 b2 b3 b4
      have q1 : X ≤ val a b * val r s ∧ val a b * val r s ≤ Z := by
        have := between (s := val a b) m1 m2 b1.1 b1.2 b2.1 b2.2
        rw [Rat.mul_comm] at this
        exact this
      have q2 : X ≤ val c d * val r s ∧ val c d * val r s ≤ Z := by
        have := between (s := val c d) m1 m2 b3.1 b3.2 b4.1 b4.2
        rw [Rat.mul_comm] at this
        exact this
      exact between l1 l2 q1.1 q1.2 q2.1 q2.2
    · have b1 := B (a, b, e, f) (by simp [endsF])
      have b2 := B (c, d, g, h) (by simp [endsF])
      simp [opQ] at b1 b2 ⊢
      constructor <;> grind
    · have b1 := B (a, b, e, f) (by simp [endsF])
      have b2 := B (c, d, g, h) (by simp [endsF])
      simp [opQ] at b1 b2 ⊢
      constructor <;> grind
    · obtain ⟨rfl, rfl⟩ := point_or hk rfl
      have hrs : val r s = val e f := Rat.le_antisymm m2 m1
      have b1 := B (a, b, e, f) (by simp [endsF])
      have b2 := B (c, d, e, f) (by simp [endsF])
      simp [opQ] at b1 b2 ⊢
      rw [hrs]
      exact between l1 l2 b1.1 b1.2 b2.1 b2.2
  have hx : ivld x y z t = true := (ivld_iff _ _ _ _).mpr ⟨vx, vz, (val_le vx vz).mpr (Rat.le_trans key.1 key.2)⟩
  exact (icont_iff _ _ _ _ _ _).mpr ⟨hx, vu, (val_le vx vu).mpr (by rw [eu]; exact key.1), (val_le vu vz).mpr (by rw [eu]; exact key.2)⟩
/-- of parts the results are parts -/
theorem grows {k a b c d e f g h a' b' c' d' e' f' g' h' x y z t x' y' z' t' : Int} (hk : 0 ≤ k ∧ k ≤ 4) (hr : rof k a b c d e f g h = (x, y, z, t, 0)) (hr' : rof k a' b' c' d' e' f' g' h' = (x', y', z', t', 0))
    (h1 : iin a b c d a' b' c' d' = true) (h2 : iin e f g h e' f' g' h' = true) : iin x y z t x' y' z' t' = true := by
  obtain ⟨i1, i2, i3, i4⟩ := (iin_iff _ _ _ _ _ _ _ _).mp h1
  obtain ⟨j1, j2, j3, j4⟩ := (iin_iff _ _ _ _ _ _ _ _).mp h2
  obtain ⟨va, vc, l1⟩ := (ivld_iff _ _ _ _).mp i1
  obtain ⟨ve, vg, l2⟩ := (ivld_iff _ _ _ _).mp j1
  obtain ⟨va', vc', _⟩ := (ivld_iff _ _ _ _).mp i2
  obtain ⟨ve', vg', _⟩ := (ivld_iff _ _ _ _).mp j2
  have c1 : icont a' b' c' d' a b = true := (icont_iff _ _ _ _ _ _).mpr ⟨i2, va, i3, le_tr va vc vc' l1 i4⟩
  have c2 : icont a' b' c' d' c d = true := (icont_iff _ _ _ _ _ _).mpr ⟨i2, vc, le_tr va' va vc i3 l1, i4⟩
  have c3 : icont e' f' g' h' e f = true := (icont_iff _ _ _ _ _ _).mpr ⟨j2, ve, j3, le_tr ve vg vg' l2 j4⟩
  have c4 : icont e' f' g' h' g h = true := (icont_iff _ _ _ _ _ _).mpr ⟨j2, vg, le_tr ve' ve vg j3 l2, j4⟩
  obtain ⟨_, _, he⟩ := rof_valid hr
  have hall : ∀ p, p ∈ endsF k a b c d e f g h → icont a' b' c' d' p.1 p.2.1 = true ∧ icont e' f' g' h' p.2.2.1 p.2.2.2 = true := by
    intro p hp
    rcases ends_mem hp with rfl | rfl | rfl | rfl
    · exact ⟨c1, c3⟩
    · exact ⟨c2, c3⟩
    · exact ⟨c1, c4⟩
    · exact ⟨c2, c4⟩
  obtain ⟨_, ⟨p, hp, e1⟩, ⟨q, hq, e2⟩⟩ := ext_pick (ends_ne _ _ _ _ _ _ _ _ _) he
  have s1 := sound (.inl hk) hr' (hall p hp).1 (hall p hp).2 e1
  have s2 := sound (.inl hk) hr' (hall q hq).1 (hall q hq).2 e2
  obtain ⟨w1, vx, w2, w3⟩ := (icont_iff _ _ _ _ _ _).mp s1
  obtain ⟨_, vz, w4, w5⟩ := (icont_iff _ _ _ _ _ _).mp s2
  have hxz : le x y z t := by
    obtain ⟨vx', vz', B⟩ := ext_bounds (k := k) (ps := endsF k a b c d e f g h) (by
      intro p hp
      rcases ends_mem hp with rfl | rfl | rfl | rfl
      · exact ⟨va, ve⟩
      · exact ⟨vc, ve⟩
      · exact ⟨va, vg⟩
      · exact ⟨vc, vg⟩) (ends_ne _ _ _ _ _ _ _ _ _) he
    have := B p hp
    exact (val_le vx' vz').mpr (Rat.le_trans this.1 this.2)
  exact (iin_iff _ _ _ _ _ _ _ _).mpr ⟨(ivld_iff _ _ _ _).mpr ⟨vx, vz, hxz⟩, w1, w2, w5⟩
/-- of a part the width is at most that of the whole -/
theorem grows_width {a b c d a' b' c' d' p q p' q' : Int} (h1 : iin a b c d a' b' c' d' = true) (hw : iwidth a b c d = (p, q, 0)) (hw' : iwidth a' b' c' d' = (p', q', 0)) : cmpF p q p' q' ≤ 0 := by
  obtain ⟨i1, i2, i3, i4⟩ := (iin_iff _ _ _ _ _ _ _ _).mp h1
  obtain ⟨va, vc, _⟩ := (ivld_iff _ _ _ _).mp i1
  obtain ⟨va', vc', _⟩ := (ivld_iff _ _ _ _).mp i2
  have get : ∀ {a b c d p q : Int}, ivld a b c d = true → iwidth a b c d = (p, q, 0) → opF 1 c d a b = (p, q, 0) := by
    intro a b c d p q hi h
    unfold iwidth at h
    rw [if_pos hi] at h
    by_cases hc : (subF c d a b).2.2 = 0
    · rw [if_pos hc] at h; exact h
    · rw [if_neg hc] at h; simp at h
  obtain ⟨v1, e1, _⟩ := opF_ok vc va (get i1 hw)
  obtain ⟨v2, e2, _⟩ := opF_ok vc' va' (get i2 hw')
  rw [cmpF_le v1 v2, val_le v1 v2, e1, e2]
  rw [val_le va' va] at i3
  rw [val_le vc vc'] at i4
  simp [opQ]
  grind
end Go.Proofs.Ytimdklineeeieaa.M
