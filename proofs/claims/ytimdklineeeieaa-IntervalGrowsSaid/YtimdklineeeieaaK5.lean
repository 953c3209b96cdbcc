/- A region that draws, lays new blocks and ends in forced operations, where some pure operations (extract, move) need not come up before these. -/
import Derived.Test.YtimdklineeeieaaK4
namespace Go.Proofs.Ytimdklineeeieaa
open Go Go.RowKit Go.Sort
set_option linter.unusedVariables false
section
variable {P : Program} {ops : Array Oper} {md : Region.Mode} {C : World → Prop} {n : Nat}
/-- operation l is apart from all but those that it waits for and those that wait for it -/
def freeAt (md : Region.Mode) (ops : Array Oper) (l : Nat) : Bool :=
  match ops[l]? with
  | none => false
  | some ol => (List.range ops.size).all fun j => j == l || ol.after.any (fun e => Region.binds md e && e.on == j) || match ops[j]? with
      | some oj => oj.after.any (fun e => Region.binds md e && e.on == l) || ol.apart ops oj
      | none => true
theorem freeAt_spec {l : Nat} {ol : Oper} {listed : Array Bool} (hi : ops[l]? = some ol) (h : freeAt md ops l = true) (hr : l ∈ Region.ready md ops listed) :
    ∀ j oj, ops[j]? = some oj → j ≠ l → listed.getD j true = false → (∀ e ∈ oj.after, Region.binds md e = true → e.on ≠ l) → ol.apart ops oj = true := by
  intro j oj hj hne hun hno
  simp only [freeAt, hi, List.all_eq_true, List.mem_range] at h
  have h1 := h j (Array.getElem?_eq_some_iff.1 hj).1
  simp only [hj, Bool.or_eq_true, beq_iff_eq, hne, false_or] at h1
  rcases h1 with h1 | h1 | h1
  · obtain ⟨e, he, hb⟩ := Array.any_eq_true'.1 h1
    simp only [Bool.and_eq_true, beq_iff_eq] at hb
    obtain ⟨_, o, ho, hall⟩ := mem_ready.1 hr
    rw [hi] at ho; cases ho
    have h2 := hall e he hb.1
    rw [hb.2] at h2
    rcases Nat.lt_or_ge j listed.size with h' | h'
    · simp [h'] at h2 hun; rw [h2] at hun; cases hun
    · simp [Array.getElem?_eq_none h'] at h2
  · obtain ⟨e, he, hb⟩ := Array.any_eq_true'.1 h1
    simp only [Bool.and_eq_true, beq_iff_eq] at hb
    exact absurd hb.2 (hno e he hb.1)
  · exact h1
theorem wpAny_of_XL {late : List Nat} {Q' : Exit → Act → World → Prop} {m : Nat} {al : Als} {W : World} {L : Array Bool} {Fin : (Nat → Nat) → Act → Prop}
    (hn : ops.size = n + m) (hL : ∀ listed : Array Bool, listed.size = ops.size → (∀ j, j < n → listed.getD j true = true) → (∀ j, n ≤ j → j < ops.size → listed.getD j true = false) → listed = L)
    (hal : ∀ x ∈ al, x.1 < n ∧ ∃ o, ops[x.1]? = some o ∧ o.guard = none ∧ ∀ (a : Act) (w : World), (execOp a.eval o).run P w = .ok (.value (.pointer (some ⟨w.heap.size, 0, none⟩))) (w.alloc (.cells x.2.1 x.2.2)))
    (hnd : ∀ x ∈ al, ∀ y ∈ al, x.1 = y.1 → x = y)
    (hs : Region.noSelect ops = true) (hlate : ∀ l ∈ late, l < n ∧ isAl al l = false ∧ ∃ o, ops[l]? = some o ∧ freeAt md ops l = true ∧ (∀ e ∈ o.after, Region.binds md e = true → e.on < n ∧ e.on ∉ late) ∧
      (∀ (a : Act) (w w' : World) (v : Value), qbAt P o a w v → (execOp a.eval o).run P w' = .ok (.value v) w'))
    (hP : ∀ c d v a w, Q' (.panic c) (a.put d v) w → Q' (.panic c) a w)
    (hdown : ∀ i listed, n ≤ i → Closed md ops listed → i ∈ Region.ready md ops listed → ∀ j, j < n → j ∉ late → listed.getD j false = true)
    (hQ : ∀ gs a w, Below W.heap.size W w → GoodAl al gs W w L → Fin gs a → wpAny P md ops Q' m L a w) :
    ∀ (fuel : Nat) (listed : Array Bool) (a : Act) (w : World) (gs : Nat → Nat), listed.size = ops.size → Closed md ops listed → (∀ j, n ≤ j → j < ops.size → listed.getD j true = false) →
      Below W.heap.size W w → GoodAl al gs W w listed → wpAnyX P md ops (fun w' => ∃ q, w' = gw W q) (isAl al) n Fin fuel listed gs a → wpAny P md ops Q' (fuel + m) listed a w := by
  intro fuel
  induction fuel with
  | zero =>
    intro listed a w gs hsz hc ht hw hg H
    have e := hL listed hsz H.1 ht
    subst e
    rw [Nat.zero_add]
    exact hQ gs a w hw hg H.2
  | succ fuel ih =>
    intro listed a w gs hsz hc ht hw hg H
    rw [Nat.add_right_comm]
    obtain ⟨⟨i0, hi0, hi0n⟩, HH⟩ := H
    by_cases hlt : ∃ l ∈ late, l ∈ Region.ready md ops listed
    · -- a late one may come up: it comes first
      obtain ⟨l, hl, hlr⟩ := hlt
      obtain ⟨hln, hla, o, ho, hfr, _, hpure⟩ := hlate l hl
      have hun := (mem_ready.1 hlr).1
      have hX := HH l hlr hln
      unfold xOp at hX
      simp only [ho, hla, Bool.false_eq_true, if_false] at hX
      have hsz' : (listed.setIfInBounds l true).size = ops.size := by simpa using hsz
      have ht' : ∀ j, n ≤ j → j < ops.size → (listed.setIfInBounds l true).getD j true = false := fun j hj hj2 => by
        rw [getD_set_ne true (by omega)]; exact ht j hj hj2
      have old : ∀ x : Nat, x ≠ l → ((listed.setIfInBounds l true).getD x true = true ↔ listed.getD x true = true) := fun x hx => by
        rw [getD_set_ne true (fun h => hx h.symm)]
      have hne : ∀ x ∈ al, x.1 ≠ l := fun x hx h => by
        have : isAl al l = true := List.any_eq_true.2 ⟨x, hx, by simpa using h⟩
        rw [this] at hla; cases hla
      have good : GoodAl al gs W w (listed.setIfInBounds l true) :=
        ⟨fun x hx hl => hg.blk x hx ((old _ (hne x hx)).1 hl), fun x hx hl => hg.ge x hx ((old _ (hne x hx)).1 hl),
          fun x hx y hy h1 h2 he => hg.ne x hx y hy ((old _ (hne x hx)).1 h1) ((old _ (hne y hy)).1 h2) he⟩
      have step : ∃ v, Yields P ops o v a ∧ wpAnyX P md ops (fun w' => ∃ q, w' = gw W q) (isAl al) n Fin fuel (listed.setIfInBounds l true) gs (a.put o.dst v) := by
        by_cases hw2 : Region.wanted o (yielded ops a.tmps) = true
        · simp only [hw2, if_true] at hX
          obtain ⟨v, h1, h2⟩ := hX
          obtain ⟨q, hq⟩ := gw_of_below hw
          exact ⟨v, .inl ⟨hw2, fun w' => hpure a w w' v (h1 w ⟨q, hq⟩)⟩, h2⟩
        · simp only [hw2] at hX
          exact ⟨undef, .inr ⟨by simpa using hw2, rfl⟩, hX⟩
      obtain ⟨v, hy, hK⟩ := step
      exact wpAny_first ho (Region.noSelect_spec hs) (fun c a w h => hP c _ _ a w h) (fuel + m) listed a w (freeAt_spec ho hfr hlr) hlr hy (ih _ _ w gs hsz' (hc.next hlr) ht' hw good hK)
    refine ⟨fun h => (by rw [h] at hi0; cases hi0), fun i hi => ?_⟩
    have hin : i < n := by
      rcases Nat.lt_or_ge i n with h | h
      · exact h
      · have h0l : i0 ∉ late := fun h' => hlt ⟨i0, h', hi0⟩
        have h1 := hdown i listed h hc hi i0 hi0n h0l
        have h2 := (mem_ready.1 hi0).1
        rcases Nat.lt_or_ge i0 listed.size with h' | h'
        · simp [h'] at h1 h2; rw [h2] at h1; cases h1
        · simp [Array.getElem?_eq_none h'] at h1
    have hun := (mem_ready.1 hi).1
    have hsz' : (listed.setIfInBounds i true).size = ops.size := by simpa using hsz
    have ht' : ∀ j, n ≤ j → j < ops.size → (listed.setIfInBounds i true).getD j true = false := fun j hj hj2 => by
      rw [getD_set_ne true (by omega)]; exact ht j hj hj2
    have old : ∀ x : Nat, x ≠ i → ((listed.setIfInBounds i true).getD x true = true ↔ listed.getD x true = true) := fun x hx => by
      rw [getD_set_ne true (fun h => hx h.symm)]
    have hX := HH i hi hin
    obtain ⟨_, o, ho, _⟩ := mem_ready.1 hi
    unfold xOp at hX
    simp only [ho] at hX
    unfold wpOp
    simp only [ho]
    by_cases hia : isAl al i = true
    · -- a new block
      rw [if_pos hia] at hX
      obtain ⟨x, hx, hxi⟩ := List.any_eq_true.1 hia
      have hxi : x.1 = i := by simpa using hxi
      obtain ⟨_, o', ho', hgd, hrun⟩ := hal x hx
      rw [hxi, ho] at ho'; cases ho'
      have hwant : Region.wanted o (yielded ops a.tmps) = true := by unfold Region.wanted; rw [hgd]
      rw [if_pos hwant]
      refine .inl ?_
      unfold Oper.wp
      rw [hrun a w]
      simp only [Oper.upon]
      have e1 : upd gs i w.heap.size i = w.heap.size := by unfold upd; simp
      have e2 : ∀ k, k ≠ i → upd gs i w.heap.size k = gs k := fun k hk => by unfold upd; simp [hk]
      refine ih (listed.setIfInBounds i true) _ _ (upd gs i w.heap.size) hsz' (hc.next hi) ht' (belowAlloc hw _) ⟨?_, ?_, ?_⟩ (hX w.heap.size)
      · intro y hy hl
        by_cases hyi : y.1 = i
        · have : y = x := hnd y hy x hx (by rw [hyi, hxi])
          subst this
          rw [hyi, e1]; exact Array.getElem?_push_size
        · rw [e2 _ hyi]
          exact blk_below (hg.blk y hy ((old _ hyi).1 hl)) (belowAlloc (belowRefl w) _)
      · intro y hy hl
        by_cases hyi : y.1 = i
        · rw [hyi, e1]; exact hw.size
        · rw [e2 _ hyi]; exact hg.ge y hy ((old _ hyi).1 hl)
      · intro y hy z hz hly hlz he
        by_cases hyi : y.1 = i
        · by_cases hzi : z.1 = i
          · rw [hyi, hzi]
          · rw [hyi, e1, e2 _ hzi] at he
            have := blk_lt (hg.blk z hz ((old _ hzi).1 hlz))
            omega
        · by_cases hzi : z.1 = i
          · rw [hzi, e1, e2 _ hyi] at he
            have := blk_lt (hg.blk y hy ((old _ hyi).1 hly))
            omega
          · rw [e2 _ hyi, e2 _ hzi] at he
            exact hg.ne y hy z hz ((old _ hyi).1 hly) ((old _ hzi).1 hlz) he
    · rw [if_neg hia] at hX
      have hne : ∀ x ∈ al, x.1 ≠ i := fun x hx h => hia (List.any_eq_true.2 ⟨x, hx, by simpa using h⟩)
      have good : ∀ w', Below w.heap.size w w' → GoodAl al gs W w' (listed.setIfInBounds i true) := fun w' hb =>
        ⟨fun x hx hl => blk_below (hg.blk x hx ((old _ (hne x hx)).1 hl)) hb, fun x hx hl => hg.ge x hx ((old _ (hne x hx)).1 hl),
          fun x hx y hy h1 h2 he => hg.ne x hx y hy ((old _ (hne x hx)).1 h1) ((old _ (hne y hy)).1 h2) he⟩
      split
      · rename_i hwt
        simp only [hwt, if_true] at hX
        exact .inl (qb_wp (C := fun w' => ∃ q, w' = gw W q) (gw_of_below hw) (fun a' w' hb hk => ih _ a' w' gs hsz' (hc.next hi) ht' (belowThen hw hb) (good w' hb) hk) hX)
      · rename_i hwt
        simp only [hwt] at hX
        exact ih _ _ w gs hsz' (hc.next hi) ht' hw (good w (belowRefl w)) hX

/-- operation i waits, over r steps, for each of the first n but the late ones -/
def downBL (md : Region.Mode) (ops : Array Oper) (late : List Nat) (n r i : Nat) : Bool :=
  match ops[i]? with
  | some o => (List.range n).all fun j => late.contains j || (depIter md ops r (markDeps md o (Array.replicate ops.size false))).getD j false
  | none => true
theorem down_specL {i r : Nat} {late : List Nat} {listed : Array Bool} (h : downBL md ops late n r i = true) (hc : Closed md ops listed) (hi : i ∈ Region.ready md ops listed) (j : Nat) (hj : j < n) (hjl : j ∉ late) : listed.getD j false = true := by
  obtain ⟨_, o, ho, hall⟩ := mem_ready.1 hi
  unfold downBL at h
  simp only [ho, List.all_eq_true, List.mem_range, Bool.or_eq_true] at h
  rcases h j hj with h | h
  · exact absurd (by simpa using h) hjl
  refine within_iter hc r _ (within_marks hall ?_) j h
  intro k hk
  by_cases hks : k < ops.size
  · simp [hks] at hk
  · simp [hks] at hk
def lateB (md : Region.Mode) (ops : Array Oper) (al : Nat → Bool) (late : List Nat) (n l : Nat) : Bool :=
  match ops[l]? with
  | some o => decide (l < n) && !al l && freeAt md ops l && o.after.all (fun e => !Region.binds md e || (decide (e.on < n) && !late.contains e.on))
  | none => false
theorem lateB_spec {al : Nat → Bool} {late : List Nat} {l : Nat} (h : lateB md ops al late n l = true)
    (hp : ∀ o, ops[l]? = some o → ∀ (a : Act) (w w' : World) (v : Value), qbAt P o a w v → (execOp a.eval o).run P w' = .ok (.value v) w') :
    l < n ∧ al l = false ∧ ∃ o, ops[l]? = some o ∧ freeAt md ops l = true ∧ (∀ e ∈ o.after, Region.binds md e = true → e.on < n ∧ e.on ∉ late) ∧
      (∀ (a : Act) (w w' : World) (v : Value), qbAt P o a w v → (execOp a.eval o).run P w' = .ok (.value v) w') := by
  unfold lateB at h
  cases ho : ops[l]? with
  | none => simp [ho] at h
  | some o =>
    simp only [ho, Bool.and_eq_true, decide_eq_true_eq, Bool.not_eq_true'] at h
    obtain ⟨⟨⟨h1, h2⟩, h3⟩, h4⟩ := h
    refine ⟨h1, h2, o, rfl, h3, fun e he hb => ?_, hp o ho⟩
    have := Array.all_eq_true_iff_forall_mem.1 h4 e he
    simpa [hb] using this
theorem wp_alL {id : Nat} {Q : Exit → Act → World → Prop} {a : Act} {W : World} {ops : List Oper} (nq na m : Nat) (al : Als) (late : List Nat) (hm : P.follows .mixedOrders = true)
    (hal : ∀ x ∈ al, x.1 < nq + na ∧ ∃ o, ops.toArray[x.1]? = some o ∧ o.guard = none ∧ ∀ (a : Act) (w : World), (execOp a.eval o).run P w = .ok (.value (.pointer (some ⟨w.heap.size, 0, none⟩))) (w.alloc (.cells x.2.1 x.2.2)))
    (hnd : ∀ x ∈ al, ∀ y ∈ al, x.1 = y.1 → x = y) (hsz : ops.length = nq + na + m)
    (hB : (Region.noSelect ops.toArray && lexQ .any ops.toArray (isAl al) (nq + na) nq 0 (Array.replicate ops.length false) && (List.range m).all (fun k => downBL .any ops.toArray late (nq + na) 8 (nq + na + k)) && late.all (fun l => lateB .any ops.toArray (isAl al) late (nq + na) l) &&
      chainB .any ops.toArray m (nq + na) (Array.replicate (nq + na) true ++ Array.replicate m false)) = true)
    (hpure : ∀ l ∈ late, ∀ o, ops.toArray[l]? = some o → ∀ (a : Act) (w w' : World) (v : Value), qbAt P o a w v → (execOp a.eval o).run P w' = .ok (.value v) w')
    (hP : ∀ c d v a w, Q (.panic c) (a.put d v) w → Q (.panic c) a w)
    (h : wpQb P ops.toArray (fun w' => ∃ q, w' = gw W q) (wpAnyX P .any ops.toArray (fun w' => ∃ q, w' = gw W q) (isAl al) (nq + na) (fun gs a' => ∀ w', Below W.heap.size W w' →
      GoodAl al gs W w' (Array.replicate (nq + na) true ++ Array.replicate m false) → wpList P ops.toArray Q (ops.drop (nq + na)) a' w') na (listQ nq 0 (Array.replicate ops.length false)) (fun _ => 0)) (ops.take nq) a) : (Code.region id ops.toArray true).wp P Q a W := by
  simp only [Bool.and_eq_true] at hB
  obtain ⟨⟨⟨⟨b1, b2⟩, b3⟩, b5⟩, b4⟩ := hB
  refine wp_region_any hm ?_
  have hlt : (ops.take nq).length = nq := by rw [List.length_take]; omega
  have hdl : (ops.drop (nq + na)).length = m := by rw [List.length_drop]; omega
  have e : ops.toArray.size = (nq + na) + m := by rw [List.size_toArray]; exact hsz
  have hx := wpAnyX_lex (P := P) (md := .any) (n := nq + na) (al := isAl al) b1 na (ops.take nq) 0 (Array.replicate ops.length false) (fun _ => 0) a
    (fun j hj => by rw [hlt] at hj; rw [List.getElem?_take_of_lt hj]; simp) (by rw [hlt]; exact b2) (by rw [hlt]; exact h)
  rw [hlt] at hx
  have key := wpAny_of_XL (late := late) (P := P) (md := .any) (Q' := Q) (m := m) (al := al) (W := W) (n := nq + na) (L := Array.replicate (nq + na) true ++ Array.replicate m false) e
    (fun listed h1 h2 h3 => by
      apply Array.ext
      · rw [h1, e]; simp
      · intro j hj hj2
        rw [Array.getElem_append]
        split
        · rename_i hlt2
          have hlt3 : j < nq + na := by simpa using hlt2
          have := h2 j hlt3
          simpa [hj] using this
        · rename_i hge
          have hge2 : nq + na ≤ j := by simpa using hge
          have := h3 j hge2 (by rw [← h1]; exact hj)
          simpa [hj] using this)
    hal hnd b1 (fun l hl => lateB_spec (List.all_eq_true.1 b5 l hl) (hpure l hl)) hP
    (fun i listed hi hc hr j hj hjl => by
      have hi2 : i < ops.toArray.size := by
        obtain ⟨_, o, ho, _⟩ := mem_ready.1 hr
        exact (Array.getElem?_eq_some_iff.1 ho).1
      have := List.all_eq_true.1 b3 (i - (nq + na)) (List.mem_range.2 (by omega))
      rw [show nq + na + (i - (nq + na)) = i from by omega] at this
      exact down_specL this hc hr j hj hjl)
    (fun gs a' w' hb hg hF => by
      have hl := wpAny_of_list (P := P) (md := .any) (Q := Q) (ops := ops.toArray) (ops.drop (nq + na)) (nq + na) (Array.replicate (nq + na) true ++ Array.replicate m false) a' w'
        (fun j => by rw [List.getElem?_drop]; simp) (by rw [hdl]; exact b4) (hF w' hb hg)
      rw [hdl] at hl; exact hl)
    (nq + na) (Array.replicate ops.length false) a { W with drawn := W.drawn + 1 } (fun _ => 0) (by simp)
    (fun j o hj hl => by
      by_cases hjs : j < ops.length
      · simp [hjs] at hl
      · simp [hjs] at hl)
    (fun j hj hj2 => by have : j < ops.length := by simpa using hj2
                        simp [this])
    (belowDrew (belowRefl W))
    ⟨fun x hx hl => by
        have := (hal x hx).1
        have h2 : x.1 < ops.length := by omega
        simp [h2] at hl, fun x hx hl => by
        have := (hal x hx).1
        have h2 : x.1 < ops.length := by omega
        simp [h2] at hl, fun x hx y hy hl _ _ => by
        have := (hal x hx).1
        have h2 : x.1 < ops.length := by omega
        simp [h2] at hl⟩ hx
  rw [← e] at key
  exact key

/-- one new block -/
theorem wp_al1L {id : Nat} {Q : Exit → Act → World → Prop} {a : Act} {W : World} {ops : List Oper} (nq m : Nat) (late : List Nat) (A : Array Value) (T : TypeId) (d : Tmp) (hm : P.follows .mixedOrders = true)
    (hal : ∃ o, ops.toArray[nq]? = some o ∧ o.guard = none ∧ o.dst = some d ∧ ∀ (a : Act) (w : World), (execOp a.eval o).run P w = .ok (.value (.pointer (some ⟨w.heap.size, 0, none⟩))) (w.alloc (.cells A T)))
    (hsz : ops.length = nq + 1 + m)
    (hB : (Region.noSelect ops.toArray && lexQ .any ops.toArray (isAl [(nq, A, T)]) (nq + 1) nq 0 (Array.replicate ops.length false) && (List.range m).all (fun k => downBL .any ops.toArray late (nq + 1) 8 (nq + 1 + k)) && late.all (fun l => lateB .any ops.toArray (isAl [(nq, A, T)]) late (nq + 1) l) &&
      chainB .any ops.toArray m (nq + 1) (Array.replicate (nq + 1) true ++ Array.replicate m false)) = true)
    (hR : (Region.ready .any ops.toArray (listQ nq 0 (Array.replicate ops.length false)) == [nq] && (List.range (nq + 1)).all fun j => ((listQ nq 0 (Array.replicate ops.length false)).setIfInBounds nq true).getD j true) = true)
    (hpure : ∀ l ∈ late, ∀ o, ops.toArray[l]? = some o → ∀ (a : Act) (w w' : World) (v : Value), qbAt P o a w v → (execOp a.eval o).run P w' = .ok (.value v) w')
    (hP : ∀ c d v a w, Q (.panic c) (a.put d v) w → Q (.panic c) a w)
    (h : wpQb P ops.toArray (fun w' => ∃ q, w' = gw W q) (fun a' => ∀ (g : Nat) (w' : World), Below W.heap.size W w' → w'.heap[g]? = some (.cells A T) → W.heap.size ≤ g →
      wpList P ops.toArray Q (ops.drop (nq + 1)) (a'.put (some d) (.pointer (some ⟨g, 0, none⟩))) w') (ops.take nq) a) : (Code.region id ops.toArray true).wp P Q a W := by
  obtain ⟨o, ho, hg, hd, hrun⟩ := hal
  simp only [Bool.and_eq_true, beq_iff_eq, List.all_eq_true, List.mem_range] at hR
  refine wp_alL nq 1 m [(nq, A, T)] late hm (fun x hx => by rw [List.mem_singleton] at hx; subst hx; exact ⟨by simp, o, ho, hg, hrun⟩) (fun x hx y hy _ => by rw [List.mem_singleton] at hx hy; rw [hx, hy]) hsz hB hpure hP ?_
  refine wpQb_mono (fun a' hF => ?_) _ _ h
  refine ⟨⟨nq, by rw [hR.1]; simp, by omega⟩, fun i hi hin => ?_⟩
  rw [hR.1, List.mem_singleton] at hi
  subst hi
  unfold xOp
  simp only [ho]
  rw [if_pos (by simp [isAl])]
  intro g
  rw [hd]
  refine ⟨fun j hj => hR.2 j hj, fun w' hb hG => ?_⟩
  have e : upd (fun _ => 0) i g i = g := by unfold upd; simp
  have hl : (Array.replicate (i + 1) true ++ Array.replicate m false).getD i true = true := repl_true (by omega)
  have h1 := hG.blk (i, A, T) (by simp) hl
  have h2 := hG.ge (i, A, T) (by simp) hl
  rw [e] at h1 h2
  exact hF g w' hb h1 h2

/-- as wp_al1, told of the base world -/
theorem wp_alo1L {id : Nat} {Q : Exit → Act → World → Prop} {a : Act} {W : World} {p : Regrown} {ops : List Oper} (nq m : Nat) (late : List Nat) (A : Array Value) (T : TypeId) (d : Tmp) (hm : P.follows .mixedOrders = true)
    (hal : ∃ o, ops.toArray[nq]? = some o ∧ o.guard = none ∧ o.dst = some d ∧ ∀ (a : Act) (w : World), (execOp a.eval o).run P w = .ok (.value (.pointer (some ⟨w.heap.size, 0, none⟩))) (w.alloc (.cells A T)))
    (hsz : ops.length = nq + 1 + m)
    (hB : (Region.noSelect ops.toArray && lexQ .any ops.toArray (isAl [(nq, A, T)]) (nq + 1) nq 0 (Array.replicate ops.length false) && (List.range m).all (fun k => downBL .any ops.toArray late (nq + 1) 8 (nq + 1 + k)) && late.all (fun l => lateB .any ops.toArray (isAl [(nq, A, T)]) late (nq + 1) l) &&
      chainB .any ops.toArray m (nq + 1) (Array.replicate (nq + 1) true ++ Array.replicate m false)) = true)
    (hR : (Region.ready .any ops.toArray (listQ nq 0 (Array.replicate ops.length false)) == [nq] && (List.range (nq + 1)).all fun j => ((listQ nq 0 (Array.replicate ops.length false)).setIfInBounds nq true).getD j true) = true)
    (hpure : ∀ l ∈ late, ∀ o, ops.toArray[l]? = some o → ∀ (a : Act) (w w' : World) (v : Value), qbAt P o a w v → (execOp a.eval o).run P w' = .ok (.value v) w')
    (hP : ∀ c d v a w, Q (.panic c) (a.put d v) w → Q (.panic c) a w)
    (h : wpQb P ops.toArray (fun w' => ∃ q, w' = gw W q) (fun a' => ∀ (g : Nat) (X : World), (∀ (c : Nat) (o : Obj), W.heap[c]? = some o → X.heap[c]? = some o) → (∀ w : World, Below w.heap.size w W → Below w.heap.size w X) → X.heap[g]? = some (.cells A T) → W.heap.size ≤ g → ∀ p,
      wpList P ops.toArray Q (ops.drop (nq + 1)) (a'.put (some d) (.pointer (some ⟨g, 0, none⟩))) (gw X p)) (ops.take nq) a) : (Code.region id ops.toArray true).wp P Q a (gw W p) := by
  refine wp_al1L nq m late A T d hm hal hsz hB hR hpure hP (wpQb_anti (gw2 p) _ _ (wpQb_mono (fun a' hF g w' hb h1 h2 => ?_) _ _ h))
  obtain ⟨p0, hp0⟩ := gw_start w'
  rw [hp0]
  exact hF g w' (fun c o h => blk_below (block_gw h p) hb) (fun w hw => belowThen (below_gw hw p) hb) h1 (Nat.le_trans (size_gw W p) h2) p0
theorem pure_extract {o : Oper} {x : Operand} {i : Nat} (hop : o.op = .extract x i) (a : Act) (w w' : World) (v : Value) (h : qbAt P o a w v) : (execOp a.eval o).run P w' = .ok (.value v) w' := by
  have e : ∀ w, (execOp a.eval o).run P w = ((Instr.extract (a.eval x) i).run P w).andThen fun u w => .ok (.value u) w := by
    intro w
    obtain ⟨dst, op, ty, pos, after, guard⟩ := o
    subst hop
    simp [execOp, go_sem]
  unfold qbAt at h
  rw [e] at h ⊢
  unfold Instr.extract at h ⊢
  split at h
  · split at h <;> simp_all [go_sem, qbUpon]
  · simp_all [go_sem, qbUpon]
end
end Go.Proofs.Ytimdklineeeieaa
