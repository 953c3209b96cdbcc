/- A region that draws its order and lays new blocks: the law. -/
import Derived.Test.YthieengihbbnpaaDoorK2
namespace Go.Proofs.YthieengihbbnpaaDoor
open Go Go.RowKit Go.Sort
set_option linter.unusedVariables false
section
variable {P : Program} {ops : Array Oper} {md : Region.Mode} {C : World → Prop} {n : Nat}

/-- what has come up: all that it waited for has come up, too -/
def Closed (md : Region.Mode) (ops : Array Oper) (listed : Array Bool) : Prop :=
  ∀ (j : Nat) (o : Oper), ops[j]? = some o → listed.getD j false = true → ∀ e ∈ o.after, Region.binds md e = true → listed.getD e.on false = true
theorem Closed.next {listed : Array Bool} {i : Nat} (h : Closed md ops listed) (hi : i ∈ Region.ready md ops listed) : Closed md ops (listed.setIfInBounds i true) := by
  intro j o hj hl e he hb
  refine getD_set_true ?_
  by_cases hji : j = i
  · subst hji
    obtain ⟨_, o', ho', hall⟩ := mem_ready.1 hi
    rw [hj] at ho'; cases ho'
    exact hall e he hb
  · rw [getD_set_ne false (fun h => hji h.symm)] at hl
    exact h j o hj hl e he hb

/-- the marks S, and what they wait for -/
def markDeps (md : Region.Mode) (o : Oper) (T : Array Bool) : Array Bool := o.after.toList.foldl (fun T e => if Region.binds md e then T.setIfInBounds e.on true else T) T
def depStep (md : Region.Mode) (ops : Array Oper) (S : Array Bool) : Array Bool :=
  (List.range ops.size).foldl (fun T j => if S.getD j false then (match ops[j]? with | some o => markDeps md o T | none => T) else T) S
def depIter (md : Region.Mode) (ops : Array Oper) : Nat → Array Bool → Array Bool
  | 0, S => S
  | r + 1, S => depIter md ops r (depStep md ops S)
def Within (S listed : Array Bool) : Prop := ∀ j, S.getD j false = true → listed.getD j false = true
theorem within_set {T listed : Array Bool} {k : Nat} (h : Within T listed) (hk : listed.getD k false = true) : Within (T.setIfInBounds k true) listed := by
  intro j hj
  by_cases hjk : k = j
  · subst hjk; exact hk
  · rw [getD_set_ne false hjk] at hj; exact h j hj
theorem within_marks {o : Oper} {listed : Array Bool} (ho : ∀ e ∈ o.after, Region.binds md e = true → listed.getD e.on false = true) {T : Array Bool} (h : Within T listed) : Within (markDeps md o T) listed := by
  unfold markDeps
  have : ∀ (l : List _) (T : Array Bool), (∀ e ∈ l, e ∈ o.after) → Within T listed → Within (l.foldl (fun T e => if Region.binds md e then T.setIfInBounds e.on true else T) T) listed := by
    intro l
    induction l with
    | nil => intro T _ h; exact h
    | cons e l ih =>
      intro T hl h
      refine ih _ (fun e' he' => hl e' (List.mem_cons_of_mem _ he')) ?_
      dsimp only
      split
      · rename_i hb; exact within_set h (ho e (hl e (List.mem_cons_self ..)) hb)
      · exact h
  exact this _ T (fun e he => by simpa using he) h
theorem within_step {S listed : Array Bool} (hc : Closed md ops listed) (h : Within S listed) : Within (depStep md ops S) listed := by
  unfold depStep
  have : ∀ (l : List Nat) (T : Array Bool), Within T listed → Within (l.foldl (fun T j => if S.getD j false then (match ops[j]? with | some o => markDeps md o T | none => T) else T) T) listed := by
    intro l
    induction l with
    | nil => intro T h; exact h
    | cons j l ih =>
      intro T hT
      refine ih _ ?_
      dsimp only
      split
      · rename_i hs
        split
        · rename_i o ho; exact within_marks (fun e he hb => hc j o ho (h j hs) e he hb) hT
        · exact hT
      · exact hT
  exact this _ S h
theorem within_iter {listed : Array Bool} (hc : Closed md ops listed) : ∀ (r : Nat) (S : Array Bool), Within S listed → Within (depIter md ops r S) listed
  | 0, _, h => h
  | r + 1, _, h => within_iter hc r _ (within_step hc h)
/-- operation i waits, over r steps, for each of the first n -/
def downB (md : Region.Mode) (ops : Array Oper) (n r i : Nat) : Bool :=
  match ops[i]? with
  | some o => (List.range n).all fun j => (depIter md ops r (markDeps md o (Array.replicate ops.size false))).getD j false
  | none => true
theorem down_spec {i r : Nat} {listed : Array Bool} (h : downB md ops n r i = true) (hc : Closed md ops listed) (hi : i ∈ Region.ready md ops listed) (j : Nat) (hj : j < n) : listed.getD j false = true := by
  obtain ⟨_, o, ho, hall⟩ := mem_ready.1 hi
  unfold downB at h
  simp only [ho, List.all_eq_true, List.mem_range] at h
  refine within_iter hc r _ (within_marks hall ?_) j (h j hj)
  intro k hk
  by_cases hks : k < ops.size
  · simp [hks] at hk
  · simp [hks] at hk

/-- the last operations, in their forced order -/
def chainB (md : Region.Mode) (ops : Array Oper) : Nat → Nat → Array Bool → Bool
  | 0, _, listed => (Region.ready md ops listed).isEmpty
  | fuel + 1, k, listed => (Region.ready md ops listed == [k]) && chainB md ops fuel (k + 1) (listed.setIfInBounds k true)
theorem wpAny_of_list {Q : Exit → Act → World → Prop} : ∀ (l : List Oper) (k : Nat) (listed : Array Bool) (a : Act) (w : World), (∀ j, l[j]? = ops[k + j]?) →
    chainB md ops l.length k listed = true → wpList P ops Q l a w → wpAny P md ops Q l.length listed a w
  | [], _, listed, a, w, _, hB, h => ⟨by simpa [chainB] using hB, h⟩
  | o :: l, k, listed, a, w, hl, hB, h => by
    have h0 : ops[k]? = some o := by simpa using (hl 0).symm
    simp only [List.length_cons, chainB, Bool.and_eq_true, beq_iff_eq] at hB
    refine wpAny_all hB.1 (by simp) (fun i hi => ?_)
    obtain rfl : i = k := by simpa using hi
    have ih := fun a w => wpAny_of_list (Q := Q) l (i + 1) (listed.setIfInBounds i true) a w (fun j => by have := hl (j + 1); simpa [Nat.add_assoc, Nat.add_comm 1 j] using this) hB.2
    unfold wpOp
    simp only [h0]
    simp only [wpList] at h
    split
    · rename_i hw; simp only [hw, if_true] at h; exact h.imp (Oper.wp_mono ih) id
    · rename_i hw; simp only [hw] at h; exact ih _ _ h

theorem qb_wp {o : Oper} {a : Act} {K : Act → Prop} {K' : Act → World → Prop} {Q' : Exit → Act → World → Prop} {w : World} (hw : C w) (h : ∀ a w', Below w.heap.size w w' → K a → K' a w') (hh : qb P o a C K) : o.wp P a w K' Q' := by
  obtain ⟨v, h1, h2⟩ := hh
  have h3 := h1 w hw
  unfold qbAt at h3
  unfold Oper.wp
  generalize (execOp a.eval o).run P w = r at *
  cases r with
  | ok n w' =>
    cases n <;> simp only [qbUpon] at h3 <;> simp only [Oper.upon]
    case value u =>
      obtain ⟨e1, e2⟩ := h3
      rw [e1, e2]
      exact h _ _ (belowRefl w) h2
    case skip =>
      obtain ⟨e1, e2⟩ := h3
      rw [e1, ← e2]
      exact h _ _ (belowRefl w) h2
    case enter f args =>
      obtain ⟨e1, hc⟩ := h3
      rw [e1]
      exact hc.mono fun e w'' ⟨he, hw''⟩ => by subst he; exact h _ _ hw'' h2
  | halt x w' => simp only [qbUpon] at h3

abbrev Als := List (Nat × Array Value × TypeId)
def isAl (al : Als) (i : Nat) : Bool := al.any fun x => x.1 == i
structure GoodAl (al : Als) (gs : Nat → Nat) (W w : World) (listed : Array Bool) : Prop where
  blk : ∀ x ∈ al, listed.getD x.1 true = true → w.heap[gs x.1]? = some (.cells x.2.1 x.2.2)
  ge : ∀ x ∈ al, listed.getD x.1 true = true → W.heap.size ≤ gs x.1
  ne : ∀ x ∈ al, ∀ y ∈ al, listed.getD x.1 true = true → listed.getD y.1 true = true → gs x.1 = gs y.1 → x.1 = y.1

theorem blk_lt {w : World} {g : Nat} {o : Obj} (h : w.heap[g]? = some o) : g < w.heap.size := by
  rcases Nat.lt_or_ge g w.heap.size with h' | h'
  · exact h'
  · rw [Array.getElem?_eq_none h'] at h; cases h
theorem blk_below {w w' : World} {g : Nat} {o : Obj} (h : w.heap[g]? = some o) (hb : Below w.heap.size w w') : w'.heap[g]? = some o := by
  rw [hb.block g (blk_lt h)]; exact h

theorem wpAny_of_X {Q' : Exit → Act → World → Prop} {m : Nat} {al : Als} {W : World} {L : Array Bool} {Fin : (Nat → Nat) → Act → Prop}
    (hn : ops.size = n + m) (hL : ∀ listed : Array Bool, listed.size = ops.size → (∀ j, j < n → listed.getD j true = true) → (∀ j, n ≤ j → j < ops.size → listed.getD j true = false) → listed = L)
    (hal : ∀ x ∈ al, x.1 < n ∧ ∃ o, ops[x.1]? = some o ∧ o.guard = none ∧ ∀ (a : Act) (w : World), (execOp a.eval o).run P w = .ok (.value (.pointer (some ⟨w.heap.size, 0, none⟩))) (w.alloc (.cells x.2.1 x.2.2)))
    (hnd : ∀ x ∈ al, ∀ y ∈ al, x.1 = y.1 → x = y)
    (hdown : ∀ i listed, n ≤ i → Closed md ops listed → i ∈ Region.ready md ops listed → ∀ j, j < n → listed.getD j false = true)
    (hQ : ∀ gs a w, Below W.heap.size W w → GoodAl al gs W w L → Fin gs a → wpAny P md ops Q' m L a w) :
    ∀ (fuel : Nat) (listed : Array Bool) (a : Act) (w : World) (gs : Nat → Nat), listed.size = ops.size → Closed md ops listed → (∀ j, n ≤ j → j < ops.size → listed.getD j true = false) →
      Below W.heap.size W w → GoodAl al gs W w listed → wpAnyX P md ops (fun w' => ∃ q, w' = gw W q) (isAl al) n Fin fuel listed gs a → wpAny P md ops Q' (fuel + m) listed a w := by
  intro fuel
  induction fuel with
  | zero =>
    intro listed a w gs hsz hc ht hw hg H
    have e := hL listed hsz H.1 ht
    subst e
    rw [Nat.zero_add]
    exact hQ gs a w hw hg H.2
  | succ fuel ih =>
    intro listed a w gs hsz hc ht hw hg H
    rw [Nat.add_right_comm]
    obtain ⟨⟨i0, hi0, hi0n⟩, HH⟩ := H
    refine ⟨fun h => (by rw [h] at hi0; cases hi0), fun i hi => ?_⟩
    have hin : i < n := by
      rcases Nat.lt_or_ge i n with h | h
      · exact h
      · have h1 := hdown i listed h hc hi i0 hi0n
        have h2 := (mem_ready.1 hi0).1
        rcases Nat.lt_or_ge i0 listed.size with h' | h'
        · simp [h'] at h1 h2; rw [h2] at h1; cases h1
        · simp [Array.getElem?_eq_none h'] at h1
    have hun := (mem_ready.1 hi).1
    have hsz' : (listed.setIfInBounds i true).size = ops.size := by simpa using hsz
    have ht' : ∀ j, n ≤ j → j < ops.size → (listed.setIfInBounds i true).getD j true = false := fun j hj hj2 => by
      rw [getD_set_ne true (by omega)]; exact ht j hj hj2
    have old : ∀ x : Nat, x ≠ i → ((listed.setIfInBounds i true).getD x true = true ↔ listed.getD x true = true) := fun x hx => by
      rw [getD_set_ne true (fun h => hx h.symm)]
    have hX := HH i hi hin
    obtain ⟨_, o, ho, _⟩ := mem_ready.1 hi
    unfold xOp at hX
    simp only [ho] at hX
    unfold wpOp
    simp only [ho]
    by_cases hia : isAl al i = true
    · -- a new block
      rw [if_pos hia] at hX
      obtain ⟨x, hx, hxi⟩ := List.any_eq_true.1 hia
      have hxi : x.1 = i := by simpa using hxi
      obtain ⟨_, o', ho', hgd, hrun⟩ := hal x hx
      rw [hxi, ho] at ho'; cases ho'
      have hwant : Region.wanted o (yielded ops a.tmps) = true := by unfold Region.wanted; rw [hgd]
      rw [if_pos hwant]
      refine .inl ?_
      unfold Oper.wp
      rw [hrun a w]
      simp only [Oper.upon]
      have e1 : upd gs i w.heap.size i = w.heap.size := by unfold upd; simp
      have e2 : ∀ k, k ≠ i → upd gs i w.heap.size k = gs k := fun k hk => by unfold upd; simp [hk]
      refine ih (listed.setIfInBounds i true) _ _ (upd gs i w.heap.size) hsz' (hc.next hi) ht' (belowAlloc hw _) ⟨?_, ?_, ?_⟩ (hX w.heap.size)
      · intro y hy hl
        by_cases hyi : y.1 = i
        · have : y = x := hnd y hy x hx (by rw [hyi, hxi])
          subst this
          rw [hyi, e1]; exact Array.getElem?_push_size
        · rw [e2 _ hyi]
          exact blk_below (hg.blk y hy ((old _ hyi).1 hl)) (belowAlloc (belowRefl w) _)
      · intro y hy hl
        by_cases hyi : y.1 = i
        · rw [hyi, e1]; exact hw.size
        · rw [e2 _ hyi]; exact hg.ge y hy ((old _ hyi).1 hl)
      · intro y hy z hz hly hlz he
        by_cases hyi : y.1 = i
        · by_cases hzi : z.1 = i
          · rw [hyi, hzi]
          · rw [hyi, e1, e2 _ hzi] at he
            have := blk_lt (hg.blk z hz ((old _ hzi).1 hlz))
            omega
        · by_cases hzi : z.1 = i
          · rw [hzi, e1, e2 _ hyi] at he
            have := blk_lt (hg.blk y hy ((old _ hyi).1 hly))
            omega
          · rw [e2 _ hyi, e2 _ hzi] at he
            exact hg.ne y hy z hz ((old _ hyi).1 hly) ((old _ hzi).1 hlz) he
    · rw [if_neg hia] at hX
      have hne : ∀ x ∈ al, x.1 ≠ i := fun x hx h => hia (List.any_eq_true.2 ⟨x, hx, by simpa using h⟩)
      have good : ∀ w', Below w.heap.size w w' → GoodAl al gs W w' (listed.setIfInBounds i true) := fun w' hb =>
        ⟨fun x hx hl => blk_below (hg.blk x hx ((old _ (hne x hx)).1 hl)) hb, fun x hx hl => hg.ge x hx ((old _ (hne x hx)).1 hl),
          fun x hx y hy h1 h2 he => hg.ne x hx y hy ((old _ (hne x hx)).1 h1) ((old _ (hne y hy)).1 h2) he⟩
      split
      · rename_i hwt
        simp only [hwt, if_true] at hX
        exact .inl (qb_wp (C := fun w' => ∃ q, w' = gw W q) (gw_of_below hw) (fun a' w' hb hk => ih _ a' w' gs hsz' (hc.next hi) ht' (belowThen hw hb) (good w' hb) hk) hX)
      · rename_i hwt
        simp only [hwt] at hX
        exact ih _ _ w gs hsz' (hc.next hi) ht' hw (good w (belowRefl w)) hX

theorem repl_true {n m i : Nat} (h : i < n) : (Array.replicate n true ++ Array.replicate m false).getD i true = true := by
  rw [Array.getD_eq_getD_getElem?, Array.getElem?_append_left (by simpa using h)]; simp [h]
theorem wp_al {id : Nat} {Q : Exit → Act → World → Prop} {a : Act} {W : World} {ops : List Oper} (nq na m : Nat) (al : Als) (hm : P.follows .mixedOrders = true)
    (hal : ∀ x ∈ al, x.1 < nq + na ∧ ∃ o, ops.toArray[x.1]? = some o ∧ o.guard = none ∧ ∀ (a : Act) (w : World), (execOp a.eval o).run P w = .ok (.value (.pointer (some ⟨w.heap.size, 0, none⟩))) (w.alloc (.cells x.2.1 x.2.2)))
    (hnd : ∀ x ∈ al, ∀ y ∈ al, x.1 = y.1 → x = y) (hsz : ops.length = nq + na + m)
    (hB : (Region.noSelect ops.toArray && lexQ .any ops.toArray (isAl al) (nq + na) nq 0 (Array.replicate ops.length false) && (List.range m).all (fun k => downB .any ops.toArray (nq + na) 8 (nq + na + k)) &&
      chainB .any ops.toArray m (nq + na) (Array.replicate (nq + na) true ++ Array.replicate m false)) = true)
    (h : wpQb P ops.toArray (fun w' => ∃ q, w' = gw W q) (wpAnyX P .any ops.toArray (fun w' => ∃ q, w' = gw W q) (isAl al) (nq + na) (fun gs a' => ∀ w', Below W.heap.size W w' →
      GoodAl al gs W w' (Array.replicate (nq + na) true ++ Array.replicate m false) → wpList P ops.toArray Q (ops.drop (nq + na)) a' w') na (listQ nq 0 (Array.replicate ops.length false)) (fun _ => 0)) (ops.take nq) a) : (Code.region id ops.toArray true).wp P Q a W := by
  simp only [Bool.and_eq_true] at hB
  obtain ⟨⟨⟨b1, b2⟩, b3⟩, b4⟩ := hB
  refine wp_region_any hm ?_
  have hlt : (ops.take nq).length = nq := by rw [List.length_take]; omega
  have hdl : (ops.drop (nq + na)).length = m := by rw [List.length_drop]; omega
  have e : ops.toArray.size = (nq + na) + m := by rw [List.size_toArray]; exact hsz
  have hx := wpAnyX_lex (P := P) (md := .any) (n := nq + na) (al := isAl al) b1 na (ops.take nq) 0 (Array.replicate ops.length false) (fun _ => 0) a
    (fun j hj => by rw [hlt] at hj; rw [List.getElem?_take_of_lt hj]; simp) (by rw [hlt]; exact b2) (by rw [hlt]; exact h)
  rw [hlt] at hx
  have key := wpAny_of_X (P := P) (md := .any) (Q' := Q) (m := m) (al := al) (W := W) (n := nq + na) (L := Array.replicate (nq + na) true ++ Array.replicate m false) e
    (fun listed h1 h2 h3 => by
      apply Array.ext
      · rw [h1, e]; simp
      · intro j hj hj2
        rw [Array.getElem_append]
        split
        · rename_i hlt2
          have hlt3 : j < nq + na := by simpa using hlt2
          have := h2 j hlt3
          simpa [hj] using this
        · rename_i hge
          have hge2 : nq + na ≤ j := by simpa using hge
          have := h3 j hge2 (by rw [← h1]; exact hj)
          simpa [hj] using this)
    hal hnd
    (fun i listed hi hc hr j hj => by
      have hi2 : i < ops.toArray.size := by
        obtain ⟨_, o, ho, _⟩ := mem_ready.1 hr
        exact (Array.getElem?_eq_some_iff.1 ho).1
      have := List.all_eq_true.1 b3 (i - (nq + na)) (List.mem_range.2 (by omega))
      rw [show nq + na + (i - (nq + na)) = i from by omega] at this
      exact down_spec this hc hr j hj)
    (fun gs a' w' hb hg hF => by
      have hl := wpAny_of_list (P := P) (md := .any) (Q := Q) (ops := ops.toArray) (ops.drop (nq + na)) (nq + na) (Array.replicate (nq + na) true ++ Array.replicate m false) a' w'
        (fun j => by rw [List.getElem?_drop]; simp) (by rw [hdl]; exact b4) (hF w' hb hg)
      rw [hdl] at hl; exact hl)
    (nq + na) (Array.replicate ops.length false) a { W with drawn := W.drawn + 1 } (fun _ => 0) (by simp)
    (fun j o hj hl => by
      by_cases hjs : j < ops.length
      · simp [hjs] at hl
      · simp [hjs] at hl)
    (fun j hj hj2 => by have : j < ops.length := by simpa using hj2
                        simp [this])
    (belowDrew (belowRefl W))
    ⟨fun x hx hl => by
        have := (hal x hx).1
        have h2 : x.1 < ops.length := by omega
        simp [h2] at hl, fun x hx hl => by
        have := (hal x hx).1
        have h2 : x.1 < ops.length := by omega
        simp [h2] at hl, fun x hx y hy hl _ _ => by
        have := (hal x hx).1
        have h2 : x.1 < ops.length := by omega
        simp [h2] at hl⟩ hx
  rw [← e] at key
  exact key

/-- no new block: what reads and calls, then the last operations in their forced order -/
theorem wp_al0 {id : Nat} {Q : Exit → Act → World → Prop} {a : Act} {W : World} {ops : List Oper} (nq m : Nat) (hm : P.follows .mixedOrders = true) (hsz : ops.length = nq + 0 + m)
    (hB : (Region.noSelect ops.toArray && lexQ .any ops.toArray (isAl []) (nq + 0) nq 0 (Array.replicate ops.length false) && (List.range m).all (fun k => downB .any ops.toArray (nq + 0) 8 (nq + 0 + k)) &&
      chainB .any ops.toArray m (nq + 0) (Array.replicate (nq + 0) true ++ Array.replicate m false)) = true)
    (hR : ((List.range (nq + 0)).all fun j => (listQ nq 0 (Array.replicate ops.length false)).getD j true) = true)
    (h : wpQb P ops.toArray (fun w' => ∃ q, w' = gw W q) (fun a' => ∀ (w' : World), Below W.heap.size W w' → wpList P ops.toArray Q (ops.drop (nq + 0)) a' w') (ops.take nq) a) : (Code.region id ops.toArray true).wp P Q a W := by
  simp only [List.all_eq_true, List.mem_range] at hR
  refine wp_al nq 0 m [] hm (fun x hx => by cases hx) (fun x hx => by cases hx) hsz hB ?_
  refine wpQb_mono (fun a' hF => ?_) _ _ h
  exact ⟨fun j hj => hR j hj, fun w' hb _ => hF w' hb⟩

/-- one new block -/
theorem wp_al1 {id : Nat} {Q : Exit → Act → World → Prop} {a : Act} {W : World} {ops : List Oper} (nq m : Nat) (A : Array Value) (T : TypeId) (d : Tmp) (hm : P.follows .mixedOrders = true)
    (hal : ∃ o, ops.toArray[nq]? = some o ∧ o.guard = none ∧ o.dst = some d ∧ ∀ (a : Act) (w : World), (execOp a.eval o).run P w = .ok (.value (.pointer (some ⟨w.heap.size, 0, none⟩))) (w.alloc (.cells A T)))
    (hsz : ops.length = nq + 1 + m)
    (hB : (Region.noSelect ops.toArray && lexQ .any ops.toArray (isAl [(nq, A, T)]) (nq + 1) nq 0 (Array.replicate ops.length false) && (List.range m).all (fun k => downB .any ops.toArray (nq + 1) 8 (nq + 1 + k)) &&
      chainB .any ops.toArray m (nq + 1) (Array.replicate (nq + 1) true ++ Array.replicate m false)) = true)
    (hR : (Region.ready .any ops.toArray (listQ nq 0 (Array.replicate ops.length false)) == [nq] && (List.range (nq + 1)).all fun j => ((listQ nq 0 (Array.replicate ops.length false)).setIfInBounds nq true).getD j true) = true)
    (h : wpQb P ops.toArray (fun w' => ∃ q, w' = gw W q) (fun a' => ∀ (g : Nat) (w' : World), Below W.heap.size W w' → w'.heap[g]? = some (.cells A T) → W.heap.size ≤ g →
      wpList P ops.toArray Q (ops.drop (nq + 1)) (a'.put (some d) (.pointer (some ⟨g, 0, none⟩))) w') (ops.take nq) a) : (Code.region id ops.toArray true).wp P Q a W := by
  obtain ⟨o, ho, hg, hd, hrun⟩ := hal
  simp only [Bool.and_eq_true, beq_iff_eq, List.all_eq_true, List.mem_range] at hR
  refine wp_al nq 1 m [(nq, A, T)] hm (fun x hx => by rw [List.mem_singleton] at hx; subst hx; exact ⟨by simp, o, ho, hg, hrun⟩) (fun x hx y hy _ => by rw [List.mem_singleton] at hx hy; rw [hx, hy]) hsz hB ?_
  refine wpQb_mono (fun a' hF => ?_) _ _ h
  refine ⟨⟨nq, by rw [hR.1]; simp, by omega⟩, fun i hi hin => ?_⟩
  rw [hR.1, List.mem_singleton] at hi
  subst hi
  unfold xOp
  simp only [ho]
  rw [if_pos (by simp [isAl])]
  intro g
  rw [hd]
  refine ⟨fun j hj => hR.2 j hj, fun w' hb hG => ?_⟩
  have e : upd (fun _ => 0) i g i = g := by unfold upd; simp
  have hl : (Array.replicate (i + 1) true ++ Array.replicate m false).getD i true = true := repl_true (by omega)
  have h1 := hG.blk (i, A, T) (by simp) hl
  have h2 := hG.ge (i, A, T) (by simp) hl
  rw [e] at h1 h2
  exact hF g w' hb h1 h2

/-- two new blocks -/
theorem wp_al2 {id : Nat} {Q : Exit → Act → World → Prop} {a : Act} {W : World} {ops : List Oper} (nq m : Nat) (A B : Array Value) (T U : TypeId) (d d2 : Tmp) (hdd : d ≠ d2) (hm : P.follows .mixedOrders = true)
    (hal : ∃ o, ops.toArray[nq]? = some o ∧ o.guard = none ∧ o.dst = some d ∧ ∀ (a : Act) (w : World), (execOp a.eval o).run P w = .ok (.value (.pointer (some ⟨w.heap.size, 0, none⟩))) (w.alloc (.cells A T)))
    (hal2 : ∃ o, ops.toArray[nq + 1]? = some o ∧ o.guard = none ∧ o.dst = some d2 ∧ ∀ (a : Act) (w : World), (execOp a.eval o).run P w = .ok (.value (.pointer (some ⟨w.heap.size, 0, none⟩))) (w.alloc (.cells B U)))
    (hsz : ops.length = nq + 2 + m)
    (hB : (Region.noSelect ops.toArray && lexQ .any ops.toArray (isAl [(nq, A, T), (nq + 1, B, U)]) (nq + 2) nq 0 (Array.replicate ops.length false) && (List.range m).all (fun k => downB .any ops.toArray (nq + 2) 8 (nq + 2 + k)) &&
      chainB .any ops.toArray m (nq + 2) (Array.replicate (nq + 2) true ++ Array.replicate m false)) = true)
    (hR : (Region.ready .any ops.toArray (listQ nq 0 (Array.replicate ops.length false)) == [nq, nq + 1] && Region.ready .any ops.toArray ((listQ nq 0 (Array.replicate ops.length false)).setIfInBounds nq true) == [nq + 1] &&
      Region.ready .any ops.toArray ((listQ nq 0 (Array.replicate ops.length false)).setIfInBounds (nq + 1) true) == [nq] &&
      (List.range (nq + 2)).all fun j => (((listQ nq 0 (Array.replicate ops.length false)).setIfInBounds nq true).setIfInBounds (nq + 1) true).getD j true) = true)
    (h : wpQb P ops.toArray (fun w' => ∃ q, w' = gw W q) (fun a' => ∀ (g g2 : Nat) (w' : World), Below W.heap.size W w' → w'.heap[g]? = some (.cells A T) → W.heap.size ≤ g → w'.heap[g2]? = some (.cells B U) → W.heap.size ≤ g2 → g ≠ g2 →
      wpList P ops.toArray Q (ops.drop (nq + 2)) ((a'.put (some d) (.pointer (some ⟨g, 0, none⟩))).put (some d2) (.pointer (some ⟨g2, 0, none⟩))) w') (ops.take nq) a) : (Code.region id ops.toArray true).wp P Q a W := by
  obtain ⟨o, ho, hg, hd, hrun⟩ := hal
  obtain ⟨o2, ho2, hg2, hd2, hrun2⟩ := hal2
  simp only [Bool.and_eq_true, beq_iff_eq, List.all_eq_true, List.mem_range] at hR
  obtain ⟨⟨⟨r1, r2⟩, r3⟩, r4⟩ := hR
  refine wp_al nq 2 m [(nq, A, T), (nq + 1, B, U)] hm (fun x hx => by
      rw [List.mem_cons, List.mem_singleton] at hx
      rcases hx with rfl | rfl
      · exact ⟨by simp, o, ho, hg, hrun⟩
      · exact ⟨by simp, o2, ho2, hg2, hrun2⟩) (fun x hx y hy hxy => by
      rw [List.mem_cons, List.mem_singleton] at hx hy
      rcases hx with rfl | rfl <;> rcases hy with rfl | rfl
      · rfl
      · simp at hxy
      · simp at hxy
      · rfl) hsz hB ?_
  refine wpQb_mono (fun a' hF => ?_) _ _ h
  have fin : ∀ (gs : Nat → Nat) (g g2 : Nat), gs nq = g → gs (nq + 1) = g2 → ∀ w', Below W.heap.size W w' → GoodAl [(nq, A, T), (nq + 1, B, U)] gs W w' (Array.replicate (nq + 2) true ++ Array.replicate m false) →
      wpList P ops.toArray Q (ops.drop (nq + 2)) ((a'.put (some d) (.pointer (some ⟨g, 0, none⟩))).put (some d2) (.pointer (some ⟨g2, 0, none⟩))) w' := by
    intro gs g g2 e1 e2 w' hb hG
    have l1 : (Array.replicate (nq + 2) true ++ Array.replicate m false).getD nq true = true := repl_true (by omega)
    have l2 : (Array.replicate (nq + 2) true ++ Array.replicate m false).getD (nq + 1) true = true := repl_true (by omega)
    have h1 := hG.blk (nq, A, T) (by simp) l1
    have h2 := hG.ge (nq, A, T) (by simp) l1
    have h3 := hG.blk (nq + 1, B, U) (by simp) l2
    have h4 := hG.ge (nq + 1, B, U) (by simp) l2
    have h5 := hG.ne (nq, A, T) (by simp) (nq + 1, B, U) (by simp) l1 l2
    dsimp only at h1 h2 h3 h4 h5
    rw [e1] at h1 h2 h5
    rw [e2] at h3 h4 h5
    exact hF g g2 w' hb h1 h2 h3 h4 (fun h => by have := h5 h; omega)
  refine ⟨⟨nq, by rw [r1]; simp, by omega⟩, fun i hi hin => ?_⟩
  rw [r1, List.mem_cons, List.mem_singleton] at hi
  rcases hi with rfl | rfl
  · unfold xOp
    simp only [ho]
    rw [if_pos (by simp [isAl])]
    intro g
    rw [hd]
    refine ⟨⟨i + 1, by rw [r2]; simp, by omega⟩, fun j hj hjn => ?_⟩
    rw [r2, List.mem_singleton] at hj
    subst hj
    unfold xOp
    simp only [ho2]
    rw [if_pos (by simp [isAl])]
    intro g2
    rw [hd2]
    exact ⟨fun j hj => r4 j hj, fin _ g g2 (by unfold upd; simp) (by unfold upd; simp)⟩
  · unfold xOp
    simp only [ho2]
    rw [if_pos (by simp [isAl])]
    intro g2
    rw [hd2]
    refine ⟨⟨nq, by rw [r3]; simp, by omega⟩, fun j hj hjn => ?_⟩
    rw [r3, List.mem_singleton] at hj
    subst hj
    unfold xOp
    simp only [ho]
    rw [if_pos (by simp [isAl])]
    intro g
    rw [hd]
    refine ⟨fun k hk => ?_, ?_⟩
    · rw [Array.setIfInBounds_comm _ _ (by omega)]; exact r4 k hk
    · rw [← Act.put_comm a' _ _ (fun x hx hx2 => hdd (by cases hx; cases hx2; rfl))]
      exact fin _ g g2 (by unfold upd; simp) (by unfold upd; simp)
end
end Go.Proofs.YthieengihbbnpaaDoor
