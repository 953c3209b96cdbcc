/- A region that draws its order, some of whose operations lay a new block each: the operations that read and call are walked once, in the order of the text; each new block's place is told for whatever it is; then come the last operations (stores), in their forced order. After the library's Derived/Deep/Quiet.lean. -/
import Derived.Test.YthieengihbbnpaaDoorK1
namespace Go.Proofs.YthieengihbbnpaaDoor
open Go Go.RowKit Go.Sort
set_option linter.unusedVariables false
section
variable {P : Program} {ops : Array Oper} {md : Region.Mode} {C : World → Prop} {al : Nat → Bool} {n : Nat}

/-- The value v in the world that it got; or a call that hands back v and leaves all old blocks alone. -/
def qbUpon (P : Program) (w : World) (v : Value) : Result Next → Prop
  | .ok (.value u) w' => w' = w ∧ u = v
  | .ok .skip w' => w' = w ∧ v = undef
  | .ok (.enter f args) w' => w' = w ∧ Calls P f args w (fun e w'' => e = .returned v ∧ Below w.heap.size w w'')
  | _ => False
def qbAt (P : Program) (o : Oper) (a : Act) (w : World) (v : Value) : Prop := qbUpon P w v ((execOp a.eval o).run P w)
def qb (P : Program) (o : Oper) (a : Act) (C : World → Prop) (next : Act → Prop) : Prop := ∃ v, (∀ w, C w → qbAt P o a w v) ∧ next (a.put o.dst v)
attribute [go_sem] qb qbAt qbUpon

def wpQb (P : Program) (ops : Array Oper) (C : World → Prop) (Q : Act → Prop) : List Oper → Act → Prop
  | [], a => Q a
  | o :: rest, a => if Region.wanted o (yielded ops a.tmps) then qb P o a C (wpQb P ops C Q rest) else wpQb P ops C Q rest (a.put o.dst undef)
theorem wpQb_nil {Q : Act → Prop} {a : Act} (h : Q a) : wpQb P ops C Q [] a := h
theorem wpQb_step {Q : Act → Prop} {a : Act} {o : Oper} {rest : List Oper}
    (h : ∀ K : Act → Prop, (∀ a, wpQb P ops C Q rest a → K a) → if Region.wanted o (yielded ops a.tmps) then qb P o a C K else K (a.put o.dst undef)) : wpQb P ops C Q (o :: rest) a :=
  h _ (fun _ h => h)

theorem qb_mono' {o : Oper} {a : Act} {K K' : Act → Prop} (h : ∀ a, K a → K' a) (hh : qb P o a C K) : qb P o a C K' :=
  let ⟨v, h1, h2⟩ := hh
  ⟨v, h1, h _ h2⟩
theorem wpQb_mono {Q Q' : Act → Prop} (h : ∀ a, Q a → Q' a) : ∀ (l : List Oper) (a : Act), wpQb P ops C Q l a → wpQb P ops C Q' l a
  | [], a, hh => h a hh
  | o :: l, a, hh => by
    simp only [wpQb] at hh ⊢
    split
    · rename_i hw; simp only [hw, if_true] at hh; exact qb_mono' (wpQb_mono h l) hh
    · rename_i hw; simp only [hw] at hh; exact wpQb_mono h l _ hh

def upd (gs : Nat → Nat) (i g : Nat) : Nat → Nat := fun k => if k = i then g else gs k
/-- operation i comes up: it lays a new block, wherever; or it is as above -/
def xOp (P : Program) (ops : Array Oper) (C : World → Prop) (al : Nat → Bool) (i : Nat) (K : (Nat → Nat) → Act → Prop) (gs : Nat → Nat) (a : Act) : Prop :=
  match ops[i]? with
  | none => K gs a
  | some o => if al i = true then ∀ g : Nat, K (upd gs i g) (a.put o.dst (.pointer (some ⟨g, 0, none⟩)))
    else if Region.wanted o (yielded ops a.tmps) then qb P o a C (K gs) else K gs (a.put o.dst undef)

theorem qb_mono {o : Oper} {a : Act} {K K' : Act → Prop} (h : ∀ a, K a → K' a) (hh : qb P o a C K) : qb P o a C K' :=
  let ⟨v, h1, h2⟩ := hh
  ⟨v, h1, h _ h2⟩
theorem xOp_mono {i : Nat} {gs : Nat → Nat} {a : Act} {K K' : (Nat → Nat) → Act → Prop} (h : ∀ gs a, K gs a → K' gs a) (hh : xOp P ops C al i K gs a) : xOp P ops C al i K' gs a := by
  unfold xOp at *
  split
  · exact h _ _ (by simpa [*] using hh)
  · rename_i o ho
    simp only [ho] at hh
    by_cases hal : al i = true
    · rw [if_pos hal] at hh ⊢; exact fun g => h _ _ (hh g)
    · rw [if_neg hal] at hh ⊢
      split
      · rename_i hw; simp only [hw, if_true] at hh; exact qb_mono (h gs) hh
      · rename_i hw; simp only [hw] at hh; exact h _ _ hh

def wpAnyX (P : Program) (md : Region.Mode) (ops : Array Oper) (C : World → Prop) (al : Nat → Bool) (n : Nat) (Q : (Nat → Nat) → Act → Prop) : Nat → Array Bool → (Nat → Nat) → Act → Prop
  | 0, listed, gs, a => (∀ j, j < n → listed.getD j true = true) ∧ Q gs a
  | fuel + 1, listed, gs, a => (∃ i, i ∈ Region.ready md ops listed ∧ i < n) ∧ ∀ i ∈ Region.ready md ops listed, i < n → xOp P ops C al i (wpAnyX P md ops C al n Q fuel (listed.setIfInBounds i true)) gs a

def YieldsX (P : Program) (ops : Array Oper) (C : World → Prop) (o : Oper) (v : Value) (a : Act) : Prop :=
  (Region.wanted o (yielded ops a.tmps) = true ∧ ∀ w, C w → qbAt P o a w v) ∨ (Region.wanted o (yielded ops a.tmps) = false ∧ v = undef)

theorem YieldsX.xOp {i : Nat} {o : Oper} {v : Value} {gs : Nat → Nat} {a : Act} (hi : ops[i]? = some o) (hal : al i = false) (hy : YieldsX P ops C o v a) {K : (Nat → Nat) → Act → Prop} (h : K gs (a.put o.dst v)) : xOp P ops C al i K gs a := by
  unfold YthieengihbbnpaaDoor.xOp
  simp only [hi, hal, Bool.false_eq_true, if_false]
  rcases hy with ⟨hw, hq⟩ | ⟨hw, rfl⟩
  · simp only [hw, if_true]; exact ⟨v, hq, h⟩
  · simp only [hw, Bool.false_eq_true, if_false]; exact h

theorem YieldsX.of_same {o : Oper} {v : Value} {a a' : Act} (hy : YieldsX P ops C o v a) (he : execOp a'.eval o = execOp a.eval o)
    (hw : Region.wanted o (yielded ops a'.tmps) = Region.wanted o (yielded ops a.tmps)) : YieldsX P ops C o v a' := by
  unfold YieldsX qbAt at *
  rw [he, hw]
  exact hy

theorem xOp_put {j : Nat} {oi oj : Oper} {v : Value} (hj : ops[j]? = some oj) (hap : oi.apart ops oj = true)
    (hsi : ∀ cs b, oi.op ≠ .select cs b) (hsj : ∀ cs b, oj.op ≠ .select cs b) {K : (Nat → Nat) → Act → Prop} {gs : Nat → Nat} {a : Act}
    (hy : YieldsX P ops C oi v a) (h : xOp P ops C al j K gs (a.put oi.dst v)) :
    xOp P ops C al j (fun gs' a' => YieldsX P ops C oi v a' ∧ K gs' (a'.put oi.dst v)) gs a := by
  obtain ⟨h1, h2, h3⟩ := Oper.apart_spec hap
  have keep : ∀ (a : Act), YieldsX P ops C oi v a → ∀ u, YieldsX P ops C oi v (a.put oj.dst u) := fun a hy u =>
    hy.of_same (execOp_put oi hsi a oj.dst u h3) (wanted_put oi a oj.dst u h3)
  unfold xOp at *
  simp only [hj] at *
  by_cases hal : al j = true
  · rw [if_pos hal] at h ⊢
    exact fun g => ⟨keep a hy _, by rw [← Act.put_comm a v _ h2]; exact h g⟩
  · rw [if_neg hal] at h ⊢
    rw [wanted_put oj a oi.dst v h1] at h
    split
    · rename_i hw
      simp only [hw, if_true] at h
      obtain ⟨u, hu, hn⟩ := h
      refine ⟨u, fun w hw' => ?_, keep a hy u, by rw [← Act.put_comm a v u h2]; exact hn⟩
      have := hu w hw'
      unfold qbAt at *
      rwa [execOp_put oj hsj a oi.dst v h1] at this
    · rename_i hw
      simp only [hw] at h
      exact ⟨keep a hy _, by rw [← Act.put_comm a v undef h2]; exact h⟩

theorem wpAnyX_first {Q : (Nat → Nat) → Act → Prop} {i : Nat} {oi : Oper} {v : Value} (hi : ops[i]? = some oi) (hin : i < n) (hal : al i = false) (hsel : ∀ (j : Nat) (o : Oper) cs b, ops[j]? = some o → o.op ≠ .select cs b) :
    ∀ (fuel : Nat) (listed : Array Bool) (gs : Nat → Nat) (a : Act),
      (∀ j oj, ops[j]? = some oj → j ≠ i → listed.getD j true = false → (∀ e ∈ oj.after, Region.binds md e = true → e.on ≠ i) → oi.apart ops oj = true) →
      i ∈ Region.ready md ops listed → YieldsX P ops C oi v a →
      wpAnyX P md ops C al n Q fuel (listed.setIfInBounds i true) gs (a.put oi.dst v) → wpAnyX P md ops C al n Q (fuel + 1) listed gs a := by
  intro fuel
  induction fuel with
  | zero =>
    intro listed gs a _ hr hy H
    refine ⟨⟨i, hr, hin⟩, fun j hj hjn => ?_⟩
    by_cases hji : j = i
    · subst hji; exact hy.xOp hi hal H
    · have h1 := (mem_ready.1 (ready_mono hj hji)).1
      have h2 := H.1 j hjn
      rw [h1] at h2; cases h2
  | succ fuel ih =>
    intro listed gs a hfree hr hy H
    refine ⟨⟨i, hr, hin⟩, fun j hj hjn => ?_⟩
    by_cases hji : j = i
    · subst hji; exact hy.xOp hi hal H
    · have h1 := H.2 j (ready_mono hj hji) hjn
      obtain ⟨hjun, oj, hoj, hall⟩ := mem_ready.1 hj
      have hnot : ∀ e ∈ oj.after, Region.binds md e = true → e.on ≠ i := fun e he hb heq => by
        have h1 := hall e he hb
        have h0 := (mem_ready.1 hr).1
        rw [heq] at h1
        rcases Nat.lt_or_ge i listed.size with h' | h'
        · simp [h'] at h0 h1; rw [h0] at h1; cases h1
        · simp [Array.getElem?_eq_none h'] at h1
      have h2 := xOp_put hoj (hfree j oj hoj hji hjun hnot) (fun cs b => hsel i oi cs b hi) (fun cs b => hsel j oj cs b hoj) hy h1
      have hfree' : ∀ k ok, ops[k]? = some ok → k ≠ i → (listed.setIfInBounds j true).getD k true = false →
          (∀ e ∈ ok.after, Region.binds md e = true → e.on ≠ i) → oi.apart ops ok = true := fun k ok hk hki hun hno => by
        refine hfree k ok hk hki ?_ hno
        by_cases hjk : j = k
        · subst hjk; exact hjun
        · rw [getD_set_ne true hjk] at hun; exact hun
      refine xOp_mono (fun gs' a' h3 => ih (listed.setIfInBounds j true) gs' a' hfree' (ready_mono hr (Ne.symm hji)) h3.1 ?_) h2
      rw [Array.setIfInBounds_comm _ _ hji]
      exact h3.2

/-- the lexical walk of what reads and calls: the first operations; 'listed' goes along -/
def lexQ (md : Region.Mode) (ops : Array Oper) (al : Nat → Bool) (n : Nat) : Nat → Nat → Array Bool → Bool
  | 0, _, _ => true
  | fuel + 1, k, listed => decide (k < n) && !al k && (Region.ready md ops listed).contains k && Region.free md ops listed k && lexQ md ops al n fuel (k + 1) (listed.setIfInBounds k true)
def listQ : Nat → Nat → Array Bool → Array Bool
  | 0, _, listed => listed
  | fuel + 1, k, listed => listQ fuel (k + 1) (listed.setIfInBounds k true)
theorem wpAnyX_lex {Q : (Nat → Nat) → Act → Prop} (hs : Region.noSelect ops = true) (r : Nat) : ∀ (l : List Oper) (k : Nat) (listed : Array Bool) (gs : Nat → Nat) (a : Act), (∀ j, j < l.length → l[j]? = ops[k + j]?) →
    lexQ md ops al n l.length k listed = true → wpQb P ops C (wpAnyX P md ops C al n Q r (listQ l.length k listed) gs) l a → wpAnyX P md ops C al n Q (l.length + r) listed gs a
  | [], _, listed, _, _, _, hB, h => by simpa [listQ, wpQb] using h
  | o :: l, k, listed, gs, a, hl, hB, h => by
    have h0 : ops[k]? = some o := by simpa using (hl 0 (by simp)).symm
    simp only [List.length_cons, lexQ, Bool.and_eq_true, decide_eq_true_eq, Bool.not_eq_true'] at hB
    obtain ⟨⟨⟨⟨hkn, hak⟩, hr⟩, hf⟩, hB'⟩ := hB
    have step : ∃ v, YieldsX P ops C o v a ∧ wpQb P ops C (wpAnyX P md ops C al n Q r (listQ (l.length + 1) k listed) gs) l (a.put o.dst v) := by
      simp only [wpQb] at h
      by_cases hw : Region.wanted o (yielded ops a.tmps) = true
      · simp only [hw, if_true] at h
        obtain ⟨v, h1, h2⟩ := h
        exact ⟨v, .inl ⟨hw, h1⟩, h2⟩
      · simp only [hw] at h
        exact ⟨undef, .inr ⟨by simpa using hw, rfl⟩, h⟩
    obtain ⟨v, hy, hK⟩ := step
    have e : (o :: l).length + r = (l.length + r) + 1 := by simp; omega
    rw [e]
    exact wpAnyX_first h0 hkn hak (Region.noSelect_spec hs) (l.length + r) listed gs a (Region.free_spec h0 hf) (by simpa using hr) hy
      (wpAnyX_lex hs r l (k + 1) _ gs _ (fun j hj => by have := hl (j + 1) (by simpa using hj); simpa [Nat.add_assoc, Nat.add_comm 1 j] using this) hB' hK)
end
end Go.Proofs.YthieengihbbnpaaDoor
