/- Words for walks: a world with some blocks laid behind it and some orders drawn. -/
import Derived.Below
import Derived.Deep.Draws
import Derived.Tactics
import Derived.WalkKit
import Derived.KernelRfl
import Derived.RowKit3
import Derived.Deep.LoopGhost
import Derived.Deep.QuietTactic
import Derived.BigQuiet
import Derived.Laws.Externs
import Derived.Lib.QuietBelow
import Derived.Lib.Hide
import Derived.Laws.IdiomStrings
import Derived.Laws.NewBlocks
namespace Go.Proofs.YthieengihbbnpaaDoor
open Go.RowKit Go.Sort
set_option linter.unusedVariables false

theorem belowRefl (w : World) : Below w.heap.size w w := Below.refl _ _
theorem belowDrewN {B : Nat} {w W : World} (h : Below B w W) (n : Nat) : Below B w (W.drewN n) := ⟨h.os, h.tape, h.output, h.size, h.block⟩
theorem belowDrew {B : Nat} {w W : World} (h : Below B w W) : Below B w W.drew := ⟨h.os, h.tape, h.output, h.size, h.block⟩
theorem belowAlloc {w W : World} (h : Below w.heap.size w W) (o : Obj) : Below w.heap.size w (W.alloc o) := h.alloc h.size o
theorem belowSet {w W : World} {g j : Nat} {v : Value} (h : Below w.heap.size w W) (hg : w.heap.size ≤ g) : Below w.heap.size w (W.setCell ⟨g, j, none⟩ v) := h.setCell hg _
theorem belowThen {w W w2 : World} (h : Below w.heap.size w W) (k : Below W.heap.size W w2) : Below w.heap.size w w2 :=
  h.trans ⟨k.os, k.tape, k.output, k.size, fun i hi => k.block i (Nat.lt_of_lt_of_le hi h.size)⟩
theorem bcell {W w1 : World} (hb : Below W.heap.size W w1) : (∀ b o, b < W.heap.size → w1.cell? ⟨b, o, none⟩ = W.cell? ⟨b, o, none⟩) ∧ (∀ b o, b < W.heap.size → w1.frozen? ⟨b, o, none⟩ = W.frozen? ⟨b, o, none⟩) :=
  ⟨fun b o h => hb.cell (p := ⟨b, o, none⟩) h, fun b o h => hb.frozen (p := ⟨b, o, none⟩) h⟩
theorem retI {k : IntKind} {a b : Int} (h : a = b) : Ending.returned (.int k a) = .returned (.int k b) := by rw [h]
theorem retB {a b : Bool} (h : a = b) : Ending.returned (.bool a) = .returned (.bool b) := by rw [h]

/-- w, with some blocks laid behind it, and some orders drawn -/
def gw (w : World) (p : Regrown) : World := grow (redrawn w p.d) p.os
theorem gw_start (w : World) : ∃ p, w = gw w p := ⟨⟨w.drawn, #[]⟩, by unfold gw; rw [grow_empty]; rfl⟩
theorem below_gw1 (w : World) (p : Regrown) : Below w.heap.size w (gw w p) := below_regrown w p.d p.os
theorem below_gw {w W : World} (h : Below w.heap.size w W) (p : Regrown) : Below w.heap.size w (gw W p) := belowThen h (below_gw1 W p)
theorem cell_gw {w : World} {a : Addr} {v : Value} (h : w.cell? a = some v) (p : Regrown) : (gw w p).cell? a = some v := cell_regrown h p.d p.os
theorem size_gw (w : World) (p : Regrown) : w.heap.size ≤ (gw w p).heap.size := (below_gw1 w p).size
theorem gw_of_below {w w' : World} (h : Below w.heap.size w w') : ∃ q, w' = gw w q := regrown_of_below h
theorem gw_gw (w : World) (p q : Regrown) : ∃ r, gw (gw w p) q = gw w r := gw_of_below (below_gw (below_gw1 w p) q)
theorem callsGw {P : Program} {f : FuncId} {args : Array Value} {w : World} {p : Regrown} {v : Value}
    (h : Calls P f args (gw w p) fun e w' => e = .returned v ∧ Below (gw w p).heap.size (gw w p) w') : Calls P f args (gw w p) fun e w'' => e = .returned v ∧ ∃ q : Regrown, w'' = gw w q :=
  h.mono fun _ _ ⟨he, hb⟩ => ⟨he, gw_of_below (belowThen (below_gw1 w p) hb)⟩
theorem wp_gw {P : Program} {id : Nat} {Q : Exit → Act → World → Prop} {a : Act} {w : World} {l : List Oper} (p : Regrown) (hm : P.follows .mixedOrders = true) (hB : Region.lexB .any l.toArray = true)
    (h : wpQuiet P l.toArray (fun w' => ∃ q : Regrown, w' = gw w q) (fun a' => ∀ w', (∃ q : Regrown, w' = gw w q) → Q .normal a' w') l a) : (Code.region id l.toArray true).wp P Q a (gw w p) :=
  wp_region_quiet (C := fun w' => ∃ q : Regrown, w' = gw w q) hm hB ⟨⟨p.d + 1, p.os⟩, rfl⟩ (by simpa using h)
theorem quietBelow {P : Program} {f : FuncId} {args : Array Value} {w : World} {v : Value} (h : Calls P f args w fun e w' => e = .returned v ∧ w' = w) : Calls P f args w fun e w' => e = .returned v ∧ Below w.heap.size w w' :=
  h.mono fun _ _ ⟨he, hw⟩ => ⟨he, hw ▸ belowRefl w⟩
theorem drawnBelow {P : Program} {f : FuncId} {args : Array Value} {w : World} {v : Value} (h : Calls P f args w fun e w' => e = .returned v ∧ ∃ n, w' = w.drewN n) : Calls P f args w fun e w' => e = .returned v ∧ Below w.heap.size w w' :=
  h.mono fun _ _ ⟨he, n, hw⟩ => ⟨he, hw ▸ belowDrewN (belowRefl w) n⟩

theorem cellOld {W : World} {a : Addr} {v : Value} (o : Obj) (h : W.cell? a = some v) : (W.alloc o).cell? a = some v := by
  rw [World.cell?_alloc_lt _ _ _ (World.block_lt_of_cell? W a h)]; exact h
theorem cellNew (w : World) (A : Array Value) (T : TypeId) (fr : Nat × Nat) (j : Nat) (v : Value) (h : A[j]? = some v) : (w.alloc (.cells A T fr)).cell? ⟨w.heap.size, j, none⟩ = some v := by
  rw [World.cell?_alloc_mark]; exact h
theorem sizeAlloc (w : World) (o : Obj) : (w.alloc o).heap.size = w.heap.size + 1 := by simp
/-! What lies in w reads as it did, behind more blocks; and what is stored into it is stored into w. -/
theorem gw_cell {X : World} {b o : Nat} (q : Regrown) (h : b < X.heap.size) : (gw X q).cell? ⟨b, o, none⟩ = X.cell? ⟨b, o, none⟩ := (below_gw1 X q).cell (p := ⟨b, o, none⟩) h
theorem gw_frozen {X : World} {b o : Nat} (q : Regrown) (h : b < X.heap.size) : (gw X q).frozen? ⟨b, o, none⟩ = X.frozen? ⟨b, o, none⟩ := (below_gw1 X q).frozen (p := ⟨b, o, none⟩) h
theorem gw_lt {X : World} {n : Nat} (q : Regrown) (h : n < X.heap.size) : n < (gw X q).heap.size := Nat.lt_of_lt_of_le h (size_gw X q)
theorem lt_drew {X : World} {n : Nat} (h : n < X.heap.size) : n < X.drew.heap.size := h
theorem modify_append {α : Type} (a b : Array α) (i : Nat) (h : i < a.size) (f : α → α) : (a ++ b).modify i f = a.modify i f ++ b := by
  apply Array.ext_getElem?
  intro k
  rw [Array.getElem?_modify, Array.getElem?_append, Array.getElem?_append, Array.size_modify, Array.getElem?_modify]
  by_cases hk : k < a.size
  · simp only [if_pos hk]
  · simp only [if_neg hk]
    rw [if_neg (by omega)]
theorem gw_setCell {X : World} {b o : Nat} {v : Value} (q : Regrown) (h : b < X.heap.size) : (gw X q).setCell ⟨b, o, none⟩ v = gw (X.setCell ⟨b, o, none⟩ v) q := by
  unfold gw grow redrawn World.setCell
  congr 1
  exact modify_append _ _ _ h _
theorem wp_gw0 {P : Program} {id : Nat} {Q : Exit → Act → World → Prop} {a : Act} {w : World} {l : List Oper} (hm : P.follows .mixedOrders = true) (hB : Region.lexB .any l.toArray = true)
    (h : wpQuiet P l.toArray (fun w' => ∃ q : Regrown, w' = gw w q) (fun a' => ∀ w', (∃ q : Regrown, w' = gw w q) → Q .normal a' w') l a) : (Code.region id l.toArray true).wp P Q a w :=
  wp_region_quiet (C := fun w' => ∃ q : Regrown, w' = gw w q) hm hB ⟨⟨w.drawn + 1, #[]⟩, by unfold gw; rw [grow_empty]; rfl⟩ (by simpa using h)
/-- one box behind w -/
theorem boxed1 (w : World) (A : Array Value) (T : TypeId) : ∃ W, w.alloc (.cells A T) = W ∧ Below w.heap.size w W ∧ w.heap.size < W.heap.size ∧
    (∀ j v, A[j]? = some v → W.cell? ⟨w.heap.size, j, none⟩ = some v) :=
  ⟨_, rfl, belowAlloc (belowRefl w) _, by simp, fun j v h => cellNew w A T _ j v h⟩
/-- two boxes behind w -/
theorem boxed2 (w : World) (A B : Array Value) (T U : TypeId) : ∃ W, (w.alloc (.cells A T)).alloc (.cells B U) = W ∧ Below w.heap.size w W ∧ w.heap.size + 1 < W.heap.size ∧
    (∀ j v, A[j]? = some v → W.cell? ⟨w.heap.size, j, none⟩ = some v) ∧ (∀ j v, B[j]? = some v → W.cell? ⟨w.heap.size + 1, j, none⟩ = some v) :=
  ⟨_, rfl, belowAlloc (belowAlloc (belowRefl w) _) _, by simp, fun j v h => cellOld _ (cellNew w A T _ j v h), fun j v h => by rw [← sizeAlloc w (.cells A T)]; exact cellNew _ B U _ j v h⟩
/-- four boxes behind w -/
theorem boxed4 (w : World) (A B C D : Array Value) (T U V X : TypeId) : ∃ W, (((w.alloc (.cells A T)).alloc (.cells B U)).alloc (.cells C V)).alloc (.cells D X) = W ∧ Below w.heap.size w W ∧ w.heap.size + 4 = W.heap.size ∧
    (∀ j v, A[j]? = some v → W.cell? ⟨w.heap.size, j, none⟩ = some v) ∧ (∀ j v, B[j]? = some v → W.cell? ⟨w.heap.size + 1, j, none⟩ = some v) ∧
    (∀ j v, C[j]? = some v → W.cell? ⟨w.heap.size + 1 + 1, j, none⟩ = some v) ∧ (∀ j v, D[j]? = some v → W.cell? ⟨w.heap.size + 1 + 1 + 1, j, none⟩ = some v) ∧
    W.heap[w.heap.size + 1 + 1]? = some (.cells C V) := by
  refine ⟨_, rfl, belowAlloc (belowAlloc (belowAlloc (belowAlloc (belowRefl w) _) _) _) _, by simp, fun j v h => cellOld _ (cellOld _ (cellOld _ (cellNew w A T _ j v h))), fun j v h => ?_, fun j v h => ?_, fun j v h => ?_, ?_⟩
  · rw [← sizeAlloc w (.cells A T)]; exact cellOld _ (cellOld _ (cellNew _ B U _ j v h))
  · rw [← sizeAlloc w (.cells A T), ← sizeAlloc (w.alloc (.cells A T)) (.cells B U)]; exact cellOld _ (cellNew _ C V _ j v h)
  · rw [← sizeAlloc w (.cells A T), ← sizeAlloc (w.alloc (.cells A T)) (.cells B U), ← sizeAlloc ((w.alloc (.cells A T)).alloc (.cells B U)) (.cells C V)]; exact cellNew _ D X _ j v h
  · have e : w.heap.size + 1 + 1 = ((w.alloc (.cells A T)).alloc (.cells B U)).heap.size := by simp
    have n : (((w.alloc (.cells A T)).alloc (.cells B U)).alloc (.cells C V)).heap[w.heap.size + 1 + 1]? = some (.cells C V) := by
      rw [e]; exact Array.getElem?_push_size
    rw [(belowAlloc (belowRefl (((w.alloc (.cells A T)).alloc (.cells B U)).alloc (.cells C V))) (.cells D X)).block _ (by simp)]; exact n
/-- a block of w, whole, behind some more blocks -/
theorem block_gw {w : World} {g : Nat} {o : Obj} (h : w.heap[g]? = some o) (p : Regrown) : (gw w p).heap[g]? = some o := by
  have hlt : g < w.heap.size := by
    rcases Nat.lt_or_ge g w.heap.size with h' | h'
    · exact h'
    · rw [Array.getElem?_eq_none h'] at h; cases h
  rw [(below_gw1 w p).block g hlt]; exact h
theorem cell_below1 {w w1 : World} (h : Below w.heap.size w w1) {a : Addr} {v : Value} (hc : w.cell? a = some v) : w1.cell? a = some v := (h.cell (World.block_lt_of_cell? w a hc)).trans hc
theorem cell_blk {w : World} {g : Nat} {A : Array Value} {T : TypeId} {fr : Nat × Nat} (h : w.heap[g]? = some (.cells A T fr)) (j : Nat) : w.cell? ⟨g, j, none⟩ = A[j]? := by
  unfold World.cell?; rw [h]; rfl
theorem frozen_blk {w : World} {g : Nat} {A : Array Value} {T : TypeId} (h : w.heap[g]? = some (.cells A T)) (j : Nat) : w.frozen? ⟨g, j, none⟩ = false := by
  unfold World.frozen?; rw [h]; simp
end Go.Proofs.YthieengihbbnpaaDoor
