/- One base world with its own blocks told whole; the words by which every walk goes on. -/
import Derived.Test.YthieengihbbnpaaDoorK3
namespace Go.Proofs.YthieengihbbnpaaDoor
open Go Go.RowKit Go.Sort
set_option linter.unusedVariables false
theorem blk_new (w : World) (o : Obj) : (w.alloc o).heap[w.heap.size]? = some o := Array.getElem?_push_size
theorem blk_old {w : World} {g : Nat} {x : Obj} (o : Obj) (h : w.heap[g]? = some x) : (w.alloc o).heap[g]? = some x := blk_below h (belowAlloc (belowRefl w) o)
theorem blk_cell {w : World} {g : Nat} {A : Array Value} {T : TypeId} {fr : Nat × Nat} (h : w.heap[g]? = some (.cells A T fr)) (j : Nat) (v : Value) (hv : A[j]? = some v) : w.cell? ⟨g, j, none⟩ = some v := (cell_blk h j).trans hv
theorem blk_frozen {w : World} {g : Nat} {A : Array Value} {T : TypeId} (h : w.heap[g]? = some (.cells A T)) (q : Regrown) (j : Nat) : (gw w q).frozen? ⟨g, j, none⟩ = false := frozen_blk (block_gw h q) j
theorem lay1 (w : World) (A0 : Array Value) (T0 : TypeId) : ∃ W, w.alloc (.cells A0 T0) = W ∧ Below w.heap.size w W ∧ w.heap.size + 1 = W.heap.size ∧ W.heap[w.heap.size]? = some (.cells A0 T0) := ⟨_, rfl, belowAlloc (belowRefl w) _, by simp, blk_new w _⟩
theorem lay2 (w : World) (A0 : Array Value) (T0 : TypeId) (A1 : Array Value) (T1 : TypeId) : ∃ W, (w.alloc (.cells A0 T0)).alloc (.cells A1 T1) = W ∧ Below w.heap.size w W ∧ w.heap.size + 2 = W.heap.size ∧ W.heap[w.heap.size]? = some (.cells A0 T0) ∧ W.heap[w.heap.size + 1]? = some (.cells A1 T1) := by
  obtain ⟨X, hX, hB, hS, b0⟩ := lay1 w A0 T0
  subst hX
  refine ⟨_, rfl, belowAlloc hB _, by simp, blk_old _ b0, ?_⟩
  have h := blk_new (w.alloc (.cells A0 T0)) (.cells A1 T1)
  rw [← hS] at h
  exact h
theorem lay3 (w : World) (A0 : Array Value) (T0 : TypeId) (A1 : Array Value) (T1 : TypeId) (A2 : Array Value) (T2 : TypeId) : ∃ W, ((w.alloc (.cells A0 T0)).alloc (.cells A1 T1)).alloc (.cells A2 T2) = W ∧ Below w.heap.size w W ∧ w.heap.size + 3 = W.heap.size ∧ W.heap[w.heap.size]? = some (.cells A0 T0) ∧ W.heap[w.heap.size + 1]? = some (.cells A1 T1) ∧ W.heap[w.heap.size + 1 + 1]? = some (.cells A2 T2) := by
  obtain ⟨X, hX, hB, hS, b0, b1⟩ := lay2 w A0 T0 A1 T1
  subst hX
  refine ⟨_, rfl, belowAlloc hB _, by simp, blk_old _ b0, blk_old _ b1, ?_⟩
  have h := blk_new ((w.alloc (.cells A0 T0)).alloc (.cells A1 T1)) (.cells A2 T2)
  rw [← hS] at h
  exact h
theorem lay4 (w : World) (A0 : Array Value) (T0 : TypeId) (A1 : Array Value) (T1 : TypeId) (A2 : Array Value) (T2 : TypeId) (A3 : Array Value) (T3 : TypeId) : ∃ W, (((w.alloc (.cells A0 T0)).alloc (.cells A1 T1)).alloc (.cells A2 T2)).alloc (.cells A3 T3) = W ∧ Below w.heap.size w W ∧ w.heap.size + 4 = W.heap.size ∧ W.heap[w.heap.size]? = some (.cells A0 T0) ∧ W.heap[w.heap.size + 1]? = some (.cells A1 T1) ∧ W.heap[w.heap.size + 1 + 1]? = some (.cells A2 T2) ∧ W.heap[w.heap.size + 1 + 1 + 1]? = some (.cells A3 T3) := by
  obtain ⟨X, hX, hB, hS, b0, b1, b2⟩ := lay3 w A0 T0 A1 T1 A2 T2
  subst hX
  refine ⟨_, rfl, belowAlloc hB _, by simp, blk_old _ b0, blk_old _ b1, blk_old _ b2, ?_⟩
  have h := blk_new (((w.alloc (.cells A0 T0)).alloc (.cells A1 T1)).alloc (.cells A2 T2)) (.cells A3 T3)
  rw [← hS] at h
  exact h
theorem lay5 (w : World) (A0 : Array Value) (T0 : TypeId) (A1 : Array Value) (T1 : TypeId) (A2 : Array Value) (T2 : TypeId) (A3 : Array Value) (T3 : TypeId) (A4 : Array Value) (T4 : TypeId) : ∃ W, ((((w.alloc (.cells A0 T0)).alloc (.cells A1 T1)).alloc (.cells A2 T2)).alloc (.cells A3 T3)).alloc (.cells A4 T4) = W ∧ Below w.heap.size w W ∧ w.heap.size + 5 = W.heap.size ∧ W.heap[w.heap.size]? = some (.cells A0 T0) ∧ W.heap[w.heap.size + 1]? = some (.cells A1 T1) ∧ W.heap[w.heap.size + 1 + 1]? = some (.cells A2 T2) ∧ W.heap[w.heap.size + 1 + 1 + 1]? = some (.cells A3 T3) ∧ W.heap[w.heap.size + 1 + 1 + 1 + 1]? = some (.cells A4 T4) := by
  obtain ⟨X, hX, hB, hS, b0, b1, b2, b3⟩ := lay4 w A0 T0 A1 T1 A2 T2 A3 T3
  subst hX
  refine ⟨_, rfl, belowAlloc hB _, by simp, blk_old _ b0, blk_old _ b1, blk_old _ b2, blk_old _ b3, ?_⟩
  have h := blk_new ((((w.alloc (.cells A0 T0)).alloc (.cells A1 T1)).alloc (.cells A2 T2)).alloc (.cells A3 T3)) (.cells A4 T4)
  rw [← hS] at h
  exact h
theorem lay6 (w : World) (A0 : Array Value) (T0 : TypeId) (A1 : Array Value) (T1 : TypeId) (A2 : Array Value) (T2 : TypeId) (A3 : Array Value) (T3 : TypeId) (A4 : Array Value) (T4 : TypeId) (A5 : Array Value) (T5 : TypeId) : ∃ W, (((((w.alloc (.cells A0 T0)).alloc (.cells A1 T1)).alloc (.cells A2 T2)).alloc (.cells A3 T3)).alloc (.cells A4 T4)).alloc (.cells A5 T5) = W ∧ Below w.heap.size w W ∧ w.heap.size + 6 = W.heap.size ∧ W.heap[w.heap.size]? = some (.cells A0 T0) ∧ W.heap[w.heap.size + 1]? = some (.cells A1 T1) ∧ W.heap[w.heap.size + 1 + 1]? = some (.cells A2 T2) ∧ W.heap[w.heap.size + 1 + 1 + 1]? = some (.cells A3 T3) ∧ W.heap[w.heap.size + 1 + 1 + 1 + 1]? = some (.cells A4 T4) ∧ W.heap[w.heap.size + 1 + 1 + 1 + 1 + 1]? = some (.cells A5 T5) := by
  obtain ⟨X, hX, hB, hS, b0, b1, b2, b3, b4⟩ := lay5 w A0 T0 A1 T1 A2 T2 A3 T3 A4 T4
  subst hX
  refine ⟨_, rfl, belowAlloc hB _, by simp, blk_old _ b0, blk_old _ b1, blk_old _ b2, blk_old _ b3, blk_old _ b4, ?_⟩
  have h := blk_new (((((w.alloc (.cells A0 T0)).alloc (.cells A1 T1)).alloc (.cells A2 T2)).alloc (.cells A3 T3)).alloc (.cells A4 T4)) (.cells A5 T5)
  rw [← hS] at h
  exact h
theorem lay7 (w : World) (A0 : Array Value) (T0 : TypeId) (A1 : Array Value) (T1 : TypeId) (A2 : Array Value) (T2 : TypeId) (A3 : Array Value) (T3 : TypeId) (A4 : Array Value) (T4 : TypeId) (A5 : Array Value) (T5 : TypeId) (A6 : Array Value) (T6 : TypeId) : ∃ W, ((((((w.alloc (.cells A0 T0)).alloc (.cells A1 T1)).alloc (.cells A2 T2)).alloc (.cells A3 T3)).alloc (.cells A4 T4)).alloc (.cells A5 T5)).alloc (.cells A6 T6) = W ∧ Below w.heap.size w W ∧ w.heap.size + 7 = W.heap.size ∧ W.heap[w.heap.size]? = some (.cells A0 T0) ∧ W.heap[w.heap.size + 1]? = some (.cells A1 T1) ∧ W.heap[w.heap.size + 1 + 1]? = some (.cells A2 T2) ∧ W.heap[w.heap.size + 1 + 1 + 1]? = some (.cells A3 T3) ∧ W.heap[w.heap.size + 1 + 1 + 1 + 1]? = some (.cells A4 T4) ∧ W.heap[w.heap.size + 1 + 1 + 1 + 1 + 1]? = some (.cells A5 T5) ∧ W.heap[w.heap.size + 1 + 1 + 1 + 1 + 1 + 1]? = some (.cells A6 T6) := by
  obtain ⟨X, hX, hB, hS, b0, b1, b2, b3, b4, b5⟩ := lay6 w A0 T0 A1 T1 A2 T2 A3 T3 A4 T4 A5 T5
  subst hX
  refine ⟨_, rfl, belowAlloc hB _, by simp, blk_old _ b0, blk_old _ b1, blk_old _ b2, blk_old _ b3, blk_old _ b4, blk_old _ b5, ?_⟩
  have h := blk_new ((((((w.alloc (.cells A0 T0)).alloc (.cells A1 T1)).alloc (.cells A2 T2)).alloc (.cells A3 T3)).alloc (.cells A4 T4)).alloc (.cells A5 T5)) (.cells A6 T6)
  rw [← hS] at h
  exact h

/-! stores into blocks told whole -/
theorem set_size (W : World) (a : Addr) (v : Value) : (W.setCell a v).heap.size = W.heap.size := by unfold World.setCell; simp
theorem set_blk {W : World} {b j : Nat} {v : Value} {A : Array Value} {T : TypeId} {fr : Nat × Nat} (h : W.heap[b]? = some (.cells A T fr)) : (W.setCell ⟨b, j, none⟩ v).heap[b]? = some (.cells (A.setIfInBounds j v) T fr) := by
  unfold World.setCell
  rw [Array.getElem?_modify]
  simp [h]
theorem set_ne {W : World} {b c j : Nat} {v : Value} {o : Obj} (hn : c ≠ b) (h : W.heap[c]? = some o) : (W.setCell ⟨b, j, none⟩ v).heap[c]? = some o := by
  rw [Below.heap_setCell _ _ _ _ hn]; exact h
theorem set_gw {W : World} {b j : Nat} {v : Value} {o : Obj} (h : W.heap[b]? = some o) (q : Regrown) : (gw W q).setCell ⟨b, j, none⟩ v = gw (W.setCell ⟨b, j, none⟩ v) q := gw_setCell q (blk_lt h)
/-- a store: the base world is another one, with the block changed -/
theorem stored {W : World} {b j : Nat} {v : Value} {A : Array Value} {T : TypeId} (q : Regrown) (h : W.heap[b]? = some (.cells A T)) :
    ∃ X, (gw W q).setCell ⟨b, j, none⟩ v = gw X q ∧ X.heap.size = W.heap.size ∧ X.heap[b]? = some (.cells (A.setIfInBounds j v) T) ∧ (∀ (c : Nat) (o : Obj), c ≠ b → W.heap[c]? = some o → X.heap[c]? = some o) ∧
      (∀ w : World, w.heap.size ≤ b → Below w.heap.size w W → Below w.heap.size w X) :=
  ⟨_, set_gw h q, set_size _ _ _, set_blk h, fun c o hn hc => set_ne hn hc, fun w hw hB => belowSet hB hw⟩
/-- a new block: the base world is another one -/
theorem laid (W : World) (A : Array Value) (T : TypeId) (q : Regrown) :
    ∃ X n, (gw W q).alloc (.cells A T) = gw X ⟨q.d, #[]⟩ ∧ (gw W q).heap.size = n ∧ W.heap.size ≤ n ∧ n < X.heap.size ∧ X.heap[n]? = some (.cells A T) ∧ (∀ (c : Nat) (o : Obj), W.heap[c]? = some o → X.heap[c]? = some o) ∧
      (∀ w : World, Below w.heap.size w W → Below w.heap.size w X) := by
  refine ⟨(gw W q).alloc (.cells A T), _, ?_, rfl, size_gw W q, by simp, blk_new _ _, fun c o h => blk_old _ (block_gw h q), fun w hB => belowAlloc (below_gw hB q) _⟩
  unfold gw; rw [grow_empty]; rfl
theorem drew_gw (W : World) (q : Regrown) : (gw W q).drew = gw W ⟨q.d + 1, q.os⟩ := rfl
/-- two new blocks -/
theorem laid2 (W : World) (A B : Array Value) (T U : TypeId) (q : Regrown) :
    ∃ X n, ((gw W q).alloc (.cells A T)).alloc (.cells B U) = gw X ⟨q.d, #[]⟩ ∧ (gw W q).heap.size = n ∧ W.heap.size ≤ n ∧ n + 1 < X.heap.size ∧ X.heap[n]? = some (.cells A T) ∧ X.heap[n + 1]? = some (.cells B U) ∧
      (∀ (c : Nat) (o : Obj), W.heap[c]? = some o → X.heap[c]? = some o) ∧ (∀ w : World, Below w.heap.size w W → Below w.heap.size w X) := by
  refine ⟨((gw W q).alloc (.cells A T)).alloc (.cells B U), _, ?_, rfl, size_gw W q, by simp, blk_old _ (blk_new _ _), ?_, fun c o h => blk_old _ (blk_old _ (block_gw h q)), fun w hB => belowAlloc (belowAlloc (below_gw hB q) _) _⟩
  · unfold gw; rw [grow_empty]; rfl
  · have h := blk_new ((gw W q).alloc (.cells A T)) (.cells B U)
    rw [sizeAlloc] at h
    exact h
theorem laidS1 (W : World) (q : Regrown) (T : TypeId) (x0 : Value) (v0 : Value) :
    ∃ X n, ((gw W q).alloc (.cells #[x0] T)).setCell ⟨(gw W q).heap.size, 0, none⟩ v0 = gw X ⟨q.d, #[]⟩ ∧ (gw W q).heap.size = n ∧ W.heap.size ≤ n ∧ n < X.heap.size ∧ X.heap[n]? = some (.cells #[v0] T) ∧ (∀ (c : Nat) (o : Obj), W.heap[c]? = some o → X.heap[c]? = some o) ∧
      (∀ w : World, Below w.heap.size w W → Below w.heap.size w X) := by
  obtain ⟨X, n, e, hn, h1, h2, h3, h4, h5⟩ := laid W #[x0] T q
  rw [e, hn]
  obtain ⟨X0, e0, s0, b0, k0, l0⟩ := stored (v := v0) (j := 0) ⟨q.d, #[]⟩ h3
  rw [e0]
  refine ⟨X0, n, rfl, rfl, h1, by omega, by simpa using b0, fun c o ho => ?_, fun w hw => ?_⟩
  · have hc : c ≠ n := by have := blk_lt ho; omega
    exact k0 c o hc (h4 c o ho)
  · have hwn : w.heap.size ≤ n := Nat.le_trans hw.size h1
    exact l0 w hwn (h5 w hw)
theorem laidS2 (W : World) (q : Regrown) (T : TypeId) (x0 x1 : Value) (v0 v1 : Value) :
    ∃ X n, (((gw W q).alloc (.cells #[x0, x1] T)).setCell ⟨(gw W q).heap.size, 0, none⟩ v0).setCell ⟨(gw W q).heap.size, 1, none⟩ v1 = gw X ⟨q.d, #[]⟩ ∧ (gw W q).heap.size = n ∧ W.heap.size ≤ n ∧ n < X.heap.size ∧ X.heap[n]? = some (.cells #[v0, v1] T) ∧ (∀ (c : Nat) (o : Obj), W.heap[c]? = some o → X.heap[c]? = some o) ∧
      (∀ w : World, Below w.heap.size w W → Below w.heap.size w X) := by
  obtain ⟨X, n, e, hn, h1, h2, h3, h4, h5⟩ := laid W #[x0, x1] T q
  rw [e, hn]
  obtain ⟨X0, e0, s0, b0, k0, l0⟩ := stored (v := v0) (j := 0) ⟨q.d, #[]⟩ h3
  rw [e0]
  obtain ⟨X1, e1, s1, b1, k1, l1⟩ := stored (v := v1) (j := 1) ⟨q.d, #[]⟩ b0
  rw [e1]
  refine ⟨X1, n, rfl, rfl, h1, by omega, by simpa using b1, fun c o ho => ?_, fun w hw => ?_⟩
  · have hc : c ≠ n := by have := blk_lt ho; omega
    exact k1 c o hc (k0 c o hc (h4 c o ho))
  · have hwn : w.heap.size ≤ n := Nat.le_trans hw.size h1
    exact l1 w hwn (l0 w hwn (h5 w hw))
theorem laidS4 (W : World) (q : Regrown) (T : TypeId) (x0 x1 x2 x3 : Value) (v0 v1 v2 v3 : Value) :
    ∃ X n, (((((gw W q).alloc (.cells #[x0, x1, x2, x3] T)).setCell ⟨(gw W q).heap.size, 0, none⟩ v0).setCell ⟨(gw W q).heap.size, 1, none⟩ v1).setCell ⟨(gw W q).heap.size, 2, none⟩ v2).setCell ⟨(gw W q).heap.size, 3, none⟩ v3 = gw X ⟨q.d, #[]⟩ ∧ (gw W q).heap.size = n ∧ W.heap.size ≤ n ∧ n < X.heap.size ∧ X.heap[n]? = some (.cells #[v0, v1, v2, v3] T) ∧ (∀ (c : Nat) (o : Obj), W.heap[c]? = some o → X.heap[c]? = some o) ∧
      (∀ w : World, Below w.heap.size w W → Below w.heap.size w X) := by
  obtain ⟨X, n, e, hn, h1, h2, h3, h4, h5⟩ := laid W #[x0, x1, x2, x3] T q
  rw [e, hn]
  obtain ⟨X0, e0, s0, b0, k0, l0⟩ := stored (v := v0) (j := 0) ⟨q.d, #[]⟩ h3
  rw [e0]
  obtain ⟨X1, e1, s1, b1, k1, l1⟩ := stored (v := v1) (j := 1) ⟨q.d, #[]⟩ b0
  rw [e1]
  obtain ⟨X2, e2, s2, b2, k2, l2⟩ := stored (v := v2) (j := 2) ⟨q.d, #[]⟩ b1
  rw [e2]
  obtain ⟨X3, e3, s3, b3, k3, l3⟩ := stored (v := v3) (j := 3) ⟨q.d, #[]⟩ b2
  rw [e3]
  refine ⟨X3, n, rfl, rfl, h1, by omega, by simpa using b3, fun c o ho => ?_, fun w hw => ?_⟩
  · have hc : c ≠ n := by have := blk_lt ho; omega
    exact k3 c o hc (k2 c o hc (k1 c o hc (k0 c o hc (h4 c o ho))))
  · have hwn : w.heap.size ≤ n := Nat.le_trans hw.size h1
    exact l3 w hwn (l2 w hwn (l1 w hwn (l0 w hwn (h5 w hw))))
theorem laidS6 (W : World) (q : Regrown) (T : TypeId) (x0 x1 x2 x3 x4 x5 : Value) (v0 v1 v2 v3 v4 v5 : Value) :
    ∃ X n, (((((((gw W q).alloc (.cells #[x0, x1, x2, x3, x4, x5] T)).setCell ⟨(gw W q).heap.size, 0, none⟩ v0).setCell ⟨(gw W q).heap.size, 1, none⟩ v1).setCell ⟨(gw W q).heap.size, 2, none⟩ v2).setCell ⟨(gw W q).heap.size, 3, none⟩ v3).setCell ⟨(gw W q).heap.size, 4, none⟩ v4).setCell ⟨(gw W q).heap.size, 5, none⟩ v5 = gw X ⟨q.d, #[]⟩ ∧ (gw W q).heap.size = n ∧ W.heap.size ≤ n ∧ n < X.heap.size ∧ X.heap[n]? = some (.cells #[v0, v1, v2, v3, v4, v5] T) ∧ (∀ (c : Nat) (o : Obj), W.heap[c]? = some o → X.heap[c]? = some o) ∧
      (∀ w : World, Below w.heap.size w W → Below w.heap.size w X) := by
  obtain ⟨X, n, e, hn, h1, h2, h3, h4, h5⟩ := laid W #[x0, x1, x2, x3, x4, x5] T q
  rw [e, hn]
  obtain ⟨X0, e0, s0, b0, k0, l0⟩ := stored (v := v0) (j := 0) ⟨q.d, #[]⟩ h3
  rw [e0]
  obtain ⟨X1, e1, s1, b1, k1, l1⟩ := stored (v := v1) (j := 1) ⟨q.d, #[]⟩ b0
  rw [e1]
  obtain ⟨X2, e2, s2, b2, k2, l2⟩ := stored (v := v2) (j := 2) ⟨q.d, #[]⟩ b1
  rw [e2]
  obtain ⟨X3, e3, s3, b3, k3, l3⟩ := stored (v := v3) (j := 3) ⟨q.d, #[]⟩ b2
  rw [e3]
  obtain ⟨X4, e4, s4, b4, k4, l4⟩ := stored (v := v4) (j := 4) ⟨q.d, #[]⟩ b3
  rw [e4]
  obtain ⟨X5, e5, s5, b5, k5, l5⟩ := stored (v := v5) (j := 5) ⟨q.d, #[]⟩ b4
  rw [e5]
  refine ⟨X5, n, rfl, rfl, h1, by omega, by simpa using b5, fun c o ho => ?_, fun w hw => ?_⟩
  · have hc : c ≠ n := by have := blk_lt ho; omega
    exact k5 c o hc (k4 c o hc (k3 c o hc (k2 c o hc (k1 c o hc (k0 c o hc (h4 c o ho))))))
  · have hwn : w.heap.size ≤ n := Nat.le_trans hw.size h1
    exact l5 w hwn (l4 w hwn (l3 w hwn (l2 w hwn (l1 w hwn (l0 w hwn (h5 w hw))))))
theorem laidS8 (W : World) (q : Regrown) (T : TypeId) (x0 x1 x2 x3 x4 x5 x6 x7 : Value) (v0 v1 v2 v3 v4 v5 v6 v7 : Value) :
    ∃ X n, (((((((((gw W q).alloc (.cells #[x0, x1, x2, x3, x4, x5, x6, x7] T)).setCell ⟨(gw W q).heap.size, 0, none⟩ v0).setCell ⟨(gw W q).heap.size, 1, none⟩ v1).setCell ⟨(gw W q).heap.size, 2, none⟩ v2).setCell ⟨(gw W q).heap.size, 3, none⟩ v3).setCell ⟨(gw W q).heap.size, 4, none⟩ v4).setCell ⟨(gw W q).heap.size, 5, none⟩ v5).setCell ⟨(gw W q).heap.size, 6, none⟩ v6).setCell ⟨(gw W q).heap.size, 7, none⟩ v7 = gw X ⟨q.d, #[]⟩ ∧ (gw W q).heap.size = n ∧ W.heap.size ≤ n ∧ n < X.heap.size ∧ X.heap[n]? = some (.cells #[v0, v1, v2, v3, v4, v5, v6, v7] T) ∧ (∀ (c : Nat) (o : Obj), W.heap[c]? = some o → X.heap[c]? = some o) ∧
      (∀ w : World, Below w.heap.size w W → Below w.heap.size w X) := by
  obtain ⟨X, n, e, hn, h1, h2, h3, h4, h5⟩ := laid W #[x0, x1, x2, x3, x4, x5, x6, x7] T q
  rw [e, hn]
  obtain ⟨X0, e0, s0, b0, k0, l0⟩ := stored (v := v0) (j := 0) ⟨q.d, #[]⟩ h3
  rw [e0]
  obtain ⟨X1, e1, s1, b1, k1, l1⟩ := stored (v := v1) (j := 1) ⟨q.d, #[]⟩ b0
  rw [e1]
  obtain ⟨X2, e2, s2, b2, k2, l2⟩ := stored (v := v2) (j := 2) ⟨q.d, #[]⟩ b1
  rw [e2]
  obtain ⟨X3, e3, s3, b3, k3, l3⟩ := stored (v := v3) (j := 3) ⟨q.d, #[]⟩ b2
  rw [e3]
  obtain ⟨X4, e4, s4, b4, k4, l4⟩ := stored (v := v4) (j := 4) ⟨q.d, #[]⟩ b3
  rw [e4]
  obtain ⟨X5, e5, s5, b5, k5, l5⟩ := stored (v := v5) (j := 5) ⟨q.d, #[]⟩ b4
  rw [e5]
  obtain ⟨X6, e6, s6, b6, k6, l6⟩ := stored (v := v6) (j := 6) ⟨q.d, #[]⟩ b5
  rw [e6]
  obtain ⟨X7, e7, s7, b7, k7, l7⟩ := stored (v := v7) (j := 7) ⟨q.d, #[]⟩ b6
  rw [e7]
  refine ⟨X7, n, rfl, rfl, h1, by omega, by simpa using b7, fun c o ho => ?_, fun w hw => ?_⟩
  · have hc : c ≠ n := by have := blk_lt ho; omega
    exact k7 c o hc (k6 c o hc (k5 c o hc (k4 c o hc (k3 c o hc (k2 c o hc (k1 c o hc (k0 c o hc (h4 c o ho))))))))
  · have hwn : w.heap.size ≤ n := Nat.le_trans hw.size h1
    exact l7 w hwn (l6 w hwn (l5 w hwn (l4 w hwn (l3 w hwn (l2 w hwn (l1 w hwn (l0 w hwn (h5 w hw))))))))
theorem storedS1 {W : World} {b : Nat} {T : TypeId} {x0 : Value} (q : Regrown) (h : W.heap[b]? = some (.cells #[x0] T)) (v0 : Value) :
    ∃ X, (gw W q).setCell ⟨b, 0, none⟩ v0 = gw X q ∧ X.heap.size = W.heap.size ∧ X.heap[b]? = some (.cells #[v0] T) ∧ (∀ (c : Nat) (o : Obj), c ≠ b → W.heap[c]? = some o → X.heap[c]? = some o) ∧
      (∀ w : World, w.heap.size ≤ b → Below w.heap.size w W → Below w.heap.size w X) := by
  obtain ⟨X0, e0, s0, b0, k0, l0⟩ := stored (v := v0) (j := 0) q h
  rw [e0]
  exact ⟨X0, rfl, by omega, by simpa using b0, fun c o hc ho => k0 c o hc (ho), fun w hwn hw => l0 w hwn (hw)⟩
theorem storedS2 {W : World} {b : Nat} {T : TypeId} {x0 x1 : Value} (q : Regrown) (h : W.heap[b]? = some (.cells #[x0, x1] T)) (v0 v1 : Value) :
    ∃ X, ((gw W q).setCell ⟨b, 0, none⟩ v0).setCell ⟨b, 1, none⟩ v1 = gw X q ∧ X.heap.size = W.heap.size ∧ X.heap[b]? = some (.cells #[v0, v1] T) ∧ (∀ (c : Nat) (o : Obj), c ≠ b → W.heap[c]? = some o → X.heap[c]? = some o) ∧
      (∀ w : World, w.heap.size ≤ b → Below w.heap.size w W → Below w.heap.size w X) := by
  obtain ⟨X0, e0, s0, b0, k0, l0⟩ := stored (v := v0) (j := 0) q h
  rw [e0]
  obtain ⟨X1, e1, s1, b1, k1, l1⟩ := stored (v := v1) (j := 1) q b0
  rw [e1]
  exact ⟨X1, rfl, by omega, by simpa using b1, fun c o hc ho => k1 c o hc (k0 c o hc (ho)), fun w hwn hw => l1 w hwn (l0 w hwn (hw))⟩
theorem storedS4 {W : World} {b : Nat} {T : TypeId} {x0 x1 x2 x3 : Value} (q : Regrown) (h : W.heap[b]? = some (.cells #[x0, x1, x2, x3] T)) (v0 v1 v2 v3 : Value) :
    ∃ X, ((((gw W q).setCell ⟨b, 0, none⟩ v0).setCell ⟨b, 1, none⟩ v1).setCell ⟨b, 2, none⟩ v2).setCell ⟨b, 3, none⟩ v3 = gw X q ∧ X.heap.size = W.heap.size ∧ X.heap[b]? = some (.cells #[v0, v1, v2, v3] T) ∧ (∀ (c : Nat) (o : Obj), c ≠ b → W.heap[c]? = some o → X.heap[c]? = some o) ∧
      (∀ w : World, w.heap.size ≤ b → Below w.heap.size w W → Below w.heap.size w X) := by
  obtain ⟨X0, e0, s0, b0, k0, l0⟩ := stored (v := v0) (j := 0) q h
  rw [e0]
  obtain ⟨X1, e1, s1, b1, k1, l1⟩ := stored (v := v1) (j := 1) q b0
  rw [e1]
  obtain ⟨X2, e2, s2, b2, k2, l2⟩ := stored (v := v2) (j := 2) q b1
  rw [e2]
  obtain ⟨X3, e3, s3, b3, k3, l3⟩ := stored (v := v3) (j := 3) q b2
  rw [e3]
  exact ⟨X3, rfl, by omega, by simpa using b3, fun c o hc ho => k3 c o hc (k2 c o hc (k1 c o hc (k0 c o hc (ho)))), fun w hwn hw => l3 w hwn (l2 w hwn (l1 w hwn (l0 w hwn (hw))))⟩
theorem storedS6 {W : World} {b : Nat} {T : TypeId} {x0 x1 x2 x3 x4 x5 : Value} (q : Regrown) (h : W.heap[b]? = some (.cells #[x0, x1, x2, x3, x4, x5] T)) (v0 v1 v2 v3 v4 v5 : Value) :
    ∃ X, ((((((gw W q).setCell ⟨b, 0, none⟩ v0).setCell ⟨b, 1, none⟩ v1).setCell ⟨b, 2, none⟩ v2).setCell ⟨b, 3, none⟩ v3).setCell ⟨b, 4, none⟩ v4).setCell ⟨b, 5, none⟩ v5 = gw X q ∧ X.heap.size = W.heap.size ∧ X.heap[b]? = some (.cells #[v0, v1, v2, v3, v4, v5] T) ∧ (∀ (c : Nat) (o : Obj), c ≠ b → W.heap[c]? = some o → X.heap[c]? = some o) ∧
      (∀ w : World, w.heap.size ≤ b → Below w.heap.size w W → Below w.heap.size w X) := by
  obtain ⟨X0, e0, s0, b0, k0, l0⟩ := stored (v := v0) (j := 0) q h
  rw [e0]
  obtain ⟨X1, e1, s1, b1, k1, l1⟩ := stored (v := v1) (j := 1) q b0
  rw [e1]
  obtain ⟨X2, e2, s2, b2, k2, l2⟩ := stored (v := v2) (j := 2) q b1
  rw [e2]
  obtain ⟨X3, e3, s3, b3, k3, l3⟩ := stored (v := v3) (j := 3) q b2
  rw [e3]
  obtain ⟨X4, e4, s4, b4, k4, l4⟩ := stored (v := v4) (j := 4) q b3
  rw [e4]
  obtain ⟨X5, e5, s5, b5, k5, l5⟩ := stored (v := v5) (j := 5) q b4
  rw [e5]
  exact ⟨X5, rfl, by omega, by simpa using b5, fun c o hc ho => k5 c o hc (k4 c o hc (k3 c o hc (k2 c o hc (k1 c o hc (k0 c o hc (ho)))))), fun w hwn hw => l5 w hwn (l4 w hwn (l3 w hwn (l2 w hwn (l1 w hwn (l0 w hwn (hw))))))⟩
theorem storedS8 {W : World} {b : Nat} {T : TypeId} {x0 x1 x2 x3 x4 x5 x6 x7 : Value} (q : Regrown) (h : W.heap[b]? = some (.cells #[x0, x1, x2, x3, x4, x5, x6, x7] T)) (v0 v1 v2 v3 v4 v5 v6 v7 : Value) :
    ∃ X, ((((((((gw W q).setCell ⟨b, 0, none⟩ v0).setCell ⟨b, 1, none⟩ v1).setCell ⟨b, 2, none⟩ v2).setCell ⟨b, 3, none⟩ v3).setCell ⟨b, 4, none⟩ v4).setCell ⟨b, 5, none⟩ v5).setCell ⟨b, 6, none⟩ v6).setCell ⟨b, 7, none⟩ v7 = gw X q ∧ X.heap.size = W.heap.size ∧ X.heap[b]? = some (.cells #[v0, v1, v2, v3, v4, v5, v6, v7] T) ∧ (∀ (c : Nat) (o : Obj), c ≠ b → W.heap[c]? = some o → X.heap[c]? = some o) ∧
      (∀ w : World, w.heap.size ≤ b → Below w.heap.size w W → Below w.heap.size w X) := by
  obtain ⟨X0, e0, s0, b0, k0, l0⟩ := stored (v := v0) (j := 0) q h
  rw [e0]
  obtain ⟨X1, e1, s1, b1, k1, l1⟩ := stored (v := v1) (j := 1) q b0
  rw [e1]
  obtain ⟨X2, e2, s2, b2, k2, l2⟩ := stored (v := v2) (j := 2) q b1
  rw [e2]
  obtain ⟨X3, e3, s3, b3, k3, l3⟩ := stored (v := v3) (j := 3) q b2
  rw [e3]
  obtain ⟨X4, e4, s4, b4, k4, l4⟩ := stored (v := v4) (j := 4) q b3
  rw [e4]
  obtain ⟨X5, e5, s5, b5, k5, l5⟩ := stored (v := v5) (j := 5) q b4
  rw [e5]
  obtain ⟨X6, e6, s6, b6, k6, l6⟩ := stored (v := v6) (j := 6) q b5
  rw [e6]
  obtain ⟨X7, e7, s7, b7, k7, l7⟩ := stored (v := v7) (j := 7) q b6
  rw [e7]
  exact ⟨X7, rfl, by omega, by simpa using b7, fun c o hc ho => k7 c o hc (k6 c o hc (k5 c o hc (k4 c o hc (k3 c o hc (k2 c o hc (k1 c o hc (k0 c o hc (ho)))))))), fun w hwn hw => l7 w hwn (l6 w hwn (l5 w hwn (l4 w hwn (l3 w hwn (l2 w hwn (l1 w hwn (l0 w hwn (hw))))))))⟩
theorem storedP1 {W : World} {b : Nat} {T : TypeId} {A A' : Array Value} (q : Regrown) (h : W.heap[b]? = some (.cells A T)) (j0 : Nat) (v0 : Value) (hA : A.setIfInBounds j0 v0 = A') :
    ∃ X, (gw W q).setCell ⟨b, j0, none⟩ v0 = gw X q ∧ X.heap.size = W.heap.size ∧ X.heap[b]? = some (.cells A' T) ∧ (∀ (c : Nat) (o : Obj), c ≠ b → W.heap[c]? = some o → X.heap[c]? = some o) ∧
      (∀ w : World, w.heap.size ≤ b → Below w.heap.size w W → Below w.heap.size w X) := by
  obtain ⟨X0, e0, s0, b0, k0, l0⟩ := stored (v := v0) (j := j0) q h
  rw [e0]
  exact ⟨X0, rfl, by omega, hA ▸ b0, fun c o hc ho => k0 c o hc (ho), fun w hwn hw => l0 w hwn (hw)⟩
theorem storedP2 {W : World} {b : Nat} {T : TypeId} {A A' : Array Value} (q : Regrown) (h : W.heap[b]? = some (.cells A T)) (j0 j1 : Nat) (v0 v1 : Value) (hA : (A.setIfInBounds j0 v0).setIfInBounds j1 v1 = A') :
    ∃ X, ((gw W q).setCell ⟨b, j0, none⟩ v0).setCell ⟨b, j1, none⟩ v1 = gw X q ∧ X.heap.size = W.heap.size ∧ X.heap[b]? = some (.cells A' T) ∧ (∀ (c : Nat) (o : Obj), c ≠ b → W.heap[c]? = some o → X.heap[c]? = some o) ∧
      (∀ w : World, w.heap.size ≤ b → Below w.heap.size w W → Below w.heap.size w X) := by
  obtain ⟨X0, e0, s0, b0, k0, l0⟩ := stored (v := v0) (j := j0) q h
  rw [e0]
  obtain ⟨X1, e1, s1, b1, k1, l1⟩ := stored (v := v1) (j := j1) q b0
  rw [e1]
  exact ⟨X1, rfl, by omega, hA ▸ b1, fun c o hc ho => k1 c o hc (k0 c o hc (ho)), fun w hwn hw => l1 w hwn (l0 w hwn (hw))⟩
theorem storedP4 {W : World} {b : Nat} {T : TypeId} {A A' : Array Value} (q : Regrown) (h : W.heap[b]? = some (.cells A T)) (j0 j1 j2 j3 : Nat) (v0 v1 v2 v3 : Value) (hA : (((A.setIfInBounds j0 v0).setIfInBounds j1 v1).setIfInBounds j2 v2).setIfInBounds j3 v3 = A') :
    ∃ X, ((((gw W q).setCell ⟨b, j0, none⟩ v0).setCell ⟨b, j1, none⟩ v1).setCell ⟨b, j2, none⟩ v2).setCell ⟨b, j3, none⟩ v3 = gw X q ∧ X.heap.size = W.heap.size ∧ X.heap[b]? = some (.cells A' T) ∧ (∀ (c : Nat) (o : Obj), c ≠ b → W.heap[c]? = some o → X.heap[c]? = some o) ∧
      (∀ w : World, w.heap.size ≤ b → Below w.heap.size w W → Below w.heap.size w X) := by
  obtain ⟨X0, e0, s0, b0, k0, l0⟩ := stored (v := v0) (j := j0) q h
  rw [e0]
  obtain ⟨X1, e1, s1, b1, k1, l1⟩ := stored (v := v1) (j := j1) q b0
  rw [e1]
  obtain ⟨X2, e2, s2, b2, k2, l2⟩ := stored (v := v2) (j := j2) q b1
  rw [e2]
  obtain ⟨X3, e3, s3, b3, k3, l3⟩ := stored (v := v3) (j := j3) q b2
  rw [e3]
  exact ⟨X3, rfl, by omega, hA ▸ b3, fun c o hc ho => k3 c o hc (k2 c o hc (k1 c o hc (k0 c o hc (ho)))), fun w hwn hw => l3 w hwn (l2 w hwn (l1 w hwn (l0 w hwn (hw))))⟩
section
variable {P : Program} {ops : Array Oper}
theorem qb_anti {o : Oper} {a : Act} {C C' : World → Prop} {K : Act → Prop} (hC : ∀ w, C' w → C w) (hh : qb P o a C K) : qb P o a C' K :=
  let ⟨v, h1, h2⟩ := hh
  ⟨v, fun w hw => h1 w (hC w hw), h2⟩
theorem wpQb_anti {Q : Act → Prop} {C C' : World → Prop} (hC : ∀ w, C' w → C w) : ∀ (l : List Oper) (a : Act), wpQb P ops C Q l a → wpQb P ops C' Q l a
  | [], a, hh => hh
  | o :: l, a, hh => by
    simp only [wpQb] at hh ⊢
    split
    · rename_i hw; simp only [hw, if_true] at hh; exact qb_mono' (wpQb_anti hC l) (qb_anti hC hh)
    · rename_i hw; simp only [hw] at hh; exact wpQb_anti hC l _ hh
theorem gw2 {W : World} (p : Regrown) : ∀ w, (∃ q, w = gw (gw W p) q) → ∃ q, w = gw W q := fun w ⟨q, h⟩ => by obtain ⟨r, e⟩ := gw_gw W p q; exact ⟨r, h.trans e⟩
/-- as wp_al0, told of the base world -/
theorem wp_alo0 {id : Nat} {Q : Exit → Act → World → Prop} {a : Act} {W : World} {p : Regrown} {ops : List Oper} (nq m : Nat) (hm : P.follows .mixedOrders = true) (hsz : ops.length = nq + 0 + m)
    (hB : (Region.noSelect ops.toArray && lexQ .any ops.toArray (isAl []) (nq + 0) nq 0 (Array.replicate ops.length false) && (List.range m).all (fun k => downB .any ops.toArray (nq + 0) 8 (nq + 0 + k)) &&
      chainB .any ops.toArray m (nq + 0) (Array.replicate (nq + 0) true ++ Array.replicate m false)) = true)
    (hR : ((List.range (nq + 0)).all fun j => (listQ nq 0 (Array.replicate ops.length false)).getD j true) = true)
    (h : wpQb P ops.toArray (fun w' => ∃ q, w' = gw W q) (fun a' => ∀ q, wpList P ops.toArray Q (ops.drop (nq + 0)) a' (gw W q)) (ops.take nq) a) : (Code.region id ops.toArray true).wp P Q a (gw W p) := by
  refine wp_al0 nq m hm hsz hB hR (wpQb_anti (gw2 p) _ _ (wpQb_mono (fun a' hF w' hb => ?_) _ _ h))
  obtain ⟨q, rfl⟩ := gw_of_below (belowThen (below_gw1 W p) hb)
  exact hF q
/-- as wp_al1, told of the base world -/
theorem wp_alo1 {id : Nat} {Q : Exit → Act → World → Prop} {a : Act} {W : World} {p : Regrown} {ops : List Oper} (nq m : Nat) (A : Array Value) (T : TypeId) (d : Tmp) (hm : P.follows .mixedOrders = true)
    (hal : ∃ o, ops.toArray[nq]? = some o ∧ o.guard = none ∧ o.dst = some d ∧ ∀ (a : Act) (w : World), (execOp a.eval o).run P w = .ok (.value (.pointer (some ⟨w.heap.size, 0, none⟩))) (w.alloc (.cells A T)))
    (hsz : ops.length = nq + 1 + m)
    (hB : (Region.noSelect ops.toArray && lexQ .any ops.toArray (isAl [(nq, A, T)]) (nq + 1) nq 0 (Array.replicate ops.length false) && (List.range m).all (fun k => downB .any ops.toArray (nq + 1) 8 (nq + 1 + k)) &&
      chainB .any ops.toArray m (nq + 1) (Array.replicate (nq + 1) true ++ Array.replicate m false)) = true)
    (hR : (Region.ready .any ops.toArray (listQ nq 0 (Array.replicate ops.length false)) == [nq] && (List.range (nq + 1)).all fun j => ((listQ nq 0 (Array.replicate ops.length false)).setIfInBounds nq true).getD j true) = true)
    (h : wpQb P ops.toArray (fun w' => ∃ q, w' = gw W q) (fun a' => ∀ (g : Nat) (X : World), (∀ (c : Nat) (o : Obj), W.heap[c]? = some o → X.heap[c]? = some o) → (∀ w : World, Below w.heap.size w W → Below w.heap.size w X) → X.heap[g]? = some (.cells A T) → W.heap.size ≤ g → ∀ p,
      wpList P ops.toArray Q (ops.drop (nq + 1)) (a'.put (some d) (.pointer (some ⟨g, 0, none⟩))) (gw X p)) (ops.take nq) a) : (Code.region id ops.toArray true).wp P Q a (gw W p) := by
  refine wp_al1 nq m A T d hm hal hsz hB hR (wpQb_anti (gw2 p) _ _ (wpQb_mono (fun a' hF g w' hb h1 h2 => ?_) _ _ h))
  obtain ⟨p0, hp0⟩ := gw_start w'
  rw [hp0]
  exact hF g w' (fun c o h => blk_below (block_gw h p) hb) (fun w hw => belowThen (below_gw hw p) hb) h1 (Nat.le_trans (size_gw W p) h2) p0
/-- as wp_al2, told of the base world -/
theorem wp_alo2 {id : Nat} {Q : Exit → Act → World → Prop} {a : Act} {W : World} {p : Regrown} {ops : List Oper} (nq m : Nat) (A B : Array Value) (T U : TypeId) (d d2 : Tmp) (hdd : d ≠ d2) (hm : P.follows .mixedOrders = true)
    (hal : ∃ o, ops.toArray[nq]? = some o ∧ o.guard = none ∧ o.dst = some d ∧ ∀ (a : Act) (w : World), (execOp a.eval o).run P w = .ok (.value (.pointer (some ⟨w.heap.size, 0, none⟩))) (w.alloc (.cells A T)))
    (hal2 : ∃ o, ops.toArray[nq + 1]? = some o ∧ o.guard = none ∧ o.dst = some d2 ∧ ∀ (a : Act) (w : World), (execOp a.eval o).run P w = .ok (.value (.pointer (some ⟨w.heap.size, 0, none⟩))) (w.alloc (.cells B U)))
    (hsz : ops.length = nq + 2 + m)
    (hB : (Region.noSelect ops.toArray && lexQ .any ops.toArray (isAl [(nq, A, T), (nq + 1, B, U)]) (nq + 2) nq 0 (Array.replicate ops.length false) && (List.range m).all (fun k => downB .any ops.toArray (nq + 2) 8 (nq + 2 + k)) &&
      chainB .any ops.toArray m (nq + 2) (Array.replicate (nq + 2) true ++ Array.replicate m false)) = true)
    (hR : (Region.ready .any ops.toArray (listQ nq 0 (Array.replicate ops.length false)) == [nq, nq + 1] && Region.ready .any ops.toArray ((listQ nq 0 (Array.replicate ops.length false)).setIfInBounds nq true) == [nq + 1] &&
      Region.ready .any ops.toArray ((listQ nq 0 (Array.replicate ops.length false)).setIfInBounds (nq + 1) true) == [nq] &&
      (List.range (nq + 2)).all fun j => (((listQ nq 0 (Array.replicate ops.length false)).setIfInBounds nq true).setIfInBounds (nq + 1) true).getD j true) = true)
    (h : wpQb P ops.toArray (fun w' => ∃ q, w' = gw W q) (fun a' => ∀ (g g2 : Nat) (X : World), (∀ (c : Nat) (o : Obj), W.heap[c]? = some o → X.heap[c]? = some o) → (∀ w : World, Below w.heap.size w W → Below w.heap.size w X) → X.heap[g]? = some (.cells A T) → W.heap.size ≤ g → X.heap[g2]? = some (.cells B U) → W.heap.size ≤ g2 → g ≠ g2 → ∀ p,
      wpList P ops.toArray Q (ops.drop (nq + 2)) ((a'.put (some d) (.pointer (some ⟨g, 0, none⟩))).put (some d2) (.pointer (some ⟨g2, 0, none⟩))) (gw X p)) (ops.take nq) a) : (Code.region id ops.toArray true).wp P Q a (gw W p) := by
  refine wp_al2 nq m A B T U d d2 hdd hm hal hal2 hsz hB hR (wpQb_anti (gw2 p) _ _ (wpQb_mono (fun a' hF g g2 w' hb h1 h2 h3 h4 h5 => ?_) _ _ h))
  obtain ⟨p0, hp0⟩ := gw_start w'
  rw [hp0]
  exact hF g g2 w' (fun c o h => blk_below (block_gw h p) hb) (fun w hw => belowThen (below_gw hw p) hb) h1 (Nat.le_trans (size_gw W p) h2) h3 (Nat.le_trans (size_gw W p) h4) h5 p0
end
end Go.Proofs.YthieengihbbnpaaDoor
