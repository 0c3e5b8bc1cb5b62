/-
  What a law holds in blocks of its own, block by block, in a world that is as it was below.
-/
import Derived.Test.YtnjlkjoahcakpaaTwo
namespace Go.Proofs.Ytnjlkjoahcakpaa
open Go.RowKit
/-- A block: its number, its cells, their type. -/
abbrev Blk := Nat × Array Value × TypeId
structure Held (w : World) (L : List Blk) (W : World) : Prop where
  below : Below w.heap.size w W
  row : ∀ p ∈ L, w.heap.size ≤ p.1 ∧ W.heap[p.1]? = some (.cells p.2.1 p.2.2 (0, 0))
  apart : L.Pairwise fun p q => p.1 ≠ q.1
section
variable {w W W2 : World} {L : List Blk} {a b g : Nat} {A B Z : Array Value} {t u : TypeId}
theorem Held.start (w : World) : Held w [] w := ⟨Below.refl _ _, fun _ h => (List.not_mem_nil h).elim, List.Pairwise.nil⟩
theorem Held.lt (h : Held w L W) (p : Blk) (hp : p ∈ L) : p.1 < W.heap.size := (Array.getElem?_eq_some_iff.1 (h.row p hp).2).1
theorem Held.next (hb : Below W.heap.size W W2) (h : Held w L W) : Held w L W2 :=
  ⟨h.below.trans (hb.mono h.below.size), fun p hp => ⟨(h.row p hp).1, by rw [hb.block _ (h.lt p hp)]; exact (h.row p hp).2⟩, h.apart⟩
theorem Held.drew (h : Held w L W) : Held w L W.drew := ⟨h.below.drew, h.row, h.apart⟩
theorem Held.alloc (o : Obj) (h : Held w L W) : Held w L (W.alloc o) := h.next ((Below.refl _ _).alloc (Nat.le_refl _) _)
theorem Held.make (h : Held w L W) (Z : Array Value) (u : TypeId) : Held w ((W.heap.size, Z, u) :: L) (W.alloc (.cells Z u)) := by
  refine ⟨(h.alloc _).below, fun p hp => ?_, List.pairwise_cons.2 ⟨fun q hq => ?_, h.apart⟩⟩
  · rcases List.mem_cons.1 hp with rfl | hp
    · exact ⟨h.below.size, heap_alloc_new _ _⟩
    · exact (h.alloc _).row p hp
  · have := h.lt q hq
    exact fun e => by simp only at e; omega
theorem Held.swap {p q : Blk} (h : Held w (p :: q :: L) W) : Held w (q :: p :: L) W := by
  refine ⟨h.below, fun x hx => h.row x (by simp only [List.mem_cons] at hx ⊢; rcases hx with h | h | h <;> simp [h]), ?_⟩
  have := h.apart
  simp only [List.pairwise_cons, List.mem_cons, forall_eq_or_imp] at this ⊢
  exact ⟨⟨fun e => this.1.1 e.symm, this.2.1⟩, this.1.2, this.2.2⟩
theorem Held.tail {p : Blk} (h : Held w (p :: L) W) : Held w L W := ⟨h.below, fun q hq => h.row q (List.mem_cons_of_mem _ hq), (List.pairwise_cons.1 h.apart).2⟩
theorem Held.drop2 {p q : Blk} (h : Held w (p :: q :: L) W) : Held w (p :: L) W := h.swap.tail
theorem Held.setCell (h : Held w ((g, A, t) :: L) W) (i : Nat) (y : Value) : Held w ((g, A.set! i y, t) :: L) (W.setCell ⟨g, i, none⟩ y) := by
  have hg := h.row _ (List.mem_cons_self ..)
  refine ⟨h.below.setCell hg.1 _, fun p hp => ?_, ?_⟩
  · rcases List.mem_cons.1 hp with rfl | hp
    · exact ⟨hg.1, by simpa using heap_setCell_same W g i A t y hg.2⟩
    · have q := h.row p (List.mem_cons_of_mem _ hp)
      refine ⟨q.1, ?_⟩
      rw [heap_setCell_other _ _ _ _ (fun e => (List.pairwise_cons.1 h.apart).1 p hp (by simpa using e.symm))]
      exact q.2
  · have := h.apart
    simp only [List.pairwise_cons] at this ⊢
    exact this
theorem Held.set5 {x0 x1 x2 x3 x4 : Value} (h : Held w ((g, #[x0, x1, x2, x3, x4], t) :: L) W) (y0 y1 y2 y3 y4 : Value) :
    Held w ((g, #[y0, y1, y2, y3, y4], t) :: L) (((((W.setCell ⟨g, 0, none⟩ y0).setCell ⟨g, 1, none⟩ y1).setCell ⟨g, 2, none⟩ y2).setCell ⟨g, 3, none⟩ y3).setCell ⟨g, 4, none⟩ y4) := by
  have := ((((h.setCell 0 y0).setCell 1 y1).setCell 2 y2).setCell 3 y3).setCell 4 y4
  simpa using this
theorem Held.set2 {x0 x1 : Value} (h : Held w ((g, #[x0, x1], t) :: L) W) (y0 y1 : Value) :
    Held w ((g, #[y0, y1], t) :: L) ((W.setCell ⟨g, 0, none⟩ y0).setCell ⟨g, 1, none⟩ y1) := by
  have := (h.setCell 0 y0).setCell 1 y1
  simpa using this
theorem Held.facts (h : Held w ((g, A, t) :: L) W) : (∀ i, W.cell? ⟨g, i, none⟩ = A[i]?) ∧ (∀ i, W.frozen? ⟨g, i, none⟩ = false) ∧ g < W.heap.size := by
  have q := h.row _ (List.mem_cons_self ..)
  exact ⟨fun i => cell_of_row _ _ i _ _ _ q.2, fun i => frozen_of_row _ _ i _ _ q.2, h.lt _ (List.mem_cons_self ..)⟩
theorem Held.facts2 {p : Blk} (h : Held w (p :: (g, A, t) :: L) W) : (∀ i, W.cell? ⟨g, i, none⟩ = A[i]?) ∧ (∀ i, W.frozen? ⟨g, i, none⟩ = false) ∧ g < W.heap.size := h.swap.facts
theorem Held.facts3 {p q : Blk} (h : Held w (p :: q :: (g, A, t) :: L) W) : (∀ i, W.cell? ⟨g, i, none⟩ = A[i]?) ∧ (∀ i, W.frozen? ⟨g, i, none⟩ = false) ∧ g < W.heap.size := h.tail.swap.facts
/-- Five cells of the first block; of the second; of the third. -/
theorem Held.c5 {x0 x1 x2 x3 x4 : Value} (h : Held w ((g, #[x0, x1, x2, x3, x4], t) :: L) W) : W.cell? ⟨g, 0, none⟩ = some x0 ∧ W.cell? ⟨g, 1, none⟩ = some x1 ∧ W.cell? ⟨g, 2, none⟩ = some x2 ∧ W.cell? ⟨g, 3, none⟩ = some x3 ∧ W.cell? ⟨g, 4, none⟩ = some x4 :=
  ⟨h.facts.1 0, h.facts.1 1, h.facts.1 2, h.facts.1 3, h.facts.1 4⟩
theorem Held.c55 {x0 x1 x2 x3 x4 y0 y1 y2 y3 y4 : Value} (h : Held w ((g, #[x0, x1, x2, x3, x4], t) :: (b, #[y0, y1, y2, y3, y4], u) :: L) W) :
    W.cell? ⟨g, 0, none⟩ = some x0 ∧ W.cell? ⟨g, 1, none⟩ = some x1 ∧ W.cell? ⟨g, 2, none⟩ = some x2 ∧ W.cell? ⟨g, 3, none⟩ = some x3 ∧ W.cell? ⟨g, 4, none⟩ = some x4 ∧
    W.cell? ⟨b, 0, none⟩ = some y0 ∧ W.cell? ⟨b, 1, none⟩ = some y1 ∧ W.cell? ⟨b, 2, none⟩ = some y2 ∧ W.cell? ⟨b, 3, none⟩ = some y3 ∧ W.cell? ⟨b, 4, none⟩ = some y4 :=
  ⟨h.facts.1 0, h.facts.1 1, h.facts.1 2, h.facts.1 3, h.facts.1 4, h.facts2.1 0, h.facts2.1 1, h.facts2.1 2, h.facts2.1 3, h.facts2.1 4⟩
/-- A cell of the world ahead of the call. -/
theorem Held.old (h : Held w L W) {x : Addr} {v : Value} (hx : w.cell? x = some v) : W.cell? x = some v := by
  rw [h.below.cell (World.block_lt_of_cell? w x hx)]; exact hx
theorem Held.ck {x0 x1 x2 x3 x4 X Y : Value} {p q : Addr} (h1 : w.cell? p = some X) (h2 : w.cell? q = some Y) (h : Held w ((g, #[x0, x1, x2, x3, x4], t) :: L) W) : W.cell? ⟨g, 0, none⟩ = some x0 ∧ W.cell? ⟨g, 1, none⟩ = some x1 ∧ W.cell? ⟨g, 2, none⟩ = some x2 ∧ W.cell? ⟨g, 3, none⟩ = some x3 ∧ W.cell? ⟨g, 4, none⟩ = some x4 ∧ W.cell? p = some X ∧ W.cell? q = some Y :=
  ⟨h.facts.1 0, h.facts.1 1, h.facts.1 2, h.facts.1 3, h.facts.1 4, h.old h1, h.old h2⟩
end
end Go.Proofs.Ytnjlkjoahcakpaa
