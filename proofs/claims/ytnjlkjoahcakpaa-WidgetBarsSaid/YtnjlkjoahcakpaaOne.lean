/-
  A call's world in which one block of its own lies at the old heap's end.
-/
import Derived.Test.YtnjlkjoahcakpaaPlain
namespace Go.Proofs.Ytnjlkjoahcakpaa
open Go.RowKit
/-- The first new block holds these cells; below it the world is as it was. -/
structure Blk1 (w : World) (A : Array Value) (t : TypeId) (W : World) : Prop where
  row : W.heap[w.heap.size]? = some (.cells A t (0, 0))
  below : Below w.heap.size w W
section
variable {w W W2 : World} {A : Array Value} {t : TypeId}
theorem Blk1.lt (h : Blk1 w A t W) : w.heap.size < W.heap.size := (Array.getElem?_eq_some_iff.1 h.row).1
theorem Blk1.next (hb : Below W.heap.size W W2) (h : Blk1 w A t W) : Blk1 w A t W2 := ⟨by rw [hb.block _ h.lt]; exact h.row, h.below.trans (hb.mono h.below.size)⟩
theorem Blk1.drew (h : Blk1 w A t W) : Blk1 w A t W.drew := ⟨h.row, h.below.drew⟩
theorem Blk1.cell (h : Blk1 w A t W) (i : Nat) : W.cell? ⟨w.heap.size, i, none⟩ = A[i]? := cell_of_row _ _ i _ _ _ h.row
theorem Blk1.free (h : Blk1 w A t W) (i : Nat) : W.frozen? ⟨w.heap.size, i, none⟩ = false := frozen_of_row _ _ i _ _ h.row
theorem Blk1.make (w : World) (A : Array Value) (t : TypeId) : Blk1 w A t (w.alloc (.cells A t)) := ⟨heap_alloc_new _ _, by go_grown⟩
end
end Go.Proofs.Ytnjlkjoahcakpaa
