/-
  Laws on worlds: two blocks of a call's own behind a contract that says 'Below'; five cells stored; a struct and a bool handed back.
-/
import Derived.Test.YtnjlkjoahcakpaaPlain
namespace Go.Proofs.Ytnjlkjoahcakpaa
open Go.RowKit
/-- Two blocks of five cells, side by side, in a world that is as 'w' was below. -/
structure Two (w : World) (A B : Array Value) (t u : TypeId) (w1 : World) : Prop where
  ra : w1.heap[w.heap.size]? = some (.cells A t (0, 0))
  rb : w1.heap[w.heap.size + 1]? = some (.cells B u (0, 0))
  below : Below w.heap.size w w1
section
variable {w w1 w2 : World} {A B : Array Value} {t u : TypeId}
theorem Two.size (h : Two w A B t u w1) : w.heap.size + 1 < w1.heap.size := (Array.getElem?_eq_some_iff.1 h.rb).1
theorem two_of (hb : Below ((w.alloc (.cells A t)).alloc (.cells B u)).heap.size ((w.alloc (.cells A t)).alloc (.cells B u)) w1) : Two w A B t u w1 :=
  ⟨by rw [hb.block _ (by simp; omega), heap_alloc2_old], by rw [hb.block _ (by simp), heap_alloc2_new], (((Below.refl _ _).alloc (Nat.le_refl _) _).alloc (by simp) _).trans (hb.mono (by simp; omega))⟩
theorem Two.next (h : Two w A B t u w1) (hb : Below w1.heap.size w1 w2) : Two w A B t u w2 := by
  have hz := h.size
  exact ⟨by rw [hb.block _ (by omega)]; exact h.ra, by rw [hb.block _ (by omega)]; exact h.rb, h.below.trans (hb.mono (by omega))⟩
/-- What the walk reads of such a world. -/
theorem Two.facts (h : Two w A B t u w1) : (∀ i, w1.cell? ⟨w.heap.size, i, none⟩ = A[i]?) ∧ (∀ i, w1.cell? ⟨w.heap.size + 1, i, none⟩ = B[i]?) ∧ (∀ i, w1.frozen? ⟨w.heap.size, i, none⟩ = false) ∧
    (∀ i, w1.frozen? ⟨w.heap.size + 1, i, none⟩ = false) ∧ w.heap.size < w1.heap.size ∧ w.heap.size + 1 < w1.heap.size :=
  ⟨fun i => cell_of_row _ _ i _ _ _ h.ra, fun i => cell_of_row _ _ i _ _ _ h.rb, fun i => frozen_of_row _ _ i _ _ h.ra, fun i => frozen_of_row _ _ i _ _ h.rb, by have := h.size; omega, h.size⟩
end
/-- Five cells stored over five. -/
theorem store5 {w : World} {g : Nat} {t : TypeId} {x0 x1 x2 x3 x4 : Value} (h : w.heap[g]? = some (.cells #[x0, x1, x2, x3, x4] t (0, 0))) (y0 y1 y2 y3 y4 : Value) :
    (((((w.setCell ⟨g, 0, none⟩ y0).setCell ⟨g, 1, none⟩ y1).setCell ⟨g, 2, none⟩ y2).setCell ⟨g, 3, none⟩ y3).setCell ⟨g, 4, none⟩ y4).heap[g]? = some (.cells #[y0, y1, y2, y3, y4] t (0, 0)) := by
  have h1 := heap_setCell_same w g 0 _ t y0 h
  have h2 := heap_setCell_same _ g 1 _ t y1 h1
  have h3 := heap_setCell_same _ g 2 _ t y2 h2
  have h4 := heap_setCell_same _ g 3 _ t y3 h3
  have h5 := heap_setCell_same _ g 4 _ t y4 h4
  simpa using h5
theorem below5 {w w0 : World} {B g : Nat} (h : Below B w0 w) (hg : B ≤ g) (y0 y1 y2 y3 y4 : Value) :
    Below B w0 (((((w.setCell ⟨g, 0, none⟩ y0).setCell ⟨g, 1, none⟩ y1).setCell ⟨g, 2, none⟩ y2).setCell ⟨g, 3, none⟩ y3).setCell ⟨g, 4, none⟩ y4) :=
  ((((h.setCell hg _).setCell hg _).setCell hg _).setCell hg _).setCell hg _
theorem results_row_tmp {P : Program} {fn : Func} {p q : Tmp} {ty : TypeId} (h : fn.results = #[.cell p ty, .tmp q]) (tmps : Array Value) (w : World) (g : Nat) (t : TypeId) (cs : Array Value) (fr : Nat × Nat) (d : TypeDesc)
    (hp : tmps.getD p undef = .pointer (some ⟨g, 0, none⟩)) (hg : w.heap[g]? = some (.cells cs t fr))
    (hu : P.underlying ty = some d) (hd : (match d with | .struct _ | .array _ _ => true | _ => false) = true) (hi : (P.info? ty).map (·.size) = some cs.size) :
    (results fn tmps).run P w = .ok (.tuple #[.agg cs, tmps.getD q undef]) w := by
  have hp' : tmps[p]?.getD undef = .pointer (some ⟨g, 0, none⟩) := by simpa using hp
  simp [results, h, hp', asAddr, run_loadVar_row w g t ty cs fr d hg hu hd hi]
end Go.Proofs.Ytnjlkjoahcakpaa
