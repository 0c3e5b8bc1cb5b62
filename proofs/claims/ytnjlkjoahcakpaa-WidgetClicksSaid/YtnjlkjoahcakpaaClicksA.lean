import Derived.Test.YtnjlkjoahcakpaaRows
import Derived.Test.YtnjlkjoahcakpaaFrame
import Derived.Test.YtnjlkjoahcakpaaNeeds
import Derived.Test.YtnjlkjoahcakpaaClick
import Derived.Deep.RegionWith
import Derived.Deep.RegionHeld3
namespace Go.Proofs.Ytnjlkjoahcakpaa
open Go.RowKit
/-- The law's world: the widget, the rectangle, and what Click handed back, each in a block of its own. -/
structure LK (w : World) (A R V : Array Value) (g : Nat) (W : World) : Prop where
  ra : W.heap[w.heap.size]? = some (.cells A 23 (0, 0))
  rr : W.heap[w.heap.size + 1]? = some (.cells R 57 (0, 0))
  rg : W.heap[g]? = some (.cells V 23 (0, 0))
  below : Below w.heap.size w W
section
variable {w W W2 : World} {A R V : Array Value} {g : Nat}
theorem LK.lt (h : LK w A R V g W) : w.heap.size < W.heap.size ∧ w.heap.size + 1 < W.heap.size ∧ g < W.heap.size := ⟨(Array.getElem?_eq_some_iff.1 h.ra).1, (Array.getElem?_eq_some_iff.1 h.rr).1, (Array.getElem?_eq_some_iff.1 h.rg).1⟩
theorem LK.next (hb : Below W.heap.size W W2) (h : LK w A R V g W) : LK w A R V g W2 := by
  obtain ⟨z1, z2, z3⟩ := h.lt
  exact ⟨by rw [hb.block _ z1]; exact h.ra, by rw [hb.block _ z2]; exact h.rr, by rw [hb.block _ z3]; exact h.rg, h.below.trans (hb.mono (by omega))⟩
theorem LK.alloc (o : Obj) (h : LK w A R V g W) : LK w A R V g (W.alloc o) := h.next ((Below.refl _ _).alloc (Nat.le_refl _) _)
theorem LK.drew (h : LK w A R V g W) : LK w A R V g W.drew := ⟨h.ra, h.rr, h.rg, h.below.drew⟩
theorem LK.cells (h : LK w A R V g W) : (∀ i, W.cell? ⟨w.heap.size, i, none⟩ = A[i]?) ∧ (∀ i, W.cell? ⟨w.heap.size + 1, i, none⟩ = R[i]?) ∧ (∀ i, W.cell? ⟨g, i, none⟩ = V[i]?) :=
  ⟨fun i => cell_of_row _ _ i _ _ _ h.ra, fun i => cell_of_row _ _ i _ _ _ h.rr, fun i => cell_of_row _ _ i _ _ _ h.rg⟩
theorem LK.s5 {a0 a1 a2 a3 a4 v0 v1 v2 v3 v4 : Value} (h : LK w #[a0, a1, a2, a3, a4] R #[v0, v1, v2, v3, v4] g W) : W.cell? ⟨w.heap.size, 0, none⟩ = some a0 ∧ W.cell? ⟨w.heap.size, 1, none⟩ = some a1 ∧ W.cell? ⟨w.heap.size, 2, none⟩ = some a2 ∧ W.cell? ⟨w.heap.size, 3, none⟩ = some a3 ∧ W.cell? ⟨w.heap.size, 4, none⟩ = some a4 ∧
    W.cell? ⟨g, 0, none⟩ = some v0 ∧ W.cell? ⟨g, 1, none⟩ = some v1 ∧ W.cell? ⟨g, 2, none⟩ = some v2 ∧ W.cell? ⟨g, 3, none⟩ = some v3 ∧ W.cell? ⟨g, 4, none⟩ = some v4 :=
  ⟨h.cells.1 0, h.cells.1 1, h.cells.1 2, h.cells.1 3, h.cells.1 4, h.cells.2.2 0, h.cells.2.2 1, h.cells.2.2 2, h.cells.2.2 3, h.cells.2.2 4⟩
end
/-- Two blocks: the widget and the rectangle. -/
structure WR (w : World) (A R : Array Value) (W : World) : Prop where
  ra : W.heap[w.heap.size]? = some (.cells A 23 (0, 0))
  rr : W.heap[w.heap.size + 1]? = some (.cells R 57 (0, 0))
  below : Below w.heap.size w W
section
variable {w W W2 : World} {A R V : Array Value}
theorem WR.lt (h : WR w A R W) : w.heap.size < W.heap.size ∧ w.heap.size + 1 < W.heap.size := ⟨(Array.getElem?_eq_some_iff.1 h.ra).1, (Array.getElem?_eq_some_iff.1 h.rr).1⟩
theorem WR.next (hb : Below W.heap.size W W2) (h : WR w A R W) : WR w A R W2 := by
  obtain ⟨z1, z2⟩ := h.lt
  exact ⟨by rw [hb.block _ z1]; exact h.ra, by rw [hb.block _ z2]; exact h.rr, h.below.trans (hb.mono (by omega))⟩
theorem WR.make (w : World) (A R : Array Value) : WR w A R ((w.alloc (.cells A 23)).alloc (.cells R 57)) := ⟨heap_alloc2_old _ _ _, heap_alloc2_new _ _ _, by go_grown⟩
theorem WR.cells (h : WR w A R W) : (∀ i, W.cell? ⟨w.heap.size, i, none⟩ = A[i]?) ∧ (∀ i, W.cell? ⟨w.heap.size + 1, i, none⟩ = R[i]?) ∧ w.heap.size < W.heap.size ∧ w.heap.size + 1 < W.heap.size :=
  ⟨fun i => cell_of_row _ _ i _ _ _ h.ra, fun i => cell_of_row _ _ i _ _ _ h.rr, h.lt.1, h.lt.2⟩
theorem LK.of (h : WR w A R W) (V : Array Value) : LK w A R V W.heap.size (W.alloc (.cells V 23)) := by
  have hb := (Below.refl W.heap.size W).alloc (Nat.le_refl _) (.cells V 23)
  have q := h.next hb
  exact ⟨q.ra, q.rr, heap_alloc_new _ _, q.below⟩
end
section
variable {k : Int} {s : ByteArray} {o : Bool} {v c x y p q a b : Int} (w : World)
theorem refcheck_no {n : Int} (hs : s.size ≤ maxLen) (h : chk k s o v c = n) : Calls Try.prog 11 #[wd k s o v c] w fun e w' => e = .returned (.int .i64 n) ∧ Below w.heap.size w w' :=
  (refcheck_any k s o v c w hs).mono fun _ _ ⟨he, hw⟩ => ⟨by rw [he, h], hw⟩
set_option maxRecDepth 100000 in
set_option maxHeartbeats 1000000 in
theorem Clicks.great_ (h : 400 < s.size) : Calls Try.prog 7 #[wd k s o v c, rc x y p q, .int .i64 a, .int .i64 b] w fun e w' => e = .returned (.bool true) ∧ Below w.heap.size w w' := by
  go_enter Try.func7, Try.ntmps7
  go_wp2_with fail
  refine (great_yes _ h).mono ?_
  rintro e w1 ⟨rfl, hb⟩
  have hK := WR.next hb (WR.make w _ _)
  clear hb
  go_wp2_with fail
  refine (awake_any _).mono ?_
  rintro e w2 ⟨rfl, hb⟩
  have hK := WR.next hb hK
  go_wp2_with fail
  go_ret
  exact ⟨rfl, hK.below⟩
set_option maxRecDepth 100000 in
set_option maxHeartbeats 2000000 in
theorem Clicks.bad_ (h : s.size ≤ 400) {m : Int} (hm : (m != 0) = true) (hc : chk k s o v c = m) : Calls Try.prog 7 #[wd k s o v c, rc x y p q, .int .i64 a, .int .i64 b] w fun e w' => e = .returned (.bool true) ∧ Below w.heap.size w w' := by
  have HC := hid hc
  have hs : s.size ≤ maxLen := by unfold maxLen; omega
  clear hc
  go_enter Try.func7, Try.ntmps7
  go_wp2_with fail
  refine (great_no _ h).mono ?_
  rintro e w1 ⟨rfl, hb⟩
  have hK := WR.next hb (WR.make w _ _)
  clear hb
  obtain ⟨f1, f2, z1, z2⟩ := hK.cells
  go_wp2_with fail
  refine (click_bad _ hs hm HC.out).mono ?_
  rintro e w2 ⟨rfl, hb⟩
  have hK := WR.next hb hK
  clear hb f1 f2 z1 z2
  obtain ⟨f1, f2, z1, z2⟩ := hK.cells
  have hL := LK.of hK #[.int .i64 k, .string s, .bool o, .int .i64 v, .int .i64 c]
  go_wp2_with fail
  refine (of_any _).mono ?_
  rintro e w3 ⟨rfl, hb⟩
  have hL := LK.next hb hL
  clear hb f1 f2 z1 z2
  go_wp2_with fail
  refine (refcheck_no _ hs HC.out).mono ?_
  rintro e w4 ⟨rfl, hb⟩
  have hL := (LK.next hb hL).drew
  clear hb
  go_wp2_with fail
  generalize hg : w2.heap.size = g at *
  clear hg
  go_region_held3 (fun w' => w'.cell? ⟨w.heap.size, 0, none⟩ = some (.int .i64 k) ∧ w'.cell? ⟨w.heap.size, 1, none⟩ = some (.string s) ∧ w'.cell? ⟨w.heap.size, 2, none⟩ = some (.bool o) ∧ w'.cell? ⟨w.heap.size, 3, none⟩ = some (.int .i64 v) ∧ w'.cell? ⟨w.heap.size, 4, none⟩ = some (.int .i64 c) ∧ w'.cell? ⟨g, 0, none⟩ = some (.int .i64 k) ∧ w'.cell? ⟨g, 1, none⟩ = some (.string s) ∧ w'.cell? ⟨g, 2, none⟩ = some (.bool o) ∧ w'.cell? ⟨g, 3, none⟩ = some (.int .i64 v) ∧ w'.cell? ⟨g, 4, none⟩ = some (.int .i64 c)) (exact LK.s5 (by assumption))
    (first
    | (go_at_call 12; refine (of_any _).mono ?_; rintro e w5 ⟨rfl, hb2⟩; have hL2 := LK.next hb2 (by assumption))
    | (go_at_call 10; refine (awake_any _).mono ?_; rintro e w5 ⟨rfl, hb2⟩; have hL2 := LK.next hb2 (by assumption)))
  all_goals go_wp2_with fail
  all_goals go_ret
  all_goals exact ⟨rfl, LK.below (A := #[.int .i64 k, .string s, .bool o, .int .i64 v, .int .i64 c]) (R := #[.int .i64 x, .int .i64 y, .int .i64 p, .int .i64 q]) (V := #[.int .i64 k, .string s, .bool o, .int .i64 v, .int .i64 c]) (g := g) (by assumption)⟩
set_option maxRecDepth 100000 in
set_option maxHeartbeats 2000000 in
theorem Clicks.out_ (h : Right k s o v c) (hx : Big x) (hy : Big y) (hn : ¬ (Counts x y p q ∧ Inside x y p q a b)) : Calls Try.prog 7 #[wd k s o v c, rc x y p q, .int .i64 a, .int .i64 b] w fun e w' => e = .returned (.bool true) ∧ Below w.heap.size w w' := by
  have HR := hid h
  have HC := hid ((right_iff k s o v c).2 h)
  have HN := hid hn
  have hsz := h.size
  have hs : s.size ≤ maxLen := by unfold maxLen; omega
  clear h hn
  by_cases hq : Counts x y p q
  · have HQ := hid hq
    have HI := hid (show ¬ Inside x y p q a b from fun hi => HN.out ⟨hq, hi⟩)
    clear hq
    go_enter Try.func7, Try.ntmps7
    go_wp2_with fail
    refine (great_no _ (by omega)).mono ?_
    rintro e w1 ⟨rfl, hb⟩
    have hK := WR.next hb (WR.make w _ _)
    clear hb
    obtain ⟨f1, f2, z1, z2⟩ := hK.cells
    go_wp2_with fail
    refine (click_out _ HR.out hx hy HN.out).mono ?_
    rintro e w2 ⟨rfl, hb⟩
    have hK := WR.next hb hK
    clear hb f1 f2 z1 z2
    obtain ⟨f1, f2, z1, z2⟩ := hK.cells
    have hL := LK.of hK #[.int .i64 k, .string s, .bool o, .int .i64 v, .int .i64 c]
    go_wp2_with fail
    refine (of_any _).mono ?_
    rintro e w3 ⟨rfl, hb⟩
    have hL := LK.next hb hL
    clear hb f1 f2 z1 z2
    obtain ⟨f1, f2, f3⟩ := hL.cells
    go_wp2_with fail
    refine (refcheck_no _ hs HC.out).mono ?_
    rintro e w4 ⟨rfl, hb⟩
    have hL := LK.next hb hL
    clear hb f1 f2 f3
    obtain ⟨f1, f2, f3⟩ := hL.cells
    go_wp2_with fail
    refine (counts_yes _ HQ.out).mono ?_
    rintro e w5 ⟨rfl, hb⟩
    have hL := LK.next hb hL
    clear hb f1 f2 f3
    obtain ⟨f1, f2, f3⟩ := hL.cells
    go_wp2_with fail
    refine (in_no _ HQ.out HI.out).mono ?_
    rintro e w6 ⟨rfl, hb⟩
    have hL := (LK.next hb hL).drew
    clear hb f1 f2 f3
    go_wp2_with fail
    generalize hg : w2.heap.size = g at *
    clear hg
    go_region_held3 (fun w' => w'.cell? ⟨w.heap.size, 0, none⟩ = some (.int .i64 k) ∧ w'.cell? ⟨w.heap.size, 1, none⟩ = some (.string s) ∧ w'.cell? ⟨w.heap.size, 2, none⟩ = some (.bool o) ∧ w'.cell? ⟨w.heap.size, 3, none⟩ = some (.int .i64 v) ∧ w'.cell? ⟨w.heap.size, 4, none⟩ = some (.int .i64 c) ∧ w'.cell? ⟨g, 0, none⟩ = some (.int .i64 k) ∧ w'.cell? ⟨g, 1, none⟩ = some (.string s) ∧ w'.cell? ⟨g, 2, none⟩ = some (.bool o) ∧ w'.cell? ⟨g, 3, none⟩ = some (.int .i64 v) ∧ w'.cell? ⟨g, 4, none⟩ = some (.int .i64 c)) (exact LK.s5 (by assumption))
      (first
      | (go_at_call 12; refine (of_any _).mono ?_; rintro e w5 ⟨rfl, hb2⟩; have hL2 := LK.next hb2 (by assumption))
      | (go_at_call 10; refine (awake_any _).mono ?_; rintro e w5 ⟨rfl, hb2⟩; have hL2 := LK.next hb2 (by assumption)))
    all_goals go_wp2_with fail
    all_goals go_ret
    all_goals exact ⟨rfl, LK.below (A := #[.int .i64 k, .string s, .bool o, .int .i64 v, .int .i64 c]) (R := #[.int .i64 x, .int .i64 y, .int .i64 p, .int .i64 q]) (V := #[.int .i64 k, .string s, .bool o, .int .i64 v, .int .i64 c]) (g := g) (by assumption)⟩
  · have HQ := hid hq
    clear hq
    go_enter Try.func7, Try.ntmps7
    go_wp2_with fail
    refine (great_no _ (by omega)).mono ?_
    rintro e w1 ⟨rfl, hb⟩
    have hK := WR.next hb (WR.make w _ _)
    clear hb
    obtain ⟨f1, f2, z1, z2⟩ := hK.cells
    go_wp2_with fail
    refine (click_out _ HR.out hx hy HN.out).mono ?_
    rintro e w2 ⟨rfl, hb⟩
    have hK := WR.next hb hK
    clear hb f1 f2 z1 z2
    obtain ⟨f1, f2, z1, z2⟩ := hK.cells
    have hL := LK.of hK #[.int .i64 k, .string s, .bool o, .int .i64 v, .int .i64 c]
    go_wp2_with fail
    refine (of_any _).mono ?_
    rintro e w3 ⟨rfl, hb⟩
    have hL := LK.next hb hL
    clear hb f1 f2 z1 z2
    obtain ⟨f1, f2, f3⟩ := hL.cells
    go_wp2_with fail
    refine (refcheck_no _ hs HC.out).mono ?_
    rintro e w4 ⟨rfl, hb⟩
    have hL := LK.next hb hL
    clear hb f1 f2 f3
    obtain ⟨f1, f2, f3⟩ := hL.cells
    go_wp2_with fail
    refine (counts_no _ HQ.out).mono ?_
    rintro e w5 ⟨rfl, hb⟩
    have hL := (LK.next hb hL).drew
    clear hb f1 f2 f3
    go_wp2_with fail
    generalize hg : w2.heap.size = g at *
    clear hg
    go_region_held3 (fun w' => w'.cell? ⟨w.heap.size, 0, none⟩ = some (.int .i64 k) ∧ w'.cell? ⟨w.heap.size, 1, none⟩ = some (.string s) ∧ w'.cell? ⟨w.heap.size, 2, none⟩ = some (.bool o) ∧ w'.cell? ⟨w.heap.size, 3, none⟩ = some (.int .i64 v) ∧ w'.cell? ⟨w.heap.size, 4, none⟩ = some (.int .i64 c) ∧ w'.cell? ⟨g, 0, none⟩ = some (.int .i64 k) ∧ w'.cell? ⟨g, 1, none⟩ = some (.string s) ∧ w'.cell? ⟨g, 2, none⟩ = some (.bool o) ∧ w'.cell? ⟨g, 3, none⟩ = some (.int .i64 v) ∧ w'.cell? ⟨g, 4, none⟩ = some (.int .i64 c)) (exact LK.s5 (by assumption))
      (first
      | (go_at_call 12; refine (of_any _).mono ?_; rintro e w5 ⟨rfl, hb2⟩; have hL2 := LK.next hb2 (by assumption))
      | (go_at_call 10; refine (awake_any _).mono ?_; rintro e w5 ⟨rfl, hb2⟩; have hL2 := LK.next hb2 (by assumption)))
    all_goals go_wp2_with fail
    all_goals go_ret
    all_goals exact ⟨rfl, LK.below (A := #[.int .i64 k, .string s, .bool o, .int .i64 v, .int .i64 c]) (R := #[.int .i64 x, .int .i64 y, .int .i64 p, .int .i64 q]) (V := #[.int .i64 k, .string s, .bool o, .int .i64 v, .int .i64 c]) (g := g) (by assumption)⟩
end
end Go.Proofs.Ytnjlkjoahcakpaa
