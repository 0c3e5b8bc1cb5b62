import Derived.Test.YtnjlkjoahcakpaaClicksA
import Derived.Deep.DeepCutAuto
namespace Go.Proofs.Ytnjlkjoahcakpaa
open Go.RowKit
/-- .. and what the reference handed back, in a block of its own. -/
structure LZ (w : World) (A R V : Array Value) (g : Nat) (Z : Array Value) (h : Nat) (W : World) : Prop where
  lk : LK w A R V g W
  rz : W.heap[h]? = some (.cells Z 27 (0, 0))
  hz : w.heap.size + 1 < h ∧ g < h
section
variable {w W W2 : World} {A R V Z : Array Value} {g h : Nat}
theorem LZ.lt (q : LZ w A R V g Z h W) : h < W.heap.size := (Array.getElem?_eq_some_iff.1 q.rz).1
theorem LZ.next (hb : Below W.heap.size W W2) (q : LZ w A R V g Z h W) : LZ w A R V g Z h W2 := ⟨q.lk.next hb, by rw [hb.block _ q.lt]; exact q.rz, q.hz⟩
theorem LZ.drew (q : LZ w A R V g Z h W) : LZ w A R V g Z h W.drew := ⟨q.lk.drew, q.rz, q.hz⟩
theorem LZ.make (q : LK w A R V g W) (Z : Array Value) : LZ w A R V g Z W.heap.size (W.alloc (.cells Z 27)) := ⟨q.alloc _, heap_alloc_new _ _, q.lt.2.1, q.lt.2.2⟩
theorem LZ.set {x0 x1 x2 x3 x4 : Value} (q : LZ w A R V g #[x0, x1, x2, x3, x4] h W) (y0 y1 y2 y3 y4 : Value) :
    LZ w A R V g #[y0, y1, y2, y3, y4] h (((((W.setCell ⟨h, 0, none⟩ y0).setCell ⟨h, 1, none⟩ y1).setCell ⟨h, 2, none⟩ y2).setCell ⟨h, 3, none⟩ y3).setCell ⟨h, 4, none⟩ y4) := by
  obtain ⟨z1, z2⟩ := q.hz
  have e (j : Nat) (hj : j ≠ h) : (((((W.setCell ⟨h, 0, none⟩ y0).setCell ⟨h, 1, none⟩ y1).setCell ⟨h, 2, none⟩ y2).setCell ⟨h, 3, none⟩ y3).setCell ⟨h, 4, none⟩ y4).heap[j]? = W.heap[j]? := by
    rw [heap_setCell_other _ _ _ _ hj, heap_setCell_other _ _ _ _ hj, heap_setCell_other _ _ _ _ hj, heap_setCell_other _ _ _ _ hj, heap_setCell_other _ _ _ _ hj]
  exact ⟨⟨by rw [e _ (by omega)]; exact q.lk.ra, by rw [e _ (by omega)]; exact q.lk.rr, by rw [e _ (by omega)]; exact q.lk.rg, below5 q.lk.below (by omega) _ _ _ _ _⟩, store5 q.rz _ _ _ _ _, q.hz⟩
theorem LZ.facts (q : LZ w A R V g Z h W) : (∀ i, W.cell? ⟨h, i, none⟩ = Z[i]?) ∧ (∀ i, W.frozen? ⟨h, i, none⟩ = false) ∧ h < W.heap.size :=
  ⟨fun i => cell_of_row _ _ i _ _ _ q.rz, fun i => frozen_of_row _ _ i _ _ q.rz, q.lt⟩
theorem LZ.make' (q : LK w A R V g W.drew) (Z : Array Value) : LZ w A R V g Z W.heap.size (W.drew.alloc (.cells Z 27)) := LZ.make q Z
/-- What the walk reads ahead of the reference's answer. -/
theorem LK.s9 {a0 a1 a2 a3 a4 r0 r1 r2 r3 : Value} (q : LK w #[a0, a1, a2, a3, a4] #[r0, r1, r2, r3] V g W) : W.cell? ⟨w.heap.size, 0, none⟩ = some a0 ∧ W.cell? ⟨w.heap.size, 1, none⟩ = some a1 ∧ W.cell? ⟨w.heap.size, 2, none⟩ = some a2 ∧ W.cell? ⟨w.heap.size, 3, none⟩ = some a3 ∧ W.cell? ⟨w.heap.size, 4, none⟩ = some a4 ∧
    W.cell? ⟨w.heap.size + 1, 0, none⟩ = some r0 ∧ W.cell? ⟨w.heap.size + 1, 1, none⟩ = some r1 ∧ W.cell? ⟨w.heap.size + 1, 2, none⟩ = some r2 ∧ W.cell? ⟨w.heap.size + 1, 3, none⟩ = some r3 :=
  ⟨q.cells.1 0, q.cells.1 1, q.cells.1 2, q.cells.1 3, q.cells.1 4, q.cells.2.1 0, q.cells.2.1 1, q.cells.2.1 2, q.cells.2.1 3⟩
theorem LZ.s10 {v0 v1 v2 v3 v4 z0 z1 z2 z3 z4 : Value} (q : LZ w A R #[v0, v1, v2, v3, v4] g #[z0, z1, z2, z3, z4] h W) : W.cell? ⟨g, 0, none⟩ = some v0 ∧ W.cell? ⟨g, 1, none⟩ = some v1 ∧ W.cell? ⟨g, 2, none⟩ = some v2 ∧ W.cell? ⟨g, 3, none⟩ = some v3 ∧ W.cell? ⟨g, 4, none⟩ = some v4 ∧
    W.cell? ⟨h, 0, none⟩ = some z0 ∧ W.cell? ⟨h, 1, none⟩ = some z1 ∧ W.cell? ⟨h, 2, none⟩ = some z2 ∧ W.cell? ⟨h, 3, none⟩ = some z3 ∧ W.cell? ⟨h, 4, none⟩ = some z4 :=
  ⟨q.lk.cells.2.2 0, q.lk.cells.2.2 1, q.lk.cells.2.2 2, q.lk.cells.2.2 3, q.lk.cells.2.2 4, q.facts.1 0, q.facts.1 1, q.facts.1 2, q.facts.1 3, q.facts.1 4⟩
end
section
variable {k : Int} {s : ByteArray} {o : Bool} {v c x y p q a b : Int} (w : World)
set_option maxRecDepth 100000 in
set_option maxHeartbeats 20000000 in
theorem Clicks.good_ (h : Right k s o v c) (hq : Counts x y p q) (hi : Inside x y p q a b) : Calls Try.prog 7 #[wd k s o v c, rc x y p q, .int .i64 a, .int .i64 b] w fun e w' => e = .returned (.bool true) ∧ Below w.heap.size w w' := by
  have HR := hid h
  have HC := hid ((right_iff k s o v c).2 h)
  have HQ := hid hq
  have HI := hid hi
  have hsz := h.size
  have hs : s.size ≤ maxLen := by unfold maxLen; omega
  obtain ⟨i1, i2, i3, i4⟩ := id hi
  have hclick := fun w : World => click_in w h hq hi
  have hrefc := fun w : World => refclick_in w h hq ⟨i1, i2⟩
  have hok := clickF_right h (rx := x) (rw := p) (x := a) ⟨i1, i2⟩
  generalize clickF k s o v c x p a = res at hclick hrefc hok
  obtain ⟨⟨k', s', o', v', c'⟩, t⟩ := res
  have HR' := hid (show Right k' s' o' v' c' from hok)
  have HC1 := hid hclick
  have HC2 := hid hrefc
  clear h hq hi hclick hrefc hok i1 i2 i3 i4
  go_enter Try.func7, Try.ntmps7
  go_wp2_with fail
  refine (great_no _ (by omega)).mono ?_
  rintro e w1 ⟨rfl, hb⟩
  have hK := WR.next hb (WR.make w _ _)
  clear hb
  obtain ⟨f1, f2, z1, z2⟩ := hK.cells
  go_wp2_with fail
  refine (HC1.out _).mono ?_
  rintro e w2 ⟨rfl, hb⟩
  have hK := WR.next hb hK
  clear hb f1 f2 z1 z2
  obtain ⟨f1, f2, z1, z2⟩ := hK.cells
  have hL := LK.of hK #[.int .i64 k', .string s', .bool o', .int .i64 v', .int .i64 c']
  go_wp2_with fail
  refine (of_any _).mono ?_
  rintro e w3 ⟨rfl, hb⟩
  have hL := LK.next hb hL
  clear hb f1 f2 z1 z2
  obtain ⟨f1, f2, f3⟩ := hL.cells
  go_wp2_with fail
  refine (refcheck_no _ hs HC.out).mono ?_
  rintro e w4 ⟨rfl, hb⟩
  have hL := LK.next hb hL
  clear hb f1 f2 f3
  obtain ⟨f1, f2, f3⟩ := hL.cells
  go_wp2_with fail
  refine (counts_yes _ HQ.out).mono ?_
  rintro e w5 ⟨rfl, hb⟩
  have hL := LK.next hb hL
  clear hb f1 f2 f3
  obtain ⟨f1, f2, f3⟩ := hL.cells
  go_wp2_with fail
  refine (in_yes _ HQ.out HI.out).mono ?_
  rintro e w6 ⟨rfl, hb⟩
  have hL := (LK.next hb hL).drew
  clear hb f1 f2 f3
  generalize hg : w2.heap.size = g at *
  clear hg
  go_wp2_with fail
  go_cut [11, 12] (fun s11 s12 wx => ∃ h, s11 = .pointer (some ⟨h, 0, none⟩) ∧ s12 = .bool t ∧ LZ w #[.int .i64 k, .string s, .bool o, .int .i64 v, .int .i64 c] #[.int .i64 x, .int .i64 y, .int .i64 p, .int .i64 q] #[.int .i64 k', .string s', .bool o', .int .i64 v', .int .i64 c'] g #[.int .i64 k', .string s', .bool o', .int .i64 v', .int .i64 c'] h wx)
  case first =>
    go_region_held3 (fun w' => w'.cell? ⟨w.heap.size, 0, none⟩ = some (.int .i64 k) ∧ w'.cell? ⟨w.heap.size, 1, none⟩ = some (.string s) ∧ w'.cell? ⟨w.heap.size, 2, none⟩ = some (.bool o) ∧ w'.cell? ⟨w.heap.size, 3, none⟩ = some (.int .i64 v) ∧ w'.cell? ⟨w.heap.size, 4, none⟩ = some (.int .i64 c) ∧ w'.cell? ⟨w.heap.size + 1, 0, none⟩ = some (.int .i64 x) ∧ w'.cell? ⟨w.heap.size + 1, 1, none⟩ = some (.int .i64 y) ∧ w'.cell? ⟨w.heap.size + 1, 2, none⟩ = some (.int .i64 p) ∧ w'.cell? ⟨w.heap.size + 1, 3, none⟩ = some (.int .i64 q)) (first | with_reducible exact LK.s9 (by assumption) | with_reducible exact LK.s9 (LK.alloc _ (by assumption)) | with_reducible exact LK.s9 (LZ.lk (by assumption)) | with_reducible exact LK.s9 (LZ.lk (LZ.set (by assumption) _ _ _ _ _)) | with_reducible exact LK.s9 (LZ.lk (LZ.set (LZ.make (by assumption) _) _ _ _ _ _)))
      (first
      | (go_at_call 12; refine (of_any _).mono ?_; rintro e w7 ⟨rfl, hb2⟩; first | (have hL2 := LZ.next hb2 (by with_reducible assumption); obtain ⟨hF1, hF2, hF3⟩ := hL2.facts) | have hL2 := LK.next hb2 (by with_reducible assumption) | (have hL2 := LZ.next hb2 (LZ.make (by assumption) _); (try change LZ _ _ _ _ _ _ w6.heap.size _ at hL2); obtain ⟨hF1, hF2, hF3⟩ := hL2.facts))
      | (go_at_call 25; refine (HC2.out _).mono ?_; rintro e w7 ⟨rfl, hb2⟩; first | (have hL2 := LZ.next hb2 (by with_reducible assumption); obtain ⟨hF1, hF2, hF3⟩ := hL2.facts) | have hL2 := LK.next hb2 (by with_reducible assumption) | (have hL2 := LZ.next hb2 (LZ.make (by assumption) _); (try change LZ _ _ _ _ _ _ w6.heap.size _ at hL2); obtain ⟨hF1, hF2, hF3⟩ := hL2.facts)))
    all_goals go_wp2_with fail
    all_goals go_meet
    all_goals first | with_reducible exact ⟨_, rfl, rfl, LZ.make (by assumption) _⟩ | with_reducible exact ⟨_, rfl, rfl, LZ.set (by assumption) _ _ _ _ _⟩
  case rest =>
    obtain ⟨h, rfl, rfl, hZ⟩ := hcut
    have hZ := hZ.drew
    go_wp2_with fail
    go_region_held3 (fun w' => w'.cell? ⟨g, 0, none⟩ = some (.int .i64 k') ∧ w'.cell? ⟨g, 1, none⟩ = some (.string s') ∧ w'.cell? ⟨g, 2, none⟩ = some (.bool o') ∧ w'.cell? ⟨g, 3, none⟩ = some (.int .i64 v') ∧ w'.cell? ⟨g, 4, none⟩ = some (.int .i64 c') ∧ w'.cell? ⟨h, 0, none⟩ = some (.int .i64 k') ∧ w'.cell? ⟨h, 1, none⟩ = some (.string s') ∧ w'.cell? ⟨h, 2, none⟩ = some (.bool o') ∧ w'.cell? ⟨h, 3, none⟩ = some (.int .i64 v') ∧ w'.cell? ⟨h, 4, none⟩ = some (.int .i64 c')) (exact LZ.s10 (by assumption))
      (first
      | (go_at_call 12; refine (of_any _).mono ?_; rintro e w7 ⟨rfl, hb2⟩; have hZ2 := LZ.next hb2 (by assumption))
      | (go_at_call 15; refine (check_ok _ HR'.out).mono ?_; rintro e w7 ⟨rfl, hb2⟩; have hZ2 := LZ.next hb2 (by assumption))
      | (go_at_call 10; refine (awake_any _).mono ?_; rintro e w7 ⟨rfl, hb2⟩; have hZ2 := LZ.next hb2 (by assumption)))
    all_goals go_wp2_with fail
    all_goals go_ret
    all_goals exact ⟨rfl, LK.below (A := #[.int .i64 k, .string s, .bool o, .int .i64 v, .int .i64 c]) (R := #[.int .i64 x, .int .i64 y, .int .i64 p, .int .i64 q]) (V := #[.int .i64 k', .string s', .bool o', .int .i64 v', .int .i64 c']) (g := g) (LZ.lk (Z := #[.int .i64 k', .string s', .bool o', .int .i64 v', .int .i64 c']) (h := h) (by assumption))⟩
end
end Go.Proofs.Ytnjlkjoahcakpaa
