/-
  The walks of the law's own helpers of WidgetChecks: of, great, needs; Least of a widget that is not right; the reference's Least.
-/
import Derived.Test.YtnjlkjoahcakpaaAwake
import Derived.Deep.RegionHeld3
namespace Go.Proofs.Ytnjlkjoahcakpaa
open Go.RowKit
section
variable {k : Int} {s : ByteArray} {o : Bool} {v c : Int} (w : World)
theorem of_any : Calls Try.prog 12 #[wd k s o v c] w fun e w' => e = .returned (wd k s o v c) ∧ Below w.heap.size w w' := by
  go_enter Try.func12, Try.ntmps12
  go_wp2
  go_returns
  exact ⟨rfl, by go_grown⟩
theorem great_no (h : s.size ≤ 400) : Calls Try.prog 9 #[wd k s o v c] w fun e w' => e = .returned (.bool false) ∧ Below w.heap.size w w' := by
  go_enter Try.func9, Try.ntmps9
  go_wp2
  all_goals go_ret
  all_goals exact ⟨by simp; omega, by go_grown⟩
theorem great_yes (h : 400 < s.size) : Calls Try.prog 9 #[wd k s o v c] w fun e w' => e = .returned (.bool true) ∧ Below w.heap.size w w' := by
  go_enter Try.func9, Try.ntmps9
  go_wp2
  go_ret
  exact ⟨by simp; omega, by go_grown⟩
set_option maxRecDepth 100000 in
theorem least_bad {n : Int} (hs : s.size ≤ maxLen) (hn : (n != 0) = true) (h : chk k s o v c = n) (F : Array Value) : Calls Try.prog 13 #[wd k s o v c, .agg F] w fun e w' => e = .returned (.tuple #[.int .i64 0, .int .i64 0]) ∧ Below w.heap.size w w' := by
  have H := hid h
  clear h
  go_enter Try.func13, Try.ntmps13
  go_wp2_with (refine wpList_box_big (by rfl) 36 _ (by rfl) F (by rfl) ?_)
  refine (check_no _ hs H.out).mono ?_
  rintro e w1 ⟨rfl, hb⟩
  have hB := hid ((((Below.refl _ _).alloc (Nat.le_refl _) _).alloc (by simp) _).trans (hb.mono (by simp; omega)) : Below w.heap.size w w1)
  clear hb
  go_wp2_with fail
  go_ret2
  exact ⟨rfl, hB.out⟩
set_option maxRecDepth 100000 in
set_option maxHeartbeats 1000000 in
theorem refleast_any {a d W E : Int} (hk : 0 ≤ k ∧ k ≤ 3) (hW : 0 ≤ W ∧ W ≤ 25500) (hd : 0 ≤ d ∧ d ≤ 200) : Calls Try.prog 16 #[wd k s o v c, .agg #[.int .i64 a, .int .i64 d, .int .i64 W, .int .i64 E]] w fun e w' => e = .returned (.tuple #[.int .i64 (leastF k W d).1, .int .i64 (leastF k W d).2]) ∧ Below w.heap.size w w' := by
  obtain ⟨hk0, hk1⟩ := hk
  obtain ⟨hW0, hW1⟩ := hW
  obtain ⟨hd0, hd1⟩ := hd
  go_enter Try.func16, Try.ntmps16
  go_wp2_with fail
  all_goals (try go_region)
  all_goals go_wp2_with fail
  all_goals (try go_region)
  all_goals go_wp2_with fail
  all_goals go_ret2
  all_goals refine ⟨ret2_int ?_ ?_, by go_grown⟩
  all_goals simp only [beq_iff_eq, beq_eq_false_iff_ne, ne_eq] at *
  all_goals first
    | (rw [leastF_1 (by omega)]; done)
    | (rw [leastF_2 (by omega)]; done)
    | (rw [leastF_3 (by omega)]; done)
    | (rw [leastF_0 (by omega)]; simp only []; omega)
end
/-- A call's world: a widget, a font and a place for four numbers lie in its first three blocks; below it is as it was. -/
structure NK (w : World) (A F : Array Value) (W : World) : Prop where
  row : W.heap[w.heap.size]? = some (.cells A 23 (0, 0))
  font : IsFont W (w.heap.size + 1) F
  out : W.heap[w.heap.size + 1 + 1]? = some (.cells #[.int .i64 0, .int .i64 0, .int .i64 0, .int .i64 0] 42 (0, 0))
  below : Below w.heap.size w W
section
variable {w W W2 : World} {A F : Array Value}
theorem NK.lt (h : NK w A F W) : w.heap.size + 1 + 1 < W.heap.size := (Array.getElem?_eq_some_iff.1 h.out).1
theorem NK.next (hb : Below W.heap.size W W2) (h : NK w A F W) : NK w A F W2 := ⟨by rw [hb.block _ (by have := h.lt; omega)]; exact h.row, h.font.below hb, by rw [hb.block _ h.lt]; exact h.out, h.below.trans (hb.mono h.below.size)⟩
theorem NK.drew (h : NK w A F W) : NK w A F W.drew := ⟨h.row, by rw [IsFont.drew]; exact h.font, h.out, h.below.drew⟩
theorem NK.make (w : World) (A F : Array Value) : NK w A F (((w.alloc (.cells A 23)).alloc (.cells F 36)).alloc (.cells #[.int .i64 0, .int .i64 0, .int .i64 0, .int .i64 0] 42)) := by
  have h := WK.make w A F 23
  have hs : ((w.alloc (.cells A 23)).alloc (.cells F 36)).heap.size = w.heap.size + 1 + 1 := by simp
  have g := WK.next ((Below.refl _ _).alloc (Nat.le_refl _) (.cells #[.int .i64 0, .int .i64 0, .int .i64 0, .int .i64 0] 42)) h
  exact ⟨g.row, g.font, by rw [← hs]; exact heap_alloc_new _ _, g.below⟩
theorem NK.facts (h : NK w A F W) : (∀ i, W.cell? ⟨w.heap.size + 1 + 1, i, none⟩ = #[Value.int .i64 0, .int .i64 0, .int .i64 0, .int .i64 0][i]?) ∧ (∀ i, W.frozen? ⟨w.heap.size + 1 + 1, i, none⟩ = false) :=
  ⟨fun i => cell_of_row _ _ i _ _ _ h.out, fun i => frozen_of_row _ _ i _ _ h.out⟩
theorem NK.s {k : Int} {s : ByteArray} {o : Bool} {v c : Int} (h : NK w #[.int .i64 k, .string s, .bool o, .int .i64 v, .int .i64 c] F W) :
    W.cell? ⟨w.heap.size, 1, none⟩ = some (.string s) ∧ W.cell? ⟨w.heap.size, 4, none⟩ = some (.int .i64 c) ∧ IsFont W (w.heap.size + 1) F :=
  ⟨cell_of_row _ _ 1 _ _ _ h.row, cell_of_row _ _ 4 _ _ _ h.row, h.font⟩
theorem IsFont.set_ {g b i : Nat} {y : Value} (h : IsFont W b F) (hb : b ≠ g) : IsFont (W.setCell ⟨g, i, none⟩ y) b F := by
  unfold IsFont at h ⊢
  rw [heap_setCell_other _ _ _ _ hb]; exact h
theorem keep4 {n : Nat} {s : ByteArray} {c : Int} (h : W.cell? ⟨n, 1, none⟩ = some (.string s) ∧ W.cell? ⟨n, 4, none⟩ = some (.int .i64 c) ∧ IsFont W (n + 1) F) (y0 y1 y2 y3 : Value) :
    ((((W.setCell ⟨n + 1 + 1, 0, none⟩ y0).setCell ⟨n + 1 + 1, 1, none⟩ y1).setCell ⟨n + 1 + 1, 2, none⟩ y2).setCell ⟨n + 1 + 1, 3, none⟩ y3).cell? ⟨n, 1, none⟩ = some (.string s) ∧
    ((((W.setCell ⟨n + 1 + 1, 0, none⟩ y0).setCell ⟨n + 1 + 1, 1, none⟩ y1).setCell ⟨n + 1 + 1, 2, none⟩ y2).setCell ⟨n + 1 + 1, 3, none⟩ y3).cell? ⟨n, 4, none⟩ = some (.int .i64 c) ∧
    IsFont ((((W.setCell ⟨n + 1 + 1, 0, none⟩ y0).setCell ⟨n + 1 + 1, 1, none⟩ y1).setCell ⟨n + 1 + 1, 2, none⟩ y2).setCell ⟨n + 1 + 1, 3, none⟩ y3) (n + 1) F := by
  have hne : ∀ (V : World) (i j : Nat) (y : Value), (V.setCell ⟨n + 1 + 1, i, none⟩ y).cell? ⟨n, j, none⟩ = V.cell? ⟨n, j, none⟩ := fun V i j y => World.cell?_setCell_other V _ _ _ (fun e => by injection e with e1; omega)
  refine ⟨?_, ?_, ?_⟩
  · rw [hne, hne, hne, hne]; exact h.1
  · rw [hne, hne, hne, hne]; exact h.2.1
  · exact (((h.2.2.set_ (by omega)).set_ (by omega)).set_ (by omega)).set_ (by omega)
theorem store4 {w : World} {g : Nat} {t : TypeId} {x0 x1 x2 x3 : Value} (h : w.heap[g]? = some (.cells #[x0, x1, x2, x3] t (0, 0))) (y0 y1 y2 y3 : Value) :
    ((((w.setCell ⟨g, 0, none⟩ y0).setCell ⟨g, 1, none⟩ y1).setCell ⟨g, 2, none⟩ y2).setCell ⟨g, 3, none⟩ y3).heap[g]? = some (.cells #[y0, y1, y2, y3] t (0, 0)) := by
  have h1 := heap_setCell_same w g 0 _ t y0 h
  have h2 := heap_setCell_same _ g 1 _ t y1 h1
  have h3 := heap_setCell_same _ g 2 _ t y2 h2
  have h4 := heap_setCell_same _ g 3 _ t y3 h3
  simpa using h4
theorem below4 {w w0 : World} {B g : Nat} (h : Below B w0 w) (hg : B ≤ g) (y0 y1 y2 y3 : Value) :
    Below B w0 ((((w.setCell ⟨g, 0, none⟩ y0).setCell ⟨g, 1, none⟩ y1).setCell ⟨g, 2, none⟩ y2).setCell ⟨g, 3, none⟩ y3) :=
  (((h.setCell hg _).setCell hg _).setCell hg _).setCell hg _
end
attribute [local go_sem ↓] loadAt_font
set_option maxRecDepth 100000 in
set_option maxHeartbeats 4000000 in
theorem needs_any {k : Int} {s : ByteArray} {o : Bool} {v c : Int} (h : Right k s o v c) {F : Array Value} {a d : Int} {wd : Nat → Int} (hF : Fnt F a d wd 95) (hr : ∀ i, 0 ≤ wd i ∧ wd i ≤ 100) (ha : 0 ≤ a ∧ a ≤ 100) (hd : 0 ≤ d ∧ d ≤ 100) (w : World) :
    Calls Try.prog 17 #[Go.Proofs.Ytnjlkjoahcakpaa.wd k s o v c, .agg F] w fun e w' => e = .returned (.agg #[.int .i64 a, .int .i64 (a + d), .int .i64 (widF wd s.data.toList), .int .i64 (widF wd (s.data.toList.take c.toNat))]) ∧ Below w.heap.size w w' := by
  have HF := hid hF
  have HR := hid hr
  have hl := run_fontLoad hF
  obtain ⟨hc0, hc1⟩ := h.cur
  have hs := h.size
  have hs' : (s.extract 0 c.toNat).size ≤ 255 := by simp only [ByteArray.size_extract]; omega
  have HS := hid (show IntKind.i64.wrap (a + d) = a + d from IntWalk.i64_in _ (by omega))
  have hsum := HS.out
  clear hF hr h ha hd
  go_enter Try.func17, Try.ntmps17
  go_wp2_with (refine wpList_box_big (by rfl) 36 _ (by rfl) F (by rfl) ?_)
  have hK := (NK.make w #[.int .i64 k, .string s, .bool o, .int .i64 v, .int .i64 c] F).drew
  generalize ((w.alloc (.cells #[.int .i64 k, .string s, .bool o, .int .i64 v, .int .i64 c] 23)).alloc (.cells F 36)).alloc (.cells #[.int .i64 0, .int .i64 0, .int .i64 0, .int .i64 0] 42) = W at *
  go_region_held3 (fun w' => w'.cell? ⟨w.heap.size, 1, none⟩ = some (.string s) ∧ w'.cell? ⟨w.heap.size, 4, none⟩ = some (.int .i64 c) ∧ IsFont w' (w.heap.size + 1) F) (first | exact NK.s (by assumption) | exact keep4 (NK.s (by assumption)) _ _ _ _)
    (first
    | (go_at_call 30; refine (ascent_any HF.out _).mono ?_; rintro e w2 ⟨rfl, hb2⟩; have hK2 := NK.next hb2 (by assumption); obtain ⟨hq1, hq2⟩ := NK.facts hK2)
    | (go_at_call 31; refine (descent_any HF.out _).mono ?_; rintro e w2 ⟨rfl, hb2⟩; have hK2 := NK.next hb2 (by assumption); obtain ⟨hq1, hq2⟩ := NK.facts hK2)
    | (go_at_call 27; refine (width_any HF.out HR.out _ (by assumption) _).mono ?_; rintro e w2 ⟨rfl, hb2⟩; have hK2 := NK.next hb2 (by assumption); obtain ⟨hq1, hq2⟩ := NK.facts hK2))
  go_wp2_with fail
  exact bodyPost_ret (results_cell_row Try.results17 _ _ _ _ _ _ _ rfl (store4 hK2.out _ _ _ _) Try.underlying42 rfl (by kernel_rfl)) rfl ⟨rfl, below4 hK2.below (by omega) _ _ _ _⟩
end Go.Proofs.Ytnjlkjoahcakpaa
