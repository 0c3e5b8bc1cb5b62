/-
  The walks of the rectangles' functions: fits, Check, right, Has; the reference's Counts and In.
-/
import Derived.Test.YtnjlkjoahcakpaaProg
import Derived.Test.YtnjlkjoahcakpaaTwo
import Derived.Test.YtnjlkjoahcakpaaOne
import Derived.BigGuardPart
namespace Go.Proofs.Ytnjlkjoahcakpaa
open Go.RowKit
/-- A rectangle as a value. -/
abbrev rc (x y w h : Int) : Value := .agg #[.int .i64 x, .int .i64 y, .int .i64 w, .int .i64 h]
structure Counts (x y w h : Int) : Prop where
  w1 : 1 ≤ w
  h1 : 1 ≤ h
  x1 : -1048576 ≤ x
  y1 : -1048576 ≤ y
  xw : x + w ≤ 1048576
  yh : y + h ≤ 1048576
structure Inside (x y w h a b : Int) : Prop where
  a0 : x ≤ a
  a1 : a < x + w
  b0 : y ≤ b
  b1 : b < y + h
abbrev Big (n : Int) : Prop := -9223372036854775808 ≤ n ∧ n ≤ 9223372036854775807
theorem store4r {w : World} {g : Nat} {t : TypeId} {x0 x1 x2 x3 : Value} (h : w.heap[g]? = some (.cells #[x0, x1, x2, x3] t (0, 0))) (y0 y1 y2 y3 : Value) :
    ((((w.setCell ⟨g, 0, none⟩ y0).setCell ⟨g, 1, none⟩ y1).setCell ⟨g, 2, none⟩ y2).setCell ⟨g, 3, none⟩ y3).heap[g]? = some (.cells #[y0, y1, y2, y3] t (0, 0)) := by
  have h1 := heap_setCell_same w g 0 _ t y0 h
  have h2 := heap_setCell_same _ g 1 _ t y1 h1
  have h3 := heap_setCell_same _ g 2 _ t y2 h2
  have h4 := heap_setCell_same _ g 3 _ t y3 h3
  simpa using h4
theorem below4r {w w0 : World} {B g : Nat} (h : Below B w0 w) (hg : B ≤ g) (y0 y1 y2 y3 : Value) :
    Below B w0 ((((w.setCell ⟨g, 0, none⟩ y0).setCell ⟨g, 1, none⟩ y1).setCell ⟨g, 2, none⟩ y2).setCell ⟨g, 3, none⟩ y3) :=
  (((h.setCell hg _).setCell hg _).setCell hg _).setCell hg _
section
variable {x y w h a b : Int} (W : World)
theorem fits_yes (h1 : -1048576 ≤ x) (h2 : 1 ≤ w) (h3 : x + w ≤ 1048576) : Calls Try.prog 52 #[.int .i64 x, .int .i64 w] W fun e w' => e = .returned (.bool true) ∧ W = w' := by
  go_enter Try.func52, Try.ntmps52
  go_wp2
  all_goals go_ret
  all_goals exact ⟨by simp; omega, rfl⟩
theorem fits_no (hx : Big x) (hn : ¬ (-1048576 ≤ x ∧ 1 ≤ w ∧ x + w ≤ 1048576)) : Calls Try.prog 52 #[.int .i64 x, .int .i64 w] W fun e w' => e = .returned (.bool false) ∧ W = w' := by
  obtain ⟨hx0, hx1⟩ := hx
  have HN := hid hn
  clear hn
  by_cases g1 : -1048576 ≤ x
  · by_cases g2 : 1 ≤ w
    · have g3 : 1048576 - x < w := by have := HN.out; omega
      go_enter Try.func52, Try.ntmps52
      go_wp2
      all_goals go_ret
      all_goals exact ⟨by simp; omega, rfl⟩
    · have g2' : decide ((1 : Int) ≤ w) = false := by simpa using g2
      go_enter Try.func52, Try.ntmps52
      go_wp2
      all_goals go_ret
      all_goals exact ⟨rfl, rfl⟩
  · have g1' : decide ((-1048576 : Int) ≤ x) = false := by simpa using g1
    go_enter Try.func52, Try.ntmps52
    go_wp2
    all_goals go_ret
    all_goals exact ⟨rfl, rfl⟩
set_option maxHeartbeats 400000 in
theorem rcheck_ok (h0 : Counts x y w h) : Calls Try.prog 51 #[rc x y w h] W fun e w' => e = .returned (.int .i64 0) ∧ Below W.heap.size W w' := by
  obtain ⟨h1, h2, h3, h4, h5, h6⟩ := h0
  go_enter Try.func51, Try.ntmps51
  go_wp2_with (first
    | (go_at_call 52; refine (fits_yes _ (by assumption) (by assumption) (by assumption)).mono ?_; rintro e w2 ⟨rfl, rfl⟩))
  all_goals go_ret
  all_goals exact ⟨rfl, by go_grown⟩
theorem rcheck_zero : Calls Try.prog 51 #[rc 0 0 0 0] W fun e w' => e = .returned (.int .i64 0) ∧ Below W.heap.size W w' := by
  go_enter Try.func51, Try.ntmps51
  go_wp2_with fail
  all_goals go_ret
  all_goals exact ⟨rfl, by go_grown⟩
set_option maxHeartbeats 400000 in
theorem rcheck_bad (hx : Big x) (hy : Big y) (hn : ¬ Counts x y w h) (hz : ¬ (x = 0 ∧ y = 0 ∧ w = 0 ∧ h = 0)) : Calls Try.prog 51 #[rc x y w h] W fun e w' => e = .returned (.int .i64 1) ∧ Below W.heap.size W w' := by
  have HZ := hid hz
  clear hz
  obtain ⟨hx0, hx1⟩ := hx
  obtain ⟨hy0, hy1⟩ := hy
  by_cases g : -1048576 ≤ x ∧ 1 ≤ w ∧ x + w ≤ 1048576
  · have g2 : ¬ (-1048576 ≤ y ∧ 1 ≤ h ∧ y + h ≤ 1048576) := fun k => hn ⟨g.2.1, k.2.1, g.1, k.1, g.2.2, k.2.2⟩
    obtain ⟨a1, a2, a3⟩ := g
    have G2 := hid g2
    clear hn g2
    go_enter Try.func51, Try.ntmps51
    go_wp2_with fail
    all_goals (refine (fits_yes _ (by omega) (by omega) (by omega)).mono ?_; rintro e w2 ⟨rfl, rfl⟩)
    all_goals go_wp2_with fail
    all_goals (refine (fits_no _ (by show _ ∧ _; omega) (fun q => G2.out (by omega))).mono ?_; rintro e w2 ⟨rfl, rfl⟩)
    all_goals go_wp2_with fail
    all_goals go_ret
    all_goals exact ⟨rfl, by go_grown⟩
  · have G := hid g
    clear hn g
    go_enter Try.func51, Try.ntmps51
    go_wp2_with fail
    all_goals (try exact (HZ.out ⟨by assumption, by assumption, by assumption, by assumption⟩).elim)
    all_goals (refine (fits_no _ (by show _ ∧ _; omega) (fun q => G.out (by omega))).mono ?_; rintro e w2 ⟨rfl, rfl⟩)
    all_goals go_wp2_with fail
    all_goals go_ret
    all_goals exact ⟨rfl, by go_grown⟩
theorem right_yes (h0 : Counts x y w h) : Calls Try.prog 49 #[rc x y w h] W fun e w' => e = .returned (rc x y w h) ∧ Below W.heap.size W w' := by
  have H0 := hid h0
  clear h0
  go_enter Try.func49, Try.ntmps49
  go_wp2_with fail
  refine (rcheck_ok _ H0.out).mono ?_
  rintro e w1 ⟨rfl, hb⟩
  have HT := two_of hb
  clear hb
  obtain ⟨ha, hbb, hfa, hfb, hz0, hz⟩ := HT.facts
  go_wp2_with fail
  exact bodyPost_ret (results_cell_row Try.results49 _ _ _ _ _ _ _ rfl (store4r HT.rb _ _ _ _) Try.underlying57 rfl (by kernel_rfl)) rfl ⟨rfl, below4r HT.below (by omega) _ _ _ _⟩
theorem right_no (hx : Big x) (hy : Big y) (hn : ¬ Counts x y w h) : Calls Try.prog 49 #[rc x y w h] W fun e w' => e = .returned (rc 0 0 0 0) ∧ Below W.heap.size W w' := by
  by_cases hz : x = 0 ∧ y = 0 ∧ w = 0 ∧ h = 0
  · obtain ⟨rfl, rfl, rfl, rfl⟩ := hz
    clear hn
    go_enter Try.func49, Try.ntmps49
    go_wp2_with fail
    refine (rcheck_zero _).mono ?_
    rintro e w1 ⟨rfl, hb⟩
    have HT := two_of hb
    clear hb
    obtain ⟨ha, hbb, hfa, hfb, hz0, hz⟩ := HT.facts
    go_wp2_with fail
    exact bodyPost_ret (results_cell_row Try.results49 _ _ _ _ _ _ _ rfl (store4r HT.rb _ _ _ _) Try.underlying57 rfl (by kernel_rfl)) rfl ⟨rfl, below4r HT.below (by omega) _ _ _ _⟩
  · have HN := hid hn
    have HZ := hid hz
    clear hn hz
    go_enter Try.func49, Try.ntmps49
    go_wp2_with fail
    refine (rcheck_bad _ hx hy HN.out HZ.out).mono ?_
    rintro e w1 ⟨rfl, hb⟩
    have HT := two_of hb
    clear hb
    obtain ⟨ha, hbb, hfa, hfb, hz0, hz⟩ := HT.facts
    go_wp2_with fail
    exact bodyPost_ret (results_cell_row Try.results49 _ _ _ _ _ _ _ rfl (store4r HT.rb _ _ _ _) Try.underlying57 rfl (by kernel_rfl)) rfl ⟨rfl, below4r HT.below (by omega) _ _ _ _⟩
set_option maxHeartbeats 400000 in
theorem has_yes (h0 : Counts x y w h) (hi : Inside x y w h a b) : Calls Try.prog 33 #[rc x y w h, .int .i64 a, .int .i64 b] W fun e w' => e = .returned (.bool true) ∧ Below W.heap.size W w' := by
  have H0 := hid h0
  obtain ⟨i1, i2, i3, i4⟩ := hi
  obtain ⟨c1, c2, c3, c4, c5, c6⟩ := h0
  go_enter Try.func33, Try.ntmps33
  go_wp2_with fail
  refine (right_yes _ H0.out).mono ?_
  rintro e w1 ⟨rfl, hb⟩
  have hK := Blk1.next hb (Blk1.make W _ _)
  have hk := hK.cell
  have hf := hK.free
  clear hb
  go_wp2_with fail
  all_goals go_ret
  all_goals exact ⟨rfl, ((((hK.below.setCell (Nat.le_refl _) _).setCell (Nat.le_refl _) _).setCell (Nat.le_refl _) _).setCell (Nat.le_refl _) _)⟩
set_option maxHeartbeats 1000000 in
theorem has_out (h0 : Counts x y w h) (hn : ¬ Inside x y w h a b) : Calls Try.prog 33 #[rc x y w h, .int .i64 a, .int .i64 b] W fun e w' => e = .returned (.bool false) ∧ Below W.heap.size W w' := by
  have H0 := hid h0
  have HN := hid hn
  obtain ⟨c1, c2, c3, c4, c5, c6⟩ := h0
  clear hn
  go_enter Try.func33, Try.ntmps33
  go_wp2_with fail
  refine (right_yes _ H0.out).mono ?_
  rintro e w1 ⟨rfl, hb⟩
  have hK := Blk1.next hb (Blk1.make W _ _)
  have hk := hK.cell
  have hf := hK.free
  clear hb
  go_wp2_with fail
  all_goals go_ret
  all_goals exact ⟨by first | rfl | (have q : ¬ (b < y + h) := fun q => HN.out ⟨by assumption, by assumption, by assumption, q⟩; simp; omega), below4r hK.below (Nat.le_refl _) _ _ _ _⟩
set_option maxHeartbeats 400000 in
theorem has_zero (hx : Big x) (hy : Big y) (hn : ¬ Counts x y w h) : Calls Try.prog 33 #[rc x y w h, .int .i64 a, .int .i64 b] W fun e w' => e = .returned (.bool false) ∧ Below W.heap.size W w' := by
  have HN := hid hn
  clear hn
  go_enter Try.func33, Try.ntmps33
  go_wp2_with fail
  refine (right_no _ hx hy HN.out).mono ?_
  rintro e w1 ⟨rfl, hb⟩
  have hK := Blk1.next hb (Blk1.make W _ _)
  have hk := hK.cell
  have hf := hK.free
  clear hb
  go_wp2_with fail
  all_goals go_ret
  all_goals exact ⟨by first | rfl | (simp; omega), below4r hK.below (Nat.le_refl _) _ _ _ _⟩
theorem has_no (hx : Big x) (hy : Big y) (hn : ¬ (Counts x y w h ∧ Inside x y w h a b)) : Calls Try.prog 33 #[rc x y w h, .int .i64 a, .int .i64 b] W fun e w' => e = .returned (.bool false) ∧ Below W.heap.size W w' := by
  by_cases h0 : Counts x y w h
  · exact has_out W h0 fun hi => hn ⟨h0, hi⟩
  · exact has_zero W hx hy h0
set_option maxHeartbeats 1000000 in
theorem counts_yes (h0 : Counts x y w h) : Calls Try.prog 23 #[rc x y w h] W fun e w' => e = .returned (.bool true) ∧ Below W.heap.size W w' := by
  obtain ⟨c1, c2, c3, c4, c5, c6⟩ := h0
  go_enter Try.func23, Try.ntmps23
  go_wp2_with fail
  all_goals go_ret
  all_goals exact ⟨by first | rfl | (simp; omega), by go_grown⟩
set_option maxHeartbeats 1000000 in
theorem counts_no (hn : ¬ Counts x y w h) : Calls Try.prog 23 #[rc x y w h] W fun e w' => e = .returned (.bool false) ∧ Below W.heap.size W w' := by
  have HN := hid (show ¬ (1 ≤ w ∧ 1 ≤ h ∧ -1048576 ≤ x ∧ -1048576 ≤ y ∧ x + w ≤ 1048576 ∧ y + h ≤ 1048576) from fun ⟨q1, q2, q3, q4, q5, q6⟩ => hn ⟨q1, q2, q3, q4, q5, q6⟩)
  clear hn
  go_enter Try.func23, Try.ntmps23
  go_wp2_with fail
  all_goals go_ret
  all_goals (have HN := HN.out)
  all_goals exact ⟨by first | rfl | (simp; omega), by go_grown⟩
set_option maxHeartbeats 1000000 in
theorem in_yes (h0 : Counts x y w h) (hi : Inside x y w h a b) : Calls Try.prog 24 #[rc x y w h, .int .i64 a, .int .i64 b] W fun e w' => e = .returned (.bool true) ∧ Below W.heap.size W w' := by
  obtain ⟨c1, c2, c3, c4, c5, c6⟩ := h0
  obtain ⟨i1, i2, i3, i4⟩ := hi
  go_enter Try.func24, Try.ntmps24
  go_wp2_with fail
  all_goals go_ret
  all_goals exact ⟨by first | rfl | (simp; omega), by go_grown⟩
set_option maxHeartbeats 1000000 in
theorem in_no (h0 : Counts x y w h) (hn : ¬ Inside x y w h a b) : Calls Try.prog 24 #[rc x y w h, .int .i64 a, .int .i64 b] W fun e w' => e = .returned (.bool false) ∧ Below W.heap.size W w' := by
  obtain ⟨c1, c2, c3, c4, c5, c6⟩ := h0
  have HN := hid (show ¬ (x ≤ a ∧ a < x + w ∧ y ≤ b ∧ b < y + h) from fun ⟨q1, q2, q3, q4⟩ => hn ⟨q1, q2, q3, q4⟩)
  clear hn
  go_enter Try.func24, Try.ntmps24
  go_wp2_with fail
  all_goals go_ret
  all_goals (have HN := HN.out)
  all_goals exact ⟨by first | rfl | (simp; omega), by go_grown⟩
end
end Go.Proofs.Ytnjlkjoahcakpaa
