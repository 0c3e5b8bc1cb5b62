/-
  The walks of Click and of the reference's Click.
-/
import Derived.Test.YtnjlkjoahcakpaaRect
import Derived.Test.YtnjlkjoahcakpaaKeyAny
namespace Go.Proofs.Ytnjlkjoahcakpaa
open Go.RowKit
/-- Three new blocks of a call's own. -/
structure Thr (w : World) (A R B : Array Value) (t r u : TypeId) (W : World) : Prop where
  ra : W.heap[w.heap.size]? = some (.cells A t (0, 0))
  rr : W.heap[w.heap.size + 1]? = some (.cells R r (0, 0))
  rb : W.heap[w.heap.size + 1 + 1]? = some (.cells B u (0, 0))
  below : Below w.heap.size w W
section
variable {w W W2 : World} {A R B : Array Value} {t r u : TypeId}
theorem Thr.lt (h : Thr w A R B t r u W) : w.heap.size + 1 + 1 < W.heap.size := (Array.getElem?_eq_some_iff.1 h.rb).1
theorem Thr.next (hb : Below W.heap.size W W2) (h : Thr w A R B t r u W) : Thr w A R B t r u W2 := by
  have hz := h.lt
  exact ⟨by rw [hb.block _ (by omega)]; exact h.ra, by rw [hb.block _ (by omega)]; exact h.rr, by rw [hb.block _ hz]; exact h.rb, h.below.trans (hb.mono (by omega))⟩
theorem Thr.make (w : World) (A R B : Array Value) (t r u : TypeId) : Thr w A R B t r u (((w.alloc (.cells A t)).alloc (.cells R r)).alloc (.cells B u)) := by
  have hs : ((w.alloc (.cells A t)).alloc (.cells R r)).heap.size = w.heap.size + 1 + 1 := by simp
  have b := (Below.refl ((w.alloc (.cells A t)).alloc (.cells R r)).heap.size ((w.alloc (.cells A t)).alloc (.cells R r))).alloc (Nat.le_refl _) (.cells B u)
  exact ⟨by rw [b.block _ (by omega), heap_alloc2_old], by rw [b.block _ (by omega), heap_alloc2_new], by rw [← hs]; exact heap_alloc_new _ _, by go_grown⟩
theorem Thr.facts (h : Thr w A R B t r u W) : (∀ i, W.cell? ⟨w.heap.size, i, none⟩ = A[i]?) ∧ (∀ i, W.cell? ⟨w.heap.size + 1, i, none⟩ = R[i]?) ∧ (∀ i, W.cell? ⟨w.heap.size + 1 + 1, i, none⟩ = B[i]?) ∧
    (∀ i, W.frozen? ⟨w.heap.size, i, none⟩ = false) ∧ (∀ i, W.frozen? ⟨w.heap.size + 1 + 1, i, none⟩ = false) :=
  ⟨fun i => cell_of_row _ _ i _ _ _ h.ra, fun i => cell_of_row _ _ i _ _ _ h.rr, fun i => cell_of_row _ _ i _ _ _ h.rb, fun i => frozen_of_row _ _ i _ _ h.ra, fun i => frozen_of_row _ _ i _ _ h.rb⟩
theorem Thr.set_ (h : Thr w A R B t r u W) (i : Nat) (y : Value) : (W.setCell ⟨w.heap.size, i, none⟩ y).heap[w.heap.size + 1 + 1]? = some (.cells B u (0, 0)) := by
  rw [heap_setCell_other _ _ _ _ (by show w.heap.size + 1 + 1 ≠ w.heap.size; omega)]; exact h.rb
end
theorem ret_bar {s : ByteArray} {o : Bool} {v c x p a d : Int} (h : d = max (p - 1) 1) : Ending.returned (.tuple #[wd 3 s o ((a - x) * 100 / d) c, .bool true]) = .returned (resV (clickF 3 s o v c x p a)) := by subst h; rfl
theorem ret_bar1 {s : ByteArray} {o : Bool} {v c x p a : Int} (h : max (p - 1) 1 = 1) : Ending.returned (.tuple #[wd 3 s o ((a - x) * 100) c, .bool true]) = .returned (resV (clickF 3 s o v c x p a)) := by
  show _ = Ending.returned (resV (⟨3, s, o, (a - x) * 100 / max (p - 1) 1, c⟩, true))
  rw [h, Int.ediv_one]
section
variable {k : Int} {s : ByteArray} {o : Bool} {v c x y p q a b : Int} (w : World)
set_option maxHeartbeats 400000 in
theorem click_bad (hs : s.size ≤ maxLen) {n : Int} (hn : (n != 0) = true) (h : chk k s o v c = n) : Calls Try.prog 22 #[wd k s o v c, rc x y p q, .int .i64 a, .int .i64 b] w fun e w' => e = .returned (.tuple #[wd k s o v c, .bool false]) ∧ Below w.heap.size w w' := by
  have H := hid h
  clear h
  go_enter Try.func22, Try.ntmps22
  go_wp2_with fail
  refine (check_no _ hs H.out).mono ?_
  rintro e w1 ⟨rfl, hb⟩
  have hK := Thr.next hb (Thr.make w _ _ _ _ _ _)
  clear hb
  obtain ⟨f1, f2, f3, f4, f5⟩ := hK.facts
  go_wp2_with fail
  exact bodyPost_ret (results_row_tmp Try.results22 _ _ _ _ _ _ _ rfl (store5 hK.rb _ _ _ _ _) Try.underlying23 rfl (by kernel_rfl)) rfl ⟨rfl, below5 hK.below (by omega) _ _ _ _ _⟩
set_option maxHeartbeats 400000 in
theorem click_out (h : Right k s o v c) (hx : Big x) (hy : Big y) (hn : ¬ (Counts x y p q ∧ Inside x y p q a b)) : Calls Try.prog 22 #[wd k s o v c, rc x y p q, .int .i64 a, .int .i64 b] w fun e w' => e = .returned (.tuple #[wd k s o v c, .bool false]) ∧ Below w.heap.size w w' := by
  have H := hid h
  have HN := hid hn
  clear h hn
  go_enter Try.func22, Try.ntmps22
  go_wp2_with fail
  refine (check_ok _ H.out).mono ?_
  rintro e w1 ⟨rfl, hb⟩
  have hK := Thr.next hb (Thr.make w _ _ _ _ _ _)
  clear hb
  obtain ⟨f1, f2, f3, f4, f5⟩ := hK.facts
  go_wp2_with fail
  refine (has_no _ hx hy HN.out).mono ?_
  rintro e w2 ⟨rfl, hb⟩
  have hK := Thr.next hb hK
  clear hb f1 f2 f3 f4 f5
  obtain ⟨f1, f2, f3, f4, f5⟩ := hK.facts
  go_wp2_with fail
  exact bodyPost_ret (results_row_tmp Try.results22 _ _ _ _ _ _ _ rfl (store5 hK.rb _ _ _ _ _) Try.underlying23 rfl (by kernel_rfl)) rfl ⟨rfl, below5 hK.below (by omega) _ _ _ _ _⟩
set_option maxHeartbeats 2000000 in
theorem click_in (h : Right k s o v c) (hc : Counts x y p q) (hi : Inside x y p q a b) : Calls Try.prog 22 #[wd k s o v c, rc x y p q, .int .i64 a, .int .i64 b] w fun e w' => e = .returned (resV (clickF k s o v c x p a)) ∧ Below w.heap.size w w' := by
  have H := hid h
  have HC := hid hc
  have HI := hid hi
  obtain ⟨c1, c2, c3, c4, c5, c6⟩ := hc
  obtain ⟨i1, i2, i3, i4⟩ := hi
  have hk := h.kind
  have hs := h.size
  clear h
  have hk : k = 0 ∨ k = 1 ∨ k = 2 ∨ k = 3 := by omega
  rcases hk with rfl | rfl | rfl | rfl
  · go_enter Try.func22, Try.ntmps22
    go_wp2_with fail
    refine (check_ok _ H.out).mono ?_
    rintro e w1 ⟨rfl, hb⟩
    have hK := Thr.next hb (Thr.make w _ _ _ _ _ _)
    clear hb
    obtain ⟨f1, f2, f3, f4, f5⟩ := hK.facts
    go_wp2_with fail
    refine (has_yes _ HC.out HI.out).mono ?_
    rintro e w2 ⟨rfl, hb⟩
    have hK := Thr.next hb hK
    clear hb f1 f2 f3 f4 f5
    obtain ⟨f1, f2, f3, f4, f5⟩ := hK.facts
    go_wp2_with fail
    exact bodyPost_ret (results_row_tmp Try.results22 _ _ _ _ _ _ _ rfl (store5 hK.rb _ _ _ _ _) Try.underlying23 rfl (by kernel_rfl)) rfl ⟨rfl, below5 hK.below (by omega) _ _ _ _ _⟩
  · go_enter Try.func22, Try.ntmps22
    go_wp2_with fail
    refine (check_ok _ H.out).mono ?_
    rintro e w1 ⟨rfl, hb⟩
    have hK := Thr.next hb (Thr.make w _ _ _ _ _ _)
    clear hb
    obtain ⟨f1, f2, f3, f4, f5⟩ := hK.facts
    go_wp2_with fail
    refine (has_yes _ HC.out HI.out).mono ?_
    rintro e w2 ⟨rfl, hb⟩
    have hK := Thr.next hb hK
    clear hb f1 f2 f3 f4 f5
    obtain ⟨f1, f2, f3, f4, f5⟩ := hK.facts
    go_wp2_with fail
    exact bodyPost_ret (results_row_tmp Try.results22 _ _ _ _ _ _ _ rfl (store5 (hK.set_ _ _) _ _ _ _ _) Try.underlying23 rfl (by kernel_rfl)) rfl ⟨rfl, below5 (hK.below.setCell (Nat.le_refl _) _) (by omega) _ _ _ _ _⟩
  · go_enter Try.func22, Try.ntmps22
    go_wp2_with fail
    refine (check_ok _ H.out).mono ?_
    rintro e w1 ⟨rfl, hb⟩
    have hK := Thr.next hb (Thr.make w _ _ _ _ _ _)
    clear hb
    obtain ⟨f1, f2, f3, f4, f5⟩ := hK.facts
    go_wp2_with fail
    refine (has_yes _ HC.out HI.out).mono ?_
    rintro e w2 ⟨rfl, hb⟩
    have hK := Thr.next hb hK
    clear hb f1 f2 f3 f4 f5
    obtain ⟨f1, f2, f3, f4, f5⟩ := hK.facts
    go_wp2_with fail
    exact bodyPost_ret (results_row_tmp Try.results22 _ _ _ _ _ _ _ rfl (store5 (hK.set_ _ _) _ _ _ _ _) Try.underlying23 rfl (by kernel_rfl)) rfl ⟨rfl, below5 (hK.below.setCell (Nat.le_refl _) _) (by omega) _ _ _ _ _⟩
  · by_cases hp : 1 ≤ p - 1
    · go_enter Try.func22, Try.ntmps22
      go_wp2_with fail
      refine (check_ok _ H.out).mono ?_
      rintro e w1 ⟨rfl, hb⟩
      have hK := Thr.next hb (Thr.make w _ _ _ _ _ _)
      clear hb
      obtain ⟨f1, f2, f3, f4, f5⟩ := hK.facts
      go_wp2_with fail
      refine (has_yes _ HC.out HI.out).mono ?_
      rintro e w2 ⟨rfl, hb⟩
      have hK := Thr.next hb hK
      clear hb f1 f2 f3 f4 f5
      obtain ⟨f1, f2, f3, f4, f5⟩ := hK.facts
      go_wp2_with fail
      exact bodyPost_ret (results_row_tmp Try.results22 _ _ _ _ _ _ _ rfl (store5 (hK.set_ _ _) _ _ _ _ _) Try.underlying23 rfl (by kernel_rfl)) rfl ⟨ret_bar (by omega), below5 (hK.below.setCell (Nat.le_refl _) _) (by omega) _ _ _ _ _⟩
    · have hp' : p = 1 := by omega
      subst hp'
      go_enter Try.func22, Try.ntmps22
      go_wp2_with fail
      refine (check_ok _ H.out).mono ?_
      rintro e w1 ⟨rfl, hb⟩
      have hK := Thr.next hb (Thr.make w _ _ _ _ _ _)
      clear hb
      obtain ⟨f1, f2, f3, f4, f5⟩ := hK.facts
      go_wp2_with fail
      refine (has_yes _ HC.out HI.out).mono ?_
      rintro e w2 ⟨rfl, hb⟩
      have hK := Thr.next hb hK
      clear hb f1 f2 f3 f4 f5
      obtain ⟨f1, f2, f3, f4, f5⟩ := hK.facts
      go_wp2_with fail
      exact bodyPost_ret (results_row_tmp Try.results22 _ _ _ _ _ _ _ rfl (store5 (hK.set_ _ _) _ _ _ _ _) Try.underlying23 rfl (by kernel_rfl)) rfl ⟨ret_bar1 (by omega), below5 (hK.below.setCell (Nat.le_refl _) _) (by omega) _ _ _ _ _⟩
set_option maxHeartbeats 2000000 in
theorem refclick_in (h : Right k s o v c) (hc : Counts x y p q) (hi : x ≤ a ∧ a < x + p) : Calls Try.prog 25 #[wd k s o v c, rc x y p q, .int .i64 a] w fun e w' => e = .returned (resV (clickF k s o v c x p a)) ∧ Below w.heap.size w w' := by
  obtain ⟨c1, c2, c3, c4, c5, c6⟩ := hc
  obtain ⟨i1, i2⟩ := hi
  have hk := h.kind
  have hs := h.size
  clear h
  have hk : k = 0 ∨ k = 1 ∨ k = 2 ∨ k = 3 := by omega
  rcases hk with rfl | rfl | rfl | rfl
  all_goals
    go_enter Try.func25, Try.ntmps25
    go_wp2_with fail
  all_goals go_returns
  all_goals first
    | exact ⟨rfl, by go_grown⟩
    | exact ⟨ret_bar (by omega), by go_grown⟩
    | exact ⟨ret_bar1 (by omega), by go_grown⟩
end
end Go.Proofs.Ytnjlkjoahcakpaa
