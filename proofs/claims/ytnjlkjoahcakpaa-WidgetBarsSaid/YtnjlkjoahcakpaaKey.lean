/-
  The walks of Key: one way each; nothing that was there has changed.
-/
import Derived.Test.YtnjlkjoahcakpaaCheck
import Derived.Test.YtnjlkjoahcakpaaKeys
import Derived.Test.YtnjlkjoahcakpaaTwo
namespace Go.Proofs.Ytnjlkjoahcakpaa
open Go.RowKit
section
variable {k : Int} {s : ByteArray} {o : Bool} {v c : Int} (w : World)
theorem check_ok (h : Right k s o v c) : Calls Try.prog 15 #[wd k s o v c] w fun e w' => e = .returned (.int .i64 0) ∧ Below w.heap.size w w' :=
  (check_any k s o v c w (by have := h.size; unfold maxLen; omega)).mono fun _ _ ⟨he, hw⟩ => ⟨by rw [he, (right_iff k s o v c).2 h], hw⟩
theorem letter_eq {a m b : Int} {t : Bool} (h : letF a m = (b, t)) : Calls Try.prog 20 #[.int .i64 a, .int .i64 m] w fun e w' => e = .returned (.tuple #[.int .u8 b, .bool t]) ∧ w = w' :=
  (letter_any a m w).mono fun _ _ ⟨he, hw⟩ => ⟨by rw [he, h], hw⟩
set_option maxHeartbeats 400000 in
theorem key_back0 (h : Right 2 s o v c)(hc : c = 0) : Calls Try.prog 18 #[wd 2 s o v c, .int .i64 8, .int .i64 0] w fun e w' => e = .returned (.tuple #[wd 2 s o v c, .bool true]) ∧ Below w.heap.size w w' := by
  subst hc
  have H := hid h
  have hs := h.size
  have hcu := h.cur.2
  have hcu0 := h.cur.1
  have hvv := h.val
  clear h
  go_enter Try.func18, Try.ntmps18
  go_wp2_with fail
  refine (check_ok _ H.out).mono ?_
  rintro e w1 ⟨rfl, hb⟩
  have HT := two_of hb
  clear hb
  obtain ⟨ha, hbb, hfa, hfb, hz0, hz⟩ := HT.facts
  go_wp2_with fail
  refine (letter_eq _ (b := 0) (t := false) rfl).mono ?_
  rintro e w2 ⟨rfl, rfl⟩
  go_wp2_with fail
  refine (keys2 _).mono ?_
  rintro e w2 ⟨rfl, rfl⟩
  have hlk := run_look_yes (P := Try.prog) (w1.alloc (.map map2 6)) Try.underlying72 Try.underlying3 w1.heap.size map2 6 8 0 _ (heap_alloc_new _ _) rfl
  go_wp2_with fail
  refine (back_none _ _ _ _ _ _ rfl).mono ?_
  rintro e w2 ⟨rfl, hb2⟩
  have HT := HT.next ((((Below.refl _ _).alloc (Nat.le_refl _) _)).trans (hb2.mono (by simp)))
  clear ha hbb hfa hfb hz0 hz hb2 hlk
  obtain ⟨ha, hbb, hfa, hfb, hz0, hz⟩ := HT.facts
  go_wp2_with fail
  exact bodyPost_ret (results_row_tmp Try.results18 _ _ _ _ _ _ _ rfl (store5 HT.rb _ _ _ _ _) Try.underlying23 rfl (by kernel_rfl)) rfl ⟨rfl, below5 HT.below (by omega) _ _ _ _ _⟩

set_option maxHeartbeats 400000 in
theorem key_back (h : Right 2 s o v c) (hc : 0 < c) : Calls Try.prog 18 #[wd 2 s o v c, .int .i64 8, .int .i64 0] w fun e w' => e = .returned (.tuple #[wd 2 (cutAt s (c.toNat - 1) c.toNat) o v (c - 1), .bool true]) ∧ Below w.heap.size w w' := by
  have H := hid h
  have hs := h.size
  have hcu := h.cur.2
  have hcu0 := h.cur.1
  have hvv := h.val
  clear h
  go_enter Try.func18, Try.ntmps18
  go_wp2_with fail
  refine (check_ok _ H.out).mono ?_
  rintro e w1 ⟨rfl, hb⟩
  have HT := two_of hb
  clear hb
  obtain ⟨ha, hbb, hfa, hfb, hz0, hz⟩ := HT.facts
  go_wp2_with fail
  refine (letter_eq _ (b := 0) (t := false) rfl).mono ?_
  rintro e w2 ⟨rfl, rfl⟩
  go_wp2_with fail
  refine (keys2 _).mono ?_
  rintro e w2 ⟨rfl, rfl⟩
  have hlk := run_look_yes (P := Try.prog) (w1.alloc (.map map2 6)) Try.underlying72 Try.underlying3 w1.heap.size map2 6 8 0 _ (heap_alloc_new _ _) rfl
  go_wp2_with fail
  refine (back_some _ _ _ _ _ _ hc hcu hs).mono ?_
  rintro e w2 ⟨rfl, hb2⟩
  have HT := HT.next ((((Below.refl _ _).alloc (Nat.le_refl _) _)).trans (hb2.mono (by simp)))
  clear ha hbb hfa hfb hz0 hz hb2 hlk
  obtain ⟨ha, hbb, hfa, hfb, hz0, hz⟩ := HT.facts
  go_wp2_with fail
  exact bodyPost_ret (results_row_tmp Try.results18 _ _ _ _ _ _ _ rfl (store5 HT.rb _ _ _ _ _) Try.underlying23 rfl (by kernel_rfl)) rfl ⟨rfl, below5 HT.below (by omega) _ _ _ _ _⟩

set_option maxHeartbeats 400000 in
theorem key_gone0 (h : Right 2 s o v c) (hc : c = s.size) : Calls Try.prog 18 #[wd 2 s o v c, .int .i64 127, .int .i64 0] w fun e w' => e = .returned (.tuple #[wd 2 s o v c, .bool true]) ∧ Below w.heap.size w w' := by
  subst hc
  have H := hid h
  have hs := h.size
  have hcu := h.cur.2
  have hcu0 := h.cur.1
  have hvv := h.val
  clear h
  go_enter Try.func18, Try.ntmps18
  go_wp2_with fail
  refine (check_ok _ H.out).mono ?_
  rintro e w1 ⟨rfl, hb⟩
  have HT := two_of hb
  clear hb
  obtain ⟨ha, hbb, hfa, hfb, hz0, hz⟩ := HT.facts
  go_wp2_with fail
  refine (letter_eq _ (b := 0) (t := false) rfl).mono ?_
  rintro e w2 ⟨rfl, rfl⟩
  go_wp2_with fail
  refine (keys2 _).mono ?_
  rintro e w2 ⟨rfl, rfl⟩
  have hlk := run_look_yes (P := Try.prog) (w1.alloc (.map map2 6)) Try.underlying72 Try.underlying3 w1.heap.size map2 6 127 1 _ (heap_alloc_new _ _) rfl
  go_wp2_with fail
  refine (gone_none _ _ _ _ _ _ rfl).mono ?_
  rintro e w2 ⟨rfl, hb2⟩
  have HT := HT.next ((((Below.refl _ _).alloc (Nat.le_refl _) _)).trans (hb2.mono (by simp)))
  clear ha hbb hfa hfb hz0 hz hb2 hlk
  obtain ⟨ha, hbb, hfa, hfb, hz0, hz⟩ := HT.facts
  go_wp2_with fail
  exact bodyPost_ret (results_row_tmp Try.results18 _ _ _ _ _ _ _ rfl (store5 HT.rb _ _ _ _ _) Try.underlying23 rfl (by kernel_rfl)) rfl ⟨rfl, below5 HT.below (by omega) _ _ _ _ _⟩

set_option maxHeartbeats 400000 in
theorem key_gone (h : Right 2 s o v c) (hc : c < s.size) : Calls Try.prog 18 #[wd 2 s o v c, .int .i64 127, .int .i64 0] w fun e w' => e = .returned (.tuple #[wd 2 (cutAt s c.toNat (c.toNat + 1)) o v c, .bool true]) ∧ Below w.heap.size w w' := by
  have H := hid h
  have hs := h.size
  have hcu := h.cur.2
  have hcu0 := h.cur.1
  have hvv := h.val
  clear h
  go_enter Try.func18, Try.ntmps18
  go_wp2_with fail
  refine (check_ok _ H.out).mono ?_
  rintro e w1 ⟨rfl, hb⟩
  have HT := two_of hb
  clear hb
  obtain ⟨ha, hbb, hfa, hfb, hz0, hz⟩ := HT.facts
  go_wp2_with fail
  refine (letter_eq _ (b := 0) (t := false) rfl).mono ?_
  rintro e w2 ⟨rfl, rfl⟩
  go_wp2_with fail
  refine (keys2 _).mono ?_
  rintro e w2 ⟨rfl, rfl⟩
  have hlk := run_look_yes (P := Try.prog) (w1.alloc (.map map2 6)) Try.underlying72 Try.underlying3 w1.heap.size map2 6 127 1 _ (heap_alloc_new _ _) rfl
  go_wp2_with fail
  refine (gone_some _ _ _ _ _ _ hcu0 hc hs).mono ?_
  rintro e w2 ⟨rfl, hb2⟩
  have HT := HT.next ((((Below.refl _ _).alloc (Nat.le_refl _) _)).trans (hb2.mono (by simp)))
  clear ha hbb hfa hfb hz0 hz hb2 hlk
  obtain ⟨ha, hbb, hfa, hfb, hz0, hz⟩ := HT.facts
  go_wp2_with fail
  exact bodyPost_ret (results_row_tmp Try.results18 _ _ _ _ _ _ _ rfl (store5 HT.rb _ _ _ _ _) Try.underlying23 rfl (by kernel_rfl)) rfl ⟨rfl, below5 HT.below (by omega) _ _ _ _ _⟩

set_option maxHeartbeats 400000 in
theorem key_left (h : Right 2 s o v c) : Calls Try.prog 18 #[wd 2 s o v c, .int .i64 130, .int .i64 0] w fun e w' => e = .returned (.tuple #[wd 2 s o v (max (c - 1) 0), .bool true]) ∧ Below w.heap.size w w' := by
  have H := hid h
  have hs := h.size
  have hcu := h.cur.2
  have hcu0 := h.cur.1
  have hvv := h.val
  clear h
  go_enter Try.func18, Try.ntmps18
  go_wp2_with fail
  refine (check_ok _ H.out).mono ?_
  rintro e w1 ⟨rfl, hb⟩
  have HT := two_of hb
  clear hb
  obtain ⟨ha, hbb, hfa, hfb, hz0, hz⟩ := HT.facts
  go_wp2_with fail
  refine (letter_eq _ (b := 0) (t := false) rfl).mono ?_
  rintro e w2 ⟨rfl, rfl⟩
  go_wp2_with fail
  refine (keys2 _).mono ?_
  rintro e w2 ⟨rfl, rfl⟩
  have hlk := run_look_yes (P := Try.prog) (w1.alloc (.map map2 6)) Try.underlying72 Try.underlying3 w1.heap.size map2 6 130 2 _ (heap_alloc_new _ _) rfl
  go_wp2_with fail
  refine (left_any _ _ _ _ _ _ hcu0 (by omega)).mono ?_
  rintro e w2 ⟨rfl, hb2⟩
  have HT := HT.next ((((Below.refl _ _).alloc (Nat.le_refl _) _)).trans (hb2.mono (by simp)))
  clear ha hbb hfa hfb hz0 hz hb2 hlk
  obtain ⟨ha, hbb, hfa, hfb, hz0, hz⟩ := HT.facts
  go_wp2_with fail
  exact bodyPost_ret (results_row_tmp Try.results18 _ _ _ _ _ _ _ rfl (store5 HT.rb _ _ _ _ _) Try.underlying23 rfl (by kernel_rfl)) rfl ⟨rfl, below5 HT.below (by omega) _ _ _ _ _⟩

set_option maxHeartbeats 400000 in
theorem key_right (h : Right 2 s o v c) : Calls Try.prog 18 #[wd 2 s o v c, .int .i64 131, .int .i64 0] w fun e w' => e = .returned (.tuple #[wd 2 s o v (min (c + 1) s.size), .bool true]) ∧ Below w.heap.size w w' := by
  have H := hid h
  have hs := h.size
  have hcu := h.cur.2
  have hcu0 := h.cur.1
  have hvv := h.val
  clear h
  go_enter Try.func18, Try.ntmps18
  go_wp2_with fail
  refine (check_ok _ H.out).mono ?_
  rintro e w1 ⟨rfl, hb⟩
  have HT := two_of hb
  clear hb
  obtain ⟨ha, hbb, hfa, hfb, hz0, hz⟩ := HT.facts
  go_wp2_with fail
  refine (letter_eq _ (b := 0) (t := false) rfl).mono ?_
  rintro e w2 ⟨rfl, rfl⟩
  go_wp2_with fail
  refine (keys2 _).mono ?_
  rintro e w2 ⟨rfl, rfl⟩
  have hlk := run_look_yes (P := Try.prog) (w1.alloc (.map map2 6)) Try.underlying72 Try.underlying3 w1.heap.size map2 6 131 3 _ (heap_alloc_new _ _) rfl
  go_wp2_with fail
  refine (right_any _ _ _ _ _ _ hcu0 (by omega)).mono ?_
  rintro e w2 ⟨rfl, hb2⟩
  have HT := HT.next ((((Below.refl _ _).alloc (Nat.le_refl _) _)).trans (hb2.mono (by simp)))
  clear ha hbb hfa hfb hz0 hz hb2 hlk
  obtain ⟨ha, hbb, hfa, hfb, hz0, hz⟩ := HT.facts
  go_wp2_with fail
  exact bodyPost_ret (results_row_tmp Try.results18 _ _ _ _ _ _ _ rfl (store5 HT.rb _ _ _ _ _) Try.underlying23 rfl (by kernel_rfl)) rfl ⟨rfl, below5 HT.below (by omega) _ _ _ _ _⟩

set_option maxHeartbeats 400000 in
theorem key_home (h : Right 2 s o v c) : Calls Try.prog 18 #[wd 2 s o v c, .int .i64 132, .int .i64 0] w fun e w' => e = .returned (.tuple #[wd 2 s o v 0, .bool true]) ∧ Below w.heap.size w w' := by
  have H := hid h
  have hs := h.size
  have hcu := h.cur.2
  have hcu0 := h.cur.1
  have hvv := h.val
  clear h
  go_enter Try.func18, Try.ntmps18
  go_wp2_with fail
  refine (check_ok _ H.out).mono ?_
  rintro e w1 ⟨rfl, hb⟩
  have HT := two_of hb
  clear hb
  obtain ⟨ha, hbb, hfa, hfb, hz0, hz⟩ := HT.facts
  go_wp2_with fail
  refine (letter_eq _ (b := 0) (t := false) rfl).mono ?_
  rintro e w2 ⟨rfl, rfl⟩
  go_wp2_with fail
  refine (keys2 _).mono ?_
  rintro e w2 ⟨rfl, rfl⟩
  have hlk := run_look_yes (P := Try.prog) (w1.alloc (.map map2 6)) Try.underlying72 Try.underlying3 w1.heap.size map2 6 132 4 _ (heap_alloc_new _ _) rfl
  go_wp2_with fail
  refine (home_any _ _ _ _ _ _).mono ?_
  rintro e w2 ⟨rfl, hb2⟩
  have HT := HT.next ((((Below.refl _ _).alloc (Nat.le_refl _) _)).trans (hb2.mono (by simp)))
  clear ha hbb hfa hfb hz0 hz hb2 hlk
  obtain ⟨ha, hbb, hfa, hfb, hz0, hz⟩ := HT.facts
  go_wp2_with fail
  exact bodyPost_ret (results_row_tmp Try.results18 _ _ _ _ _ _ _ rfl (store5 HT.rb _ _ _ _ _) Try.underlying23 rfl (by kernel_rfl)) rfl ⟨rfl, below5 HT.below (by omega) _ _ _ _ _⟩

set_option maxHeartbeats 400000 in
theorem key_end (h : Right 2 s o v c) : Calls Try.prog 18 #[wd 2 s o v c, .int .i64 133, .int .i64 0] w fun e w' => e = .returned (.tuple #[wd 2 s o v s.size, .bool true]) ∧ Below w.heap.size w w' := by
  have H := hid h
  have hs := h.size
  have hcu := h.cur.2
  have hcu0 := h.cur.1
  have hvv := h.val
  clear h
  go_enter Try.func18, Try.ntmps18
  go_wp2_with fail
  refine (check_ok _ H.out).mono ?_
  rintro e w1 ⟨rfl, hb⟩
  have HT := two_of hb
  clear hb
  obtain ⟨ha, hbb, hfa, hfb, hz0, hz⟩ := HT.facts
  go_wp2_with fail
  refine (letter_eq _ (b := 0) (t := false) rfl).mono ?_
  rintro e w2 ⟨rfl, rfl⟩
  go_wp2_with fail
  refine (keys2 _).mono ?_
  rintro e w2 ⟨rfl, rfl⟩
  have hlk := run_look_yes (P := Try.prog) (w1.alloc (.map map2 6)) Try.underlying72 Try.underlying3 w1.heap.size map2 6 133 5 _ (heap_alloc_new _ _) rfl
  go_wp2_with fail
  refine (end_any _ _ _ _ _ _).mono ?_
  rintro e w2 ⟨rfl, hb2⟩
  have HT := HT.next ((((Below.refl _ _).alloc (Nat.le_refl _) _)).trans (hb2.mono (by simp)))
  clear ha hbb hfa hfb hz0 hz hb2 hlk
  obtain ⟨ha, hbb, hfa, hfb, hz0, hz⟩ := HT.facts
  go_wp2_with fail
  exact bodyPost_ret (results_row_tmp Try.results18 _ _ _ _ _ _ _ rfl (store5 HT.rb _ _ _ _ _) Try.underlying23 rfl (by kernel_rfl)) rfl ⟨rfl, below5 HT.below (by omega) _ _ _ _ _⟩

set_option maxHeartbeats 400000 in
theorem key_enter (h : Right 1 s o v c) : Calls Try.prog 18 #[wd 1 s o v c, .int .i64 13, .int .i64 0] w fun e w' => e = .returned (.tuple #[wd 1 s (!o) v c, .bool true]) ∧ Below w.heap.size w w' := by
  have H := hid h
  have hs := h.size
  have hcu := h.cur.2
  have hcu0 := h.cur.1
  have hvv := h.val
  clear h
  go_enter Try.func18, Try.ntmps18
  go_wp2_with fail
  refine (check_ok _ H.out).mono ?_
  rintro e w1 ⟨rfl, hb⟩
  have HT := two_of hb
  clear hb
  obtain ⟨ha, hbb, hfa, hfb, hz0, hz⟩ := HT.facts
  go_wp2_with fail
  refine (letter_eq _ (b := 0) (t := false) rfl).mono ?_
  rintro e w2 ⟨rfl, rfl⟩
  go_wp2_with fail
  refine (keys1 _).mono ?_
  rintro e w2 ⟨rfl, rfl⟩
  have hlk := run_look_yes (P := Try.prog) (w1.alloc (.map map1 2)) Try.underlying72 Try.underlying3 w1.heap.size map1 2 13 0 _ (heap_alloc_new _ _) rfl
  go_wp2_with fail
  refine (press_any _ _ _ _ _ _).mono ?_
  rintro e w2 ⟨rfl, hb2⟩
  have HT := HT.next ((((Below.refl _ _).alloc (Nat.le_refl _) _)).trans (hb2.mono (by simp)))
  clear ha hbb hfa hfb hz0 hz hb2 hlk
  obtain ⟨ha, hbb, hfa, hfb, hz0, hz⟩ := HT.facts
  go_wp2_with fail
  exact bodyPost_ret (results_row_tmp Try.results18 _ _ _ _ _ _ _ rfl (store5 HT.rb _ _ _ _ _) Try.underlying23 rfl (by kernel_rfl)) rfl ⟨rfl, below5 HT.below (by omega) _ _ _ _ _⟩

set_option maxHeartbeats 400000 in
theorem key_blank (h : Right 1 s o v c) : Calls Try.prog 18 #[wd 1 s o v c, .int .i64 32, .int .i64 0] w fun e w' => e = .returned (.tuple #[wd 1 s (!o) v c, .bool true]) ∧ Below w.heap.size w w' := by
  have H := hid h
  have hs := h.size
  have hcu := h.cur.2
  have hcu0 := h.cur.1
  have hvv := h.val
  clear h
  go_enter Try.func18, Try.ntmps18
  go_wp2_with fail
  refine (check_ok _ H.out).mono ?_
  rintro e w1 ⟨rfl, hb⟩
  have HT := two_of hb
  clear hb
  obtain ⟨ha, hbb, hfa, hfb, hz0, hz⟩ := HT.facts
  go_wp2_with fail
  refine (letter_eq _ (b := 32) (t := true) rfl).mono ?_
  rintro e w2 ⟨rfl, rfl⟩
  go_wp2_with fail
  refine (keys1 _).mono ?_
  rintro e w2 ⟨rfl, rfl⟩
  have hlk := run_look_yes (P := Try.prog) (w1.alloc (.map map1 2)) Try.underlying72 Try.underlying3 w1.heap.size map1 2 32 1 _ (heap_alloc_new _ _) rfl
  go_wp2_with fail
  refine (press_any _ _ _ _ _ _).mono ?_
  rintro e w2 ⟨rfl, hb2⟩
  have HT := HT.next ((((Below.refl _ _).alloc (Nat.le_refl _) _)).trans (hb2.mono (by simp)))
  clear ha hbb hfa hfb hz0 hz hb2 hlk
  obtain ⟨ha, hbb, hfa, hfb, hz0, hz⟩ := HT.facts
  go_wp2_with fail
  exact bodyPost_ret (results_row_tmp Try.results18 _ _ _ _ _ _ _ rfl (store5 HT.rb _ _ _ _ _) Try.underlying23 rfl (by kernel_rfl)) rfl ⟨rfl, below5 HT.below (by omega) _ _ _ _ _⟩

set_option maxHeartbeats 400000 in
theorem key_less (h : Right 3 s o v c) : Calls Try.prog 18 #[wd 3 s o v c, .int .i64 130, .int .i64 0] w fun e w' => e = .returned (.tuple #[wd 3 s o (max (v - 10) 0) c, .bool true]) ∧ Below w.heap.size w w' := by
  have H := hid h
  have hs := h.size
  have hcu := h.cur.2
  have hcu0 := h.cur.1
  have hvv := h.val
  clear h
  go_enter Try.func18, Try.ntmps18
  go_wp2_with fail
  refine (check_ok _ H.out).mono ?_
  rintro e w1 ⟨rfl, hb⟩
  have HT := two_of hb
  clear hb
  obtain ⟨ha, hbb, hfa, hfb, hz0, hz⟩ := HT.facts
  go_wp2_with fail
  refine (letter_eq _ (b := 0) (t := false) rfl).mono ?_
  rintro e w2 ⟨rfl, rfl⟩
  go_wp2_with fail
  refine (keys3 _).mono ?_
  rintro e w2 ⟨rfl, rfl⟩
  have hlk := run_look_yes (P := Try.prog) (w1.alloc (.map map3 2)) Try.underlying72 Try.underlying3 w1.heap.size map3 2 130 0 _ (heap_alloc_new _ _) rfl
  go_wp2_with fail
  refine (less_any _ _ _ _ _ _ hvv).mono ?_
  rintro e w2 ⟨rfl, hb2⟩
  have HT := HT.next ((((Below.refl _ _).alloc (Nat.le_refl _) _)).trans (hb2.mono (by simp)))
  clear ha hbb hfa hfb hz0 hz hb2 hlk
  obtain ⟨ha, hbb, hfa, hfb, hz0, hz⟩ := HT.facts
  go_wp2_with fail
  exact bodyPost_ret (results_row_tmp Try.results18 _ _ _ _ _ _ _ rfl (store5 HT.rb _ _ _ _ _) Try.underlying23 rfl (by kernel_rfl)) rfl ⟨rfl, below5 HT.below (by omega) _ _ _ _ _⟩

set_option maxHeartbeats 400000 in
theorem key_more (h : Right 3 s o v c) : Calls Try.prog 18 #[wd 3 s o v c, .int .i64 131, .int .i64 0] w fun e w' => e = .returned (.tuple #[wd 3 s o (min (v + 10) 100) c, .bool true]) ∧ Below w.heap.size w w' := by
  have H := hid h
  have hs := h.size
  have hcu := h.cur.2
  have hcu0 := h.cur.1
  have hvv := h.val
  clear h
  go_enter Try.func18, Try.ntmps18
  go_wp2_with fail
  refine (check_ok _ H.out).mono ?_
  rintro e w1 ⟨rfl, hb⟩
  have HT := two_of hb
  clear hb
  obtain ⟨ha, hbb, hfa, hfb, hz0, hz⟩ := HT.facts
  go_wp2_with fail
  refine (letter_eq _ (b := 0) (t := false) rfl).mono ?_
  rintro e w2 ⟨rfl, rfl⟩
  go_wp2_with fail
  refine (keys3 _).mono ?_
  rintro e w2 ⟨rfl, rfl⟩
  have hlk := run_look_yes (P := Try.prog) (w1.alloc (.map map3 2)) Try.underlying72 Try.underlying3 w1.heap.size map3 2 131 1 _ (heap_alloc_new _ _) rfl
  go_wp2_with fail
  refine (more_any _ _ _ _ _ _ hvv).mono ?_
  rintro e w2 ⟨rfl, hb2⟩
  have HT := HT.next ((((Below.refl _ _).alloc (Nat.le_refl _) _)).trans (hb2.mono (by simp)))
  clear ha hbb hfa hfb hz0 hz hb2 hlk
  obtain ⟨ha, hbb, hfa, hfb, hz0, hz⟩ := HT.facts
  go_wp2_with fail
  exact bodyPost_ret (results_row_tmp Try.results18 _ _ _ _ _ _ _ rfl (store5 HT.rb _ _ _ _ _) Try.underlying23 rfl (by kernel_rfl)) rfl ⟨rfl, below5 HT.below (by omega) _ _ _ _ _⟩
theorem check_no {n : Int} (hs : s.size ≤ maxLen) (h : chk k s o v c = n) : Calls Try.prog 15 #[wd k s o v c] w fun e w' => e = .returned (.int .i64 n) ∧ Below w.heap.size w w' :=
  (check_any k s o v c w hs).mono fun _ _ ⟨he, hw⟩ => ⟨by rw [he, h], hw⟩
set_option maxHeartbeats 400000 in
theorem key_bad (hs : s.size ≤ maxLen) {n : Int} (hn : (n != 0) = true) (h : chk k s o v c = n) (code mods : Int) : Calls Try.prog 18 #[wd k s o v c, .int .i64 code, .int .i64 mods] w fun e w' => e = .returned (.tuple #[wd k s o v c, .bool false]) ∧ Below w.heap.size w w' := by
  have H := hid h
  clear h
  go_enter Try.func18, Try.ntmps18
  go_wp2_with fail
  refine (check_no _ hs H.out).mono ?_
  rintro e w1 ⟨rfl, hb⟩
  have HT := two_of hb
  clear hb
  obtain ⟨ha, hbb, hfa, hfb, hz0, hz⟩ := HT.facts
  go_wp2_with fail
  exact bodyPost_ret (results_row_tmp Try.results18 _ _ _ _ _ _ _ rfl (store5 HT.rb _ _ _ _ _) Try.underlying23 rfl (by kernel_rfl)) rfl ⟨rfl, below5 HT.below (by omega) _ _ _ _ _⟩

set_option maxHeartbeats 400000 in
theorem key_full (h : Right 2 s o v c) {code mods b : Int} (hl : letF code mods = (b, true)) (hf : s.size = 255) : Calls Try.prog 18 #[wd 2 s o v c, .int .i64 code, .int .i64 mods] w fun e w' => e = .returned (.tuple #[wd 2 s o v c, .bool false]) ∧ Below w.heap.size w w' := by
  have H := hid h
  have hcu := h.cur.2
  have hcu0 := h.cur.1
  have hvv := h.val
  clear h
  have HL := hid hl
  clear hl
  go_enter Try.func18, Try.ntmps18
  go_wp2_with fail
  refine (check_ok _ H.out).mono ?_
  rintro e w1 ⟨rfl, hb⟩
  have HT := two_of hb
  clear hb
  obtain ⟨ha, hbb, hfa, hfb, hz0, hz⟩ := HT.facts
  go_wp2_with fail
  refine (letter_eq _ HL.out).mono ?_
  rintro e w2 ⟨rfl, rfl⟩
  go_wp2_with fail
  exact bodyPost_ret (results_row_tmp Try.results18 _ _ _ _ _ _ _ rfl (store5 HT.rb _ _ _ _ _) Try.underlying23 rfl (by kernel_rfl)) rfl ⟨rfl, below5 HT.below (by omega) _ _ _ _ _⟩
set_option maxHeartbeats 400000 in
theorem key_mods_n (h : Right k s o v c) {code mods b : Int} (hl : letF code mods = (b, false)) (hm : (mods != 0) = true) : Calls Try.prog 18 #[wd k s o v c, .int .i64 code, .int .i64 mods] w fun e w' => e = .returned (.tuple #[wd k s o v c, .bool false]) ∧ Below w.heap.size w w' := by
  have H := hid h
  have hs := h.size
  have hcu := h.cur.2
  have hcu0 := h.cur.1
  have hvv := h.val
  clear h
  have HL := hid hl
  clear hl
  go_enter Try.func18, Try.ntmps18
  go_wp2_with fail
  refine (check_ok _ H.out).mono ?_
  rintro e w1 ⟨rfl, hb⟩
  have HT := two_of hb
  clear hb
  obtain ⟨ha, hbb, hfa, hfb, hz0, hz⟩ := HT.facts
  go_wp2_with fail
  refine (letter_eq _ HL.out).mono ?_
  rintro e w2 ⟨rfl, rfl⟩
  go_wp2_with fail
  exact bodyPost_ret (results_row_tmp Try.results18 _ _ _ _ _ _ _ rfl (store5 HT.rb _ _ _ _ _) Try.underlying23 rfl (by kernel_rfl)) rfl ⟨rfl, below5 HT.below (by omega) _ _ _ _ _⟩

set_option maxHeartbeats 400000 in
theorem key_mods_y (h : Right k s o v c) {code mods b : Int} (hl : letF code mods = (b, true)) (hk : (k == 2) = false) (hm : (mods != 0) = true) : Calls Try.prog 18 #[wd k s o v c, .int .i64 code, .int .i64 mods] w fun e w' => e = .returned (.tuple #[wd k s o v c, .bool false]) ∧ Below w.heap.size w w' := by
  have H := hid h
  have hs := h.size
  have hcu := h.cur.2
  have hcu0 := h.cur.1
  have hvv := h.val
  clear h
  have HL := hid hl
  clear hl
  go_enter Try.func18, Try.ntmps18
  go_wp2_with fail
  refine (check_ok _ H.out).mono ?_
  rintro e w1 ⟨rfl, hb⟩
  have HT := two_of hb
  clear hb
  obtain ⟨ha, hbb, hfa, hfb, hz0, hz⟩ := HT.facts
  go_wp2_with fail
  refine (letter_eq _ HL.out).mono ?_
  rintro e w2 ⟨rfl, rfl⟩
  go_wp2_with fail
  exact bodyPost_ret (results_row_tmp Try.results18 _ _ _ _ _ _ _ rfl (store5 HT.rb _ _ _ _ _) Try.underlying23 rfl (by kernel_rfl)) rfl ⟨rfl, below5 HT.below (by omega) _ _ _ _ _⟩

set_option maxHeartbeats 400000 in
theorem key_none0 (h : Right 0 s o v c) {code b : Int} {t : Bool} (hl : letF code 0 = (b, t)) : Calls Try.prog 18 #[wd 0 s o v c, .int .i64 code, .int .i64 0] w fun e w' => e = .returned (.tuple #[wd 0 s o v c, .bool false]) ∧ Below w.heap.size w w' := by
  have H := hid h
  have hs := h.size
  have hcu := h.cur.2
  have hcu0 := h.cur.1
  have hvv := h.val
  clear h
  have HL := hid hl
  clear hl
  go_enter Try.func18, Try.ntmps18
  go_wp2_with fail
  refine (check_ok _ H.out).mono ?_
  rintro e w1 ⟨rfl, hb⟩
  have HT := two_of hb
  clear hb
  obtain ⟨ha, hbb, hfa, hfb, hz0, hz⟩ := HT.facts
  go_wp2_with fail
  refine (letter_eq _ HL.out).mono ?_
  rintro e w2 ⟨rfl, rfl⟩
  go_wp2_with fail
  all_goals
    refine (keys0 _).mono ?_
    rintro e w2 ⟨rfl, rfl⟩
    have hlk := run_look_nil (P := Try.prog) w2 Try.underlying72 Try.underlying3 code (z := .nilFunc) (by kernel_rfl)
    go_wp2_with fail
    exact bodyPost_ret (results_row_tmp Try.results18 _ _ _ _ _ _ _ rfl (store5 HT.rb _ _ _ _ _) Try.underlying23 rfl (by kernel_rfl)) rfl ⟨rfl, below5 HT.below (by omega) _ _ _ _ _⟩

set_option maxHeartbeats 400000 in
theorem key_none1 (h : Right 1 s o v c) {code b : Int} {t : Bool} (hl : letF code 0 = (b, t)) (h1 : code ≠ 13) (h2 : code ≠ 32) : Calls Try.prog 18 #[wd 1 s o v c, .int .i64 code, .int .i64 0] w fun e w' => e = .returned (.tuple #[wd 1 s o v c, .bool false]) ∧ Below w.heap.size w w' := by
  have H := hid h
  have hs := h.size
  have hcu := h.cur.2
  have hcu0 := h.cur.1
  have hvv := h.val
  clear h
  have HF : RowKit.Hid (Instr.findNow (.int .i64) (.int .i64 code) map1.toList 0 = some none) := by
    have e1 : (code == 13) = false := by simpa using h1
    have e2 : (code == 32) = false := by simpa using h2
    show Instr.findNow _ _ [_, _] 0 = some none
    simp only [Instr.findNow, Instr.sameNow, if_true, e1, e2]
  clear h1 h2
  have HL := hid hl
  clear hl
  go_enter Try.func18, Try.ntmps18
  go_wp2_with fail
  refine (check_ok _ H.out).mono ?_
  rintro e w1 ⟨rfl, hb⟩
  have HT := two_of hb
  clear hb
  obtain ⟨ha, hbb, hfa, hfb, hz0, hz⟩ := HT.facts
  go_wp2_with fail
  refine (letter_eq _ HL.out).mono ?_
  rintro e w2 ⟨rfl, rfl⟩
  go_wp2_with fail
  all_goals
    refine (keys1 _).mono ?_
    rintro e w2 ⟨rfl, rfl⟩
    have hlk := run_look_no (P := Try.prog) (w1.alloc (.map map1 2)) Try.underlying72 Try.underlying3 w1.heap.size map1 2 code (z := .nilFunc) (by kernel_rfl) (heap_alloc_new _ _) HF.out
    have HT := HT.next ((Below.refl _ _).alloc (Nat.le_refl _) (.map map1 2))
    clear ha hbb hfa hfb hz0 hz
    generalize w1.alloc (.map map1 2) = w3 at hlk HT ⊢
    obtain ⟨ha, hbb, hfa, hfb, hz0, hz⟩ := HT.facts
    go_wp2_with fail
    exact bodyPost_ret (results_row_tmp Try.results18 _ _ _ _ _ _ _ rfl (store5 HT.rb _ _ _ _ _) Try.underlying23 rfl (by kernel_rfl)) rfl ⟨rfl, below5 HT.below (by omega) _ _ _ _ _⟩

set_option maxHeartbeats 400000 in
theorem key_none3 (h : Right 3 s o v c) {code b : Int} {t : Bool} (hl : letF code 0 = (b, t)) (h1 : code ≠ 130) (h2 : code ≠ 131) : Calls Try.prog 18 #[wd 3 s o v c, .int .i64 code, .int .i64 0] w fun e w' => e = .returned (.tuple #[wd 3 s o v c, .bool false]) ∧ Below w.heap.size w w' := by
  have H := hid h
  have hs := h.size
  have hcu := h.cur.2
  have hcu0 := h.cur.1
  have hvv := h.val
  clear h
  have HF : RowKit.Hid (Instr.findNow (.int .i64) (.int .i64 code) map3.toList 0 = some none) := by
    have e1 : (code == 130) = false := by simpa using h1
    have e2 : (code == 131) = false := by simpa using h2
    show Instr.findNow _ _ [_, _] 0 = some none
    simp only [Instr.findNow, Instr.sameNow, if_true, e1, e2]
  clear h1 h2
  have HL := hid hl
  clear hl
  go_enter Try.func18, Try.ntmps18
  go_wp2_with fail
  refine (check_ok _ H.out).mono ?_
  rintro e w1 ⟨rfl, hb⟩
  have HT := two_of hb
  clear hb
  obtain ⟨ha, hbb, hfa, hfb, hz0, hz⟩ := HT.facts
  go_wp2_with fail
  refine (letter_eq _ HL.out).mono ?_
  rintro e w2 ⟨rfl, rfl⟩
  go_wp2_with fail
  all_goals
    refine (keys3 _).mono ?_
    rintro e w2 ⟨rfl, rfl⟩
    have hlk := run_look_no (P := Try.prog) (w1.alloc (.map map3 2)) Try.underlying72 Try.underlying3 w1.heap.size map3 2 code (z := .nilFunc) (by kernel_rfl) (heap_alloc_new _ _) HF.out
    have HT := HT.next ((Below.refl _ _).alloc (Nat.le_refl _) (.map map3 2))
    clear ha hbb hfa hfb hz0 hz
    generalize w1.alloc (.map map3 2) = w3 at hlk HT ⊢
    obtain ⟨ha, hbb, hfa, hfb, hz0, hz⟩ := HT.facts
    go_wp2_with fail
    exact bodyPost_ret (results_row_tmp Try.results18 _ _ _ _ _ _ _ rfl (store5 HT.rb _ _ _ _ _) Try.underlying23 rfl (by kernel_rfl)) rfl ⟨rfl, below5 HT.below (by omega) _ _ _ _ _⟩

set_option maxHeartbeats 400000 in
theorem key_none2 (h : Right 2 s o v c) {code b : Int} (hl : letF code 0 = (b, false)) (h1 : code ≠ 8) (h2 : code ≠ 127) (h3 : code ≠ 130) (h4 : code ≠ 131) (h5 : code ≠ 132) (h6 : code ≠ 133) : Calls Try.prog 18 #[wd 2 s o v c, .int .i64 code, .int .i64 0] w fun e w' => e = .returned (.tuple #[wd 2 s o v c, .bool false]) ∧ Below w.heap.size w w' := by
  have H := hid h
  have hs := h.size
  have hcu := h.cur.2
  have hcu0 := h.cur.1
  have hvv := h.val
  clear h
  have HF : RowKit.Hid (Instr.findNow (.int .i64) (.int .i64 code) map2.toList 0 = some none) := by
    have e1 : (code == 8) = false := by simpa using h1
    have e2 : (code == 127) = false := by simpa using h2
    have e3 : (code == 130) = false := by simpa using h3
    have e4 : (code == 131) = false := by simpa using h4
    have e5 : (code == 132) = false := by simpa using h5
    have e6 : (code == 133) = false := by simpa using h6
    show Instr.findNow _ _ [_, _, _, _, _, _] 0 = some none
    simp only [Instr.findNow, Instr.sameNow, if_true, e1, e2, e3, e4, e5, e6]
  clear h1 h2 h3 h4 h5 h6
  have HL := hid hl
  clear hl
  go_enter Try.func18, Try.ntmps18
  go_wp2_with fail
  refine (check_ok _ H.out).mono ?_
  rintro e w1 ⟨rfl, hb⟩
  have HT := two_of hb
  clear hb
  obtain ⟨ha, hbb, hfa, hfb, hz0, hz⟩ := HT.facts
  go_wp2_with fail
  refine (letter_eq _ HL.out).mono ?_
  rintro e w2 ⟨rfl, rfl⟩
  go_wp2_with fail
  all_goals
    refine (keys2 _).mono ?_
    rintro e w2 ⟨rfl, rfl⟩
    have hlk := run_look_no (P := Try.prog) (w1.alloc (.map map2 6)) Try.underlying72 Try.underlying3 w1.heap.size map2 6 code (z := .nilFunc) (by kernel_rfl) (heap_alloc_new _ _) HF.out
    have HT := HT.next ((Below.refl _ _).alloc (Nat.le_refl _) (.map map2 6))
    clear ha hbb hfa hfb hz0 hz
    generalize w1.alloc (.map map2 6) = w3 at hlk HT ⊢
    obtain ⟨ha, hbb, hfa, hfb, hz0, hz⟩ := HT.facts
    go_wp2_with fail
    exact bodyPost_ret (results_row_tmp Try.results18 _ _ _ _ _ _ _ rfl (store5 HT.rb _ _ _ _ _) Try.underlying23 rfl (by kernel_rfl)) rfl ⟨rfl, below5 HT.below (by omega) _ _ _ _ _⟩
set_option maxRecDepth 100000 in
set_option maxHeartbeats 400000 in
theorem key_ins (h : Right 2 s o v c) {code mods b : Int} (hl : letF code mods = (b, true)) (hf : s.size < 255) : Calls Try.prog 18 #[wd 2 s o v c, .int .i64 code, .int .i64 mods] w fun e w' => e = .returned (.tuple #[wd 2 (insAt s c.toNat b) o v (c + 1), .bool true]) ∧ Below w.heap.size w w' := by
  have H := hid h
  have hcu := h.cur.2
  have hcu0 := h.cur.1
  obtain ⟨hb0, hb1, _⟩ := letF_good hl
  clear h
  have HL := hid hl
  clear hl
  go_enter Try.func18, Try.ntmps18
  go_wp2_with fail
  refine (check_ok _ H.out).mono ?_
  rintro e w1 ⟨rfl, hb⟩
  have HT := two_of hb
  clear hb
  obtain ⟨ha, hbb, hfa, hfb, hz0, hz⟩ := HT.facts
  go_wp2_with fail
  refine (letter_eq _ HL.out).mono ?_
  rintro e w2 ⟨rfl, rfl⟩
  go_wp2_with fail
  have e1 := encode_one (b := b) (by omega) (by omega)
  have e2 := encode_one' (b := b) (by omega) (by omega)
  have e3 := one_size b
  go_region
  all_goals go_wp2_with fail
  all_goals
    exact bodyPost_ret (results_row_tmp Try.results18 _ _ _ _ _ _ _ rfl (by rw [heap_drew]; exact store5 (by rw [heap_setCell_other _ _ _ _ (by simp), heap_setCell_other _ _ _ _ (by simp)]; exact HT.rb) _ _ _ _ _) Try.underlying23 rfl (by kernel_rfl)) rfl
      ⟨rfl, (below5 ((HT.below.setCell (Nat.le_refl _) _).setCell (Nat.le_refl _) _) (by omega) _ _ _ _ _).drew⟩
end
end Go.Proofs.Ytnjlkjoahcakpaa
