/-
  WidgetChecks: whatever the widget and the font's number: the call returns true, and the arguments read as they did. No conditions.
-/
import Derived.Test.YtnjlkjoahcakpaaRows
import Derived.Test.YtnjlkjoahcakpaaFrame
import Derived.Test.YtnjlkjoahcakpaaNeeds
import Derived.Deep.RegionWith
import Derived.Deep.RegionHeld3
namespace Go.Proofs.Ytnjlkjoahcakpaa
open Go.RowKit
/-- A call's world: a widget lies in its first block; below it is as it was. -/
structure OK1 (w : World) (A : Array Value) (t : TypeId) (W : World) : Prop where
  row : W.heap[w.heap.size]? = some (.cells A t (0, 0))
  below : Below w.heap.size w W
section
variable {w W W2 : World} {A : Array Value} {t : TypeId}
theorem OK1.lt (h : OK1 w A t W) : w.heap.size < W.heap.size := (Array.getElem?_eq_some_iff.1 h.row).1
theorem OK1.next (hb : Below W.heap.size W W2) (h : OK1 w A t W) : OK1 w A t W2 := ⟨by rw [hb.block _ h.lt]; exact h.row, h.below.trans (hb.mono h.below.size)⟩
theorem OK1.drew (h : OK1 w A t W) : OK1 w A t W.drew := ⟨h.row, h.below.drew⟩
theorem OK1.cell (h : OK1 w A t W) (i : Nat) : W.cell? ⟨w.heap.size, i, none⟩ = A[i]? := cell_of_row _ _ i _ _ _ h.row
theorem OK1.make (w : World) (A : Array Value) (t : TypeId) : OK1 w A t (w.alloc (.cells A t)) := ⟨heap_alloc_new _ _, by go_grown⟩
end
section
variable {k : Int} {s : ByteArray} {o : Bool} {v c : Int} (w : World)
theorem refcheck_no {n : Int} (hs : s.size ≤ maxLen) (h : chk k s o v c = n) : Calls Try.prog 11 #[wd k s o v c] w fun e w' => e = .returned (.int .i64 n) ∧ Below w.heap.size w w' :=
  (refcheck_any k s o v c w hs).mono fun _ _ ⟨he, hw⟩ => ⟨by rw [he, h], hw⟩
set_option maxRecDepth 100000 in
set_option maxHeartbeats 1000000 in
theorem Checks.great_ (n : Int) (h : 400 < s.size) : Calls Try.prog 3 #[wd k s o v c, .int .u8 n] w fun e w' => e = .returned (.bool true) ∧ Below w.heap.size w w' := by
  go_enter Try.func3, Try.ntmps3
  go_wp2_with fail
  refine (great_yes _ h).mono ?_
  rintro e w1 ⟨rfl, hb⟩
  have hK := OK1.next hb (OK1.make w _ _)
  clear hb
  go_wp2_with fail
  refine (awake_any _).mono ?_
  rintro e w2 ⟨rfl, hb⟩
  have hK := OK1.next hb hK
  go_wp2_with fail
  go_ret
  exact ⟨rfl, hK.below⟩
set_option maxRecDepth 100000 in
set_option maxHeartbeats 2000000 in
theorem Checks.bad_ (n : Int) (hn0 : 0 ≤ n) (h : s.size ≤ 400) {m : Int} (hm : (m != 0) = true) (hc : chk k s o v c = m) : Calls Try.prog 3 #[wd k s o v c, .int .u8 n] w fun e w' => e = .returned (.bool true) ∧ Below w.heap.size w w' := by
  have HC := hid hc
  have hs : s.size ≤ maxLen := by unfold maxLen; omega
  clear hc
  go_enter Try.func3, Try.ntmps3
  go_wp2_with fail
  refine (great_no _ h).mono ?_
  rintro e w1 ⟨rfl, hb⟩
  have hK := OK1.next hb (OK1.make w _ _)
  have hk := hK.cell
  clear hb
  go_wp2_with fail
  refine (of_any _).mono ?_
  rintro e w2 ⟨rfl, hb⟩
  have hK := OK1.next hb hK
  clear hb hk
  have hk := hK.cell
  go_wp2_with fail
  refine (refcheck_no _ hs HC.out).mono ?_
  rintro e w3 ⟨rfl, hb⟩
  have hK := (OK1.next hb hK).drew
  clear hb hk
  have hk := hK.cell
  go_wp2_with fail
  go_region_with (first
    | (go_at_call 14; refine (some_any n hn0 _).mono ?_; rintro e w4 ⟨F, rfl, hF, hb2⟩; have hK2 := OK1.next hb2 (by assumption); have hk2 := hK2.cell)
    | (go_at_call 13; refine (least_bad _ hs hm HC.out _).mono ?_; rintro e w4 ⟨rfl, hb2⟩; have hK2 := OK1.next hb2 (by assumption); have hk2 := hK2.cell))
  all_goals go_wp2_with (first
    | (go_at_call 15; refine (check_no _ hs HC.out).mono ?_; rintro e w5 ⟨rfl, hb5⟩; have hK5 := OK1.next hb5 (by assumption); have hk5 := hK5.cell)
    | (go_at_call 10; refine (awake_any _).mono ?_; rintro e w6 ⟨rfl, hb6⟩; have hK6 := OK1.next hb6 (by assumption)))
  all_goals go_ret
  all_goals exact ⟨rfl, OK1.below (A := #[.int .i64 k, .string s, .bool o, .int .i64 v, .int .i64 c]) (t := 23) (by assumption)⟩
/-- The numbers of a built-in font. -/
theorem fNum (n : Int) : (0 ≤ fAsc n ∧ fAsc n ≤ 100) ∧ (0 ≤ fDesc n ∧ fDesc n ≤ 100) := by
  unfold fAsc fDesc; split <;> omega
theorem OK1.s5 {w W : World} {t : TypeId} {a b c d e : Value} (h : OK1 w #[a, b, c, d, e] t W) : W.cell? ⟨w.heap.size, 0, none⟩ = some a ∧ W.cell? ⟨w.heap.size, 1, none⟩ = some b ∧ W.cell? ⟨w.heap.size, 2, none⟩ = some c ∧
    W.cell? ⟨w.heap.size, 3, none⟩ = some d ∧ W.cell? ⟨w.heap.size, 4, none⟩ = some e := ⟨h.cell 0, h.cell 1, h.cell 2, h.cell 3, h.cell 4⟩
set_option maxRecDepth 100000 in
set_option maxHeartbeats 4000000 in
theorem Checks.good_ (n : Int) (hn0 : 0 ≤ n) (h : Right k s o v c) : Calls Try.prog 3 #[wd k s o v c, .int .u8 n] w fun e w' => e = .returned (.bool true) ∧ Below w.heap.size w w' := by
  have HR := hid h
  have HC := hid ((right_iff k s o v c).2 h)
  have hsz := h.size
  have hs : s.size ≤ maxLen := by unfold maxLen; omega
  have hW := hid (show 0 ≤ widF (fWide n) s.data.toList ∧ widF (fWide n) s.data.toList ≤ 25500 from by
    have h1 := widF_range (fWide_range n) s.data.toList
    have h2 : s.data.toList.length = s.size := by simp
    omega)
  have hG := hid (show 0 ≤ fAsc n + fDesc n ∧ fAsc n + fDesc n ≤ 200 from by have := fNum n; omega)
  clear h
  go_enter Try.func3, Try.ntmps3
  go_wp2_with fail
  refine (great_no _ (by omega)).mono ?_
  rintro e w1 ⟨rfl, hb⟩
  have hK := OK1.next hb (OK1.make w _ _)
  have hk := hK.cell
  clear hb
  go_wp2_with fail
  refine (of_any _).mono ?_
  rintro e w2 ⟨rfl, hb⟩
  have hK := OK1.next hb hK
  clear hb hk
  have hk := hK.cell
  go_wp2_with fail
  refine (refcheck_no _ hs HC.out).mono ?_
  rintro e w3 ⟨rfl, hb⟩
  have hK := (OK1.next hb hK).drew
  clear hb hk
  go_wp2_with fail
  go_region_held3 (fun w' => w'.cell? ⟨w.heap.size, 0, none⟩ = some (.int .i64 k) ∧ w'.cell? ⟨w.heap.size, 1, none⟩ = some (.string s) ∧ w'.cell? ⟨w.heap.size, 2, none⟩ = some (.bool o) ∧ w'.cell? ⟨w.heap.size, 3, none⟩ = some (.int .i64 v) ∧ w'.cell? ⟨w.heap.size, 4, none⟩ = some (.int .i64 c)) (exact OK1.s5 (by assumption))
    (first
    | (go_at_call 14; refine (some_any n hn0 _).mono ?_; rintro e w4 ⟨F, rfl, hF, hb2⟩; have hK2 := OK1.next hb2 (by assumption))
    | (go_at_call 13; refine (least_any HR.out (by assumption) (fWide_range n) (fNum n).1 (fNum n).2 _).mono ?_; rintro e w4 ⟨rfl, hb2⟩; have hK2 := OK1.next hb2 (by assumption)))
  have hK5 := hK2.drew
  go_wp2_with fail
  go_region_held3 (fun w' => w'.cell? ⟨w.heap.size, 0, none⟩ = some (.int .i64 k) ∧ w'.cell? ⟨w.heap.size, 1, none⟩ = some (.string s) ∧ w'.cell? ⟨w.heap.size, 2, none⟩ = some (.bool o) ∧ w'.cell? ⟨w.heap.size, 3, none⟩ = some (.int .i64 v) ∧ w'.cell? ⟨w.heap.size, 4, none⟩ = some (.int .i64 c)) (exact OK1.s5 (by assumption))
    (first
    | (go_at_call 12; refine (of_any _).mono ?_; rintro e w4 ⟨rfl, hb2⟩; have hK2 := OK1.next hb2 (by assumption))
    | (go_at_call 14; refine (some_any n hn0 _).mono ?_; rintro e w4 ⟨F, rfl, hF, hb2⟩; have hK2 := OK1.next hb2 (by assumption))
    | (go_at_call 17; refine (needs_any HR.out (by assumption) (fWide_range n) (fNum n).1 (fNum n).2 _).mono ?_; rintro e w4 ⟨rfl, hb2⟩; have hK2 := OK1.next hb2 (by assumption))
    | (go_at_call 16; refine (refleast_any _ HR.out.kind hW.out hG.out).mono ?_; rintro e w4 ⟨rfl, hb2⟩; have hK2 := OK1.next hb2 (by assumption)))
  all_goals (have hk2 := OK1.cell hK2)
  all_goals go_wp2_with (first
    | (go_at_call 15; refine (check_no _ hs HC.out).mono ?_; rintro e w5 ⟨rfl, hb5⟩; have hK5 := OK1.next hb5 (by assumption); have hk5 := hK5.cell)
    | (go_at_call 10; refine (awake_any _).mono ?_; rintro e w6 ⟨rfl, hb6⟩; have hK6 := OK1.next hb6 (by assumption)))
  all_goals go_ret
  all_goals exact ⟨rfl, OK1.below (A := #[.int .i64 k, .string s, .bool o, .int .i64 v, .int .i64 c]) (t := 23) (by assumption)⟩
theorem Checks.walk {n : Int} (hn0 : 0 ≤ n) : Calls Try.prog 3 #[wd k s o v c, .int .u8 n] w fun e w' => e = .returned (.bool true) ∧ Below w.heap.size w w' := by
  by_cases hg : 400 < s.size
  · exact Checks.great_ w n hg
  · by_cases hm : chk k s o v c = 0
    · exact Checks.good_ w n hn0 ((right_iff k s o v c).1 hm)
    · exact Checks.bad_ w n hn0 (by omega) (by simpa using hm) rfl
end
open Go.ChangeShapes Go.WideShapes Go.ChangeAt
theorem Checks.own : ownKnob Try.prog.godebug = none := by kernel_rfl
theorem Checks.laidOut : laidOutB Try.prog = true := by kernel_rfl
set_option maxRecDepth 100000 in
theorem Checks.lifted (os : Os) (started : os.Started) (H : Type) (enc : TypeId × Value → H) :
    ReturnsInHanded {} Try.checked os 3 .any (Rows.widgetChecksSpec.pre6 enc Try.prog Try.f3 Rows.widgetChecksRow.domain false) (Rows.widgetChecksSpec.post enc Try.prog Try.f3 false true false false) := by
  refine returnsInHanded_of_change (C := Try.checked) Checks.own started (by kernel_rfl) Try.func3
    (ChangeSpec.witness6 (enc := enc) (C := Try.checked) false ⟨#[], #[.agg #[.int .i64 0, .string ⟨#[]⟩, .bool false, .int .i64 0, .int .i64 0], .int .u8 0], []⟩ 8 (by kernel_rfl) (by kernel_rfl) (by kernel_rfl) (by kernel_rfl)) ?_
  intro W base args ds gs before hval0 hW _ _
  have hval : ∀ (j : Nat) t v, Try.f3.params[j]? = some t → args[j]? = some v → Value.okWide Try.prog W .any base t v := hval0
  have hW0 := hW
  obtain ⟨p, q, hA, hV, rfl, _, _⟩ := hW
  rw [Try.params3] at hA hval
  obtain ⟨v0, vs0, d0, ds0, p0, q0, hargs, rfl, rfl, h0, r0⟩ := trodAll_cons hA
  obtain ⟨v1, vs1, d1, ds1, p1, q1, rfl, rfl, rfl, h1, r1⟩ := trodAll_cons r0
  obtain ⟨rfl, rfl, rfl⟩ := trodAll_nil r1
  obtain rfl : args = #[v0, v1] := by cases args; simp_all
  obtain ⟨rfl, rfl⟩ := trodVars_none hV
  obtain ⟨k0, s0, o0, n0, c0, rfl, hs0, _, _, _⟩ := open_widget (hval 0 23 v0 rfl rfl) h0
  obtain ⟨a1, rfl, _, _, w1⟩ := open_int Try.underlying5 (hval 1 5 v1 rfl rfl) h1
  have hr1 := wf_range8 w1
  refine (Checks.walk W hr1.1).mono fun e W' ⟨he, hb⟩ => ?_
  subst he
  exact ⟨_, rfl, law_post Checks.laidOut (by kernel_rfl) rfl rfl Try.underlying4 rfl hW0 hb⟩
theorem Checks.over : Rows.widgetChecksRow.holds Try.pinned (OpenSpec.ofChange Rows.widgetChecksSpec) :=
  OpenClaim.holds_of_wide 3 Try.f3 rfl rfl rfl rfl rfl rfl rfl ⟨rfl, rfl, rfl, rfl, rfl⟩ rfl rfl rfl rfl rfl (by kernel_rfl) Try.func3 (by kernel_rfl)
    (of_decide_eq_true (by kernel_rfl)) (by unfold Func.isWrapper; first | (rw [if_pos (by decide +kernel)]; kernel_rfl) | (rw [if_neg (by decide +kernel)]; exact ⟨rfl, rfl⟩))
    (fun os started H enc _ => Checks.lifted os started H enc)
theorem checks_holds : Rows.WidgetChecksSaid := Checks.over
#print axioms checks_holds
end Go.Proofs.Ytnjlkjoahcakpaa
