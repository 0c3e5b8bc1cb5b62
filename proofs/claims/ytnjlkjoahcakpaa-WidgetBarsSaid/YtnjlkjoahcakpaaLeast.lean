/-
  The walk of Least of a right widget.
-/
import Derived.Test.YtnjlkjoahcakpaaHigh
import Derived.Test.YtnjlkjoahcakpaaKey
namespace Go.Proofs.Ytnjlkjoahcakpaa
open Go.RowKit
attribute [local go_sem ↓] loadAt_font
/-- How wide and high a right widget is at least. -/
def leastF (k W H : Int) : Int × Int := if k = 0 then (max 1 W, max 1 H) else if k = 1 then (W + 6, H + 4) else if k = 2 then (W + 5, H + 4) else (24, 6)
/-- A call's world: a widget and a font lie in its first two blocks; below it is as it was. -/
structure WK (w : World) (A F : Array Value) (t : TypeId) (W : World) : Prop where
  row : W.heap[w.heap.size]? = some (.cells A t (0, 0))
  font : IsFont W (w.heap.size + 1) F
  below : Below w.heap.size w W
theorem leastF_0 {k W H : Int} (h : k = 0) : leastF k W H = (max 1 W, max 1 H) := if_pos h
theorem leastF_1 {k W H : Int} (h : k = 1) : leastF k W H = (W + 6, H + 4) := by unfold leastF; rw [if_neg (by omega), if_pos h]
theorem leastF_2 {k W H : Int} (h : k = 2) : leastF k W H = (W + 5, H + 4) := by unfold leastF; rw [if_neg (by omega), if_neg (by omega), if_pos h]
theorem leastF_3 {k W H : Int} (h : k = 3) : leastF k W H = (24, 6) := by unfold leastF; rw [if_neg (by omega), if_neg (by omega), if_neg (by omega)]
theorem ret2_int {k l : IntKind} {a b c d : Int} (h : a = b) (g : c = d) : Ending.returned (.tuple #[.int k a, .int l c]) = .returned (.tuple #[.int k b, .int l d]) := by rw [h, g]
section
variable {w W W2 : World} {A F : Array Value} {t : TypeId}
theorem WK.lt (h : WK w A F t W) : w.heap.size < W.heap.size := (Array.getElem?_eq_some_iff.1 h.row).1
theorem WK.next (hb : Below W.heap.size W W2) (h : WK w A F t W) : WK w A F t W2 := ⟨by rw [hb.block _ h.lt]; exact h.row, h.font.below hb, h.below.trans (hb.mono h.below.size)⟩
theorem WK.drew (h : WK w A F t W) : WK w A F t W.drew := ⟨h.row, by rw [IsFont.drew]; exact h.font, h.below.drew⟩
theorem WK.cell (h : WK w A F t W) (i : Nat) : W.cell? ⟨w.heap.size, i, none⟩ = A[i]? := cell_of_row _ _ i _ _ _ h.row
theorem WK.make (w : World) (A F : Array Value) (t : TypeId) : WK w A F t ((w.alloc (.cells A t)).alloc (.cells F 36)) := ⟨heap_alloc2_old _ _ _, by unfold IsFont; exact heap_alloc2_new _ _ _, by go_grown⟩
end
set_option maxRecDepth 100000 in
set_option maxHeartbeats 4000000 in
theorem least_any {k : Int} {s : ByteArray} {o : Bool} {v c : Int} (h : Right k s o v c) {F : Array Value} {a d : Int} {wd : Nat → Int} (hF : Fnt F a d wd 95) (hr : ∀ i, 0 ≤ wd i ∧ wd i ≤ 100) (ha : 0 ≤ a ∧ a ≤ 100) (hd : 0 ≤ d ∧ d ≤ 100) (w : World) :
    Calls Try.prog 13 #[Go.Proofs.Ytnjlkjoahcakpaa.wd k s o v c, .agg F] w fun e w' => e = .returned (.tuple #[.int .i64 (leastF k (widF wd s.data.toList) (a + d)).1, .int .i64 (leastF k (widF wd s.data.toList) (a + d)).2]) ∧ Below w.heap.size w w' := by
  have HF := hid hF
  have HR := hid hr
  have H := hid h
  have HA := hid ha
  have HD := hid hd
  have hl := run_fontLoad hF
  have hk0 := h.kind
  have hw := widF_range hr s.data.toList
  have hsz : s.data.toList.length = s.size := by simp
  have hs := h.size
  obtain ⟨hk1, hk2⟩ := hk0
  obtain ⟨hw0, hw1⟩ := hw
  rw [hsz] at hw1
  generalize hW : widF wd s.data.toList = L at *
  have HW := hid hW
  have hh0 : 0 ≤ a + d := by omega
  have hh1 : a + d ≤ 200 := by omega
  generalize hG : a + d = G at *
  have HG := hid hG
  clear hF hr h ha hd hsz hW hG
  go_enter Try.func13, Try.ntmps13
  go_wp2_with (refine wpList_box_big (by rfl) 36 _ (by rfl) F (by rfl) ?_)
  refine (check_ok _ H.out).mono ?_
  rintro e w1 ⟨rfl, hb⟩
  have hK := (WK.next hb (WK.make w _ F _)).drew
  have hk := hK.font
  have hc := hK.cell
  clear hb
  go_wp2_with fail
  go_region_with (first
    | (go_at_call 27; refine (width_any HF.out HR.out s hs _).mono ?_; rw [HW.out]; rintro e w2 ⟨rfl, hb2⟩; have hK2 := WK.next hb2 (by assumption); have hk2 := hK2.font; have hc2 := hK2.cell)
    | (go_at_call 28; refine (high_any HF.out HA.out HD.out _).mono ?_; rw [HG.out]; rintro e w2 ⟨rfl, hb2⟩; have hK2 := WK.next hb2 (by assumption); have hk2 := hK2.font; have hc2 := hK2.cell))
  all_goals go_wp2_with fail
  all_goals go_ret2
  all_goals refine ⟨ret2_int ?_ ?_, WK.below (by assumption)⟩
  all_goals simp only [beq_iff_eq, beq_eq_false_iff_ne, ne_eq] at *
  all_goals first
    | (rw [leastF_1 (by omega)]; done)
    | (rw [leastF_2 (by omega)]; done)
    | (rw [leastF_3 (by omega)]; done)
    | (rw [leastF_0 (by omega)]; simp only []; omega)
end Go.Proofs.Ytnjlkjoahcakpaa
