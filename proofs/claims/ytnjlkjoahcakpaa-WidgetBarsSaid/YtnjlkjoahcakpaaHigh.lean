/-
  The walk of 'high': a font's whole block is loaded in a region that draws its order.
-/
import Derived.Test.YtnjlkjoahcakpaaFontC
import Derived.Deep.RegionWith
namespace Go.Proofs.Ytnjlkjoahcakpaa
open Go.RowKit
/-- A whole font loaded from the head of a block, as one word (the walk's simp is not to open it cell by cell). -/
def fontLoad (x : Value) : Sem Value := Instr.loadAt 36 x
theorem loadAt_font (x : Value) : Instr.loadAt 36 x = fontLoad x := rfl
/-- A block that holds a font's cells. -/
def IsFont (W : World) (b : Nat) (F : Array Value) : Prop := W.heap[b]? = some (.cells F 36 (0, 0))
theorem IsFont.drew {W : World} {b : Nat} {F : Array Value} : IsFont W.drew b F = IsFont W b F := rfl
theorem IsFont.below {W W2 : World} {b : Nat} {F : Array Value} (h : IsFont W b F) (hb : Below W.heap.size W W2) : IsFont W2 b F := by
  unfold IsFont at h ⊢
  rw [hb.block _ (Array.getElem?_eq_some_iff.1 h).1]; exact h
theorem run_fontLoad {a d : Int} {wd : Nat → Int} {F : Array Value} (hF : Fnt F a d wd 95) (b : Nat) (W : World) (h : IsFont W b F) : (fontLoad (.pointer (some ⟨b, 0, none⟩))).run Try.prog W = .ok (.agg F) W := by
  unfold fontLoad
  simp only [Instr.loadAt, Instr.sureAddr, Sem.run_bind, Sem.run_pure, Result.andThen_ok]
  exact run_loadVar_row W b _ _ F (0, 0) _ h Try.underlying36 rfl (by rw [hF.size]; kernel_rfl)
/-- A call's world: one font lies in a block; below it is as it was. -/
structure FK (w : World) (b : Nat) (F : Array Value) (W : World) : Prop where
  font : IsFont W b F
  below : Below w.heap.size w W
theorem FK.next {w W W2 : World} {b : Nat} {F : Array Value} (hb : Below W.heap.size W W2) (h : FK w b F W) : FK w b F W2 := ⟨h.font.below hb, h.below.trans (hb.mono h.below.size)⟩
theorem FK.drew {w W : World} {b : Nat} {F : Array Value} (h : FK w b F W) : FK w b F W.drew := ⟨h.font, h.below.drew⟩
attribute [irreducible] fontLoad IsFont
attribute [local go_sem ↓] loadAt_font
set_option maxRecDepth 100000 in
set_option maxHeartbeats 1000000 in
theorem high_any {F : Array Value} {a d : Int} {wd : Nat → Int} (hF : Fnt F a d wd 95) (ha : 0 ≤ a ∧ a ≤ 100) (hd : 0 ≤ d ∧ d ≤ 100) (w : World) : Calls Try.prog 28 #[.agg F] w fun e w' => e = .returned (.int .i64 (a + d)) ∧ Below w.heap.size w w' := by
  obtain ⟨ha0, ha1⟩ := ha
  obtain ⟨hd0, hd1⟩ := hd
  have HF := hid hF
  have hl := run_fontLoad hF
  have HS := hid (show IntKind.i64.wrap (a + d) = a + d from IntWalk.i64_in _ (by omega))
  clear hF
  go_enter Try.func28, Try.ntmps28
  go_wp2_with (refine wpList_box_big (by rfl) 36 _ (by rfl) F (by rfl) ?_)
  have hK : FK w w.heap.size F (w.alloc (.cells F 36)) := ⟨by unfold IsFont; exact heap_alloc_new _ _, by go_grown⟩
  generalize w.alloc (.cells F 36) = W at *
  have hK := hK.drew
  have hk := hK.font
  go_region_with (first
    | (go_at_call 30; refine (ascent_any HF.out _).mono ?_; rintro e w2 ⟨rfl, hb2⟩; have hK2 := FK.next hb2 (by assumption); have hk2 := hK2.font)
    | (go_at_call 31; refine (descent_any HF.out _).mono ?_; rintro e w2 ⟨rfl, hb2⟩; have hK2 := FK.next hb2 (by assumption); have hk2 := hK2.font))
  all_goals go_wp2_with fail
  all_goals go_ret
  all_goals exact ⟨ret_int HS.out, FK.below (b := w.heap.size) (F := F) (by assumption)⟩
end Go.Proofs.Ytnjlkjoahcakpaa
