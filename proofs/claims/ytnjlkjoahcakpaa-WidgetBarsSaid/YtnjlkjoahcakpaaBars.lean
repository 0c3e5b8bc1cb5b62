/-
  WidgetBars.
-/
import Derived.Test.YtnjlkjoahcakpaaRows
import Derived.Test.YtnjlkjoahcakpaaFrame
import Derived.Test.YtnjlkjoahcakpaaBarsB
namespace Go.Proofs.Ytnjlkjoahcakpaa
open Go.RowKit
section
variable {x y p q a b : Int} (w : World)
theorem Bars.walk (ha : 0 ≤ a ∧ a ≤ 255) (hb : 0 ≤ b ∧ b ≤ 255) : Calls Try.prog 8 #[rc x y p q, .agg #[.int .u8 a, .int .u8 b]] w fun e w' => e = .returned (.bool true) ∧ Below w.heap.size w w' := by
  by_cases h : Counts x y p q
  · by_cases hp : p < 2 ∨ 1000 < p
    · exact Bars.out_ w h hp
    · exact Bars.good_ w h (by omega) (by omega) ha hb
  · exact Bars.not_ w h
end
open Go.ChangeShapes Go.WideShapes Go.ChangeAt
theorem Bars.own : ownKnob Try.prog.godebug = none := by kernel_rfl
theorem Bars.laidOut : laidOutB Try.prog = true := by kernel_rfl
set_option maxRecDepth 100000 in
theorem Bars.lifted (os : Os) (started : os.Started) (H : Type) (enc : TypeId × Value → H) :
    ReturnsInHanded {} Try.checked os 8 .any (Rows.widgetBarsSpec.pre6 enc Try.prog Try.f8 Rows.widgetBarsRow.domain false) (Rows.widgetBarsSpec.post enc Try.prog Try.f8 false true false false) := by
  refine returnsInHanded_of_change (C := Try.checked) Bars.own started (by kernel_rfl) Try.func8
    (ChangeSpec.witness6 (enc := enc) (C := Try.checked) false ⟨#[], #[.agg #[.int .i64 0, .int .i64 0, .int .i64 0, .int .i64 0], .agg #[.int .u8 0, .int .u8 0]], []⟩ 8 (by kernel_rfl) (by kernel_rfl) (by kernel_rfl) (by kernel_rfl)) ?_
  intro W base args ds gs before hval0 hW _ _
  have hval : ∀ (j : Nat) t v, Try.f8.params[j]? = some t → args[j]? = some v → Value.okWide Try.prog W .any base t v := hval0
  have hW0 := hW
  obtain ⟨p, q, hA, hV, rfl, _, _⟩ := hW
  rw [Try.params8] at hA hval
  obtain ⟨v0, vs0, d0, ds0, p0, q0, hargs, rfl, rfl, h0, r0⟩ := trodAll_cons hA
  obtain ⟨v1, vs1, d1, ds1, p1, q1, rfl, rfl, rfl, h1, r1⟩ := trodAll_cons r0
  obtain ⟨rfl, rfl, rfl⟩ := trodAll_nil r1
  obtain rfl : args = #[v0, v1] := by cases args; simp_all
  obtain ⟨rfl, rfl⟩ := trodVars_none hV
  obtain ⟨x0, y0, rw0, rh0, rfl, hx0, hy0, hw0, hh0⟩ := open_rect (hval 0 57 v0 rfl rfl) h0
  obtain ⟨a1, b1, rfl, ha1, hb1⟩ := open_pair8 (hval 1 63 v1 rfl rfl) h1
  refine (Bars.walk W ha1 hb1).mono fun e W' ⟨he, hb⟩ => ?_
  subst he
  exact ⟨_, rfl, law_post Bars.laidOut (by kernel_rfl) rfl rfl Try.underlying4 rfl hW0 hb⟩
theorem Bars.over : Rows.widgetBarsRow.holds Try.pinned (OpenSpec.ofChange Rows.widgetBarsSpec) :=
  OpenClaim.holds_of_wide 8 Try.f8 rfl rfl rfl rfl rfl rfl rfl ⟨rfl, rfl, rfl, rfl, rfl⟩ rfl rfl rfl rfl rfl (by kernel_rfl) Try.func8 (by kernel_rfl)
    (of_decide_eq_true (by kernel_rfl)) (by unfold Func.isWrapper; first | (rw [if_pos (by decide +kernel)]; kernel_rfl) | (rw [if_neg (by decide +kernel)]; exact ⟨rfl, rfl⟩))
    (fun os started H enc _ => Bars.lifted os started H enc)
theorem bars_holds : Rows.WidgetBarsSaid := Bars.over
#print axioms bars_holds
end Go.Proofs.Ytnjlkjoahcakpaa
