/-
  WidgetClicks.
-/
import Derived.Test.YtnjlkjoahcakpaaClicksB
import Derived.Test.YtnjlkjoahcakpaaOpens
namespace Go.Proofs.Ytnjlkjoahcakpaa
open Go.RowKit
section
variable {k : Int} {s : ByteArray} {o : Bool} {v c x y p q a b : Int} (w : World)
theorem Clicks.walk (hx : Big x) (hy : Big y) : Calls Try.prog 7 #[wd k s o v c, rc x y p q, .int .i64 a, .int .i64 b] w fun e w' => e = .returned (.bool true) ∧ Below w.heap.size w w' := by
  by_cases hg : 400 < s.size
  · exact Clicks.great_ w hg
  · by_cases hm : chk k s o v c = 0
    · have hr := (right_iff k s o v c).1 hm
      by_cases hn : Counts x y p q ∧ Inside x y p q a b
      · exact Clicks.good_ w hr hn.1 hn.2
      · exact Clicks.out_ w hr hx hy hn
    · exact Clicks.bad_ w (by omega) (by simpa using hm) rfl
end
open Go.ChangeShapes Go.WideShapes Go.ChangeAt
theorem Clicks.own : ownKnob Try.prog.godebug = none := by kernel_rfl
theorem Clicks.laidOut : laidOutB Try.prog = true := by kernel_rfl
set_option maxRecDepth 100000 in
theorem Clicks.lifted (os : Os) (started : os.Started) (H : Type) (enc : TypeId × Value → H) :
    ReturnsInHanded {} Try.checked os 7 .any (Rows.widgetClicksSpec.pre6 enc Try.prog Try.f7 Rows.widgetClicksRow.domain false) (Rows.widgetClicksSpec.post enc Try.prog Try.f7 false true false false) := by
  refine returnsInHanded_of_change (C := Try.checked) Clicks.own started (by kernel_rfl) Try.func7
    (ChangeSpec.witness6 (enc := enc) (C := Try.checked) false ⟨#[], #[.agg #[.int .i64 0, .string ⟨#[]⟩, .bool false, .int .i64 0, .int .i64 0], .agg #[.int .i64 0, .int .i64 0, .int .i64 0, .int .i64 0], .int .i64 0, .int .i64 0], []⟩ 8 (by kernel_rfl) (by kernel_rfl) (by kernel_rfl) (by kernel_rfl)) ?_
  intro W base args ds gs before hval0 hW _ _
  have hval : ∀ (j : Nat) t v, Try.f7.params[j]? = some t → args[j]? = some v → Value.okWide Try.prog W .any base t v := hval0
  have hW0 := hW
  obtain ⟨p, q, hA, hV, rfl, _, _⟩ := hW
  rw [Try.params7] at hA hval
  obtain ⟨v0, vs0, d0, ds0, p0, q0, hargs, rfl, rfl, h0, r0⟩ := trodAll_cons hA
  obtain ⟨v1, vs1, d1, ds1, p1, q1, rfl, rfl, rfl, h1, r1⟩ := trodAll_cons r0
  obtain ⟨v2, vs2, d2, ds2, p2, q2, rfl, rfl, rfl, h2, r2⟩ := trodAll_cons r1
  obtain ⟨v3, vs3, d3, ds3, p3, q3, rfl, rfl, rfl, h3, r3⟩ := trodAll_cons r2
  obtain ⟨rfl, rfl, rfl⟩ := trodAll_nil r3
  obtain rfl : args = #[v0, v1, v2, v3] := by cases args; simp_all
  obtain ⟨rfl, rfl⟩ := trodVars_none hV
  obtain ⟨k0, s0, o0, n0, c0, rfl, hs0, _, _, _⟩ := open_widget (hval 0 23 v0 rfl rfl) h0
  obtain ⟨x1, y1, rw1, rh1, rfl, hx1, hy1, hw1, hh1⟩ := open_rect (hval 1 57 v1 rfl rfl) h1
  obtain ⟨a2, rfl, _, _, w2⟩ := open_int Try.underlying3 (hval 2 3 v2 rfl rfl) h2
  have hr2 := wf_range w2
  obtain ⟨a3, rfl, _, _, w3⟩ := open_int Try.underlying3 (hval 3 3 v3 rfl rfl) h3
  have hr3 := wf_range w3
  refine (Clicks.walk W hx1 hy1).mono fun e W' ⟨he, hb⟩ => ?_
  subst he
  exact ⟨_, rfl, law_post Clicks.laidOut (by kernel_rfl) rfl rfl Try.underlying4 rfl hW0 hb⟩
theorem Clicks.over : Rows.widgetClicksRow.holds Try.pinned (OpenSpec.ofChange Rows.widgetClicksSpec) :=
  OpenClaim.holds_of_wide 7 Try.f7 rfl rfl rfl rfl rfl rfl rfl ⟨rfl, rfl, rfl, rfl, rfl⟩ rfl rfl rfl rfl rfl (by kernel_rfl) Try.func7 (by kernel_rfl)
    (of_decide_eq_true (by kernel_rfl)) (by unfold Func.isWrapper; first | (rw [if_pos (by decide +kernel)]; kernel_rfl) | (rw [if_neg (by decide +kernel)]; exact ⟨rfl, rfl⟩))
    (fun os started H enc _ => Clicks.lifted os started H enc)
theorem clicks_holds : Rows.WidgetClicksSaid := Clicks.over
#print axioms clicks_holds
end Go.Proofs.Ytnjlkjoahcakpaa
