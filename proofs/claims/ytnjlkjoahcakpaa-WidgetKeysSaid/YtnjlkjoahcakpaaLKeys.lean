/-
  WidgetKeys.
-/
import Derived.Test.YtnjlkjoahcakpaaRows
import Derived.Test.YtnjlkjoahcakpaaFrame
import Derived.Test.YtnjlkjoahcakpaaLKeysB
namespace Go.Proofs.Ytnjlkjoahcakpaa
open Go.RowKit
section
variable {k : Int} {s : ByteArray} {o : Bool} {v c : Int} {A : Option Addr} {l cp : Nat} (w : World)
theorem Keys.walk (hP : Pairs w A l) : Calls Try.prog 4 #[wd k s o v c, .slice A l cp] w fun e w' => e = .returned (.bool true) ∧ Below w.heap.size w w' := by
  by_cases hg : 400 < s.size
  · exact Keys.great_ w hg
  · by_cases hl : 60 < l
    · exact Keys.long_ w (by omega) hl
    · rcases hP with rfl | ⟨b, off, rfl, _, hA⟩
      · exact Keys.none_ w (by omega)
      · by_cases h0 : l = 0
        · subst h0
          exact Keys.none_ w (by omega)
        · by_cases hm : chk k s o v c = 0
          · exact Keys.good_ w ((right_iff k s o v c).1 hm) (by omega) (by omega) hA
          · obtain ⟨x, y, cx, cy, _⟩ := hA 0 (by omega)
            rw [Nat.zero_mul, Nat.add_zero] at cx cy
            exact Keys.bad_ w (by omega) (by simpa using hm) rfl (by omega) (by omega) cx cy
end
open Go.ChangeShapes Go.WideShapes Go.ChangeAt
theorem Keys.own : ownKnob Try.prog.godebug = none := by kernel_rfl
theorem Keys.laidOut : laidOutB Try.prog = true := by kernel_rfl
set_option maxRecDepth 100000 in
theorem Keys.lifted (os : Os) (started : os.Started) (H : Type) (enc : TypeId × Value → H) :
    ReturnsInHanded {} Try.checked os 4 .any (Rows.widgetKeysSpec.pre6 enc Try.prog Try.f4 Rows.widgetKeysRow.domain false) (Rows.widgetKeysSpec.post enc Try.prog Try.f4 false true false false) := by
  refine returnsInHanded_of_change (C := Try.checked) Keys.own started (by kernel_rfl) Try.func4
    (ChangeSpec.witness6 (enc := enc) (C := Try.checked) false ⟨#[], #[.agg #[.int .i64 0, .string ⟨#[]⟩, .bool false, .int .i64 0, .int .i64 0], .slice none 0 0], []⟩ 8 (by kernel_rfl) (by kernel_rfl) (by kernel_rfl) (by kernel_rfl)) ?_
  intro W base args ds gs before hval0 hW _ _
  have hval : ∀ (j : Nat) t v, Try.f4.params[j]? = some t → args[j]? = some v → Value.okWide Try.prog W .any base t v := hval0
  have hW0 := hW
  obtain ⟨p, q, hA, hV, rfl, _, _⟩ := hW
  rw [Try.params4] at hA hval
  obtain ⟨v0, vs0, d0, ds0, p0, q0, hargs, rfl, rfl, h0, r0⟩ := trodAll_cons hA
  obtain ⟨v1, vs1, d1, ds1, p1, q1, rfl, rfl, rfl, h1, r1⟩ := trodAll_cons r0
  obtain ⟨rfl, rfl, rfl⟩ := trodAll_nil r1
  obtain rfl : args = #[v0, v1] := by cases args; simp_all
  obtain ⟨rfl, rfl⟩ := trodVars_none hV
  obtain ⟨k0, s0, o0, n0, c0, rfl, hs0, _, _, _⟩ := open_widget (hval 0 23 v0 rfl rfl) h0
  obtain ⟨A1, l1, cp1, rfl, hp1⟩ := open_pairs (hval 1 45 v1 rfl rfl) h1
  refine (Keys.walk W hp1.2).mono fun e W' ⟨he, hb⟩ => ?_
  subst he
  exact ⟨_, rfl, law_post Keys.laidOut (by kernel_rfl) rfl rfl Try.underlying4 rfl hW0 hb⟩
theorem Keys.over : Rows.widgetKeysRow.holds Try.pinned (OpenSpec.ofChange Rows.widgetKeysSpec) :=
  OpenClaim.holds_of_wide 4 Try.f4 rfl rfl rfl rfl rfl rfl rfl ⟨rfl, rfl, rfl, rfl, rfl⟩ rfl rfl rfl rfl rfl (by kernel_rfl) Try.func4 (by kernel_rfl)
    (of_decide_eq_true (by kernel_rfl)) (by unfold Func.isWrapper; first | (rw [if_pos (by decide +kernel)]; kernel_rfl) | (rw [if_neg (by decide +kernel)]; exact ⟨rfl, rfl⟩))
    (fun os started H enc _ => Keys.lifted os started H enc)
theorem keys_holds : Rows.WidgetKeysSaid := Keys.over
#print axioms keys_holds
end Go.Proofs.Ytnjlkjoahcakpaa
