/-
  Key and the reference's Key of a right widget: both do what 'keyF' says.
-/
import Derived.Test.YtnjlkjoahcakpaaKey
import Derived.Test.YtnjlkjoahcakpaaRefKey
namespace Go.Proofs.Ytnjlkjoahcakpaa
open Go.RowKit
section
variable {k : Int} {s : ByteArray} {o : Bool} {v c : Int} (w : World)
theorem refkey_any (h : Right k s o v c) (code mods : Int) : Calls Try.prog 19 #[wd k s o v c, .int .i64 code, .int .i64 mods] w fun e w' => e = .returned (resV (keyF k s o v c code mods)) ∧ Below w.heap.size w w' := by
  have h1 := h.kind
  have h2 := h.size
  have h3 := h.cur
  have hk : k = 0 ∨ k = 1 ∨ k = 2 ∨ k = 3 := by omega
  rcases hk with rfl | rfl | rfl | rfl
  · exact refkey0 w code mods
  · exact refkey1 w code mods
  · rcases hl : letF code mods with ⟨b, t⟩
    cases t
    · exact refkey2n w hl h3.1 h3.2 h2
    · by_cases hf : s.size < 255
      · exact refkey2y w hl h3.1 h3.2 hf
      · exact refkey2f w hl (by omega)
  · exact refkey3 w code mods h.val
theorem res_mono {f : FuncId} {args : Array Value} {x : Value} {r : Wt × Bool} (hr : r.1.val = x) {b : Bool} (hb : r.2 = b) (hc : Calls Try.prog f args w fun e w' => e = .returned (.tuple #[x, .bool b]) ∧ Below w.heap.size w w') :
    Calls Try.prog f args w fun e w' => e = .returned (resV r) ∧ Below w.heap.size w w' := hc.mono fun _ _ ⟨he, hw⟩ => ⟨by rw [he, resV, hr, hb], hw⟩
theorem key_any (h : Right k s o v c) (code mods : Int) : Calls Try.prog 18 #[wd k s o v c, .int .i64 code, .int .i64 mods] w fun e w' => e = .returned (resV (keyF k s o v c code mods)) ∧ Below w.heap.size w w' := by
  have h1 := h.kind
  have h2 := h.size
  have h3 := h.cur
  rcases hl : letF code mods with ⟨b, t⟩
  by_cases hm : mods = 0
  · subst hm
    have hk : k = 0 ∨ k = 1 ∨ k = 2 ∨ k = 3 := by omega
    rcases hk with rfl | rfl | rfl | rfl
    · exact res_mono w (by simp [keyF]) (by simp [keyF]) (key_none0 w h hl)
    · by_cases c1 : code = 13
      · subst c1; exact res_mono w (by simp [keyF]) (by simp [keyF]) (key_enter w h)
      by_cases c2 : code = 32
      · subst c2; exact res_mono w (by simp [keyF]) (by simp [keyF]) (key_blank w h)
      exact res_mono w (by simp [keyF, c1, c2]) (by simp [keyF, c1, c2]) (key_none1 w h hl c1 c2)
    · cases t
      · by_cases c1 : code = 8
        · subst c1
          by_cases hc : 0 < c
          · exact res_mono w (by rw [keyF2_no (by rw [hl])]; simp [hc]) (by rw [keyF2_no (by rw [hl])]; simp [hc]) (key_back w h hc)
          · exact res_mono w (by rw [keyF2_no (by rw [hl])]; simp [hc]) (by rw [keyF2_no (by rw [hl])]; simp [hc]) (key_back0 w h (by omega))
        by_cases c2 : code = 127
        · subst c2
          by_cases hc : c < s.size
          · exact res_mono w (by rw [keyF2_no (by rw [hl])]; simp [hc]) (by rw [keyF2_no (by rw [hl])]; simp [hc]) (key_gone w h hc)
          · exact res_mono w (by rw [keyF2_no (by rw [hl])]; simp [hc]) (by rw [keyF2_no (by rw [hl])]; simp [hc]) (key_gone0 w h (by omega))
        by_cases c3 : code = 130
        · subst c3; exact res_mono w (by rw [keyF2_no (by rw [hl])]; simp) (by rw [keyF2_no (by rw [hl])]; simp) (key_left w h)
        by_cases c4 : code = 131
        · subst c4; exact res_mono w (by rw [keyF2_no (by rw [hl])]; simp) (by rw [keyF2_no (by rw [hl])]; simp) (key_right w h)
        by_cases c5 : code = 132
        · subst c5; exact res_mono w (by rw [keyF2_no (by rw [hl])]; simp) (by rw [keyF2_no (by rw [hl])]; simp) (key_home w h)
        by_cases c6 : code = 133
        · subst c6; exact res_mono w (by rw [keyF2_no (by rw [hl])]; simp) (by rw [keyF2_no (by rw [hl])]; simp) (key_end w h)
        exact res_mono w (by rw [keyF2_no (by rw [hl])]; simp [c1, c2, c3, c4, c5, c6]) (by rw [keyF2_no (by rw [hl])]; simp [c1, c2, c3, c4, c5, c6]) (key_none2 w h hl c1 c2 c3 c4 c5 c6)
      · by_cases hf : s.size < 255
        · exact res_mono w (by rw [keyF2_yes hl]; simp [hf]) (by rw [keyF2_yes hl]; simp [hf]) (key_ins w h hl hf)
        · exact res_mono w (by rw [keyF2_yes hl]; simp [hf]) (by rw [keyF2_yes hl]; simp [hf]) (key_full w h hl (by omega))
    · by_cases c1 : code = 130
      · subst c1; exact res_mono w (by simp [keyF]) (by simp [keyF]) (key_less w h)
      by_cases c2 : code = 131
      · subst c2; exact res_mono w (by simp [keyF]) (by simp [keyF]) (key_more w h)
      exact res_mono w (by simp [keyF, c1, c2]) (by simp [keyF, c1, c2]) (key_none3 w h hl c1 c2)
  · cases t
    · refine res_mono w ?_ ?_ (key_mods_n w h hl (by simpa using hm))
      · by_cases e : k = 2
        · subst e; rw [keyF2_no (by rw [hl]), if_pos hm]
        · unfold keyF; rw [if_neg (by omega), if_neg (by omega), if_neg (by omega), if_pos e]
      · by_cases e : k = 2
        · subst e; rw [keyF2_no (by rw [hl]), if_pos hm]
        · unfold keyF; rw [if_neg (by omega), if_neg (by omega), if_neg (by omega), if_pos e]
    · by_cases e : k = 2
      · subst e
        by_cases hf : s.size < 255
        · exact res_mono w (by rw [keyF2_yes hl]; simp [hf]) (by rw [keyF2_yes hl]; simp [hf]) (key_ins w h hl hf)
        · exact res_mono w (by rw [keyF2_yes hl]; simp [hf]) (by rw [keyF2_yes hl]; simp [hf]) (key_full w h hl (by omega))
      · exact res_mono w (by unfold keyF; rw [if_neg (by omega), if_neg (by omega), if_neg (by omega), if_pos e]) (by unfold keyF; rw [if_neg (by omega), if_neg (by omega), if_neg (by omega), if_pos e]) (key_mods_y w h hl (by simpa using e) (by simpa using hm))
end
end Go.Proofs.Ytnjlkjoahcakpaa
