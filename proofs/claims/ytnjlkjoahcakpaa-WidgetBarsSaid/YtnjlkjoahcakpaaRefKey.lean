/-
  The walks of the reference's Key: what it does to a right widget is 'keyF'; nothing that was there has changed.
-/
import Derived.Test.YtnjlkjoahcakpaaProg
import Derived.Test.YtnjlkjoahcakpaaKeys
import Derived.Test.YtnjlkjoahcakpaaTwo
import Derived.Test.YtnjlkjoahcakpaaSpec
import Derived.BigGuardPart
namespace Go.Proofs.Ytnjlkjoahcakpaa
open Go.RowKit
/-- A widget and a bool, as two results. -/
abbrev resV (r : Wt × Bool) : Value := .tuple #[r.1.val, .bool r.2]
theorem ret_res {k : Int} {s : ByteArray} {o : Bool} {v v' c c' : Int} {b : Bool} (hv : v = v') (hc : c = c') : Ending.returned (.tuple #[wd k s o v c, .bool b]) = .returned (resV (⟨k, s, o, v', c'⟩, b)) := by subst hv hc; rfl
theorem run_one_bytes {P : Program} {src dst e : TypeId} (hs : P.underlying src = some (.slice e)) (he : P.underlying e = some (.int .u8)) (hd : P.underlying dst = some .string) (b : Int)
    (W : World) (g c : Nat) (hc : W.cell? ⟨g, 0, none⟩ = some (.int .u8 b)) : (convert src dst (.slice (some ⟨g, 0, none⟩) 1 c)).run P W = .ok (.string (one b)) W := by
  rw [run_convert_bytes_string W src dst e (some ⟨g, 0, none⟩) 1 c hs he hd, run_bytesToString W ⟨g, 0, none⟩ 1 c [b] (run_loadCells_list W _ [.int .u8 b] (fun j v hv => by
    match j, hv with
    | 0, hv => simp at hv; subst hv; simpa [Addr.add] using hc
    | j + 1, hv => simp at hv))]
  rfl
section
variable {k : Int} {s : ByteArray} {o : Bool} {v c : Int} (w : World)
set_option maxRecDepth 100000 in
set_option maxHeartbeats 1000000 in
theorem refkey0 (code mods : Int) : Calls Try.prog 19 #[wd 0 s o v c, .int .i64 code, .int .i64 mods] w fun e w' => e = .returned (resV (keyF 0 s o v c code mods)) ∧ Below w.heap.size w w' := by
  go_enter Try.func19, Try.ntmps19
  go_wp2_with fail
  all_goals go_returns
  all_goals exact ⟨by simp [keyF], by go_grown⟩
set_option maxRecDepth 100000 in
set_option maxHeartbeats 1000000 in
theorem refkey1 (code mods : Int) : Calls Try.prog 19 #[wd 1 s o v c, .int .i64 code, .int .i64 mods] w fun e w' => e = .returned (resV (keyF 1 s o v c code mods)) ∧ Below w.heap.size w w' := by
  go_enter Try.func19, Try.ntmps19
  go_wp2_with fail
  all_goals go_returns
  all_goals try simp only [beq_iff_eq, beq_eq_false_iff_ne, ne_eq] at *
  all_goals exact ⟨by simp [keyF, *], by go_grown⟩
set_option maxRecDepth 100000 in
set_option maxHeartbeats 1000000 in
theorem refkey3 (code mods : Int) (hv : 0 ≤ v ∧ v ≤ 100) : Calls Try.prog 19 #[wd 3 s o v c, .int .i64 code, .int .i64 mods] w fun e w' => e = .returned (resV (keyF 3 s o v c code mods)) ∧ Below w.heap.size w w' := by
  obtain ⟨hv0, hv1⟩ := hv
  go_enter Try.func19, Try.ntmps19
  go_wp2_with fail
  all_goals go_returns
  all_goals try simp only [beq_iff_eq, beq_eq_false_iff_ne, ne_eq] at *
  all_goals refine ⟨?_, by go_grown⟩
  all_goals simp [keyF, *]
  all_goals omega
theorem keyF2_no {code mods : Int} (h : (letF code mods).2 = false) : keyF 2 s o v c code mods =
    if mods ≠ 0 then (⟨2, s, o, v, c⟩, false)
    else if code = 8 then (if 0 < c then (⟨2, cutAt s (c.toNat - 1) c.toNat, o, v, c - 1⟩, true) else (⟨2, s, o, v, c⟩, true))
    else if code = 127 then (if c < s.size then (⟨2, cutAt s c.toNat (c.toNat + 1), o, v, c⟩, true) else (⟨2, s, o, v, c⟩, true))
    else if code = 130 then (⟨2, s, o, v, max (c - 1) 0⟩, true)
    else if code = 131 then (⟨2, s, o, v, min (c + 1) s.size⟩, true)
    else if code = 132 then (⟨2, s, o, v, 0⟩, true)
    else if code = 133 then (⟨2, s, o, v, s.size⟩, true)
    else (⟨2, s, o, v, c⟩, false) := by
  unfold keyF
  rw [if_neg (by omega), if_neg (by omega), if_neg (by omega), if_neg (by omega), if_neg (by rw [h]; decide)]
theorem keyF2_yes {code mods b : Int} (h : letF code mods = (b, true)) : keyF 2 s o v c code mods =
    if s.size < 255 then (⟨2, insAt s c.toNat b, o, v, c + 1⟩, true) else (⟨2, s, o, v, c⟩, false) := by
  unfold keyF
  rw [if_neg (by omega), if_neg (by omega), if_neg (by omega), if_neg (by omega), if_pos (by rw [h]), h]
theorem refletter_eq {a m b : Int} {t : Bool} (h : letF a m = (b, t)) : Calls Try.prog 21 #[.int .i64 a, .int .i64 m] w fun e w' => e = .returned (.tuple #[.int .u8 b, .bool t]) ∧ w = w' :=
  (refletter_any a m w).mono fun _ _ ⟨he, hw⟩ => ⟨by rw [he, h], hw⟩
set_option maxRecDepth 100000 in
set_option maxHeartbeats 1000000 in
theorem refkey2n {code mods b : Int} (hl : letF code mods = (b, false)) (hc0 : 0 ≤ c) (hc1 : c ≤ s.size) (hs : s.size ≤ 255) : Calls Try.prog 19 #[wd 2 s o v c, .int .i64 code, .int .i64 mods] w fun e w' => e = .returned (resV (keyF 2 s o v c code mods)) ∧ Below w.heap.size w w' := by
  have HL := hid hl
  clear hl
  have HC : RowKit.Hid ((c + 1).toNat = c.toNat + 1) := hid (by omega)
  go_enter Try.func19, Try.ntmps19
  go_wp2_with fail
  refine (refletter_eq _ HL.out).mono ?_
  rintro e w2 ⟨rfl, rfl⟩
  go_wp2_with fail
  all_goals (try (go_region; all_goals go_wp2_with fail))
  all_goals go_returns
  all_goals refine ⟨?_, by go_grown⟩
  all_goals (rw [keyF2_no (by rw [HL.out])]; have HC := HC.out)
  all_goals try simp only [beq_iff_eq, beq_eq_false_iff_ne, bne_iff_ne, bne_eq_false_iff_eq, ne_eq] at *
  all_goals first
    | (rw [if_pos (by omega)]; done)
    | (rw [if_neg (by omega), if_pos (by omega), if_pos (by omega)]; done)
    | (rw [if_neg (by omega), if_pos (by omega), if_neg (by omega)]; done)
    | (rw [if_neg (by omega), if_neg (by omega), if_pos (by omega), if_pos (by omega)]; simp only [HC]; done)
    | (rw [if_neg (by omega), if_neg (by omega), if_pos (by omega), if_pos (by omega), HC]; done)
    | (rw [if_neg (by omega), if_neg (by omega), if_pos (by omega), if_neg (by omega)]; done)
    | (rw [if_neg (by omega), if_neg (by omega), if_neg (by omega), if_pos (by omega)]; exact ret_res (by omega) (by omega))
    | (rw [if_neg (by omega), if_neg (by omega), if_neg (by omega), if_neg (by omega), if_pos (by omega)]; exact ret_res (by omega) (by omega))
    | (rw [if_neg (by omega), if_neg (by omega), if_neg (by omega), if_neg (by omega), if_neg (by omega), if_pos (by omega)]; done)
    | (rw [if_neg (by omega), if_neg (by omega), if_neg (by omega), if_neg (by omega), if_neg (by omega), if_neg (by omega), if_pos (by omega)]; done)
    | (rw [if_neg (by omega), if_neg (by omega), if_neg (by omega), if_neg (by omega), if_neg (by omega), if_neg (by omega), if_neg (by omega)]; done)
set_option maxRecDepth 100000 in
set_option maxHeartbeats 1000000 in
theorem refkey2f {code mods b : Int} (hl : letF code mods = (b, true)) (hf : s.size = 255) : Calls Try.prog 19 #[wd 2 s o v c, .int .i64 code, .int .i64 mods] w fun e w' => e = .returned (resV (keyF 2 s o v c code mods)) ∧ Below w.heap.size w w' := by
  have HL := hid hl
  clear hl
  go_enter Try.func19, Try.ntmps19
  go_wp2_with fail
  refine (refletter_eq _ HL.out).mono ?_
  rintro e w2 ⟨rfl, rfl⟩
  go_wp2_with fail
  go_returns
  exact ⟨by rw [keyF2_yes HL.out, if_neg (by omega)], by go_grown⟩
set_option maxRecDepth 100000 in
set_option maxHeartbeats 1000000 in
theorem refkey2y {code mods b : Int} (hl : letF code mods = (b, true)) (hc0 : 0 ≤ c) (hc1 : c ≤ s.size) (hf : s.size < 255) : Calls Try.prog 19 #[wd 2 s o v c, .int .i64 code, .int .i64 mods] w fun e w' => e = .returned (resV (keyF 2 s o v c code mods)) ∧ Below w.heap.size w w' := by
  obtain ⟨hb0, hb1, _⟩ := letF_good hl
  have HL := hid hl
  clear hl
  go_enter Try.func19, Try.ntmps19
  go_wp2_with fail
  refine (refletter_eq _ HL.out).mono ?_
  rintro e w2 ⟨rfl, rfl⟩
  go_wp2_with fail
  have hcv := run_one_bytes (P := Try.prog) Try.underlying74 Try.underlying5 Try.underlying9 b
  have e3 := one_size b
  go_region
  all_goals go_wp2_with fail
  all_goals go_returns
  all_goals exact ⟨by rw [keyF2_yes HL.out, if_pos (by omega)], by go_grown⟩
end
end Go.Proofs.Ytnjlkjoahcakpaa
