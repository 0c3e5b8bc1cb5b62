/-
  The walks of the keys' own functions: the maps that 'keys' makes, each function in them, what a key types; and the laws on such maps.
-/
import Derived.Test.YtnjlkjoahcakpaaProg
import Derived.Test.YtnjlkjoahcakpaaPlain
import Derived.BigGuardPart
import Derived.BigQuiet
import Derived.Deep.QuietTactic
import Derived.Maps.Own
namespace Go.Proofs.Ytnjlkjoahcakpaa
open Go.RowKit
section
variable {P : Program} (w : World)
theorem run_insert_last {T K E : TypeId} (ht : P.underlying T = some (.map K E)) (hk : P.underlying K = some (.int .i64)) (es : Array MapEntry) (c : Nat) (x : Int) (v : Value)
    (hn : Instr.findNow (.int .i64) (.int .i64 x) es.toList 0 = some none) :
    (Instr.mapUpdate T (.map (some w.heap.size)) (.int .i64 x) v).run P (w.alloc (.map es c)) = .ok () (w.alloc (.map (es.push { key := .int .i64 x, val := v, born := c }) (c + 1))) := by
  have hb : (w.alloc (.map es c)).heap[w.heap.size]? = some (.map es c) := heap_alloc_new w _
  have hs : (w.alloc (.map es c)).heap.setIfInBounds w.heap.size (.map (es.push { key := .int .i64 x, val := v, born := c }) (c + 1)) = (w.alloc (.map (es.push { key := .int .i64 x, val := v, born := c }) (c + 1))).heap := by
    simp only [World.alloc]
    apply Array.ext_getElem?
    intro i
    by_cases h : w.heap.size = i
    · subst h; simp
    · have h' : ¬ i = w.heap.size := fun e => h e.symm
      simp [h, h', Array.getElem?_push]
  simp [Instr.mapUpdate, run_underlying ht, MapKept.run_getObj_map hb, MapKept.run_checkKey hk (show MapKept.IsKey (.int .i64) (.int .i64 x) from by simp [MapKept.IsKey]), MapKept.run_findKey hk hn, MapKept.run_setObj_map _ hb, Result.andThen, hs]
  rfl
theorem run_look_yes {T K E : TypeId} (ht : P.underlying T = some (.map K E)) (hk : P.underlying K = some (.int .i64)) (b : Nat) (es : Array MapEntry) (c : Nat) (x : Int) (i : Nat) (v : Value)
    (hb : w.heap[b]? = some (.map es c)) (hn : Instr.findNow (.int .i64) (.int .i64 x) es.toList 0 = some (some (i, v))) :
    (Instr.lookup T (.map (some b)) (.int .i64 x) true).run P w = .ok (.tuple #[v, .bool true]) w := by
  simp [Instr.lookup, run_underlying ht, MapKept.run_getObj_map hb, MapKept.run_checkKey hk (show MapKept.IsKey (.int .i64) (.int .i64 x) from by simp [MapKept.IsKey]), MapKept.run_findKey hk hn, Result.andThen]
theorem run_look_no {T K E : TypeId} {z : Value} (ht : P.underlying T = some (.map K E)) (hk : P.underlying K = some (.int .i64)) (b : Nat) (es : Array MapEntry) (c : Nat) (x : Int)
    (hz : (zeroValue E).run P w = .ok z w) (hb : w.heap[b]? = some (.map es c)) (hn : Instr.findNow (.int .i64) (.int .i64 x) es.toList 0 = some none) :
    (Instr.lookup T (.map (some b)) (.int .i64 x) true).run P w = .ok (.tuple #[z, .bool false]) w := by
  simp [Instr.lookup, run_underlying ht, MapKept.run_getObj_map hb, MapKept.run_checkKey hk (show MapKept.IsKey (.int .i64) (.int .i64 x) from by simp [MapKept.IsKey]), MapKept.run_findKey hk hn, Result.andThen, hz]
theorem run_look_nil {T K E : TypeId} {z : Value} (ht : P.underlying T = some (.map K E)) (hk : P.underlying K = some (.int .i64)) (x : Int)
    (hz : (zeroValue E).run P w = .ok z w) :
    (Instr.lookup T (.map none) (.int .i64 x) true).run P w = .ok (.tuple #[z, .bool false]) w := by
  simp [Instr.lookup, run_underlying ht, MapKept.run_checkKey hk (show MapKept.IsKey (.int .i64) (.int .i64 x) from by simp [MapKept.IsKey]), MapKept.run_findKey hk (show Instr.findNow (.int .i64) (.int .i64 x) [] 0 = some none from rfl), Result.andThen, hz]
end
/-- An entry: a key's code, the function's number, when it came. -/
abbrev en (x : Int) (f n : Nat) : MapEntry := { key := .int .i64 x, val := .func (.func f) #[] #[], born := n }
theorem keys0 (w : World) : Calls Try.prog 32 #[.int .i64 0] w fun e w' => e = .returned (.map none) ∧ w' = w := by
  go_enter Try.func32, Try.ntmps32
  go_wp2
  go_ret
  exact ⟨rfl, rfl⟩
/-- The map of keys of kind 1. -/
abbrev map1 : Array MapEntry := #[en 13 40 0, en 32 40 1]
theorem keys1 (w : World) : Calls Try.prog 32 #[.int .i64 1] w fun e w' => e = .returned (.map (some w.heap.size)) ∧ w' = w.alloc (.map map1 2) := by
  have hmm := @run_makeMap Try.prog
  have h0 : (Instr.mapUpdate 72 (.map (some w.heap.size)) (.int .i64 13) (.func (.func 40) #[] #[])).run Try.prog (w.alloc (.map #[] 0)) = .ok () (w.alloc (.map #[en 13 40 0] 1)) := run_insert_last w Try.underlying72 Try.underlying3 _ _ _ _ rfl
  have h1 : (Instr.mapUpdate 72 (.map (some w.heap.size)) (.int .i64 32) (.func (.func 40) #[] #[])).run Try.prog (w.alloc (.map #[en 13 40 0] 1)) = .ok () (w.alloc (.map #[en 13 40 0, en 32 40 1] 2)) := run_insert_last w Try.underlying72 Try.underlying3 _ _ _ _ rfl
  go_enter Try.func32, Try.ntmps32
  go_wp2
  go_ret
  exact ⟨rfl, rfl⟩
/-- The map of keys of kind 2. -/
abbrev map2 : Array MapEntry := #[en 8 41 0, en 127 42 1, en 130 43 2, en 131 44 3, en 132 45 4, en 133 46 5]
theorem keys2 (w : World) : Calls Try.prog 32 #[.int .i64 2] w fun e w' => e = .returned (.map (some w.heap.size)) ∧ w' = w.alloc (.map map2 6) := by
  have hmm := @run_makeMap Try.prog
  have h0 : (Instr.mapUpdate 72 (.map (some w.heap.size)) (.int .i64 8) (.func (.func 41) #[] #[])).run Try.prog (w.alloc (.map #[] 0)) = .ok () (w.alloc (.map #[en 8 41 0] 1)) := run_insert_last w Try.underlying72 Try.underlying3 _ _ _ _ rfl
  have h1 : (Instr.mapUpdate 72 (.map (some w.heap.size)) (.int .i64 127) (.func (.func 42) #[] #[])).run Try.prog (w.alloc (.map #[en 8 41 0] 1)) = .ok () (w.alloc (.map #[en 8 41 0, en 127 42 1] 2)) := run_insert_last w Try.underlying72 Try.underlying3 _ _ _ _ rfl
  have h2 : (Instr.mapUpdate 72 (.map (some w.heap.size)) (.int .i64 130) (.func (.func 43) #[] #[])).run Try.prog (w.alloc (.map #[en 8 41 0, en 127 42 1] 2)) = .ok () (w.alloc (.map #[en 8 41 0, en 127 42 1, en 130 43 2] 3)) := run_insert_last w Try.underlying72 Try.underlying3 _ _ _ _ rfl
  have h3 : (Instr.mapUpdate 72 (.map (some w.heap.size)) (.int .i64 131) (.func (.func 44) #[] #[])).run Try.prog (w.alloc (.map #[en 8 41 0, en 127 42 1, en 130 43 2] 3)) = .ok () (w.alloc (.map #[en 8 41 0, en 127 42 1, en 130 43 2, en 131 44 3] 4)) := run_insert_last w Try.underlying72 Try.underlying3 _ _ _ _ rfl
  have h4 : (Instr.mapUpdate 72 (.map (some w.heap.size)) (.int .i64 132) (.func (.func 45) #[] #[])).run Try.prog (w.alloc (.map #[en 8 41 0, en 127 42 1, en 130 43 2, en 131 44 3] 4)) = .ok () (w.alloc (.map #[en 8 41 0, en 127 42 1, en 130 43 2, en 131 44 3, en 132 45 4] 5)) := run_insert_last w Try.underlying72 Try.underlying3 _ _ _ _ rfl
  have h5 : (Instr.mapUpdate 72 (.map (some w.heap.size)) (.int .i64 133) (.func (.func 46) #[] #[])).run Try.prog (w.alloc (.map #[en 8 41 0, en 127 42 1, en 130 43 2, en 131 44 3, en 132 45 4] 5)) = .ok () (w.alloc (.map #[en 8 41 0, en 127 42 1, en 130 43 2, en 131 44 3, en 132 45 4, en 133 46 5] 6)) := run_insert_last w Try.underlying72 Try.underlying3 _ _ _ _ rfl
  go_enter Try.func32, Try.ntmps32
  go_wp2
  go_ret
  exact ⟨rfl, rfl⟩
/-- The map of keys of kind 3. -/
abbrev map3 : Array MapEntry := #[en 130 47 0, en 131 48 1]
theorem keys3 (w : World) : Calls Try.prog 32 #[.int .i64 3] w fun e w' => e = .returned (.map (some w.heap.size)) ∧ w' = w.alloc (.map map3 2) := by
  have hmm := @run_makeMap Try.prog
  have h0 : (Instr.mapUpdate 72 (.map (some w.heap.size)) (.int .i64 130) (.func (.func 47) #[] #[])).run Try.prog (w.alloc (.map #[] 0)) = .ok () (w.alloc (.map #[en 130 47 0] 1)) := run_insert_last w Try.underlying72 Try.underlying3 _ _ _ _ rfl
  have h1 : (Instr.mapUpdate 72 (.map (some w.heap.size)) (.int .i64 131) (.func (.func 48) #[] #[])).run Try.prog (w.alloc (.map #[en 130 47 0] 1)) = .ok () (w.alloc (.map #[en 130 47 0, en 131 48 1] 2)) := run_insert_last w Try.underlying72 Try.underlying3 _ _ _ _ rfl
  go_enter Try.func32, Try.ntmps32
  go_wp2
  go_ret
  exact ⟨rfl, rfl⟩
section
variable (k : Int) (s : ByteArray) (o : Bool) (v c : Int) (w : World)
theorem press_any : Calls Try.prog 40 #[wd k s o v c] w fun e w' => e = .returned (wd k s (!o) v c) ∧ Below w.heap.size w w' := by
  go_enter Try.func40, Try.ntmps40
  go_wp2
  all_goals go_returns
  all_goals exact ⟨ret_wd rfl (by first | rfl | omega) (by first | rfl | omega), by go_grown⟩
theorem back_some (hc : 0 < c) (hs : c ≤ s.size) (h : s.size ≤ 255) : Calls Try.prog 41 #[wd k s o v c] w fun e w' => e = .returned (wd k (cutAt s (c.toNat - 1) c.toNat) o v (c - 1)) ∧ Below w.heap.size w w' := by
  go_enter Try.func41, Try.ntmps41
  go_wp2
  go_region
  all_goals
    go_wp2
    go_returns
    exact ⟨ret_wd rfl (by first | rfl | omega) (by first | rfl | omega), by go_grown⟩
theorem back_none (hc : c = 0) : Calls Try.prog 41 #[wd k s o v c] w fun e w' => e = .returned (wd k s o v c) ∧ Below w.heap.size w w' := by
  subst hc
  go_enter Try.func41, Try.ntmps41
  go_wp2
  all_goals go_returns
  all_goals exact ⟨ret_wd rfl (by first | rfl | omega) (by first | rfl | omega), by go_grown⟩
theorem gone_some (hc : 0 ≤ c) (hs : c < s.size) (h : s.size ≤ 255) : Calls Try.prog 42 #[wd k s o v c] w fun e w' => e = .returned (wd k (cutAt s c.toNat (c.toNat + 1)) o v c) ∧ Below w.heap.size w w' := by
  have H : RowKit.Hid ((c + 1).toNat = c.toNat + 1) := hid (by omega)
  go_enter Try.func42, Try.ntmps42
  go_wp2
  go_region
  all_goals
    go_wp2
    go_returns
    exact ⟨ret_wd (by rw [H.out]) (by first | rfl | omega) (by first | rfl | omega), by go_grown⟩
theorem gone_none (hs : c = s.size) : Calls Try.prog 42 #[wd k s o v c] w fun e w' => e = .returned (wd k s o v c) ∧ Below w.heap.size w w' := by
  subst hs
  go_enter Try.func42, Try.ntmps42
  go_wp2
  all_goals go_returns
  all_goals exact ⟨ret_wd rfl (by first | rfl | omega) (by first | rfl | omega), by go_grown⟩
theorem left_any (hc : 0 ≤ c) (hs : c ≤ 255) : Calls Try.prog 43 #[wd k s o v c] w fun e w' => e = .returned (wd k s o v (max (c - 1) 0)) ∧ Below w.heap.size w w' := by
  go_enter Try.func43, Try.ntmps43
  go_wp2
  all_goals go_returns
  all_goals exact ⟨ret_wd rfl (by first | rfl | omega) (by first | rfl | omega), by go_grown⟩
theorem right_any (hc : 0 ≤ c) (hs : c ≤ 255) : Calls Try.prog 44 #[wd k s o v c] w fun e w' => e = .returned (wd k s o v (min (c + 1) s.size)) ∧ Below w.heap.size w w' := by
  go_enter Try.func44, Try.ntmps44
  go_wp2
  all_goals go_returns
  all_goals exact ⟨ret_wd rfl (by first | rfl | omega) (by first | rfl | omega), by go_grown⟩
theorem home_any : Calls Try.prog 45 #[wd k s o v c] w fun e w' => e = .returned (wd k s o v 0) ∧ Below w.heap.size w w' := by
  go_enter Try.func45, Try.ntmps45
  go_wp2
  all_goals go_returns
  all_goals exact ⟨ret_wd rfl (by first | rfl | omega) (by first | rfl | omega), by go_grown⟩
theorem end_any : Calls Try.prog 46 #[wd k s o v c] w fun e w' => e = .returned (wd k s o v s.size) ∧ Below w.heap.size w w' := by
  go_enter Try.func46, Try.ntmps46
  go_wp2
  all_goals go_returns
  all_goals exact ⟨ret_wd rfl (by first | rfl | omega) (by first | rfl | omega), by go_grown⟩
theorem less_any (hv : 0 ≤ v ∧ v ≤ 100) : Calls Try.prog 47 #[wd k s o v c] w fun e w' => e = .returned (wd k s o (max (v - 10) 0) c) ∧ Below w.heap.size w w' := by
  obtain ⟨hv1, hv2⟩ := hv
  go_enter Try.func47, Try.ntmps47
  go_wp2
  all_goals go_returns
  all_goals exact ⟨ret_wd rfl (by first | rfl | omega) (by first | rfl | omega), by go_grown⟩
theorem more_any (hv : 0 ≤ v ∧ v ≤ 100) : Calls Try.prog 48 #[wd k s o v c] w fun e w' => e = .returned (wd k s o (min (v + 10) 100) c) ∧ Below w.heap.size w w' := by
  obtain ⟨hv1, hv2⟩ := hv
  go_enter Try.func48, Try.ntmps48
  go_wp2
  all_goals go_returns
  all_goals exact ⟨ret_wd rfl (by first | rfl | omega) (by first | rfl | omega), by go_grown⟩
end

theorem letter_any (c m : Int) (w : World) : Calls Try.prog 20 #[.int .i64 c, .int .i64 m] w fun e w' => e = .returned (.tuple #[.int .u8 (letF c m).1, .bool (letF c m).2]) ∧ w = w' := by
  go_enter Try.func20, Try.ntmps20
  go_wp2
  all_goals
    go_ret2
    refine ⟨?_, rfl⟩
    unfold letF
    first
      | (rw [if_pos (by omega)]; done)
      | (rw [if_pos (by omega)]; rfl)
      | (rw [if_neg (by omega), if_pos (by omega)]; done)
      | (rw [if_neg (by omega), if_pos (by omega)]; rfl)
      | (rw [if_neg (by omega), if_neg (by omega)]; done)
      | (rw [if_neg (by omega), if_neg (by omega)]; rfl)

theorem refletter_any (c m : Int) (w : World) : Calls Try.prog 21 #[.int .i64 c, .int .i64 m] w fun e w' => e = .returned (.tuple #[.int .u8 (letF c m).1, .bool (letF c m).2]) ∧ w = w' := by
  go_enter Try.func21, Try.ntmps21
  go_wp2
  all_goals
    go_ret2
    refine ⟨?_, rfl⟩
    unfold letF
    first
      | (rw [if_pos (by omega)]; done)
      | (rw [if_pos (by omega)]; rfl)
      | (rw [if_neg (by omega), if_pos (by omega)]; done)
      | (rw [if_neg (by omega), if_pos (by omega)]; rfl)
      | (rw [if_neg (by omega), if_neg (by omega)]; done)
      | (rw [if_neg (by omega), if_neg (by omega)]; rfl)
end Go.Proofs.Ytnjlkjoahcakpaa
