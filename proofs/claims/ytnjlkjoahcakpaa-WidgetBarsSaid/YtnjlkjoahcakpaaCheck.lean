/-
  The walks of both functions that tell what is wrong with a widget: each returns 'chk', and nothing that was there has changed.
-/
import Derived.Test.YtnjlkjoahcakpaaProg
import Derived.Test.YtnjlkjoahcakpaaPlain
import Derived.BigGuardPart
namespace Go.Proofs.Ytnjlkjoahcakpaa
open Go.RowKit
set_option maxHeartbeats 1000000 in
theorem check_any (k : Int) (s : ByteArray) (o : Bool) (v c : Int) (w : World) (hs : s.size ≤ maxLen) : Calls Try.prog 15 #[wd k s o v c] w fun e w' => e = .returned (.int .i64 (chk k s o v c)) ∧ Below w.heap.size w w' := by
  unfold maxLen at hs
  go_enter Try.func15, Try.ntmps15
  go_wp2
  all_goals try (go_ret; exact ⟨ret_int (by unfold chk; first | rw [if_pos (by omega)] | rw [if_neg (by omega), if_pos (by omega)]), (Below.refl _ _).alloc (Nat.le_refl _) _⟩)
  go_loop [19] (fun i => ∃ j : Nat, j ≤ s.size ∧ i = .int .i64 j ∧ (s.data.toList.take j).all goodB = true) (fun i => s.size - (intOf i).toNat)
  case atStart => exact ⟨0, Nat.zero_le _, rfl, rfl⟩
  case round =>
    obtain ⟨j, hj, rfl, hg⟩ := hrel
    have HG := hid hg; clear hg
    by_cases hlt : j < s.size
    · go_wp2
      any_goals
          (go_ret
           exact ⟨ret_int (chk_bad hlt (by omega) (by omega) (by first | (left; assumption) | (right; assumption))).symm, (Below.refl _ _).alloc (Nat.le_refl _) _⟩)
      all_goals
         (go_round
          case rel => exact ⟨j + 1, by omega, by go_num, by rw [take_snoc s j hlt, List.all_append, HG.out]; simp [goodB]; omega⟩
          case measure => simp [intOf]; omega)
    · have HA : Hid (s.data.toList.all goodB = true) := by
        have h := HG.out; rw [List.take_of_length_le (by simp; omega)] at h; exact h
      clear HG
      go_wp2
      all_goals
        go_ret
        refine ⟨ret_int ?_, (Below.refl _ _).alloc (Nat.le_refl _) _⟩
        have HA := HA.out
        try simp only [empty_iff, bne_iff_ne, bne_eq_false_iff_eq, Bool.not_eq_true', Bool.not_eq_false', decide_eq_true_eq, decide_eq_false_iff_not] at *
        unfold chk
        simp only [HA, Bool.true_eq_false, Bool.false_eq_true, true_and, false_and, if_false]
        (repeat' split) <;> omega
set_option maxHeartbeats 1000000 in
theorem refcheck_any (k : Int) (s : ByteArray) (o : Bool) (v c : Int) (w : World) (hs : s.size ≤ maxLen) : Calls Try.prog 11 #[wd k s o v c] w fun e w' => e = .returned (.int .i64 (chk k s o v c)) ∧ Below w.heap.size w w' := by
  unfold maxLen at hs
  go_enter Try.func11, Try.ntmps11
  go_wp2
  all_goals try (go_ret; exact ⟨ret_int (by unfold chk; first | rw [if_pos (by omega)] | rw [if_neg (by omega), if_pos (by omega)]), (Below.refl _ _).alloc (Nat.le_refl _) _⟩)
  go_loop [3] (fun i => ∃ j : Nat, j ≤ s.size ∧ i = .int .i64 j ∧ (s.data.toList.take j).all goodB = true) (fun i => s.size - (intOf i).toNat)
  case atStart => exact ⟨0, Nat.zero_le _, rfl, rfl⟩
  case round =>
    obtain ⟨j, hj, rfl, hg⟩ := hrel
    have HG := hid hg; clear hg
    by_cases hlt : j < s.size
    · go_wp2
      any_goals
          (go_ret
           exact ⟨ret_int (chk_bad hlt (by omega) (by omega) (by first | (left; assumption) | (right; assumption))).symm, (Below.refl _ _).alloc (Nat.le_refl _) _⟩)
      all_goals
         (go_round
          case rel => exact ⟨j + 1, by omega, by go_num, by rw [take_snoc s j hlt, List.all_append, HG.out]; simp [goodB]; omega⟩
          case measure => simp [intOf]; omega)
    · have HA : Hid (s.data.toList.all goodB = true) := by
        have h := HG.out; rw [List.take_of_length_le (by simp; omega)] at h; exact h
      clear HG
      go_wp2
      all_goals
        go_ret
        refine ⟨ret_int ?_, (Below.refl _ _).alloc (Nat.le_refl _) _⟩
        have HA := HA.out
        try simp only [empty_iff, bne_iff_ne, bne_eq_false_iff_eq, Bool.not_eq_true', Bool.not_eq_false', decide_eq_true_eq, decide_eq_false_iff_not] at *
        unfold chk
        simp only [HA, Bool.true_eq_false, Bool.false_eq_true, true_and, false_and, if_false]
        (repeat' split) <;> omega
end Go.Proofs.Ytnjlkjoahcakpaa
