/-
  The walk of the example that every statement asks: it answers true.
-/
import Derived.Test.YtnjlkjoahcakpaaLeast
import Derived.Test.YtnjlkjoahcakpaaKeyAny
namespace Go.Proofs.Ytnjlkjoahcakpaa
open Go.RowKit
theorem right_A : Right 1 ⟨#[65]⟩ false 0 0 := (right_iff _ _ _ _ _).1 (by decide)
theorem right_ab : Right 2 ⟨#[97, 98]⟩ false 0 1 := (right_iff _ _ _ _ _).1 (by decide)
theorem right_axb : Right 2 ⟨#[97, 120, 98]⟩ false 0 2 := (right_iff _ _ _ _ _).1 (by decide)
theorem least_A {F : Array Value} (hF : Fnt F (fAsc 0) (fDesc 0) (fWide 0) 95) (w : World) : Calls Try.prog 13 #[wd 1 ⟨#[65]⟩ false 0 0, .agg F] w fun e w' => e = .returned (.tuple #[.int .i64 10, .int .i64 10]) ∧ Below w.heap.size w w' :=
  (least_any right_A hF (fWide_range 0) (by decide) (by decide) w).mono fun _ _ ⟨he, hw⟩ => ⟨by rw [he]; rfl, hw⟩
theorem key_x (w : World) : Calls Try.prog 18 #[wd 2 ⟨#[97, 98]⟩ false 0 1, .int .i64 120, .int .i64 0] w fun e w' => e = .returned (.tuple #[wd 2 ⟨#[97, 120, 98]⟩ false 0 2, .bool true]) ∧ Below w.heap.size w w' :=
  (key_any w right_ab 120 0).mono fun _ _ ⟨he, hw⟩ => ⟨by rw [he]; rfl, hw⟩
theorem key_8 (w : World) : Calls Try.prog 18 #[wd 2 ⟨#[97, 120, 98]⟩ false 0 2, .int .i64 8, .int .i64 0] w fun e w' => e = .returned (.tuple #[wd 2 ⟨#[97, 98]⟩ false 0 1, .bool true]) ∧ Below w.heap.size w w' :=
  (key_any w right_axb 8 0).mono fun _ _ ⟨he, hw⟩ => ⟨by rw [he]; rfl, hw⟩
set_option maxRecDepth 100000 in
set_option maxHeartbeats 1000000 in
theorem awake_any (w : World) : Calls Try.prog 10 #[] w fun e w' => e = .returned (.bool true) ∧ Below w.heap.size w w' := by
  go_enter Try.func10, Try.ntmps10
  go_wp2_with fail
  refine (some_any 0 (by decide) _).mono ?_
  rintro e w1 ⟨F, rfl, hF, hb1⟩
  go_wp2_with fail
  refine (least_A hF _).mono ?_
  rintro e w2 ⟨rfl, hb2⟩
  have hB := hid (hb1.trans (hb2.mono hb1.size))
  clear hb1 hb2 hF
  go_wp2_with fail
  refine (key_x _).mono ?_
  rintro e w3 ⟨rfl, hb3⟩
  have hB := hid (hB.out.trans (hb3.mono hB.out.size))
  clear hb3
  go_wp2_with fail
  refine (key_8 _).mono ?_
  rintro e w4 ⟨rfl, hb4⟩
  obtain ⟨hc, hf⟩ := bcell hb4
  have hz := hb4.size
  have hB := hid ((hB.out.alloc hB.out.size _).trans (hb4.mono (by have := hB.out.size; simp; omega)))
  have hz1 : w3.heap.size < w4.heap.size := by simp at hz; omega
  clear hb4 hz
  go_wp2_with fail
  go_ret
  exact ⟨rfl, hB.out.alloc hB.out.size _⟩
end Go.Proofs.Ytnjlkjoahcakpaa
