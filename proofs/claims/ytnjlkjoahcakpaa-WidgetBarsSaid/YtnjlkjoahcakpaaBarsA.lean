/-
  Bars: what a click sets, that it rises; the walk of rises.
-/
import Derived.Test.YtnjlkjoahcakpaaClick
import Derived.Test.YtnjlkjoahcakpaaNeeds
import Derived.Test.YtnjlkjoahcakpaaOpens
import Derived.Test.YtnjlkjoahcakpaaHeld
import Derived.Test.YtnjlkjoahcakpaaKeyAny
import Derived.Test.YtnjlkjoahcakpaaAwake
import Derived.LoopTactic
namespace Go.Proofs.Ytnjlkjoahcakpaa
open Go.RowKit
theorem Held.get {w W : World} {L : List Blk} (h : Held w L W) (g : Nat) (A : Array Value) (t : TypeId) (hm : (g, A, t) ∈ L) : (∀ i, W.cell? ⟨g, i, none⟩ = A[i]?) ∧ (∀ i, W.frozen? ⟨g, i, none⟩ = false) ∧ g < W.heap.size :=
  ⟨fun i => cell_of_row _ _ i _ _ _ (h.row _ hm).2, fun i => frozen_of_row _ _ i _ _ (h.row _ hm).2, h.lt _ hm⟩
/-- Where a bar of W columns stands that is clicked m columns from its left. -/
def barV (p m : Int) : Int := m * 100 / (p - 1)
theorem bar_right (p m : Int) (hp : 2 ≤ p) (h0 : 0 ≤ m) (h1 : m < p) : 0 ≤ barV p m ∧ barV p m ≤ 100 := click_div h0 (by omega) (by omega)
theorem bar_mono {p m n : Int} (hp : 2 ≤ p) (h : m ≤ n) : barV p m ≤ barV p n := Int.ediv_le_ediv (by omega) (by omega)
theorem bar_full (p : Int) (hp : 2 ≤ p) : barV p (p - 1) = 100 := by
  unfold barV
  rw [Int.mul_ediv_cancel_left _ (by omega)]
theorem bar_none (p : Int) : barV p 0 = 0 := by
  unfold barV
  rw [Int.zero_mul, Int.zero_ediv]
theorem right_bar {v : Int} (h0 : 0 ≤ v) (h1 : v ≤ 100) : Right 3 ⟨#[]⟩ false v 0 := by
  constructor <;> first | omega | decide | (intro h; first | rfl | (exfalso; omega)) | skip
/-- The cells of a widget. -/
abbrev wq (k : Int) (s : ByteArray) (o : Bool) (v c : Int) : Array Value := #[.int .i64 k, .string s, .bool o, .int .i64 v, .int .i64 c]
section
variable {x y p q : Int} (w : World)
theorem bar_click {a m : Int} (h : Counts x y p q) (hp : 2 ≤ p) (h0 : 0 ≤ m) (h1 : m < p) (ha : a = x + m) :
    Calls Try.prog 22 #[wd 3 ⟨#[]⟩ false 0 0, rc x y p q, .int .i64 a, .int .i64 y] w fun e w' => e = .returned (.tuple #[wd 3 ⟨#[]⟩ false (barV p m) 0, .bool true]) ∧ Below w.heap.size w w' := by
  subst ha
  have hq := h.h1
  refine (click_in w (right_bar (Int.le_refl 0) (by omega)) h ⟨by omega, by omega, by omega, by omega⟩).mono ?_
  rintro e w' ⟨rfl, hb⟩
  refine ⟨?_, hb⟩
  show Ending.returned (.tuple #[wd 3 ⟨#[]⟩ false ((x + m - x) * 100 / max (p - 1) 1) 0, .bool true]) = _
  rw [show x + m - x = m by omega, show max (p - 1) 1 = p - 1 by omega]
  rfl
theorem bar_last {a : Int} (h : Counts x y p q) (hp : 2 ≤ p) (ha : a = x + (p - 1)) :
    Calls Try.prog 22 #[wd 3 ⟨#[]⟩ false 0 0, rc x y p q, .int .i64 a, .int .i64 y] w fun e w' => e = .returned (.tuple #[wd 3 ⟨#[]⟩ false 100 0, .bool true]) ∧ Below w.heap.size w w' := by
  have := bar_click w (m := p - 1) h hp (by omega) (by omega) ha
  rwa [bar_full p hp] at this
theorem bar_first (h : Counts x y p q) (hp : 2 ≤ p) :
    Calls Try.prog 22 #[wd 3 ⟨#[]⟩ false 0 0, rc x y p q, .int .i64 x, .int .i64 y] w fun e w' => e = .returned (.tuple #[wd 3 ⟨#[]⟩ false 0 0, .bool true]) ∧ Below w.heap.size w w' := by
  have := bar_click w (m := 0) h hp (by omega) (by omega) (Int.add_zero x).symm
  rwa [bar_none p] at this
theorem bar_key {v : Int} (h0 : 0 ≤ v) (h1 : v ≤ 100) :
    Calls Try.prog 18 #[wd 3 ⟨#[]⟩ false v 0, .int .i64 130, .int .i64 0] w fun e w' => e = .returned (.tuple #[wd 3 ⟨#[]⟩ false (max (v - 10) 0) 0, .bool true]) ∧ Below w.heap.size w w' := by
  refine (key_any w (right_bar h0 h1) 130 0).mono ?_
  rintro e w' ⟨rfl, hb⟩
  refine ⟨?_, hb⟩
  have : keyF 3 ⟨#[]⟩ false v 0 130 0 = (⟨3, ⟨#[]⟩, false, max (v - 10) 0, 0⟩, true) := by simp [keyF]
  rw [this]
theorem mods {a : Int} (hp : 2 ≤ p) (ha : 0 ≤ a ∧ a ≤ 255) : (0 ≤ a.tmod p ∧ a.tmod p < p) ∧ (0 ≤ a % p ∧ a % p < p) :=
  ⟨⟨Int.tmod_nonneg _ ha.1, Int.tmod_lt_of_pos _ (by omega)⟩, Int.emod_nonneg _ (by omega), Int.emod_lt_of_pos _ (by omega)⟩
theorem Held.fourth {w W : World} {L : List Blk} {a b c d : Blk} (h : Held w (a :: b :: c :: d :: L) W) : Held w (d :: a :: b :: c :: L) W := by
  have hP : List.Perm (a :: b :: c :: d :: L) (d :: a :: b :: c :: L) := List.perm_middle (l₁ := [a, b, c])
  exact ⟨h.below, fun p hp => h.row p (hP.mem_iff.2 hp), (hP.pairwise_iff (fun hab e => hab e.symm)).1 h.apart⟩
set_option maxRecDepth 100000 in
set_option maxHeartbeats 2000000 in
theorem rises_yes {m n : Int} (h : Counts x y p q) (hp : 2 ≤ p) (h0 : 0 ≤ m) (h1 : m ≤ n) (h2 : n < p) :
    Calls Try.prog 26 #[wd 3 ⟨#[]⟩ false 0 0, rc x y p q, .int .i64 m, .int .i64 n] w fun e w' => e = .returned (.bool true) ∧ Below w.heap.size w w' := by
  have HC := hid h
  obtain ⟨c1, c2, c3, c4, c5, c6⟩ := h
  have hm := bar_mono hp h1
  have HM := hid hm
  clear hm
  go_enter Try.func26, Try.ntmps26
  go_wp2_with fail
  have hK := ((Held.start w).make (wq 3 ⟨#[]⟩ false 0 0) 23).make #[.int .i64 x, .int .i64 y, .int .i64 p, .int .i64 q] 57
  refine (bar_click _ HC.out hp h0 (by omega) rfl).mono ?_
  rintro e w1 ⟨rfl, hb⟩
  have hK := Held.next hb hK
  clear hb
  rw [show (w.alloc (.cells (wq 3 ⟨#[]⟩ false 0 0) 23)).heap.size = w.heap.size + 1 from by simp] at hK
  obtain ⟨f1, f2, f3⟩ := hK.facts
  obtain ⟨e1, e2, e3⟩ := hK.facts2
  go_wp2_with fail
  refine (bar_click _ HC.out hp (by omega) h2 rfl).mono ?_
  rintro e w2 ⟨rfl, hb⟩
  have hK := Held.next hb (hK.make (wq 3 ⟨#[]⟩ false (barV p m) 0) 23)
  clear hb f1 f2 f3 e1 e2 e3
  obtain ⟨f1, f2, f3⟩ := hK.facts
  have hk := HM.out
  go_wp2_with fail
  go_ret
  exact ⟨rfl, (hK.make _ _).below⟩
end
end Go.Proofs.Ytnjlkjoahcakpaa
