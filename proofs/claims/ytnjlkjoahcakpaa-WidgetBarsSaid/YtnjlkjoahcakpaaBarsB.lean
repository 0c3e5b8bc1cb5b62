/-
  WidgetBars: the walks.
-/
import Derived.Test.YtnjlkjoahcakpaaBarsA
import Derived.LoopTactic
import Derived.Deep.RegionHeld3
import Derived.Deep.DeepCutAuto
namespace Go.Proofs.Ytnjlkjoahcakpaa
open Go.RowKit
section
variable {x y p q a b : Int} (w : World)
set_option maxRecDepth 100000 in
set_option maxHeartbeats 2000000 in
theorem Bars.not_ (h : ¬ Counts x y p q) : Calls Try.prog 8 #[rc x y p q, .agg #[.int .u8 a, .int .u8 b]] w fun e w' => e = .returned (.bool true) ∧ Below w.heap.size w w' := by
  have HC := hid h
  clear h
  go_enter Try.func8, Try.ntmps8
  go_wp2_with fail
  refine (counts_no _ HC.out).mono ?_
  rintro e w1 ⟨rfl, hb⟩
  have hK := Held.next hb (((Held.start w).make #[.int .i64 x, .int .i64 y, .int .i64 p, .int .i64 q] 57).make #[.int .u8 a, .int .u8 b] 63)
  clear hb
  go_wp2_with fail
  refine (awake_any _).mono ?_
  rintro e w2 ⟨rfl, hb⟩
  have hK := Held.next hb hK
  go_wp2_with fail
  go_ret
  exact ⟨rfl, hK.below⟩
set_option maxRecDepth 100000 in
set_option maxHeartbeats 2000000 in
theorem Bars.out_ (h : Counts x y p q) (hp : p < 2 ∨ 1000 < p) : Calls Try.prog 8 #[rc x y p q, .agg #[.int .u8 a, .int .u8 b]] w fun e w' => e = .returned (.bool true) ∧ Below w.heap.size w w' := by
  have HC := hid h
  clear h
  rcases hp with hp | hp
  all_goals
    go_enter Try.func8, Try.ntmps8
    go_wp2_with fail
    refine (counts_yes _ HC.out).mono ?_
    rintro e w1 ⟨rfl, hb⟩
    have hK := Held.next hb (((Held.start w).make #[.int .i64 x, .int .i64 y, .int .i64 p, .int .i64 q] 57).make #[.int .u8 a, .int .u8 b] 63)
    clear hb
    obtain ⟨e1, e2, e3⟩ := hK.facts2
    go_wp2_with fail
    refine (awake_any _).mono ?_
    rintro e w2 ⟨rfl, hb⟩
    have hK := Held.next hb hK
    go_wp2_with fail
    go_ret
    exact ⟨rfl, hK.below⟩
set_option maxRecDepth 100000 in
set_option maxHeartbeats 8000000 in
theorem Bars.good_ (h : Counts x y p q) (hp : 2 ≤ p) (hp2 : p ≤ 1000) (ha : 0 ≤ a ∧ a ≤ 255) (hb : 0 ≤ b ∧ b ≤ 255) : Calls Try.prog 8 #[rc x y p q, .agg #[.int .u8 a, .int .u8 b]] w fun e w' => e = .returned (.bool true) ∧ Below w.heap.size w w' := by
  have HC := hid h
  obtain ⟨c1, c2, c3, c4, c5, c6⟩ := h
  go_enter Try.func8, Try.ntmps8
  go_wp2_with fail
  refine (counts_yes _ HC.out).mono ?_
  rintro e w1 ⟨rfl, hb⟩
  have hK := Held.next hb (((Held.start w).make #[.int .i64 x, .int .i64 y, .int .i64 p, .int .i64 q] 57).make #[.int .u8 a, .int .u8 b] 63)
  clear hb
  rw [show (w.alloc (.cells #[.int .i64 x, .int .i64 y, .int .i64 p, .int .i64 q] 57)).heap.size = w.heap.size + 1 from by simp] at hK
  obtain ⟨f1, f2, f3⟩ := hK.facts
  obtain ⟨e1, e2, e3⟩ := hK.facts2
  go_wp2_with fail
  have hK := (hK.make (wq 3 ⟨#[]⟩ false 0 0) 23).drew
  clear f1 f2 f3 e1 e2 e3
  generalize w1.alloc (.cells (wq 3 ⟨#[]⟩ false 0 0) 23) = W2 at *
  generalize w1.heap.size = g at *
  have hp0 : p ≠ 0 := by omega
  have hp1 : (p == 0) = false := by simpa using hp0
  have hw1 : IntKind.i64.wrap a = a := IntWalk.i64_in _ (by omega)
  have hw2 : IntKind.i64.wrap b = b := IntWalk.i64_in _ (by omega)
  go_cut [6, 7] (fun s6 s7 wx => ∃ m n : Int, s6 = .int .i64 m ∧ s7 = .int .i64 n ∧ (0 ≤ m ∧ m < p) ∧ (0 ≤ n ∧ n < p) ∧ Held w [(g, wq 3 ⟨#[]⟩ false 0 0, 23), (w.heap.size + 1, #[.int .u8 a, .int .u8 b], 63), (w.heap.size, #[.int .i64 x, .int .i64 y, .int .i64 p, .int .i64 q], 57)] wx)
  case first =>
    go_region_held3 (fun w' => w'.cell? ⟨w.heap.size, 2, none⟩ = some (.int .i64 p) ∧ w'.cell? ⟨w.heap.size + 1, 0, none⟩ = some (.int .u8 a) ∧ w'.cell? ⟨w.heap.size + 1, 1, none⟩ = some (.int .u8 b)) (exact ⟨(Held.facts3 (by assumption)).1 2, (Held.facts2 (by assumption)).1 0, (Held.facts2 (by assumption)).1 1⟩)
      (fail)
    all_goals go_wp2_with fail
    all_goals go_meet
    all_goals exact ⟨_, _, rfl, rfl, (by first | exact (mods hp ha).1 | exact (mods hp ha).2), (by first | exact (mods hp hb).1 | exact (mods hp hb).2), by assumption⟩
  case rest =>
    clear hw1 hw2 hp0 hp1
    obtain ⟨m, n, rfl, rfl, hm, hn, hZ⟩ := hcut
    have hmn : m < n ∨ m = n ∨ n < m := by omega
    rcases hmn with hmn | rfl | hmn
    · obtain ⟨f1, f2, f3⟩ := hZ.get g (wq 3 ⟨#[]⟩ false 0 0) 23 (by simp)
      obtain ⟨e1, e2, e3⟩ := hZ.get w.heap.size #[.int .i64 x, .int .i64 y, .int .i64 p, .int .i64 q] 57 (by simp)
      go_wp2_with fail
      refine (bar_click _ HC.out hp (m := m) (by omega) (by omega) rfl).mono ?_
      rintro e w2 ⟨rfl, hb2⟩
      have hZ := Held.next hb2 hZ
      clear hb2 f1 f2 f3 e1 e2 e3
      obtain ⟨f1, f2, f3⟩ := hZ.get g (wq 3 ⟨#[]⟩ false 0 0) 23 (by simp)
      obtain ⟨e1, e2, e3⟩ := hZ.get w.heap.size #[.int .i64 x, .int .i64 y, .int .i64 p, .int .i64 q] 57 (by simp)
      go_wp2_with fail
      refine (bar_click _ HC.out hp (m := n) (by omega) (by omega) rfl).mono ?_
      rintro e w3 ⟨rfl, hb2⟩
      have hZ := Held.next hb2 (hZ.make (wq 3 ⟨#[]⟩ false (barV p m) 0) 23)
      clear hb2 f1 f2 f3 e1 e2 e3
      generalize w2.heap.size = g2 at *
      obtain ⟨f1, f2, f3⟩ := hZ.get g (wq 3 ⟨#[]⟩ false 0 0) 23 (by simp)
      obtain ⟨e1, e2, e3⟩ := hZ.get w.heap.size #[.int .i64 x, .int .i64 y, .int .i64 p, .int .i64 q] 57 (by simp)
      go_wp2_with fail
      refine (bar_last _ HC.out hp (by omega)).mono ?_
      rintro e w4 ⟨rfl, hb2⟩
      have hZ := Held.next hb2 (hZ.make (wq 3 ⟨#[]⟩ false (barV p n) 0) 23)
      clear hb2 f1 f2 f3 e1 e2 e3
      generalize w3.heap.size = g3 at *
      obtain ⟨f1, f2, f3⟩ := hZ.get g (wq 3 ⟨#[]⟩ false 0 0) 23 (by simp)
      obtain ⟨e1, e2, e3⟩ := hZ.get w.heap.size #[.int .i64 x, .int .i64 y, .int .i64 p, .int .i64 q] 57 (by simp)
      go_wp2_with fail
      refine (bar_first _ HC.out hp).mono ?_
      rintro e w5 ⟨rfl, hb2⟩
      have hZ := Held.next hb2 (hZ.make (wq 3 ⟨#[]⟩ false 100 0) 23)
      clear hb2 f1 f2 f3 e1 e2 e3
      generalize w4.heap.size = g4 at *
      have hZ := Held.fourth (hZ.make (wq 3 ⟨#[]⟩ false 0 0) 23)
      go_wp2_with fail
      go_loopw [16] (fun i wr => ∃ (j : Nat) (v : Int), i = .int .i64 j ∧ j ≤ 11 ∧ (0 ≤ v ∧ v ≤ 100) ∧ v ≤ 110 - 10 * j ∧ Held w [(g2, wq 3 ⟨#[]⟩ false v 0, 23), (w5.heap.size, wq 3 ⟨#[]⟩ false 0 0, 23), (g4, wq 3 ⟨#[]⟩ false 100 0, 23), (g3, wq 3 ⟨#[]⟩ false (barV p n) 0, 23), (g, wq 3 ⟨#[]⟩ false 0 0, 23), (w.heap.size + 1, #[.int .u8 a, .int .u8 b], 63), (w.heap.size, #[.int .i64 x, .int .i64 y, .int .i64 p, .int .i64 q], 57)] wr) (fun i _ => 11 - (intOf i).toNat)
      case atStart => exact ⟨0, barV p m, rfl, by omega, bar_right p m hp (by omega) (by omega), by have := bar_right p m hp (by omega) (by omega); omega, hZ⟩
      case round =>
        clear hZ
        obtain ⟨j, v, rfl, hj, hv, hvj, hR⟩ := hrel
        by_cases hjl : j < 11
        · obtain ⟨f1, f2, f3⟩ := hR.facts
          go_wp2_with fail
          refine (bar_key _ hv.1 hv.2).mono ?_
          rintro e w7 ⟨rfl, hb2⟩
          have hR := Held.next hb2 hR
          clear hb2 f1 f2 f3
          obtain ⟨f1, f2, f3⟩ := hR.facts
          go_wp2_with fail
          go_roundw
          case rel => exact ⟨j + 1, max (v - 10) 0, by go_num, by omega, by omega, by omega, Held.set5 hR _ _ _ _ _⟩
          case measure => simp [intOf]; omega
        · have hjl : j = 11 := by omega
          subst hjl
          have hv0 : v = 0 := by omega
          subst hv0
          obtain ⟨f1, f2, f3⟩ := hR.facts
          obtain ⟨e1, e2, e3⟩ := hR.get w.heap.size #[.int .i64 x, .int .i64 y, .int .i64 p, .int .i64 q] 57 (by simp)
          obtain ⟨d1, d2, d3⟩ := hR.get g (wq 3 ⟨#[]⟩ false 0 0) 23 (by simp)
          obtain ⟨k1, k2, k3⟩ := hR.get g3 (wq 3 ⟨#[]⟩ false (barV p n) 0) 23 (by simp)
          obtain ⟨l1, l2, l3⟩ := hR.get g4 (wq 3 ⟨#[]⟩ false 100 0) 23 (by simp)
          obtain ⟨m1, m2, m3⟩ := hR.get w5.heap.size (wq 3 ⟨#[]⟩ false 0 0) 23 (by simp)
          obtain ⟨b1, b2⟩ := bar_right p n hp (by omega) (by omega)
          go_wp2_with fail
          refine (rises_yes _ HC.out hp (m := m) (n := n) (by omega) (by omega) (by omega)).mono ?_
          rintro e w8 ⟨rfl, hb2⟩
          have hR := Held.next hb2 hR
          go_wp2_with fail
          refine (awake_any _).mono ?_
          rintro e w9 ⟨rfl, hb9⟩
          have hR := Held.next hb9 hR
          go_wp2_with fail
          go_ret
          exact ⟨rfl, hR.below⟩
    · obtain ⟨f1, f2, f3⟩ := hZ.get g (wq 3 ⟨#[]⟩ false 0 0) 23 (by simp)
      obtain ⟨e1, e2, e3⟩ := hZ.get w.heap.size #[.int .i64 x, .int .i64 y, .int .i64 p, .int .i64 q] 57 (by simp)
      go_wp2_with fail
      refine (bar_click _ HC.out hp (m := m) (by omega) (by omega) rfl).mono ?_
      rintro e w2 ⟨rfl, hb2⟩
      have hZ := Held.next hb2 hZ
      clear hb2 f1 f2 f3 e1 e2 e3
      obtain ⟨f1, f2, f3⟩ := hZ.get g (wq 3 ⟨#[]⟩ false 0 0) 23 (by simp)
      obtain ⟨e1, e2, e3⟩ := hZ.get w.heap.size #[.int .i64 x, .int .i64 y, .int .i64 p, .int .i64 q] 57 (by simp)
      go_wp2_with fail
      refine (bar_click _ HC.out hp (m := m) (by omega) (by omega) rfl).mono ?_
      rintro e w3 ⟨rfl, hb2⟩
      have hZ := Held.next hb2 (hZ.make (wq 3 ⟨#[]⟩ false (barV p m) 0) 23)
      clear hb2 f1 f2 f3 e1 e2 e3
      generalize w2.heap.size = g2 at *
      obtain ⟨f1, f2, f3⟩ := hZ.get g (wq 3 ⟨#[]⟩ false 0 0) 23 (by simp)
      obtain ⟨e1, e2, e3⟩ := hZ.get w.heap.size #[.int .i64 x, .int .i64 y, .int .i64 p, .int .i64 q] 57 (by simp)
      go_wp2_with fail
      refine (bar_last _ HC.out hp (by omega)).mono ?_
      rintro e w4 ⟨rfl, hb2⟩
      have hZ := Held.next hb2 (hZ.make (wq 3 ⟨#[]⟩ false (barV p m) 0) 23)
      clear hb2 f1 f2 f3 e1 e2 e3
      generalize w3.heap.size = g3 at *
      obtain ⟨f1, f2, f3⟩ := hZ.get g (wq 3 ⟨#[]⟩ false 0 0) 23 (by simp)
      obtain ⟨e1, e2, e3⟩ := hZ.get w.heap.size #[.int .i64 x, .int .i64 y, .int .i64 p, .int .i64 q] 57 (by simp)
      go_wp2_with fail
      refine (bar_first _ HC.out hp).mono ?_
      rintro e w5 ⟨rfl, hb2⟩
      have hZ := Held.next hb2 (hZ.make (wq 3 ⟨#[]⟩ false 100 0) 23)
      clear hb2 f1 f2 f3 e1 e2 e3
      generalize w4.heap.size = g4 at *
      have hZ := Held.fourth (hZ.make (wq 3 ⟨#[]⟩ false 0 0) 23)
      go_wp2_with fail
      go_loopw [16] (fun i wr => ∃ (j : Nat) (v : Int), i = .int .i64 j ∧ j ≤ 11 ∧ (0 ≤ v ∧ v ≤ 100) ∧ v ≤ 110 - 10 * j ∧ Held w [(g2, wq 3 ⟨#[]⟩ false v 0, 23), (w5.heap.size, wq 3 ⟨#[]⟩ false 0 0, 23), (g4, wq 3 ⟨#[]⟩ false 100 0, 23), (g3, wq 3 ⟨#[]⟩ false (barV p m) 0, 23), (g, wq 3 ⟨#[]⟩ false 0 0, 23), (w.heap.size + 1, #[.int .u8 a, .int .u8 b], 63), (w.heap.size, #[.int .i64 x, .int .i64 y, .int .i64 p, .int .i64 q], 57)] wr) (fun i _ => 11 - (intOf i).toNat)
      case atStart => exact ⟨0, barV p m, rfl, by omega, bar_right p m hp (by omega) (by omega), by have := bar_right p m hp (by omega) (by omega); omega, hZ⟩
      case round =>
        clear hZ
        obtain ⟨j, v, rfl, hj, hv, hvj, hR⟩ := hrel
        by_cases hjl : j < 11
        · obtain ⟨f1, f2, f3⟩ := hR.facts
          go_wp2_with fail
          refine (bar_key _ hv.1 hv.2).mono ?_
          rintro e w7 ⟨rfl, hb2⟩
          have hR := Held.next hb2 hR
          clear hb2 f1 f2 f3
          obtain ⟨f1, f2, f3⟩ := hR.facts
          go_wp2_with fail
          go_roundw
          case rel => exact ⟨j + 1, max (v - 10) 0, by go_num, by omega, by omega, by omega, Held.set5 hR _ _ _ _ _⟩
          case measure => simp [intOf]; omega
        · have hjl : j = 11 := by omega
          subst hjl
          have hv0 : v = 0 := by omega
          subst hv0
          obtain ⟨f1, f2, f3⟩ := hR.facts
          obtain ⟨e1, e2, e3⟩ := hR.get w.heap.size #[.int .i64 x, .int .i64 y, .int .i64 p, .int .i64 q] 57 (by simp)
          obtain ⟨d1, d2, d3⟩ := hR.get g (wq 3 ⟨#[]⟩ false 0 0) 23 (by simp)
          obtain ⟨k1, k2, k3⟩ := hR.get g3 (wq 3 ⟨#[]⟩ false (barV p m) 0) 23 (by simp)
          obtain ⟨l1, l2, l3⟩ := hR.get g4 (wq 3 ⟨#[]⟩ false 100 0) 23 (by simp)
          obtain ⟨m1, m2, m3⟩ := hR.get w5.heap.size (wq 3 ⟨#[]⟩ false 0 0) 23 (by simp)
          obtain ⟨b1, b2⟩ := bar_right p m hp (by omega) (by omega)
          go_wp2_with fail
          refine (rises_yes _ HC.out hp (m := m) (n := m) (by omega) (by omega) (by omega)).mono ?_
          rintro e w8 ⟨rfl, hb2⟩
          have hR := Held.next hb2 hR
          go_wp2_with fail
          refine (awake_any _).mono ?_
          rintro e w9 ⟨rfl, hb9⟩
          have hR := Held.next hb9 hR
          go_wp2_with fail
          go_ret
          exact ⟨rfl, hR.below⟩
    · obtain ⟨f1, f2, f3⟩ := hZ.get g (wq 3 ⟨#[]⟩ false 0 0) 23 (by simp)
      obtain ⟨e1, e2, e3⟩ := hZ.get w.heap.size #[.int .i64 x, .int .i64 y, .int .i64 p, .int .i64 q] 57 (by simp)
      go_wp2_with fail
      refine (bar_click _ HC.out hp (m := n) (by omega) (by omega) rfl).mono ?_
      rintro e w2 ⟨rfl, hb2⟩
      have hZ := Held.next hb2 hZ
      clear hb2 f1 f2 f3 e1 e2 e3
      obtain ⟨f1, f2, f3⟩ := hZ.get g (wq 3 ⟨#[]⟩ false 0 0) 23 (by simp)
      obtain ⟨e1, e2, e3⟩ := hZ.get w.heap.size #[.int .i64 x, .int .i64 y, .int .i64 p, .int .i64 q] 57 (by simp)
      go_wp2_with fail
      refine (bar_click _ HC.out hp (m := m) (by omega) (by omega) rfl).mono ?_
      rintro e w3 ⟨rfl, hb2⟩
      have hZ := Held.next hb2 (hZ.make (wq 3 ⟨#[]⟩ false (barV p n) 0) 23)
      clear hb2 f1 f2 f3 e1 e2 e3
      generalize w2.heap.size = g2 at *
      obtain ⟨f1, f2, f3⟩ := hZ.get g (wq 3 ⟨#[]⟩ false 0 0) 23 (by simp)
      obtain ⟨e1, e2, e3⟩ := hZ.get w.heap.size #[.int .i64 x, .int .i64 y, .int .i64 p, .int .i64 q] 57 (by simp)
      go_wp2_with fail
      refine (bar_last _ HC.out hp (by omega)).mono ?_
      rintro e w4 ⟨rfl, hb2⟩
      have hZ := Held.next hb2 (hZ.make (wq 3 ⟨#[]⟩ false (barV p m) 0) 23)
      clear hb2 f1 f2 f3 e1 e2 e3
      generalize w3.heap.size = g3 at *
      obtain ⟨f1, f2, f3⟩ := hZ.get g (wq 3 ⟨#[]⟩ false 0 0) 23 (by simp)
      obtain ⟨e1, e2, e3⟩ := hZ.get w.heap.size #[.int .i64 x, .int .i64 y, .int .i64 p, .int .i64 q] 57 (by simp)
      go_wp2_with fail
      refine (bar_first _ HC.out hp).mono ?_
      rintro e w5 ⟨rfl, hb2⟩
      have hZ := Held.next hb2 (hZ.make (wq 3 ⟨#[]⟩ false 100 0) 23)
      clear hb2 f1 f2 f3 e1 e2 e3
      generalize w4.heap.size = g4 at *
      have hZ := Held.fourth (hZ.make (wq 3 ⟨#[]⟩ false 0 0) 23)
      go_wp2_with fail
      go_loopw [16] (fun i wr => ∃ (j : Nat) (v : Int), i = .int .i64 j ∧ j ≤ 11 ∧ (0 ≤ v ∧ v ≤ 100) ∧ v ≤ 110 - 10 * j ∧ Held w [(g2, wq 3 ⟨#[]⟩ false v 0, 23), (w5.heap.size, wq 3 ⟨#[]⟩ false 0 0, 23), (g4, wq 3 ⟨#[]⟩ false 100 0, 23), (g3, wq 3 ⟨#[]⟩ false (barV p m) 0, 23), (g, wq 3 ⟨#[]⟩ false 0 0, 23), (w.heap.size + 1, #[.int .u8 a, .int .u8 b], 63), (w.heap.size, #[.int .i64 x, .int .i64 y, .int .i64 p, .int .i64 q], 57)] wr) (fun i _ => 11 - (intOf i).toNat)
      case atStart => exact ⟨0, barV p n, rfl, by omega, bar_right p n hp (by omega) (by omega), by have := bar_right p n hp (by omega) (by omega); omega, hZ⟩
      case round =>
        clear hZ
        obtain ⟨j, v, rfl, hj, hv, hvj, hR⟩ := hrel
        by_cases hjl : j < 11
        · obtain ⟨f1, f2, f3⟩ := hR.facts
          go_wp2_with fail
          refine (bar_key _ hv.1 hv.2).mono ?_
          rintro e w7 ⟨rfl, hb2⟩
          have hR := Held.next hb2 hR
          clear hb2 f1 f2 f3
          obtain ⟨f1, f2, f3⟩ := hR.facts
          go_wp2_with fail
          go_roundw
          case rel => exact ⟨j + 1, max (v - 10) 0, by go_num, by omega, by omega, by omega, Held.set5 hR _ _ _ _ _⟩
          case measure => simp [intOf]; omega
        · have hjl : j = 11 := by omega
          subst hjl
          have hv0 : v = 0 := by omega
          subst hv0
          obtain ⟨f1, f2, f3⟩ := hR.facts
          obtain ⟨e1, e2, e3⟩ := hR.get w.heap.size #[.int .i64 x, .int .i64 y, .int .i64 p, .int .i64 q] 57 (by simp)
          obtain ⟨d1, d2, d3⟩ := hR.get g (wq 3 ⟨#[]⟩ false 0 0) 23 (by simp)
          obtain ⟨k1, k2, k3⟩ := hR.get g3 (wq 3 ⟨#[]⟩ false (barV p m) 0) 23 (by simp)
          obtain ⟨l1, l2, l3⟩ := hR.get g4 (wq 3 ⟨#[]⟩ false 100 0) 23 (by simp)
          obtain ⟨m1, m2, m3⟩ := hR.get w5.heap.size (wq 3 ⟨#[]⟩ false 0 0) 23 (by simp)
          obtain ⟨b1, b2⟩ := bar_right p m hp (by omega) (by omega)
          go_wp2_with fail
          refine (rises_yes _ HC.out hp (m := n) (n := m) (by omega) (by omega) (by omega)).mono ?_
          rintro e w8 ⟨rfl, hb2⟩
          have hR := Held.next hb2 hR
          go_wp2_with fail
          refine (awake_any _).mono ?_
          rintro e w9 ⟨rfl, hb9⟩
          have hR := Held.next hb9 hR
          go_wp2_with fail
          go_ret
          exact ⟨rfl, hR.below⟩
end
end Go.Proofs.Ytnjlkjoahcakpaa
