/-
  The walks of the fonts' methods, of Builtin and of 'some': what a font that is built in tells.
-/
import Derived.Test.YtnjlkjoahcakpaaFontB
import Derived.Laws.EntriesVeiled
import Derived.BigGuardPart
namespace Go.Proofs.Ytnjlkjoahcakpaa
open Go.RowKit
/-- Where a byte's letter stands. -/
def plc (b : UInt8) : Nat := if 32 ≤ b.toNat ∧ b.toNat ≤ 126 then b.toNat - 32 else 31
theorem plc_lt (b : UInt8) : plc b < 95 := by unfold plc; split <;> omega
theorem place_any (b : UInt8) (w : World) : Calls Try.prog 34 #[.int .u8 b.toNat] w fun e w' => e = .returned (.int .i64 (plc b : Nat)) ∧ w = w' := by
  have hb := b.toNat_lt
  go_enter Try.func34, Try.ntmps34
  go_wp2
  all_goals
    go_ret
    refine ⟨ret_int ?_, rfl⟩
    unfold plc
    split <;> omega
/-- How wide a text's letters are together. -/
def widF (wd : Nat → Int) (l : List UInt8) : Int := (l.map fun b => wd (plc b)).sum
theorem widF_snoc (wd : Nat → Int) (l : List UInt8) (b : UInt8) : widF wd (l ++ [b]) = widF wd l + wd (plc b) := by simp [widF]
theorem widF_range {wd : Nat → Int} (h : ∀ i, 0 ≤ wd i ∧ wd i ≤ 100) (l : List UInt8) : 0 ≤ widF wd l ∧ widF wd l ≤ 100 * l.length := by
  induction l with
  | nil => simp [widF]
  | cons b l ih =>
    have := h (plc b)
    simp only [widF, List.map_cons, List.sum_cons, List.length_cons] at ih ⊢
    omega
set_option maxHeartbeats 1000000 in
theorem width_any {F : Array Value} {a d : Int} {wd : Nat → Int} (hF : Fnt F a d wd 95) (hr : ∀ i, 0 ≤ wd i ∧ wd i ≤ 100) (s : ByteArray) (hs : s.size ≤ 255) (w : World) :
    Calls Try.prog 27 #[.agg F, .string s] w fun e w' => e = .returned (.int .i64 (widF wd s.data.toList)) ∧ Below w.heap.size w w' := by
  have HF := hid hF
  have HR := hid hr
  clear hF hr
  go_enter Try.func27, Try.ntmps27
  go_wp2_with (refine wpList_box_big (by rfl) 36 _ (by rfl) F (by rfl) ?_)
  go_loop [5, 9] (fun t i => ∃ j : Nat, j ≤ s.size ∧ i = .int .i64 j ∧ t = .int .i64 (widF wd (s.data.toList.take j))) (fun _ i => s.size - (intOf i).toNat)
  case atStart => exact ⟨0, Nat.zero_le _, rfl, rfl⟩
  case round =>
    obtain ⟨j, hj, rfl, rfl⟩ := hrel
    have hw := widF_range HR.out (s.data.toList.take j)
    have hl : (s.data.toList.take j).length ≤ j := List.length_take_le _ _
    obtain ⟨hw0, hw1⟩ := hw
    by_cases hlt : j < s.size
    · have hcell := HF.out.wide (plc s[j]) (plc_lt _)
      have hp := plc_lt s[j]
      have hb := HR.out (plc s[j])
      obtain ⟨hb0, hb1⟩ := hb
      have HS : RowKit.Hid (widF wd (s.data.toList.take (j + 1)) = widF wd (s.data.toList.take j) + wd (plc s[j])) := hid (by rw [take_snoc s j hlt, widF_snoc])
      go_wp2_with (go_at_call 34; refine (place_any _ _).mono ?_; rintro e w3 ⟨rfl, rfl⟩)
      go_round
      case rel => exact ⟨j + 1, by omega, by go_num, by rw [HS.out]⟩
      case measure => simp [intOf]; omega
    · go_wp2_with fail
      go_ret
      exact ⟨ret_int (by rw [List.take_of_length_le (by simp; omega)]), by go_grown⟩
theorem ascent_any {F : Array Value} {a d : Int} {wd : Nat → Int} (hF : Fnt F a d wd 95) (w : World) : Calls Try.prog 30 #[.agg F] w fun e w' => e = .returned (.int .i64 a) ∧ Below w.heap.size w w' := by
  have h0 := hF.asc
  clear hF
  go_enter Try.func30, Try.ntmps30
  go_wp2_with (refine wpList_box_big (by rfl) 36 _ (by rfl) F (by rfl) ?_)
  go_ret
  exact ⟨rfl, by go_grown⟩
theorem descent_any {F : Array Value} {a d : Int} {wd : Nat → Int} (hF : Fnt F a d wd 95) (w : World) : Calls Try.prog 31 #[.agg F] w fun e w' => e = .returned (.int .i64 d) ∧ Below w.heap.size w w' := by
  have h0 := hF.desc
  clear hF
  go_enter Try.func31, Try.ntmps31
  go_wp2_with (refine wpList_box_big (by rfl) 36 _ (by rfl) F (by rfl) ?_)
  go_ret
  exact ⟨rfl, by go_grown⟩
/-- A font that Builtin hands back. -/
def BuiltRes (w : World) (a d : Int) (wd : Nat → Int) (e : Ending) (w' : World) : Prop := ∃ F : Array Value, e = .returned (.tuple #[.agg F, .bool true]) ∧ Fnt F a d wd 95 ∧ Below w.heap.size w w'
set_option maxRecDepth 100000 in
theorem builtin_tiny (w : World) : Calls Try.prog 29 #[.string ⟨#[116, 105, 110, 121]⟩] w (BuiltRes w 5 1 (fun _ => 4)) := by
  have hz := ZF_zero
  go_enter Try.func29, Try.ntmps29
  go_wp2_with fail
  refine (build_tiny _).mono ?_
  rintro e w1 ⟨F, rfl, hF, hb⟩
  clear hz
  have HZ : RowKit.Hid (w1.heap[w.heap.size]? = some (.cells ZF 36 (0, 0))) := hid (by rw [hb.block _ (by simp)]; exact heap_alloc_new _ _)
  have HB := hid (((Below.refl _ _).alloc (Nat.le_refl _) _).trans (hb.mono (by simp)) : Below w.heap.size w w1)
  have HF := hid hF
  clear hF hb
  go_wp2_with (refine wpList_store_big (by rfl) 36 _ _ (by rfl) w.heap.size (by rfl) F (by rfl) 36 ZF HZ.out (by rw [HF.out.size]; kernel_rfl) (by rw [HF.out.size, ZF_size]) HF.out.all ?_)
  exact bodyPost_ret (results_row_tmp Try.results29 _ _ _ _ _ _ _ rfl (setRow_heap _ _ _ _ _ _ HZ.out) Try.underlying36 rfl (by rw [HF.out.size]; kernel_rfl)) rfl ⟨F, rfl, HF.out, below_setRow HB.out (Nat.le_refl _) _⟩
set_option maxRecDepth 100000 in
theorem builtin_wide (w : World) : Calls Try.prog 29 #[.string ⟨#[119, 105, 100, 101]⟩] w (BuiltRes w 7 2 wideW) := by
  have hz := ZF_zero
  go_enter Try.func29, Try.ntmps29
  go_wp2_with fail
  refine (build_wide _ (w.heap.size + 1) (by simp [go_sem])).mono ?_
  rintro e w1 ⟨F, rfl, hF, hb⟩
  clear hz
  have HZ : RowKit.Hid (w1.heap[w.heap.size]? = some (.cells ZF 36 (0, 0))) := hid (by rw [hb.block _ (by simp; omega)]; exact heap_alloc2_old _ _ _)
  have HB := hid ((((Below.refl _ _).alloc (Nat.le_refl _) _).alloc (by simp) _).trans (hb.mono (by simp; omega)) : Below w.heap.size w w1)
  have HF := hid hF
  clear hF hb
  go_wp2_with (refine wpList_store_big (by rfl) 36 _ _ (by rfl) w.heap.size (by rfl) F (by rfl) 36 ZF HZ.out (by rw [HF.out.size]; kernel_rfl) (by rw [HF.out.size, ZF_size]) HF.out.all ?_)
  exact bodyPost_ret (results_row_tmp Try.results29 _ _ _ _ _ _ _ rfl (setRow_heap _ _ _ _ _ _ HZ.out) Try.underlying36 rfl (by rw [HF.out.size]; kernel_rfl)) rfl ⟨F, rfl, HF.out, below_setRow HB.out (Nat.le_refl _) _⟩
/-- The font of a number: its ascent, its descent, how wide its letters are. -/
def fAsc (n : Int) : Int := if n % 2 = 1 then 7 else 5
def fDesc (n : Int) : Int := if n % 2 = 1 then 2 else 1
def fWide (n : Int) : Nat → Int := if n % 2 = 1 then wideW else fun _ => 4
theorem fWide_range (n : Int) (i : Nat) : 0 ≤ fWide n i ∧ fWide n i ≤ 100 := by
  unfold fWide
  split
  · unfold wideW; omega
  · show (0 : Int) ≤ 4 ∧ (4 : Int) ≤ 100; omega
set_option maxRecDepth 100000 in
set_option maxHeartbeats 1000000 in
theorem some_any (n : Int) (hn : 0 ≤ n) (w : World) : Calls Try.prog 14 #[.int .u8 n] w (FontRes w (fAsc n) (fDesc n) (fWide n)) := by
  have hz := ZF_zero
  by_cases h : n % 2 = 1
  · have hb : (n % 2 == 1) = true := by simpa using h
    have e1 : fAsc n = 7 := if_pos h
    have e2 : fDesc n = 2 := if_pos h
    have e3 : fWide n = wideW := if_pos h
    rw [e1, e2, e3]
    clear h e1 e2 e3
    go_enter Try.func14, Try.ntmps14
    go_wp2_with fail
    refine (builtin_wide _).mono ?_
    rintro e w1 ⟨F, rfl, hF, hb1⟩
    have HZ : RowKit.Hid ((w1.alloc (.cells F 36)).heap[w.heap.size]? = some (.cells ZF 36 (0, 0))) := hid (by
      have hs := hb1.size
      rw [heap_alloc_old _ _ (by simp at hs; omega), hb1.block _ (by simp)]
      exact heap_alloc_new _ _)
    have HB := hid (((Below.refl _ _).alloc (Nat.le_refl _) _).trans (hb1.mono (by simp)) : Below w.heap.size w w1)
    have HF := hid hF
    have HN : RowKit.Hid ((w1.alloc (.cells F 36)).heap[w1.heap.size]? = some (.cells F 36 (0, 0))) := hid (heap_alloc_new _ _)
    clear hF hb1
    go_wp2_with (first
      | (refine wpList_load_row (by rfl) 36 _ (by rfl) w1.heap.size (by rfl) 36 F (0, 0) _ HN.out Try.underlying36 (by rfl) (by rw [HF.out.size]; kernel_rfl) ?_)
      | (refine wpList_store_big (by rfl) 36 _ _ (by rfl) w.heap.size (by rfl) F (by rfl) 36 ZF HZ.out (by rw [HF.out.size]; kernel_rfl) (by rw [HF.out.size, ZF_size]) HF.out.all ?_)
      | (refine wpList_store_last (by rfl) 36 _ _ (by rfl) w1.heap.size (by rfl) F (by rfl) 36 ZF (by rfl) (by rw [HF.out.size]; kernel_rfl) (by rw [HF.out.size, ZF_size]) HF.out.all ?_))
    exact bodyPost_ret (results_cell_row Try.results14 _ _ _ _ _ _ _ rfl (setRow_heap _ _ _ _ _ _ HZ.out) Try.underlying36 rfl (by rw [HF.out.size]; kernel_rfl)) rfl ⟨F, rfl, HF.out, below_setRow (HB.out.alloc HB.out.size _) (Nat.le_refl _) _⟩
  · have hb : (n % 2 == 1) = false := by simpa using h
    have e1 : fAsc n = 5 := if_neg h
    have e2 : fDesc n = 1 := if_neg h
    have e3 : fWide n = fun _ => 4 := if_neg h
    rw [e1, e2, e3]
    clear h e1 e2 e3
    go_enter Try.func14, Try.ntmps14
    go_wp2_with fail
    refine (builtin_tiny _).mono ?_
    rintro e w1 ⟨F, rfl, hF, hb1⟩
    have HZ : RowKit.Hid ((w1.alloc (.cells F 36)).heap[w.heap.size]? = some (.cells ZF 36 (0, 0))) := hid (by
      have hs := hb1.size
      rw [heap_alloc_old _ _ (by simp at hs; omega), hb1.block _ (by simp)]
      exact heap_alloc_new _ _)
    have HB := hid (((Below.refl _ _).alloc (Nat.le_refl _) _).trans (hb1.mono (by simp)) : Below w.heap.size w w1)
    have HF := hid hF
    have HN : RowKit.Hid ((w1.alloc (.cells F 36)).heap[w1.heap.size]? = some (.cells F 36 (0, 0))) := hid (heap_alloc_new _ _)
    clear hF hb1
    go_wp2_with (first
      | (refine wpList_load_row (by rfl) 36 _ (by rfl) w1.heap.size (by rfl) 36 F (0, 0) _ HN.out Try.underlying36 (by rfl) (by rw [HF.out.size]; kernel_rfl) ?_)
      | (refine wpList_store_big (by rfl) 36 _ _ (by rfl) w.heap.size (by rfl) F (by rfl) 36 ZF HZ.out (by rw [HF.out.size]; kernel_rfl) (by rw [HF.out.size, ZF_size]) HF.out.all ?_)
      | (refine wpList_store_last (by rfl) 36 _ _ (by rfl) w1.heap.size (by rfl) F (by rfl) 36 ZF (by rfl) (by rw [HF.out.size]; kernel_rfl) (by rw [HF.out.size, ZF_size]) HF.out.all ?_))
    exact bodyPost_ret (results_cell_row Try.results14 _ _ _ _ _ _ _ rfl (setRow_heap _ _ _ _ _ _ HZ.out) Try.underlying36 rfl (by rw [HF.out.size]; kernel_rfl)) rfl ⟨F, rfl, HF.out, below_setRow (HB.out.alloc HB.out.size _) (Nat.le_refl _) _⟩
end Go.Proofs.Ytnjlkjoahcakpaa
