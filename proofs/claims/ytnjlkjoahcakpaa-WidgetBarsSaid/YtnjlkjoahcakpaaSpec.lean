/-
  What a key does to a right widget, and that the widget stays right; what a click does.
-/
import Derived.Test.YtnjlkjoahcakpaaPlain
namespace Go.Proofs.Ytnjlkjoahcakpaa
open Go.RowKit
/-- A widget, by its five cells. -/
structure Wt where
  k : Int
  s : ByteArray
  o : Bool
  v : Int
  c : Int
abbrev Wt.val (x : Wt) : Value := wd x.k x.s x.o x.v x.c
abbrev Wt.right (x : Wt) : Prop := Right x.k x.s x.o x.v x.c
/-- What a key does to a right widget, and whether it takes it. -/
def keyF (k : Int) (s : ByteArray) (o : Bool) (v c code mods : Int) : Wt × Bool :=
  if k = 1 ∧ mods = 0 ∧ (code = 13 ∨ code = 32) then (⟨k, s, !o, v, c⟩, true)
  else if k = 3 ∧ mods = 0 ∧ code = 130 then (⟨k, s, o, max (v - 10) 0, c⟩, true)
  else if k = 3 ∧ mods = 0 ∧ code = 131 then (⟨k, s, o, min (v + 10) 100, c⟩, true)
  else if k ≠ 2 then (⟨k, s, o, v, c⟩, false)
  else if (letF code mods).2 = true then (if s.size < 255 then (⟨k, insAt s c.toNat (letF code mods).1, o, v, c + 1⟩, true) else (⟨k, s, o, v, c⟩, false))
  else if mods ≠ 0 then (⟨k, s, o, v, c⟩, false)
  else if code = 8 then (if 0 < c then (⟨k, cutAt s (c.toNat - 1) c.toNat, o, v, c - 1⟩, true) else (⟨k, s, o, v, c⟩, true))
  else if code = 127 then (if c < s.size then (⟨k, cutAt s c.toNat (c.toNat + 1), o, v, c⟩, true) else (⟨k, s, o, v, c⟩, true))
  else if code = 130 then (⟨k, s, o, v, max (c - 1) 0⟩, true)
  else if code = 131 then (⟨k, s, o, v, min (c + 1) s.size⟩, true)
  else if code = 132 then (⟨k, s, o, v, 0⟩, true)
  else if code = 133 then (⟨k, s, o, v, s.size⟩, true)
  else (⟨k, s, o, v, c⟩, false)
theorem all_extract {s : ByteArray} (h : s.data.toList.all goodB = true) (a b : Nat) : (s.extract a b).data.toList.all goodB = true := by
  rw [ByteArray.data_extract, Array.toList_extract, List.extract_eq_take_drop]
  rw [List.all_eq_true] at h ⊢
  exact fun x hx => h x (List.mem_of_mem_drop (List.mem_of_mem_take hx))
theorem all_append {s t : ByteArray} (h : s.data.toList.all goodB = true) (g : t.data.toList.all goodB = true) : (s ++ t).data.toList.all goodB = true := by
  rw [ByteArray.data_append, Array.toList_append, List.all_append, h, g]; rfl
theorem all_one {b : Int} (h0 : 32 ≤ b) (h1 : b ≤ 126) : (one b).data.toList.all goodB = true := by
  simp only [one, List.all_cons, List.all_nil, Bool.and_true, goodB, decide_eq_true_eq]
  have : (UInt8.ofNat b.toNat).toNat = b.toNat := by simp; omega
  omega
theorem cut_size (s : ByteArray) {a b : Nat} (ha : a ≤ s.size) (hb : b ≤ s.size) : (cutAt s a b).size = a + (s.size - b) := by
  simp only [cutAt, ByteArray.size_append, ByteArray.size_extract]; omega
theorem ins_size (s : ByteArray) {a : Nat} (b : Int) (ha : a ≤ s.size) : (insAt s a b).size = s.size + 1 := by
  simp only [insAt, ByteArray.size_append, ByteArray.size_extract, one_size]; omega
def OkW (r : Wt × Bool) : Prop := Right r.1.k r.1.s r.1.o r.1.v r.1.c
theorem ite_ok {p : Prop} [Decidable p] {a b : Wt × Bool} (ha : p → OkW a) (hb : ¬ p → OkW b) : OkW (if p then a else b) := by
  by_cases h : p
  · rw [if_pos h]; exact ha h
  · rw [if_neg h]; exact hb h
theorem keyF_right {k : Int} {s : ByteArray} {o : Bool} {v c : Int} (h : Right k s o v c) (code mods : Int) : OkW (keyF k s o v c code mods) := by
  have h0 := h
  obtain ⟨h1, h2, h3, h4, h5, h6, h7, h8, h9⟩ := h
  unfold keyF
  refine ite_ok (fun q => ?_) fun n => ?_
  · exact ⟨h1, h2, h3, h4, fun _ => q.1, h6, h7, h8, h9⟩
  refine ite_ok (fun q => ?_) fun n => ?_
  · exact ⟨h1, h2, h3, h4, h5, by simp only []; omega, fun e => absurd q.1 e, h8, h9⟩
  refine ite_ok (fun q => ?_) fun n => ?_
  · exact ⟨h1, h2, h3, h4, h5, by simp only []; omega, fun e => absurd q.1 e, h8, h9⟩
  refine ite_ok (fun q => ?_) fun n => ?_
  · exact h0
  have hk : k = 2 := by omega
  refine ite_ok (fun q => ?_) fun n => ?_
  · refine ite_ok (fun q2 => ?_) fun n2 => ?_
    · have hl := q
      obtain ⟨b0, b1, _⟩ := letF_good (b := (letF code mods).1) (Prod.ext rfl hl)
      have hsz := ins_size s (a := c.toNat) (letF code mods).1 (by omega)
      exact ⟨h1, by simp only []; omega, all_append (all_append (all_extract h3 _ _) (all_one b0 b1)) (all_extract h3 _ _), fun e => by simp only [] at e; omega, h5, h6, h7, by simp only []; omega, fun e => absurd hk e⟩
    · exact h0
  refine ite_ok (fun q => ?_) fun n => ?_
  · exact h0
  refine ite_ok (fun q => ?_) fun n => ?_
  · refine ite_ok (fun q2 => ?_) fun n2 => ?_
    · have hsz := cut_size s (a := c.toNat - 1) (b := c.toNat) (by omega) (by omega)
      exact ⟨h1, by simp only []; omega, all_append (all_extract h3 _ _) (all_extract h3 _ _), fun e => by simp only [] at e; omega, h5, h6, h7, by simp only []; omega, fun e => absurd hk e⟩
    · exact h0
  refine ite_ok (fun q => ?_) fun n => ?_
  · refine ite_ok (fun q2 => ?_) fun n2 => ?_
    · have hsz := cut_size s (a := c.toNat) (b := c.toNat + 1) (by omega) (by omega)
      exact ⟨h1, by simp only []; omega, all_append (all_extract h3 _ _) (all_extract h3 _ _), fun e => by simp only [] at e; omega, h5, h6, h7, by simp only []; omega, fun e => absurd hk e⟩
    · exact h0
  refine ite_ok (fun q => ?_) fun n => ?_
  · exact ⟨h1, h2, h3, h4, h5, h6, h7, by simp only []; omega, fun e => absurd hk e⟩
  refine ite_ok (fun q => ?_) fun n => ?_
  · exact ⟨h1, h2, h3, h4, h5, h6, h7, by simp only []; omega, fun e => absurd hk e⟩
  refine ite_ok (fun q => ?_) fun n => ?_
  · exact ⟨h1, h2, h3, h4, h5, h6, h7, by simp only []; omega, fun e => absurd hk e⟩
  refine ite_ok (fun q => ?_) fun n => ?_
  · exact ⟨h1, h2, h3, h4, h5, h6, h7, by simp only []; omega, fun e => absurd hk e⟩
  · exact h0
/-- What a click does to a right widget at a place that the rectangle has. -/
def clickF (k : Int) (s : ByteArray) (o : Bool) (v c rx rw x : Int) : Wt × Bool :=
  if k = 1 then (⟨k, s, !o, v, c⟩, true) else if k = 2 then (⟨k, s, o, v, s.size⟩, true) else if k = 3 then (⟨k, s, o, (x - rx) * 100 / max (rw - 1) 1, c⟩, true) else (⟨k, s, o, v, c⟩, false)
theorem click_div {a d : Int} (h0 : 0 ≤ a) (h1 : a ≤ d) (hd : 1 ≤ d) : 0 ≤ a * 100 / d ∧ a * 100 / d ≤ 100 := by
  constructor
  · exact Int.ediv_nonneg (by omega) (by omega)
  · have : a * 100 / d ≤ d * 100 / d := Int.ediv_le_ediv (by omega) (by omega)
    rwa [Int.mul_ediv_cancel_left _ (by omega)] at this
theorem clickF_right {k : Int} {s : ByteArray} {o : Bool} {v c : Int} (h : Right k s o v c) {rx rw x : Int} (hx : rx ≤ x ∧ x < rx + rw) : OkW (clickF k s o v c rx rw x) := by
  have h0 := h
  obtain ⟨h1, h2, h3, h4, h5, h6, h7, h8, h9⟩ := h
  unfold clickF
  split
  · rename_i q; exact ⟨h1, h2, h3, h4, fun _ => q, h6, h7, h8, h9⟩
  split
  · rename_i q; exact ⟨h1, h2, h3, h4, h5, h6, h7, by simp only []; omega, fun e => absurd q e⟩
  split
  · rename_i q; exact ⟨h1, h2, h3, h4, h5, click_div (by omega) (by omega) (by omega), fun e => absurd q e, h8, h9⟩
  · exact h0
end Go.Proofs.Ytnjlkjoahcakpaa
