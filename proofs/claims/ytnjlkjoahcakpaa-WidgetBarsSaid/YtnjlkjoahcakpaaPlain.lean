/-
  The plain side of the widget statements (no program in sight): what is wrong with a widget, what a key types, what a key does.
-/
import Derived.WalkKit
import Derived.Handy
import Derived.WalkSpells
import Derived.WalkLawsBesides
namespace Go.Proofs.Ytnjlkjoahcakpaa
open Go.RowKit
theorem hid {p : Prop} (h : p) : RowKit.Hid p := h
theorem ret_int {k : IntKind} {a b : Int} (h : a = b) : Ending.returned (.int k a) = .returned (.int k b) := by rw [h]
theorem bcell {W w1 : World} (hb : Below W.heap.size W w1) : (∀ b o, b < W.heap.size → w1.cell? ⟨b, o, none⟩ = W.cell? ⟨b, o, none⟩) ∧ (∀ b o, b < W.heap.size → w1.frozen? ⟨b, o, none⟩ = W.frozen? ⟨b, o, none⟩) :=
  ⟨fun b o h => hb.cell (p := ⟨b, o, none⟩) h, fun b o h => hb.frozen (p := ⟨b, o, none⟩) h⟩
/-- A widget as a value: its five cells. -/
abbrev wd (k : Int) (s : ByteArray) (o : Bool) (v c : Int) : Value := .agg #[.int .i64 k, .string s, .bool o, .int .i64 v, .int .i64 c]
def goodB (b : UInt8) : Bool := decide (32 ≤ b.toNat ∧ b.toNat ≤ 126)
/-- What is wrong with a widget, as an error's number. -/
def chk (k : Int) (s : ByteArray) (o : Bool) (v c : Int) : Int :=
  if k < 0 ∨ 3 < k then 10 else if 255 < s.size then 4 else if s.data.toList.all goodB = false then 2 else if k = 3 ∧ s.size ≠ 0 then 2
  else if o = true ∧ k ≠ 1 then 9 else if v ≠ 0 ∧ (k ≠ 3 ∨ v < 0 ∨ 100 < v) then 1 else if c ≠ 0 ∧ (k ≠ 2 ∨ c < 0 ∨ (s.size : Int) < c) then 1 else 0
theorem take_snoc (s : ByteArray) (k : Nat) (h : k < s.size) : s.data.toList.take (k + 1) = s.data.toList.take k ++ [s[k]] := by
  rw [List.take_succ_eq_append_getElem (by simpa using h)]; rfl
theorem chk_bad {k : Int} {s : ByteArray} {o : Bool} {v c : Int} {j : Nat} (hj : j < s.size) (h1 : 0 ≤ k ∧ k ≤ 3) (h2 : s.size ≤ 255) (h3 : (s[j].toNat : Int) < 32 ∨ 126 < (s[j].toNat : Int)) : chk k s o v c = 2 := by
  have hb : s.data.toList.all goodB = false := by
    rw [List.all_eq_false]
    refine ⟨s[j], ?_, ?_⟩
    · rw [Array.mem_toList_iff]; exact Array.getElem_mem (xs := s.data) (by simpa using hj)
    · simp only [goodB, decide_eq_true_eq]; omega
  unfold chk
  rw [if_neg (by omega), if_neg (by omega), if_pos hb]
theorem empty_iff (s : ByteArray) : s.toList.isEmpty = decide (s.size = 0) := by
  rw [ByteArray.toList_eq, ← ByteArray.size_data]
  rcases h : s.data with ⟨l⟩; cases l <;> simp
/-- A right widget, said out. -/
structure Right (k : Int) (s : ByteArray) (o : Bool) (v c : Int) : Prop where
  kind : 0 ≤ k ∧ k ≤ 3
  size : s.size ≤ 255
  good : s.data.toList.all goodB = true
  bare : k = 3 → s.size = 0
  on : o = true → k = 1
  val : 0 ≤ v ∧ v ≤ 100
  val0 : k ≠ 3 → v = 0
  cur : 0 ≤ c ∧ c ≤ s.size
  cur0 : k ≠ 2 → c = 0
theorem right_iff (k : Int) (s : ByteArray) (o : Bool) (v c : Int) : chk k s o v c = 0 ↔ Right k s o v c := by
  constructor
  · intro h
    unfold chk at h
    cases hg : s.data.toList.all goodB <;> cases o <;> simp only [hg, Bool.true_eq_false, Bool.false_eq_true, true_and, false_and, if_false, if_true] at h <;> (repeat' split at h) <;>
      first
        | omega
        | exact ⟨by omega, by omega, hg, by omega, by first | (intro h; cases h; done) | (intro; omega), by omega, by omega, by omega, by omega⟩
  · rintro ⟨h1, h2, h3, h4, h5, h6, h7, h8, h9⟩
    unfold chk
    rw [if_neg (by omega), if_neg (by omega), if_neg (by rw [h3]; decide), if_neg (by omega), if_neg (fun h => h.2 (h5 h.1)), if_neg (by omega), if_neg (by omega)]
theorem chk_range (k : Int) (s : ByteArray) (o : Bool) (v c : Int) : 0 ≤ chk k s o v c ∧ chk k s o v c ≤ 10 := by
  unfold chk; (repeat' split) <;> omega
/-- What a key types, and whether it types. -/
def letF (c m : Int) : Int × Bool :=
  if c < 32 ∨ 126 < c ∨ m < 0 ∨ 1 < m then (0, false) else if m = 1 ∧ 97 ≤ c ∧ c ≤ 122 then (c - 32, true) else (c, true)
theorem letF_good {c m b : Int} (h : letF c m = (b, true)) : 32 ≤ b ∧ b ≤ 126 ∧ 32 ≤ c ∧ c ≤ 126 ∧ 0 ≤ m ∧ m ≤ 1 := by
  unfold letF at h
  (repeat' split at h) <;> simp at h <;> omega
theorem letF_none {c m b : Int} (h : letF c m = (b, false)) : b = 0 ∧ (c < 32 ∨ 126 < c ∨ m < 0 ∨ 1 < m) := by
  unfold letF at h
  (repeat' split at h) <;> simp at h <;> omega
/-- The text without the bytes from a on up to b. -/
abbrev cutAt (s : ByteArray) (a b : Nat) : ByteArray := s.extract 0 a ++ s.extract b s.size
/-- One byte, as a text. -/
def one (b : Int) : ByteArray := ⟨#[UInt8.ofNat b.toNat]⟩
theorem one_size (b : Int) : (one b).size = 1 := rfl
theorem encode_one {b : Int} (h0 : 0 ≤ b) (h1 : b ≤ 127) : Utf8.encode b = one b := by
  unfold Utf8.encode one
  have hv : Utf8.valid b = true := by unfold Utf8.valid; simp; omega
  simp only [hv, if_true]
  rw [if_pos (by omega)]
theorem encode_one' {b : Int} (h0 : 0 ≤ b) (h1 : b ≤ 127) : Utf8.encode (IntKind.i32.wrap b) = one b := by
  rw [IntWalk.i32_in b (by omega), encode_one h0 h1]
/-- The text with a byte more at a. -/
abbrev insAt (s : ByteArray) (a : Nat) (b : Int) : ByteArray := s.extract 0 a ++ one b ++ s.extract a s.size
theorem ret_wd {k : Int} {s s' : ByteArray} {o : Bool} {v v' c c' : Int} (hs : s = s') (hv : v = v') (hc : c = c') : Ending.returned (wd k s o v c) = .returned (wd k s' o v' c') := by subst hs hv hc; rfl
end Go.Proofs.Ytnjlkjoahcakpaa
