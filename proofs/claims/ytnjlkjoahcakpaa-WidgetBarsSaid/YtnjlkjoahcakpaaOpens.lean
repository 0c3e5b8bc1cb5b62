/-
  A rectangle, two bytes, a slice of pairs as a law's arguments: opened to their cells.
-/
import Derived.Test.YtnjlkjoahcakpaaFrame
import Derived.Test.YtnjlkjoahcakpaaRect
import Derived.Deep.Slices
namespace Go.Proofs.Ytnjlkjoahcakpaa
open Go.Deep Go.ChangeShapes Go.WideShapes Go.ChangeAt Go.RowKit
section
variable {H : Type} {enc : TypeId × Value → H} {w : World} {base : Nat} {spare : Nat → Bool} {held : Bool} {r : Reach} {b0 : Nat} {v : Value} {d : DataW H} {p : List MemPlace}
/-- A rectangle as an argument. -/
theorem open_rect (hv : Value.okWide Try.prog w r b0 57 v) (h : DataW.Trod enc Try.prog w base spare held 57 v d p) :
    ∃ x y a b : Int, v = rc x y a b ∧ Big x ∧ Big y ∧ Big a ∧ Big b := by
  obtain ⟨cs, rfl, hsz⟩ := okWide_struct Try.underlying57 hv
  obtain ⟨fuel, hf⟩ := h
  obtain ⟨xs, n, _, _, _, hlen, hg⟩ := DataW.trod_struct Try.underlying57 hf
  have hC : Try.prog.cellsOf 57 = 4 := by kernel_rfl
  have hi : Try.prog.cellsOf 3 = 1 := by kernel_rfl
  obtain ⟨l⟩ := cs
  match l, hsz.trans hC with
  | [c0, c1, c2, c3], _ =>
    match xs, hlen with
    | [y0, y1, y2, y3], _ =>
      obtain ⟨k, e0, _, w0⟩ := DataW.trod_int Try.underlying3 (hg 0 _ rfl)
      obtain ⟨s, e1, _, w1⟩ := DataW.trod_int Try.underlying3 (hg 1 _ rfl)
      obtain ⟨o, e2, _, w2⟩ := DataW.trod_int Try.underlying3 (hg 2 _ rfl)
      obtain ⟨m, e3, _, w3⟩ := DataW.trod_int Try.underlying3 (hg 3 _ rfl)
      simp [Value.cells, hi] at e0
      simp [Value.cells, hi] at e1
      simp [Value.cells, hi] at e2
      simp [Value.cells, hi] at e3
      subst e0 e1 e2 e3
      exact ⟨k, s, o, m, rfl, wf_range w0, wf_range w1, wf_range w2, wf_range w3⟩
/-- An array of two cells. -/
theorem trod2 {t e : TypeId} {fuel : Nat} {cs : List Value} {x : DataW H × List MemPlace} (ht : Try.prog.underlying t = some (.array 2 e)) (hce : Try.prog.cellsOf e = 1) (hcs : cs.length = 2)
    (h : DataW.trod enc Try.prog w base spare held fuel t cs = some x) :
    ∃ c0 c1 y0 y1 n, cs = [c0, c1] ∧ DataW.trod enc Try.prog w base spare held n e [c0] = some y0 ∧ DataW.trod enc Try.prog w base spare held n e [c1] = some y1 := by
  match cs, hcs with
  | [c0, c1], _ =>
    cases fuel with
    | zero => simp [DataW.trod] at h
    | succ n =>
      unfold DataW.trod at h
      rw [ht] at h
      have r2 : List.range 2 = [0, 1] := rfl
      simp [r2, hce] at h
      obtain ⟨_, h⟩ := h
      cases h0 : DataW.trod enc Try.prog w base spare held n e [c0] with
      | none => simp [h0] at h
      | some y0 =>
        cases h1 : DataW.trod enc Try.prog w base spare held n e [c1] with
        | none => simp [h0, h1] at h
        | some y1 => exact ⟨c0, c1, y0, y1, n, rfl, h0, h1⟩
/-- Two bytes as an argument. -/
theorem open_pair8 (hv : Value.okWide Try.prog w r b0 63 v) (h : DataW.Trod enc Try.prog w base spare held 63 v d p) :
    ∃ a b : Int, v = .agg #[.int .u8 a, .int .u8 b] ∧ (0 ≤ a ∧ a ≤ 255) ∧ (0 ≤ b ∧ b ≤ 255) := by
  have hC : Try.prog.cellsOf 63 = 2 := by kernel_rfl
  have hA : ∃ xs : Array Value, v = .agg xs ∧ xs.size = 2 := by
    simp only [Value.okWide, Try.underlying63] at hv
    obtain ⟨cs, h1, h2, _⟩ := hv
    exact ⟨cs, h1, h2.trans hC⟩
  obtain ⟨⟨l⟩, rfl, hl⟩ := hA
  obtain ⟨fuel, hf⟩ := h
  obtain ⟨c0, c1, y0, y1, n, e, h0, h1⟩ := trod2 Try.underlying63 (by kernel_rfl) (by simpa [Value.cells] using hl) hf
  simp only [Value.cells] at e
  subst e
  obtain ⟨a, e0, _, w0⟩ := DataW.trod_int Try.underlying5 h0
  obtain ⟨b, e1, _, w1⟩ := DataW.trod_int Try.underlying5 h1
  simp only [List.cons.injEq, and_true] at e0 e1
  subst e0 e1
  exact ⟨a, b, rfl, wf_range8 w0, wf_range8 w1⟩
theorem addr_add (b off k : Nat) : (⟨b, off, none⟩ : Addr).add k = ⟨b, off + k, none⟩ := by
  unfold Addr.add
  split
  · simp_all
  · rfl
/-- What a slice of pairs holds. -/
def Pairs (w : World) (A : Option Addr) (l : Nat) : Prop := l = 0 ∨ ∃ b off, A = some ⟨b, off, none⟩ ∧ b < w.heap.size ∧ ∀ i, i < l → ∃ x y : Int, w.cell? ⟨b, off + i * 2, none⟩ = some (.int .i64 x) ∧ w.cell? ⟨b, off + i * 2 + 1, none⟩ = some (.int .i64 y) ∧ Big x ∧ Big y
/-- A slice of pairs as an argument. -/
theorem open_pairs (hv : Value.okWide Try.prog w r b0 45 v) (h : DataW.Trod enc Try.prog w base spare held 45 v d p) :
    ∃ (A : Option Addr) (l cp : Nat), v = .slice A l cp ∧ l ≤ maxLen ∧ Pairs w A l := by
  obtain ⟨A, l, cp, rfl⟩ := okWide_slice Try.underlying45 hv
  refine ⟨A, l, cp, rfl, ?_⟩
  obtain ⟨fuel, hf⟩ := h
  rcases open_slice Try.underlying45 hf with ⟨e, _⟩ | ⟨a, len, cap, m, n, D, Pl, e, hb, hl, hm, hmm, _, hx⟩
  · simp [Value.cells] at e
    obtain ⟨_, rfl, _⟩ := e
    exact ⟨Nat.zero_le _, Or.inl rfl⟩
  · simp [Value.cells] at e
    obtain ⟨rfl, rfl, rfl⟩ := e
    refine ⟨Nat.le_trans hl hm, ?_⟩
    have hle : l ≤ m := by rw [hmm]; split <;> omega
    have hC : Try.prog.cellsOf 48 = 2 := by kernel_rfl
    have each : ∀ i, i < l → ∃ x y : Int, w.cell? (a.add (i * 2)) = some (.int .i64 x) ∧ w.cell? (a.add (i * 2 + 1)) = some (.int .i64 y) ∧ Big x ∧ Big y := by
      intro i hi
      obtain ⟨cs', h1, h2⟩ := hx i (by omega)
      rw [hC] at h1
      obtain ⟨_, hlen, hcell⟩ := World.cells?_some h1
      obtain ⟨c0, c1, y0, y1, n, e, g0, g1⟩ := trod2 Try.underlying48 (by kernel_rfl) hlen h2
      subst e
      obtain ⟨x, e0, _, w0⟩ := DataW.trod_int Try.underlying3 g0
      obtain ⟨y, e1, _, w1⟩ := DataW.trod_int Try.underlying3 g1
      simp only [List.cons.injEq, and_true] at e0 e1
      subst e0 e1
      have e0 := hcell 0 (by omega)
      have e1 := hcell 1 (by omega)
      rw [add_add] at e0 e1
      exact ⟨x, y, by simpa using e0, by simpa using e1, wf_range w0, wf_range w1⟩
    by_cases h0 : l = 0
    · exact Or.inl h0
    · right
      obtain ⟨b, off, spot⟩ := a
      obtain ⟨x, y, h1, _⟩ := each 0 (by omega)
      have hspot : spot = none := by simpa [Addr.add] using World.cell?_spot h1
      subst hspot
      exact ⟨b, off, rfl, World.block_lt_of_cell? w _ h1, fun i hi => by
        have q := each i hi
        rw [show ({ block := b, off := off } : Addr).add (i * 2) = ⟨b, off + i * 2, none⟩ from addr_add _ _ _, show ({ block := b, off := off } : Addr).add (i * 2 + 1) = ⟨b, off + i * 2 + 1, none⟩ from addr_add _ _ _] at q
        exact q⟩
end
end Go.Proofs.Ytnjlkjoahcakpaa
