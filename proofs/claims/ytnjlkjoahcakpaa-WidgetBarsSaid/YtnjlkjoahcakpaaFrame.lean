/-
  What a law's row owes behind the walk: a law that answers true and leaves old memory as it was meets its row's 'post'; a widget, a rectangle, two bytes as arguments, opened to their cells.
-/
import Derived.Test.YtnjlkjoahcakpaaProg
import Derived.Test.YtnjlkjoahcakpaaPlain
import Derived.ProofKit
import Derived.OpenShut
import Derived.ShutString
namespace Go.Proofs.Ytnjlkjoahcakpaa
open Go.ChangeShapes Go.WideShapes Go.ChangeAt Go.RowKit
section
variable {H : Type} {enc : TypeId × Value → H} {P : Program}
/-- Every argument reads behind the call as it did before. -/
theorem args_again (hl : laidOutB P = true) {W W' : World} (hb : Below W.heap.size W W') :
    ∀ (ts : List TypeId) (vs : List Value) (ds : List (DataW H)) (ps : List MemPlace), (ts.all fun t => P.readableRec t && decide (t < P.types.size)) = true →
      DataW.TrodAll enc P W 0 (fun _ => true) true ts vs ds ps → (∀ p ∈ ps, p.block < W.heap.size) → DataW.TrodAll enc P W' 0 (fun b => decide (b < W.heap.size)) true ts vs ds ps
  | [], vs, ds, ps, _, h, _ => by
    obtain ⟨rfl, rfl, rfl⟩ := trodAll_nil h
    exact trodAll_mk0
  | t :: ts, vs, ds, ps, hts, h, hlt => by
    obtain ⟨v, vs', d, ds', p, q, rfl, rfl, rfl, h0, h1⟩ := trodAll_cons h
    rw [List.all_cons, Bool.and_eq_true, Bool.and_eq_true, decide_eq_true_eq] at hts
    exact trodAll_cons_mk (Below.trod hl hts.1.1 hts.1.2 h0 hb fun x hx => hlt x (List.mem_append_left _ hx))
      (args_again hl hb ts vs' ds' q hts.2 h1 fun x hx => hlt x (List.mem_append_right _ hx))
/-- THE ROW's STEP of a law: it has answered true; below the old heap's end nothing has turned. -/
theorem law_post {f : Func} {s : ChangeSpec} {apart : Bool} {W W' : World} {args : Array Value} {ds : List (DataW H)} {before : List MemPlace} {tb : TypeId} (hl : laidOutB P = true)
    (hts : (f.params.toList.all fun t => P.readableRec t && decide (t < P.types.size)) = true) (hvars : s.vars = []) (hres : f.resultTypes = #[tb]) (hbool : P.underlying tb = some .bool)
    (hfn : s.fn H (ds ++ []) = { results := [.lit (.bool true)], args := ds }) (hW : DataW.Whole enc P f.params.toList s.vars apart W args.toList ds [] before) (hb : Below W.heap.size W W') :
    s.post enc P f apart true false false W args (.bool true) W' := by
  have hlt : ∀ p ∈ before, p.block < W.heap.size := fun p hp => hW.lt p hp
  have hW0 := hW
  obtain ⟨p, q, hA, hV, rfl, _, _⟩ := hW
  rw [hvars] at hV
  obtain ⟨_, rfl⟩ := trodVars_none hV
  refine ⟨ds, [], p ++ [], [], p, [], hW0, ?_, ?_, ?_, ?_, fun h => by cases h⟩
  · rw [hfn, hres]
    exact trodAll_cons_mk (shut_bool hbool true) trodAll_mk0
  · rw [hfn]
    exact args_again hl hb _ _ _ _ hts hA fun x hx => hlt x (List.mem_append_left _ hx)
  · rw [hfn, hvars]
    exact hV
  · exact World.keptBut_mono (fun x hx => ⟨hx, Or.inr (Or.inl (by simpa using hx))⟩) (hb.frame (· ∈ p ++ []))
end
section
variable {H : Type} {enc : TypeId × Value → H} {w : World} {base : Nat} {spare : Nat → Bool} {held : Bool} {r : Reach} {b0 : Nat} {v : Value} {d : DataW H} {p : List MemPlace}
theorem wf_range {n : Int} (h : (Lit.int .i64 n).wf = true) : -9223372036854775808 ≤ n ∧ n ≤ 9223372036854775807 := by
  simp only [Lit.wf, Bool.and_eq_true, decide_eq_true_eq] at h
  exact h
theorem wf_range8 {n : Int} (h : (Lit.int .u8 n).wf = true) : 0 ≤ n ∧ n ≤ 255 := by
  simp only [Lit.wf, Bool.and_eq_true, decide_eq_true_eq] at h
  exact h
/-- A widget as an argument. -/
theorem open_widget (hv : Value.okWide Try.prog w r b0 23 v) (h : DataW.Trod enc Try.prog w base spare held 23 v d p) :
    ∃ (k : Int) (s : ByteArray) (o : Bool) (n c : Int), v = wd k s o n c ∧ s.size ≤ maxLen ∧ (-9223372036854775808 ≤ k ∧ k ≤ 9223372036854775807) ∧ (-9223372036854775808 ≤ n ∧ n ≤ 9223372036854775807) ∧ (-9223372036854775808 ≤ c ∧ c ≤ 9223372036854775807) := by
  obtain ⟨cs, rfl, hsz⟩ := okWide_struct Try.underlying23 hv
  obtain ⟨fuel, hf⟩ := h
  obtain ⟨xs, n, _, _, _, hlen, hg⟩ := DataW.trod_struct Try.underlying23 hf
  have hC : Try.prog.cellsOf 23 = 5 := by kernel_rfl
  have hi : Try.prog.cellsOf 3 = 1 := by kernel_rfl
  have hs : Try.prog.cellsOf 9 = 1 := by kernel_rfl
  have hb : Try.prog.cellsOf 4 = 1 := by kernel_rfl
  obtain ⟨l⟩ := cs
  match l, hsz.trans hC with
  | [c0, c1, c2, c3, c4], _ =>
    match xs, hlen with
    | [y0, y1, y2, y3, y4], _ =>
      obtain ⟨k, e0, _, w0⟩ := DataW.trod_int Try.underlying3 (hg 0 _ rfl)
      obtain ⟨s, e1, _, w1⟩ := DataW.trod_string Try.underlying9 (hg 1 _ rfl)
      obtain ⟨o, e2, _⟩ := DataW.trod_bool Try.underlying4 (hg 2 _ rfl)
      obtain ⟨m, e3, _, w3⟩ := DataW.trod_int Try.underlying3 (hg 3 _ rfl)
      obtain ⟨c, e4, _, w4⟩ := DataW.trod_int Try.underlying3 (hg 4 _ rfl)
      simp [Value.cells, hi] at e0
      simp [Value.cells, hs] at e1
      simp [Value.cells, hb] at e2
      simp [Value.cells, hi] at e3
      simp [Value.cells, hi] at e4
      subst e0 e1 e2 e3 e4
      exact ⟨k, s, o, m, c, rfl, w1, wf_range w0, wf_range w3, wf_range w4⟩
end
end Go.Proofs.Ytnjlkjoahcakpaa
