/-
  A font's cells as a letter: laws at the list of operations, the zero font, what is kept while a font is built; the letters' rows.
-/
import Derived.Test.YtnjlkjoahcakpaaProg
import Derived.Test.YtnjlkjoahcakpaaTwo
import Derived.BigGuardPart
import Derived.Deep.WholeRow
namespace Go.Proofs.Ytnjlkjoahcakpaa
open Go.RowKit
/-! Laws at the list of operations for a value of many cells: the cells stay a letter. -/
section
variable {P : Program} {ops : Array Oper} {rest : List Oper} {o : Oper} {a : Act} {w : World} {Q : Exit → Act → World → Prop}
theorem wpList_alloc_big (hgd : o.guard = none) (t : TypeId) (ho : o.op = .alloc t) (z : Array Value) (hz : (zeroValue t).run P w = .ok (.agg z) w)
    (h : wpList P ops Q rest (a.put o.dst (.pointer (some ⟨w.heap.size, 0, none⟩))) (w.alloc (.cells z t))) : wpList P ops Q (o :: rest) a w :=
  wpList_plain hgd fun _ hK => by
    unfold Oper.wp execOp
    simp only [ho, Instr.alloc, Sem.run_bind, hz, Result.andThen_ok, newVar, newRow, Value.cells, Sem.run_pure, run_newObj_alloc]
    exact hK _ _ h
theorem wpList_box_big (hgd : o.guard = none) (t : TypeId) (x : Operand) (ho : o.op = .box t x) (z : Array Value) (hx : a.eval x = .agg z)
    (h : wpList P ops Q rest (a.put o.dst (.pointer (some ⟨w.heap.size, 0, none⟩))) (w.alloc (.cells z t))) : wpList P ops Q (o :: rest) a w :=
  wpList_plain hgd fun _ hK => by
    unfold Oper.wp execOp
    simp only [ho, hx, Instr.box, Sem.run_bind, Result.andThen_ok, newVar, newRow, Value.cells, Sem.run_pure, run_newObj_alloc]
    exact hK _ _ h
theorem wpList_build_big (hgd : o.guard = none) (t : TypeId) (parts : Array (Nat × Operand)) (ho : o.op = .build t parts) (cells : Array Value)
    (hb : P.built t (parts.map fun (i, x) => (i, a.eval x)).toList = some cells)
    (h : wpList P ops Q rest (a.put o.dst (.agg cells)) w) : wpList P ops Q (o :: rest) a w :=
  wpList_plain hgd fun _ hK => by
    unfold Oper.wp execOp
    simp only [ho, Sem.run_bind, run_build w t _ cells hb, Result.andThen_ok]
    exact hK _ _ h
theorem wpList_store_big (hgd : o.guard = none) (t : TypeId) (x y : Operand) (ho : o.op = .store t x y) (g : Nat) (hx : a.eval x = .pointer (some ⟨g, 0, none⟩)) (new : Array Value) (hy : a.eval y = .agg new)
    (e : TypeId) (old : Array Value) (hg : w.heap[g]? = some (.cells old e (0, 0))) (hi : (P.info? t).map (·.size) = some new.size) (hs : old.size = new.size) (h1 : new.all (·.oneCell') = true)
    (h : wpList P ops Q rest (a.put o.dst undef) (w.setRow g new)) : wpList P ops Q (o :: rest) a w :=
  wpList_plain hgd fun _ hK => by
    unfold Oper.wp execOp
    simp only [ho, hx, hy, Instr.storeAt, Instr.sureAddr, Sem.run_bind, Sem.run_pure, Result.andThen_ok, run_storeVar_row w g e t old new hg hi hs h1]
    exact hK _ _ h
theorem wpList_store_last {v : World} (hgd : o.guard = none) (t : TypeId) (x y : Operand) (ho : o.op = .store t x y) (g : Nat) (hx : a.eval x = .pointer (some ⟨g, 0, none⟩)) (new : Array Value) (hy : a.eval y = .agg new)
    (e : TypeId) (old : Array Value) (hgv : g = v.heap.size) (hi : (P.info? t).map (·.size) = some new.size) (hs : old.size = new.size) (h1 : new.all (·.oneCell') = true)
    (h : wpList P ops Q rest (a.put o.dst undef) (v.alloc (.cells new e))) : wpList P ops Q (o :: rest) a (v.alloc (.cells old e)) := by
  subst hgv
  refine wpList_store_big hgd t x y ho v.heap.size hx new hy e old (heap_alloc_new _ _) hi hs h1 ?_
  rw [World.setRow_alloc_new]
  exact h
end
/-- The zero font's cells. -/
def ZF : Array Value := Array.replicate 1617 (.int .i64 0)
theorem ZF_info : (Try.prog.info? 36).map (fun i => (i.zero, i.size)) = some (some (.agg ZF), 1617) := by kernel_rfl
theorem ZF_zero (w : World) : (zeroValue 36).run Try.prog w = .ok (.agg ZF) w := (zero_of_info ZF_info).1 w
theorem ZF_built (a d : Int) : Try.prog.built 36 [(0, .int .i64 a), (1, .int .i64 d)] = some ((ZF.setIfInBounds 0 (.int .i64 a)).setIfInBounds 1 (.int .i64 d)) := by kernel_rfl
theorem ZF_built0 : Try.prog.built 36 [] = some ZF := by kernel_rfl
def AnInt (w : World) (e : Ending) (w' : World) : Prop := ∃ r : Int, e = .returned (.int .i64 r) ∧ w = w'
theorem b2_any (c y : Int) (w : World) (hc : 32 ≤ c ∧ c ≤ 126) (hy : 0 ≤ y ∧ y ≤ 8) : Calls Try.prog 37 #[.int .i64 c, .int .i64 y] w (AnInt w) := by
  obtain ⟨hc0, hc1⟩ := hc
  obtain ⟨hy0, hy1⟩ := hy
  go_enter Try.func37, Try.ntmps37
  go_wp2
  all_goals (go_ret; exact ⟨_, rfl, rfl⟩)
theorem b4_any (c y : Int) (g : Nat) (w : World) (hc : 32 ≤ c ∧ c ≤ 126) (hy : 0 ≤ y ∧ y ≤ 8) (hg : w.cell? ⟨g, 0, none⟩ = some (.func (.func 38) #[] #[])) : Calls Try.prog 39 #[.int .i64 c, .int .i64 y, .pointer (some ⟨g, 0, none⟩)] w (AnInt w) := by
  obtain ⟨hc0, hc1⟩ := hc
  obtain ⟨hy0, hy1⟩ := hy
  have hq : c % 4 = 0 ∨ c % 4 = 1 ∨ c % 4 = 2 ∨ c % 4 = 3 := by omega
  rcases hq with hq | hq | hq | hq
  all_goals
    go_enter Try.func39, Try.ntmps39
    go_wp2
    go_ret; exact ⟨_, rfl, rfl⟩
theorem ZF_size : ZF.size = 1617 := by simp [ZF]
theorem ZF_ne : (ZF = #[]) = False := by
  refine eq_false (fun h => ?_)
  have := congrArg Array.size h
  rw [ZF_size] at this
  simp at this
/-- A font's cells, the widths of the first n letters told. -/
structure Fnt (C : Array Value) (a d : Int) (wd : Nat → Int) (n : Nat) : Prop where
  size : C.size = 1617
  one : ∀ (i : Nat) (v : Value), C[i]? = some v → v.oneCell' = true
  asc : C[0]? = some (.int .i64 a)
  desc : C[1]? = some (.int .i64 d)
  wide : ∀ i, i < n → C[2 + i * 17]? = some (.int .i64 (wd i))
theorem set_at {C : Array Value} {i j : Nat} {x : Value} (h : j ≠ i) : (C.setIfInBounds i x)[j]? = C[j]? := by
  rw [Array.getElem?_setIfInBounds, if_neg (fun e => h e.symm)]
theorem Fnt.set_ {C : Array Value} {a d : Int} {wd : Nat → Int} {n i : Nat} (h : Fnt C a d wd n) (r : Int) (h0 : 2 ≤ i) (hi : ∀ k, k < n → i ≠ 2 + k * 17) : Fnt (C.setIfInBounds i (.int .i64 r)) a d wd n := by
  refine ⟨by rw [Array.size_setIfInBounds]; exact h.size, fun k v hv => ?_, ?_, ?_, fun k hk => ?_⟩
  · by_cases e : i = k
    · subst e
      rw [Array.getElem?_setIfInBounds, if_pos rfl] at hv
      split at hv
      · cases hv; rfl
      · cases hv
    · rw [set_at (fun e' => e e'.symm)] at hv; exact h.one k v hv
  · rw [set_at (by omega)]; exact h.asc
  · rw [set_at (by omega)]; exact h.desc
  · rw [set_at (fun e => hi k hk e.symm)]; exact h.wide k hk
theorem Fnt.width {C : Array Value} {a d : Int} {wd : Nat → Int} {n : Nat} (h : Fnt C a d wd n) (hn : n < 95) {x : Int} (hx : x = wd n) : Fnt (C.setIfInBounds (2 + n * 17) (.int .i64 x)) a d wd (n + 1) := by
  have g := h.set_ x (i := 2 + n * 17) (by omega) (fun k hk => by omega)
  refine ⟨g.size, g.one, g.asc, g.desc, fun k hk => ?_⟩
  by_cases e : k = n
  · subst e; subst hx
    rw [Array.getElem?_setIfInBounds, if_pos rfl, if_pos (by rw [h.size]; omega)]
  · exact g.wide k (by omega)
theorem Fnt.all {C : Array Value} {a d : Int} {wd : Nat → Int} {n : Nat} (h : Fnt C a d wd n) : C.all (·.oneCell') = true :=
  Array.all_eq_true_iff_forall_mem.2 fun v hv => by
    obtain ⟨i, hi⟩ := Array.getElem?_of_mem hv
    exact h.one i v hi
theorem Fnt.start (a d : Int) (wd : Nat → Int) : Fnt ((ZF.setIfInBounds 0 (.int .i64 a)).setIfInBounds 1 (.int .i64 d)) a d wd 0 := by
  refine ⟨by simp [ZF_size], fun i v hv => ?_, ?_, ?_, fun _ h => absurd h (by omega)⟩
  · rw [Array.getElem?_setIfInBounds] at hv
    split at hv
    · split at hv
      · cases hv; rfl
      · cases hv
    · rw [Array.getElem?_setIfInBounds] at hv
      split at hv
      · split at hv
        · cases hv; rfl
        · cases hv
      · have := Array.mem_of_getElem? hv
        rw [ZF, Array.mem_replicate] at this
        rw [this.2]; rfl
  · rw [set_at (by omega), Array.getElem?_setIfInBounds, if_pos rfl, if_pos (by rw [ZF_size]; omega)]
  · rw [Array.getElem?_setIfInBounds, if_pos rfl, if_pos (by simp [ZF_size])]
/-- The world while a font is built: its cells lie in the second new block. -/
structure FInv (w : World) (a d : Int) (wd : Nat → Int) (n : Nat) (wr : World) : Prop where
  below : Below w.heap.size w wr
  z0 : wr.heap[w.heap.size]? = some (.cells ZF 36 (0, 0))
  blk : ∃ C : Array Value, wr.heap[w.heap.size + 1]? = some (.cells C 36 (0, 0)) ∧ Fnt C a d wd n
theorem FInv.cell {w wr : World} {a d : Int} {wd : Nat → Int} {n : Nat} (h : FInv w a d wd n wr) {i : Nat} (hi : i < 1617) : ∃ v, wr.cell? ⟨w.heap.size + 1, i, none⟩ = some v := by
  obtain ⟨C, hb, hf⟩ := h.blk
  exact ⟨C[i]'(by rw [hf.size]; exact hi), by rw [cell_of_row _ _ _ _ _ _ hb]; exact Array.getElem?_eq_getElem _⟩
theorem FInv.free {w wr : World} {a d : Int} {wd : Nat → Int} {n : Nat} (h : FInv w a d wd n wr) (i : Nat) : wr.frozen? ⟨w.heap.size + 1, i, none⟩ = false := by
  obtain ⟨C, hb, hf⟩ := h.blk
  exact frozen_of_row _ _ _ _ _ hb
theorem FInv.size {w wr : World} {a d : Int} {wd : Nat → Int} {n : Nat} (h : FInv w a d wd n wr) : w.heap.size + 1 < wr.heap.size := by
  obtain ⟨C, hb, hf⟩ := h.blk
  exact (Array.getElem?_eq_some_iff.1 hb).1
theorem FInv.width {w wr : World} {a d : Int} {wd : Nat → Int} {n : Nat} (h : FInv w a d wd n wr) (hn : n < 95) {x : Int} (hx : x = wd n) : FInv w a d wd (n + 1) (wr.setCell ⟨w.heap.size + 1, 2 + n * 17, none⟩ (.int .i64 x)) := by
  obtain ⟨C, hb, hf⟩ := h.blk
  exact ⟨h.below.setCell (by simp) _, by rw [heap_setCell_other _ _ _ _ (by simp)]; exact h.z0, _, heap_setCell_same _ _ _ _ _ _ hb, hf.width hn hx⟩
theorem FInv.row {w wr : World} {a d : Int} {wd : Nat → Int} {n : Nat} (h : FInv w a d wd n wr) {i : Nat} (h0 : 2 ≤ i) (hi : ∀ k, k < n → i ≠ 2 + k * 17) (r : Int) : FInv w a d wd n (wr.setCell ⟨w.heap.size + 1, i, none⟩ (.int .i64 r)) := by
  obtain ⟨C, hb, hf⟩ := h.blk
  exact ⟨h.below.setCell (by simp) _, by rw [heap_setCell_other _ _ _ _ (by simp)]; exact h.z0, _, heap_setCell_same _ _ _ _ _ _ hb, hf.set_ r h0 hi⟩
theorem FInv.next {w wr w2 : World} {a d : Int} {wd : Nat → Int} {n : Nat} (h : FInv w a d wd n wr) (hb : Below wr.heap.size wr w2) : FInv w a d wd n w2 := by
  have hs := h.size
  obtain ⟨C, hc, hf⟩ := h.blk
  exact ⟨h.below.trans (hb.mono (by omega)), by rw [hb.block _ (by omega)]; exact h.z0, C, by rw [hb.block _ (by omega)]; exact hc, hf⟩
theorem height_any (F : Array Value) (a d : Int) (w : World) (h0 : F[0]? = some (.int .i64 a)) (h1 : F[1]? = some (.int .i64 d)) (ha : 0 ≤ a ∧ a ≤ 100) (hd : 0 ≤ d ∧ d ≤ 100) :
    Calls Try.prog 50 #[.agg F] w fun e w' => e = .returned (.int .i64 (a + d)) ∧ Below w.heap.size w w' := by
  obtain ⟨ha0, ha1⟩ := ha
  obtain ⟨hd0, hd1⟩ := hd
  go_enter Try.func50, Try.ntmps50
  go_wp2_with (refine wpList_box_big (by rfl) 36 _ (by rfl) F (by rfl) ?_)
  go_ret
  exact ⟨rfl, by go_grown⟩
end Go.Proofs.Ytnjlkjoahcakpaa
