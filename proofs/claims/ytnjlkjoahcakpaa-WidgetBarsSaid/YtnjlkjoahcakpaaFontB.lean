/-
  The walks of 'build', at the two fonts that are built in.
-/
import Derived.Test.YtnjlkjoahcakpaaFontA
import Derived.Deep.RegionWith
namespace Go.Proofs.Ytnjlkjoahcakpaa
open Go.RowKit
theorem FInv.drew {w wr : World} {a d : Int} {wd : Nat → Int} {n : Nat} (h : FInv w a d wd n wr) : FInv w a d wd n wr.drew := ⟨h.below.drew, h.z0, h.blk⟩
theorem below_setRow {B g : Nat} {a w : World} (h : Below B a w) (hg : B ≤ g) (cs : Array Value) : Below B a (w.setRow g cs) :=
  ⟨h.os, h.tape, h.output, by rw [size_setRow]; exact h.size, fun i hi => by rw [setRow_other _ _ _ _ (by omega)]; exact h.block i hi⟩
/-- A font handed back: its ascent, its descent, how wide its letters are. -/
def FontRes (w : World) (a d : Int) (wd : Nat → Int) (e : Ending) (w' : World) : Prop := ∃ F : Array Value, e = .returned (.agg F) ∧ Fnt F a d wd 95 ∧ Below w.heap.size w w'
set_option maxRecDepth 100000 in
set_option maxHeartbeats 1000000 in
theorem build_tiny (w : World) : Calls Try.prog 35 #[.int .i64 5, .int .i64 1, .func (.func 36) #[] #[], .func (.func 37) #[] #[]] w (FontRes w 5 1 (fun _ => 4)) := by
  have hz := ZF_zero
  have hsz := ZF_size
  have hne := ZF_ne
  have S1 : RowKit.Hid ((Try.prog.info? 36).map (·.size) = some _) := hid (show _ = some (((ZF.setIfInBounds 0 (.int .i64 5)).setIfInBounds 1 (.int .i64 1)).size) from by rw [(Fnt.start 5 1 (fun _ => 4)).size]; kernel_rfl)
  have S2 : RowKit.Hid (ZF.size = ((ZF.setIfInBounds 0 (.int .i64 5)).setIfInBounds 1 (.int .i64 1)).size) := hid (by rw [(Fnt.start 5 1 (fun _ => 4)).size, ZF_size])
  have S3 := hid (Fnt.start 5 1 (fun _ => 4)).all
  go_enter Try.func35, Try.ntmps35
  go_wp2_with (refine wpList_store_last (by rfl) 36 _ _ (by rfl) _ (by rfl) _ (by rfl) _ _ (by simp) S1.out S2.out S3.out ?_)
  clear hz hsz hne S1 S2 S3
  have H0 : FInv w 5 1 (fun _ => 4) 0 ((w.alloc (.cells ZF 36)).alloc (.cells ((ZF.setIfInBounds 0 (.int .i64 5)).setIfInBounds 1 (.int .i64 1)) 36)) :=
    ⟨((Below.refl _ _).alloc (Nat.le_refl _) _).alloc (by simp) _, heap_alloc2_old _ _ _, _, heap_alloc2_new _ _ _, Fnt.start 5 1 (fun _ => 4)⟩
  go_loopw [16] (fun i wr => ∃ j : Nat, j ≤ 95 ∧ i = .int .i64 j ∧ FInv w 5 1 (fun _ => 4) j wr) (fun i _ => 95 - (intOf i).toNat)
  case atStart => exact ⟨0, by omega, rfl, H0⟩
  case round =>
    obtain ⟨j, hj, rfl, hI⟩ := hrel
    by_cases hlt : j < 95
    · have HI := hid hI
      obtain ⟨v0, hc⟩ := hI.cell (i := 2 + j * 17) (by omega)
      have hf := hI.free (2 + j * 17)
      have hz := hI.size
      clear hI H0
      by_cases h0 : j = 0
      · subst h0
        go_wp2
        go_roundw
        case rel => exact ⟨1, by omega, rfl, HI.out.width (by omega) rfl⟩
        case measure => simp [intOf]
      · have hw1 := hid (HI.out.width hlt (x := 4) rfl)
        have h0' : ((j : Int) == 0) = false := by simp; omega
        obtain ⟨C1, hb1, hF1⟩ := hw1.out.blk
        have HB := hid hb1
        have HF := hid hF1
        clear hb1 hF1
        go_wp2_with (first
          | (go_at_call 36; go_in)
          | (refine wpList_load_row (by rfl) 36 _ (by rfl) (w.heap.size + 1) (by rfl) 36 C1 (0, 0) _ HB.out Try.underlying36 (by rfl) ?_ ?_))
        · rw [HF.out.size]; kernel_rfl
        refine (height_any C1 5 1 _ HF.out.asc HF.out.desc (by omega) (by omega)).mono ?_
        rintro e w2 ⟨rfl, hb2⟩
        have hI2 := hid (hw1.out.next hb2)
        clear hb2 hc hf hz
        go_wp2_with fail
        go_loopw [32] (fun y wr2 => ∃ q : Nat, q ≤ 6 ∧ y = .int .i64 q ∧ FInv w 5 1 (fun _ => 4) (j + 1) wr2) (fun y _ => 6 - (intOf y).toNat)
        case atStart => exact ⟨0, by omega, rfl, hI2.out⟩
        case round =>
          obtain ⟨q, hq, rfl, hJ⟩ := hrel
          by_cases hqt : q < 6
          · have HJ := hid hJ
            obtain ⟨v1, hc1⟩ := hJ.cell (i := 2 + j * 17 + 1 + q) (by omega)
            have hf1 := hJ.free (2 + j * 17 + 1 + q)
            have hz1 := hJ.size
            clear hJ
            go_wp2_with fail
            go_region_with (go_at_call 37; refine (b2_any _ _ _ (by omega) (by omega)).mono ?_; rintro e w3 ⟨r, rfl, rfl⟩)
            all_goals go_wp2_with fail
            all_goals go_roundw
            case rel => exact ⟨q + 1, by omega, by go_num, (HJ.out.row (by omega) (fun k hk => by omega) _).drew⟩
            case measure => simp [intOf]; omega
          · go_wp2_with fail
            go_roundw
            case rel => exact ⟨j + 1, by omega, by go_num, hJ⟩
            case measure => simp [intOf]; omega
    · have hj95 : j = 95 := by omega
      subst hj95
      obtain ⟨C, hb, hF⟩ := hI.blk
      have HB := hid hb
      have HF := hid hF
      have HI := hid hI
      clear hb hF hI H0
      go_wp2_with (first
        | (refine wpList_load_row (by rfl) 36 _ (by rfl) (w.heap.size + 1) (by rfl) 36 C (0, 0) _ HB.out Try.underlying36 (by rfl) ?_ ?_)
        | (refine wpList_store_big (by rfl) 36 _ _ (by rfl) w.heap.size (by rfl) C (by rfl) 36 ZF HI.out.z0 ?_ ?_ ?_ ?_))
      all_goals first
        | exact HF.out.all
        | (rw [HF.out.size, ZF_size]; done)
        | (rw [HF.out.size]; kernel_rfl)
        | skip
      exact bodyPost_ret (results_cell_row Try.results35 _ _ _ _ _ _ _ rfl (setRow_heap _ _ _ _ _ _ HI.out.z0) Try.underlying36 rfl (by rw [HF.out.size]; kernel_rfl)) rfl ⟨C, rfl, HF.out, below_setRow HI.out.below (Nat.le_refl _) _⟩
/-- How wide the letters of the font 'wide' are. -/
def wideW (i : Nat) : Int := 5 + (32 + (i : Int)) % 4
set_option maxRecDepth 100000 in
set_option maxHeartbeats 1000000 in
theorem build_wide (w : World) (gw : Nat) (hcap : w.cell? ⟨gw, 0, none⟩ = some (.func (.func 38) #[] #[])) : Calls Try.prog 35 #[.int .i64 7, .int .i64 2, .func (.func 38) #[] #[], .func (.func 39) #[] #[.pointer (some ⟨gw, 0, none⟩)]] w (FontRes w 7 2 wideW) := by
  have HCAP := hid (And.intro (World.block_lt_of_cell? _ _ hcap) hcap)
  clear hcap
  have hz := ZF_zero
  have hsz := ZF_size
  have hne := ZF_ne
  have S1 : RowKit.Hid ((Try.prog.info? 36).map (·.size) = some _) := hid (show _ = some (((ZF.setIfInBounds 0 (.int .i64 7)).setIfInBounds 1 (.int .i64 2)).size) from by rw [(Fnt.start 7 2 wideW).size]; kernel_rfl)
  have S2 : RowKit.Hid (ZF.size = ((ZF.setIfInBounds 0 (.int .i64 7)).setIfInBounds 1 (.int .i64 2)).size) := hid (by rw [(Fnt.start 7 2 wideW).size, ZF_size])
  have S3 := hid (Fnt.start 7 2 wideW).all
  go_enter Try.func35, Try.ntmps35
  go_wp2_with (refine wpList_store_last (by rfl) 36 _ _ (by rfl) _ (by rfl) _ (by rfl) _ _ (by simp) S1.out S2.out S3.out ?_)
  clear hz hsz hne S1 S2 S3
  have H0 : FInv w 7 2 wideW 0 ((w.alloc (.cells ZF 36)).alloc (.cells ((ZF.setIfInBounds 0 (.int .i64 7)).setIfInBounds 1 (.int .i64 2)) 36)) :=
    ⟨((Below.refl _ _).alloc (Nat.le_refl _) _).alloc (by simp) _, heap_alloc2_old _ _ _, _, heap_alloc2_new _ _ _, Fnt.start 7 2 wideW⟩
  go_loopw [16] (fun i wr => ∃ j : Nat, j ≤ 95 ∧ i = .int .i64 j ∧ FInv w 7 2 wideW j wr) (fun i _ => 95 - (intOf i).toNat)
  case atStart => exact ⟨0, by omega, rfl, H0⟩
  case round =>
    obtain ⟨j, hj, rfl, hI⟩ := hrel
    by_cases hlt : j < 95
    · have HI := hid hI
      obtain ⟨v0, hc⟩ := hI.cell (i := 2 + j * 17) (by omega)
      have hf := hI.free (2 + j * 17)
      have hz := hI.size
      clear hI H0
      by_cases h0 : j = 0
      · subst h0
        go_wp2
        go_roundw
        case rel => exact ⟨1, by omega, rfl, HI.out.width (by omega) rfl⟩
        case measure => simp [intOf]
      · have hw1 := hid (HI.out.width hlt (x := 5 + (32 + (j : Int)) % 4) rfl)
        have h0' : ((j : Int) == 0) = false := by simp; omega
        obtain ⟨C1, hb1, hF1⟩ := hw1.out.blk
        have HB := hid hb1
        have HF := hid hF1
        clear hb1 hF1
        go_wp2_with (first
          | (go_at_call 38; go_in)
          | (refine wpList_load_row (by rfl) 36 _ (by rfl) (w.heap.size + 1) (by rfl) 36 C1 (0, 0) _ HB.out Try.underlying36 (by rfl) ?_ ?_))
        · rw [HF.out.size]; kernel_rfl
        refine (height_any C1 7 2 _ HF.out.asc HF.out.desc (by omega) (by omega)).mono ?_
        rintro e w2 ⟨rfl, hb2⟩
        have hI2 := hid (hw1.out.next hb2)
        clear hb2 hc hf hz
        go_wp2_with fail
        go_loopw [32] (fun y wr2 => ∃ q : Nat, q ≤ 9 ∧ y = .int .i64 q ∧ FInv w 7 2 wideW (j + 1) wr2) (fun y _ => 9 - (intOf y).toNat)
        case atStart => exact ⟨0, by omega, rfl, hI2.out⟩
        case round =>
          obtain ⟨q, hq, rfl, hJ⟩ := hrel
          by_cases hqt : q < 9
          · have HJ := hid hJ
            obtain ⟨v1, hc1⟩ := hJ.cell (i := 2 + j * 17 + 1 + q) (by omega)
            have hf1 := hJ.free (2 + j * 17 + 1 + q)
            have hz1 := hJ.size
            have hcap2 := hid ((hJ.below.cell (p := ⟨gw, 0, none⟩) HCAP.out.1).trans HCAP.out.2)
            clear hJ
            go_wp2_with fail
            go_region_with (go_at_call 39; refine (b4_any _ _ _ _ (by omega) (by omega) (by exact hcap2.out)).mono ?_; rintro e w3 ⟨r, rfl, rfl⟩)
            all_goals go_wp2_with fail
            all_goals go_roundw
            case rel => exact ⟨q + 1, by omega, by go_num, (HJ.out.row (by omega) (fun k hk => by omega) _).drew⟩
            case measure => simp [intOf]; omega
          · go_wp2_with fail
            go_roundw
            case rel => exact ⟨j + 1, by omega, by go_num, hJ⟩
            case measure => simp [intOf]; omega
    · have hj95 : j = 95 := by omega
      subst hj95
      obtain ⟨C, hb, hF⟩ := hI.blk
      have HB := hid hb
      have HF := hid hF
      have HI := hid hI
      clear hb hF hI H0
      go_wp2_with (first
        | (refine wpList_load_row (by rfl) 36 _ (by rfl) (w.heap.size + 1) (by rfl) 36 C (0, 0) _ HB.out Try.underlying36 (by rfl) ?_ ?_)
        | (refine wpList_store_big (by rfl) 36 _ _ (by rfl) w.heap.size (by rfl) C (by rfl) 36 ZF HI.out.z0 ?_ ?_ ?_ ?_))
      all_goals first
        | exact HF.out.all
        | (rw [HF.out.size, ZF_size]; done)
        | (rw [HF.out.size]; kernel_rfl)
        | skip
      exact bodyPost_ret (results_cell_row Try.results35 _ _ _ _ _ _ _ rfl (setRow_heap _ _ _ _ _ _ HI.out.z0) Try.underlying36 rfl (by rw [HF.out.size]; kernel_rfl)) rfl ⟨C, rfl, HF.out, below_setRow HI.out.below (Nat.le_refl _) _⟩
end Go.Proofs.Ytnjlkjoahcakpaa
