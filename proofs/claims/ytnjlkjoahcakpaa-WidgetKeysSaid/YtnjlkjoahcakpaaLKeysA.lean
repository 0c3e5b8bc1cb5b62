/-
  WidgetKeys: the walks.
-/
import Derived.Test.YtnjlkjoahcakpaaClick
import Derived.Test.YtnjlkjoahcakpaaNeeds
import Derived.Test.YtnjlkjoahcakpaaOpens
import Derived.Test.YtnjlkjoahcakpaaHeld
import Derived.Test.YtnjlkjoahcakpaaKeyAny
import Derived.Test.YtnjlkjoahcakpaaAwake
import Derived.Deep.RegionHeld3
import Derived.Deep.DeepCutAuto
import Derived.LoopTactic
namespace Go.Proofs.Ytnjlkjoahcakpaa
open Go.RowKit
/-- The cells of a widget. -/
abbrev wq (k : Int) (s : ByteArray) (o : Bool) (v c : Int) : Array Value := #[.int .i64 k, .string s, .bool o, .int .i64 v, .int .i64 c]
section
variable {k : Int} {s : ByteArray} {o : Bool} {v c : Int} {A : Option Addr} {l cp : Nat} (w : World)
theorem refcheck_is {n : Int} (hs : s.size ≤ maxLen) (h : chk k s o v c = n) : Calls Try.prog 11 #[wd k s o v c] w fun e w' => e = .returned (.int .i64 n) ∧ Below w.heap.size w w' :=
  (refcheck_any k s o v c w hs).mono fun _ _ ⟨he, hw⟩ => ⟨by rw [he, h], hw⟩
set_option maxRecDepth 100000 in
set_option maxHeartbeats 1000000 in
theorem Keys.great_ (h : 400 < s.size) : Calls Try.prog 4 #[wd k s o v c, .slice A l cp] w fun e w' => e = .returned (.bool true) ∧ Below w.heap.size w w' := by
  go_enter Try.func4, Try.ntmps4
  go_wp2_with fail
  refine (great_yes _ h).mono ?_
  rintro e w1 ⟨rfl, hb⟩
  have hK := Held.next hb ((Held.start w).make (wq k s o v c) 23)
  clear hb
  go_wp2_with fail
  refine (awake_any _).mono ?_
  rintro e w2 ⟨rfl, hb⟩
  have hK := Held.next hb hK
  go_wp2_with fail
  go_ret
  exact ⟨rfl, hK.below⟩
set_option maxRecDepth 100000 in
set_option maxHeartbeats 1000000 in
theorem Keys.long_ (h : s.size ≤ 400) (hl : 60 < l) : Calls Try.prog 4 #[wd k s o v c, .slice A l cp] w fun e w' => e = .returned (.bool true) ∧ Below w.heap.size w w' := by
  go_enter Try.func4, Try.ntmps4
  go_wp2_with fail
  refine (great_no _ h).mono ?_
  rintro e w1 ⟨rfl, hb⟩
  have hK := Held.next hb ((Held.start w).make (wq k s o v c) 23)
  clear hb
  go_wp2_with fail
  refine (awake_any _).mono ?_
  rintro e w2 ⟨rfl, hb⟩
  have hK := Held.next hb hK
  go_wp2_with fail
  go_ret
  exact ⟨rfl, hK.below⟩
set_option maxRecDepth 100000 in
set_option maxHeartbeats 1000000 in
theorem Keys.none_ (h : s.size ≤ 400) : Calls Try.prog 4 #[wd k s o v c, .slice A 0 cp] w fun e w' => e = .returned (.bool true) ∧ Below w.heap.size w w' := by
  go_enter Try.func4, Try.ntmps4
  go_wp2_with fail
  refine (great_no _ h).mono ?_
  rintro e w1 ⟨rfl, hb⟩
  have hK := Held.next hb ((Held.start w).make (wq k s o v c) 23)
  clear hb
  go_wp2_with fail
  go_loopw [5] (fun i wr => i = .int .i64 0 ∧ Held w [(w.heap.size, wq k s o v c, 23)] wr) (fun _ _ => 0)
  case atStart => exact ⟨rfl, hK⟩
  case round =>
    obtain ⟨rfl, hR⟩ := hrel
    go_wp2_with (first | (go_at_call 10; refine (awake_any _).mono ?_; rintro e w9 ⟨rfl, hb9⟩; have hK9 := Held.next hb9 (by assumption)))
    go_ret
    exact ⟨rfl, Held.below (by assumption)⟩
set_option maxRecDepth 100000 in
set_option maxHeartbeats 20000000 in
theorem Keys.bad_ {b off : Nat} {x y m : Int} (h : s.size ≤ 400) (hm : (m != 0) = true) (hc : chk k s o v c = m) (hl : 1 ≤ l) (hl60 : l ≤ 60) (cx : w.cell? ⟨b, off, none⟩ = some (.int .i64 x)) (cy : w.cell? ⟨b, off + 1, none⟩ = some (.int .i64 y)) :
    Calls Try.prog 4 #[wd k s o v c, .slice (some ⟨b, off, none⟩) l cp] w fun e w' => e = .returned (.bool true) ∧ Below w.heap.size w w' := by
  have HC := hid hc
  have hs : s.size ≤ maxLen := by unfold maxLen; omega
  clear hc
  go_enter Try.func4, Try.ntmps4
  go_wp2_with fail
  refine (great_no _ (by omega)).mono ?_
  rintro e w1 ⟨rfl, hb⟩
  have hK := Held.next hb ((Held.start w).make (wq k s o v c) 23)
  clear hb
  go_wp2_with fail
  go_loopw [5] (fun i wr => i = .int .i64 0 ∧ Held w [(w.heap.size, wq k s o v c, 23)] wr) (fun _ _ => 0)
  case atStart => exact ⟨rfl, hK⟩
  case round =>
    clear hK
    obtain ⟨rfl, hR⟩ := hrel
    have hR := hR.drew
    go_upto_region 6 with fail
    go_cut [6, 7] (fun s6 s7 wx => ∃ g, s6 = .pointer (some ⟨g, 0, none⟩) ∧ s7 = .bool false ∧ Held w [(g, wq k s o v c, 23), (w.heap.size, wq k s o v c, 23)] wx)
    case first =>
      go_region_held3 (fun w' => w'.cell? ⟨w.heap.size, 0, none⟩ = some (.int .i64 k) ∧ w'.cell? ⟨w.heap.size, 1, none⟩ = some (.string s) ∧ w'.cell? ⟨w.heap.size, 2, none⟩ = some (.bool o) ∧ w'.cell? ⟨w.heap.size, 3, none⟩ = some (.int .i64 v) ∧ w'.cell? ⟨w.heap.size, 4, none⟩ = some (.int .i64 c) ∧ w'.cell? ⟨b, off, none⟩ = some (.int .i64 x) ∧ w'.cell? ⟨b, off + 1, none⟩ = some (.int .i64 y)) (first | with_reducible exact Held.ck cx cy (by assumption) | with_reducible exact Held.ck cx cy (Held.alloc _ (by assumption)) | with_reducible exact Held.ck cx cy (Held.tail (by assumption)) | with_reducible exact Held.ck cx cy (Held.tail (Held.set5 (by assumption) _ _ _ _ _)) | with_reducible exact Held.ck cx cy (Held.tail (Held.set5 (Held.make (by assumption) _ _) _ _ _ _ _)))
        (first
        | (go_at_call 18; refine (key_bad _ hs hm HC.out _ _).mono ?_; rintro e w7 ⟨rfl, hb2⟩; first | (have hL2 := Held.next hb2 (by with_reducible assumption); first | (obtain ⟨hF1, hF2, hF3⟩ := hL2.tail.facts; obtain ⟨hG1, hG2, hG3⟩ := hL2.facts) | skip) | (have hL2 := Held.next hb2 (Held.make (by assumption) _ _); (try change Held _ ((wr.heap.size, _, _) :: _) _ at hL2); obtain ⟨hG1, hG2, hG3⟩ := hL2.facts)))
      all_goals go_wp2_with fail
      all_goals go_meet
      all_goals first | with_reducible exact ⟨_, rfl, rfl, Held.make (by assumption) _ _⟩ | with_reducible exact ⟨_, rfl, rfl, Held.set5 (by assumption) _ _ _ _ _⟩
    case rest =>
      obtain ⟨g, rfl, rfl, hZ⟩ := hcut
      obtain ⟨f1, f2, f3⟩ := hZ.facts2
      go_wp2_with fail
      refine (of_any _).mono ?_
      rintro e w3 ⟨rfl, hb⟩
      have hZ := Held.next hb hZ
      clear hb f1 f2 f3
      go_wp2_with fail
      refine (refcheck_is _ hs HC.out).mono ?_
      rintro e w4 ⟨rfl, hb⟩
      have hZ := (Held.next hb hZ).drew
      clear hb hR
      go_wp2_with fail
      go_region_held3 (fun w' => w'.cell? ⟨g, 0, none⟩ = some (.int .i64 k) ∧ w'.cell? ⟨g, 1, none⟩ = some (.string s) ∧ w'.cell? ⟨g, 2, none⟩ = some (.bool o) ∧ w'.cell? ⟨g, 3, none⟩ = some (.int .i64 v) ∧ w'.cell? ⟨g, 4, none⟩ = some (.int .i64 c) ∧ w'.cell? ⟨w.heap.size, 0, none⟩ = some (.int .i64 k) ∧ w'.cell? ⟨w.heap.size, 1, none⟩ = some (.string s) ∧ w'.cell? ⟨w.heap.size, 2, none⟩ = some (.bool o) ∧ w'.cell? ⟨w.heap.size, 3, none⟩ = some (.int .i64 v) ∧ w'.cell? ⟨w.heap.size, 4, none⟩ = some (.int .i64 c)) (exact Held.c55 (by assumption))
        (first
        | (go_at_call 12; refine (of_any _).mono ?_; rintro e w7 ⟨rfl, hb2⟩; have hZ2 := Held.next hb2 (by assumption))
        | (go_at_call 10; refine (awake_any _).mono ?_; rintro e w9 ⟨rfl, hb9⟩; have hZ2 := Held.next hb9 (by assumption)))
      all_goals go_wp2_with fail
      all_goals go_ret
      all_goals exact ⟨rfl, Held.below (L := [(g, wq k s o v c, 23), (w.heap.size, wq k s o v c, 23)]) (by assumption)⟩
end
end Go.Proofs.Ytnjlkjoahcakpaa
