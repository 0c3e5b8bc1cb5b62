/-
  WidgetKeys: the walk on a right widget.
-/
import Derived.Test.YtnjlkjoahcakpaaLKeysA
namespace Go.Proofs.Ytnjlkjoahcakpaa
open Go.RowKit
section
variable {k : Int} {s : ByteArray} {o : Bool} {v c : Int} {A : Option Addr} {l cp : Nat} (w : World)
set_option maxRecDepth 100000 in
set_option maxHeartbeats 20000000 in
theorem Keys.good_ {b off : Nat} (h : Right k s o v c) (hl : 1 ≤ l) (hl60 : l ≤ 60) (hA : ∀ i, i < l → ∃ x y : Int, w.cell? ⟨b, off + i * 2, none⟩ = some (.int .i64 x) ∧ w.cell? ⟨b, off + i * 2 + 1, none⟩ = some (.int .i64 y) ∧ Big x ∧ Big y) :
    Calls Try.prog 4 #[wd k s o v c, .slice (some ⟨b, off, none⟩) l cp] w fun e w' => e = .returned (.bool true) ∧ Below w.heap.size w w' := by
  have HA := hid hA
  have HR := hid h
  have hsz := h.size
  clear h hA
  go_enter Try.func4, Try.ntmps4
  go_wp2_with fail
  refine (great_no _ (by omega)).mono ?_
  rintro e w1 ⟨rfl, hb⟩
  have hK := Held.next hb ((Held.start w).make (wq k s o v c) 23)
  clear hb
  go_wp2_with fail
  go_loopw [5] (fun i wr => ∃ (j : Nat) (k' : Int) (s' : ByteArray) (o' : Bool) (v' c' : Int), i = .int .i64 j ∧ j ≤ l ∧ Right k' s' o' v' c' ∧ Held w [(w.heap.size, wq k' s' o' v' c', 23)] wr) (fun i _ => l - (intOf i).toNat)
  case atStart => exact ⟨0, k, s, o, v, c, rfl, Nat.zero_le _, HR.out, hK⟩
  case round =>
    clear hK HR hsz
    obtain ⟨j, k, s, o, v, c, rfl, hj, HR, hR⟩ := hrel
    have HR := hid HR
    by_cases hjl : j < l
    · obtain ⟨x, y, cx, cy, hx, hy⟩ := HA.out j hjl
      have g1 := hR.old cx
      have g2 := hR.old cy
      have hKey := fun w : World => key_any w HR.out x y
      have hRef := fun w : World => refkey_any w HR.out x y
      have hok := keyF_right HR.out x y
      generalize keyF k s o v c x y = res at hKey hRef hok
      obtain ⟨⟨k', s', o', v', c'⟩, t⟩ := res
      have HR2 := hid (show Right k' s' o' v' c' from hok)
      have HC1 := hid hKey
      have HC2 := hid hRef
      clear hKey hRef hok g1 g2
      have hR := hR.drew
      go_upto_region 6 with fail
      go_cut [6, 7] (fun s6 s7 wx => ∃ g, s6 = .pointer (some ⟨g, 0, none⟩) ∧ s7 = .bool t ∧ Held w [(g, wq k' s' o' v' c', 23), (w.heap.size, wq k s o v c, 23)] wx)
      case first =>
        go_region_held3 (fun w' => w'.cell? ⟨w.heap.size, 0, none⟩ = some (.int .i64 k) ∧ w'.cell? ⟨w.heap.size, 1, none⟩ = some (.string s) ∧ w'.cell? ⟨w.heap.size, 2, none⟩ = some (.bool o) ∧ w'.cell? ⟨w.heap.size, 3, none⟩ = some (.int .i64 v) ∧ w'.cell? ⟨w.heap.size, 4, none⟩ = some (.int .i64 c) ∧ w'.cell? ⟨b, off + j * 2, none⟩ = some (.int .i64 x) ∧ w'.cell? ⟨b, off + j * 2 + 1, none⟩ = some (.int .i64 y)) (first | with_reducible exact Held.ck cx cy (by assumption) | with_reducible exact Held.ck cx cy (Held.alloc _ (by assumption)) | with_reducible exact Held.ck cx cy (Held.tail (by assumption)) | with_reducible exact Held.ck cx cy (Held.tail (Held.set5 (by assumption) _ _ _ _ _)) | with_reducible exact Held.ck cx cy (Held.tail (Held.set5 (Held.make (by assumption) _ _) _ _ _ _ _)))
          (first
          | (go_at_call 18; refine (HC1.out _).mono ?_; rintro e w7 ⟨rfl, hb2⟩; first | (have hL2 := Held.next hb2 (by with_reducible assumption); first | (obtain ⟨hF1, hF2, hF3⟩ := hL2.tail.facts; obtain ⟨hG1, hG2, hG3⟩ := hL2.facts) | skip) | (have hL2 := Held.next hb2 (Held.make (by assumption) _ _); (try change Held _ ((wr.heap.size, _, _) :: _) _ at hL2); obtain ⟨hG1, hG2, hG3⟩ := hL2.facts)))
        all_goals go_wp2_with fail
        all_goals go_meet
        all_goals first | with_reducible exact ⟨_, rfl, rfl, Held.make (by assumption) _ _⟩ | with_reducible exact ⟨_, rfl, rfl, Held.set5 (by assumption) _ _ _ _ _⟩
      case rest =>
        obtain ⟨g, rfl, rfl, hZ⟩ := hcut
        obtain ⟨f1, f2, f3⟩ := hZ.facts2
        have hsz := HR.out.size
        have hs : s.size ≤ maxLen := by unfold maxLen; omega
        have HC0 := hid ((right_iff k s o v c).2 HR.out)
        have HC9 := hid ((right_iff k' s' o' v' c').2 HR2.out)
        have hsz' := HR2.out.size
        have hs' : s'.size ≤ maxLen := by unfold maxLen; omega
        go_wp2_with fail
        refine (of_any _).mono ?_
        rintro e w3 ⟨rfl, hb⟩
        have hZ := Held.next hb hZ
        clear hb f1 f2 f3
        go_wp2_with fail
        refine (refcheck_is _ hs HC0.out).mono ?_
        rintro e w4 ⟨rfl, hb⟩
        have hZ := (Held.next hb hZ).drew
        clear hb hR
        go_upto_region 9 with fail
        go_cut [8, 9] (fun s8 s9 wx => ∃ h, s8 = .pointer (some ⟨h, 0, none⟩) ∧ s9 = .bool t ∧ Held w [(h, wq k' s' o' v' c', 27), (g, wq k' s' o' v' c', 23), (w.heap.size, wq k s o v c, 23)] wx)
        case first =>
          go_region_held3 (fun w' => w'.cell? ⟨w.heap.size, 0, none⟩ = some (.int .i64 k) ∧ w'.cell? ⟨w.heap.size, 1, none⟩ = some (.string s) ∧ w'.cell? ⟨w.heap.size, 2, none⟩ = some (.bool o) ∧ w'.cell? ⟨w.heap.size, 3, none⟩ = some (.int .i64 v) ∧ w'.cell? ⟨w.heap.size, 4, none⟩ = some (.int .i64 c) ∧ w'.cell? ⟨b, off + j * 2, none⟩ = some (.int .i64 x) ∧ w'.cell? ⟨b, off + j * 2 + 1, none⟩ = some (.int .i64 y)) (first | with_reducible exact Held.ck cx cy (Held.tail (by assumption)) | with_reducible exact Held.ck cx cy (Held.tail (Held.alloc _ (by assumption))) | with_reducible exact Held.ck cx cy (Held.tail (Held.tail (by assumption))) | with_reducible exact Held.ck cx cy (Held.tail (Held.tail (Held.set5 (by assumption) _ _ _ _ _))) | with_reducible exact Held.ck cx cy (Held.tail (Held.tail (Held.set5 (Held.make (by assumption) _ _) _ _ _ _ _))))
            (first
            | (go_at_call 12; refine (of_any _).mono ?_; rintro e w7 ⟨rfl, hb2⟩; first | (have hL2 := Held.next hb2 (by with_reducible assumption); first | (obtain ⟨hF1, hF2, hF3⟩ := hL2.tail.tail.facts; obtain ⟨hG1, hG2, hG3⟩ := hL2.facts) | skip) | (have hL2 := Held.next hb2 (Held.make (by assumption) _ _); (try change Held _ ((w4.heap.size, _, _) :: _) _ at hL2); obtain ⟨hG1, hG2, hG3⟩ := hL2.facts))
            | (go_at_call 19; refine (HC2.out _).mono ?_; rintro e w7 ⟨rfl, hb2⟩; first | (have hL2 := Held.next hb2 (by with_reducible assumption); first | (obtain ⟨hF1, hF2, hF3⟩ := hL2.tail.tail.facts; obtain ⟨hG1, hG2, hG3⟩ := hL2.facts) | skip) | (have hL2 := Held.next hb2 (Held.make (by assumption) _ _); (try change Held _ ((w4.heap.size, _, _) :: _) _ at hL2); obtain ⟨hG1, hG2, hG3⟩ := hL2.facts)))
          all_goals go_wp2_with fail
          all_goals go_meet
          all_goals first | with_reducible exact ⟨_, rfl, rfl, Held.make (by assumption) _ _⟩ | with_reducible exact ⟨_, rfl, rfl, Held.set5 (by assumption) _ _ _ _ _⟩
        case rest =>
          obtain ⟨h, rfl, rfl, hY⟩ := hcut
          have hY := hY.drew
          go_wp2_with fail
          go_region_held3 (fun w' => w'.cell? ⟨h, 0, none⟩ = some (.int .i64 k') ∧ w'.cell? ⟨h, 1, none⟩ = some (.string s') ∧ w'.cell? ⟨h, 2, none⟩ = some (.bool o') ∧ w'.cell? ⟨h, 3, none⟩ = some (.int .i64 v') ∧ w'.cell? ⟨h, 4, none⟩ = some (.int .i64 c') ∧ w'.cell? ⟨g, 0, none⟩ = some (.int .i64 k') ∧ w'.cell? ⟨g, 1, none⟩ = some (.string s') ∧ w'.cell? ⟨g, 2, none⟩ = some (.bool o') ∧ w'.cell? ⟨g, 3, none⟩ = some (.int .i64 v') ∧ w'.cell? ⟨g, 4, none⟩ = some (.int .i64 c')) (exact Held.c55 (by assumption))
            (first
            | (go_at_call 12; refine (of_any _).mono ?_; rintro e w7 ⟨rfl, hb2⟩; have hZ2 := Held.next hb2 (by assumption))
            | (go_at_call 11; refine (refcheck_is _ hs' HC9.out).mono ?_; rintro e w7 ⟨rfl, hb2⟩; have hZ2 := Held.next hb2 (by assumption)))
          all_goals (obtain ⟨f1, f2, f3⟩ := hZ2.facts2; obtain ⟨e1, e2, e3⟩ := hZ2.facts3)
          all_goals go_wp2_with fail
          all_goals go_roundw
          case rel => exact ⟨j + 1, k', s', o', v', c', by go_num, by omega, HR2.out, Held.set5 (Held.tail (Held.tail (by assumption))) _ _ _ _ _⟩
          case measure => simp [intOf]; omega
    · have hjl : j = l := by omega
      subst hjl
      go_wp2_with (first | (go_at_call 10; refine (awake_any _).mono ?_; rintro e w9 ⟨rfl, hb9⟩; have hK9 := Held.next hb9 (by assumption)))
      go_ret
      exact ⟨rfl, Held.below (by assumption)⟩
end
end Go.Proofs.Ytnjlkjoahcakpaa
