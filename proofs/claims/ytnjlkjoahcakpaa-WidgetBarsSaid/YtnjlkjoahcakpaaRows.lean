/-
  No cell of these rows narrows 'for every input' (looked for: loops, veiled, ifaces, maps, wideKeys, modest, calm, conditions, laid).
  DERIVED. THE GIVEN ROWS OF THIS SEAT. 6 by the template 'for every input the law returns true; each argument reads behind the call as it read before'; 0 by the template 'total and deterministic' (their statements: YtnjlkjoahcakpaaTotals.lean).
  GIVEN WITH THE SEED: the statements are not yours to turn. If you find one false, say at which input.
  Laid BY PROGRAM, IN A SANDBOX (cutbox-rows.mjs): the forced cells as the released guide's own fill.sh prints them over the translation d983191fffc110df… (all of the seat's roots in one cut). By AI agents, Wed Nov 11 2026. No macro, syntax, notation, axiom, sorry.
-/
import Derived.Test.YtnjlkjoahcakpaaChecked
import GoSem.Claim
import GoSem.ClaimJoined
import GoSem.ClaimMapViews
import Derived.JoinedTies
import Derived.KernelRfl
namespace Go.Proofs.Ytnjlkjoahcakpaa
/- THE CELL 'sum', in the pinned program and in every row, IS THE sha256 OF THE DUMP (.gsa) THAT YtnjlkjoahcakpaaProg.lean LOADS. Nothing in Lean hashes anything: it is a label: what it is worth is what the hold of that sum in a sandbox is worth. -/
noncomputable def Try.pinned : Pinned := { name := "ytnjlkjoahcakpaa", sum := "d983191fffc110df581e4d800aa934958989256d78bb3884f7b4cbd0bd45b2a7", checked := Try.checked }
namespace Rows
def none {H : Type} : Left H := { results := [], args := [] }

/-- 'glazierlaw53.WidgetChecks': WHATEVER THE INPUT: true; the input reads as it did. -/
def widgetChecksSpec : ChangeSpec := { name := "widgetChecks", fn := fun _ => fun
  | [d1, d2] => { results := [.lit (.bool true)], args := [d1, d2] }
  | _ => none }
def widgetChecksRow : OpenClaim := { program := "ytnjlkjoahcakpaa", sum := "d983191fffc110df581e4d800aa934958989256d78bb3884f7b4cbd0bd45b2a7", func := "glazier/glazierlaw53.WidgetChecks", spec := "widgetChecks", unfollowed := true, recurses := true, apart := false }
def WidgetChecksSaid : Prop := widgetChecksRow.holds Try.pinned (OpenSpec.ofChange widgetChecksSpec)

/-- ITS FALSE NEIGHBOUR: 'it returns false'. Refute it at one input. -/
def widgetChecksWrong : ChangeSpec := { name := "widgetChecks", fn := fun _ => fun
  | [d1, d2] => { results := [.lit (.bool false)], args := [d1, d2] }
  | _ => none }
def WidgetChecksWrongFalsely : Prop := widgetChecksRow.holds Try.pinned (OpenSpec.ofChange widgetChecksWrong)

/-- 'glazierlaw53.WidgetKeys': WHATEVER THE INPUT: true; the input reads as it did. -/
def widgetKeysSpec : ChangeSpec := { name := "widgetKeys", fn := fun _ => fun
  | [d1, d2] => { results := [.lit (.bool true)], args := [d1, d2] }
  | _ => none }
def widgetKeysRow : OpenClaim := { program := "ytnjlkjoahcakpaa", sum := "d983191fffc110df581e4d800aa934958989256d78bb3884f7b4cbd0bd45b2a7", func := "glazier/glazierlaw53.WidgetKeys", spec := "widgetKeys", unfollowed := true, recurses := true, apart := false }
def WidgetKeysSaid : Prop := widgetKeysRow.holds Try.pinned (OpenSpec.ofChange widgetKeysSpec)

/-- ITS FALSE NEIGHBOUR: 'it returns false'. Refute it at one input. -/
def widgetKeysWrong : ChangeSpec := { name := "widgetKeys", fn := fun _ => fun
  | [d1, d2] => { results := [.lit (.bool false)], args := [d1, d2] }
  | _ => none }
def WidgetKeysWrongFalsely : Prop := widgetKeysRow.holds Try.pinned (OpenSpec.ofChange widgetKeysWrong)

/-- 'glazierlaw53.WidgetLetters': WHATEVER THE INPUT: true; the input reads as it did. -/
def widgetLettersSpec : ChangeSpec := { name := "widgetLetters", fn := fun _ => fun
  | [d1, d2] => { results := [.lit (.bool true)], args := [d1, d2] }
  | _ => none }
def widgetLettersRow : OpenClaim := { program := "ytnjlkjoahcakpaa", sum := "d983191fffc110df581e4d800aa934958989256d78bb3884f7b4cbd0bd45b2a7", func := "glazier/glazierlaw53.WidgetLetters", spec := "widgetLetters", unfollowed := true, recurses := true, apart := false }
def WidgetLettersSaid : Prop := widgetLettersRow.holds Try.pinned (OpenSpec.ofChange widgetLettersSpec)

/-- ITS FALSE NEIGHBOUR: 'it returns false'. Refute it at one input. -/
def widgetLettersWrong : ChangeSpec := { name := "widgetLetters", fn := fun _ => fun
  | [d1, d2] => { results := [.lit (.bool false)], args := [d1, d2] }
  | _ => none }
def WidgetLettersWrongFalsely : Prop := widgetLettersRow.holds Try.pinned (OpenSpec.ofChange widgetLettersWrong)

/-- 'glazierlaw53.WidgetTypes': WHATEVER THE INPUT: true; the input reads as it did. -/
def widgetTypesSpec : ChangeSpec := { name := "widgetTypes", fn := fun _ => fun
  | [d1, d2, d3] => { results := [.lit (.bool true)], args := [d1, d2, d3] }
  | _ => none }
def widgetTypesRow : OpenClaim := { program := "ytnjlkjoahcakpaa", sum := "d983191fffc110df581e4d800aa934958989256d78bb3884f7b4cbd0bd45b2a7", func := "glazier/glazierlaw53.WidgetTypes", spec := "widgetTypes", unfollowed := true, recurses := true, apart := false }
def WidgetTypesSaid : Prop := widgetTypesRow.holds Try.pinned (OpenSpec.ofChange widgetTypesSpec)

/-- ITS FALSE NEIGHBOUR: 'it returns false'. Refute it at one input. -/
def widgetTypesWrong : ChangeSpec := { name := "widgetTypes", fn := fun _ => fun
  | [d1, d2, d3] => { results := [.lit (.bool false)], args := [d1, d2, d3] }
  | _ => none }
def WidgetTypesWrongFalsely : Prop := widgetTypesRow.holds Try.pinned (OpenSpec.ofChange widgetTypesWrong)

/-- 'glazierlaw53.WidgetClicks': WHATEVER THE INPUT: true; the input reads as it did. -/
def widgetClicksSpec : ChangeSpec := { name := "widgetClicks", fn := fun _ => fun
  | [d1, d2, d3, d4] => { results := [.lit (.bool true)], args := [d1, d2, d3, d4] }
  | _ => none }
def widgetClicksRow : OpenClaim := { program := "ytnjlkjoahcakpaa", sum := "d983191fffc110df581e4d800aa934958989256d78bb3884f7b4cbd0bd45b2a7", func := "glazier/glazierlaw53.WidgetClicks", spec := "widgetClicks", unfollowed := true, recurses := true, apart := false }
def WidgetClicksSaid : Prop := widgetClicksRow.holds Try.pinned (OpenSpec.ofChange widgetClicksSpec)

/-- ITS FALSE NEIGHBOUR: 'it returns false'. Refute it at one input. -/
def widgetClicksWrong : ChangeSpec := { name := "widgetClicks", fn := fun _ => fun
  | [d1, d2, d3, d4] => { results := [.lit (.bool false)], args := [d1, d2, d3, d4] }
  | _ => none }
def WidgetClicksWrongFalsely : Prop := widgetClicksRow.holds Try.pinned (OpenSpec.ofChange widgetClicksWrong)

/-- 'glazierlaw53.WidgetBars': WHATEVER THE INPUT: true; the input reads as it did. -/
def widgetBarsSpec : ChangeSpec := { name := "widgetBars", fn := fun _ => fun
  | [d1, d2] => { results := [.lit (.bool true)], args := [d1, d2] }
  | _ => none }
def widgetBarsRow : OpenClaim := { program := "ytnjlkjoahcakpaa", sum := "d983191fffc110df581e4d800aa934958989256d78bb3884f7b4cbd0bd45b2a7", func := "glazier/glazierlaw53.WidgetBars", spec := "widgetBars", unfollowed := true, recurses := true, apart := false }
def WidgetBarsSaid : Prop := widgetBarsRow.holds Try.pinned (OpenSpec.ofChange widgetBarsSpec)

/-- ITS FALSE NEIGHBOUR: 'it returns false'. Refute it at one input. -/
def widgetBarsWrong : ChangeSpec := { name := "widgetBars", fn := fun _ => fun
  | [d1, d2] => { results := [.lit (.bool false)], args := [d1, d2] }
  | _ => none }
def WidgetBarsWrongFalsely : Prop := widgetBarsRow.holds Try.pinned (OpenSpec.ofChange widgetBarsWrong)

/- THE SECOND FORM. 'bulk': how many values and letters a reading holds, each counted each time it is reached (what is shared counts as often as it is met; a slice's spare places count too). A statement '..UptoSaid' is the law's where the arguments, and the package variables that the reading takes, are together of bulk at most 1048576: NARROWER than '..Said'. Prove '..Said' where nothing that the law and all that it calls make is longer than what came in: it says more and counts as full. Else prove '..UptoSaid'. A law counts once. -/
mutual
def uptoBulk {H : Type} : DataW H → Nat
  | .lit (.string bytes) => bytes.length + 1
  | .lit _ => 1
  | .nil => 1
  | .ptr d => uptoBulk d + 1
  | .slice elems spare => uptoBulkAll elems + uptoBulkAll spare + 1
  | .agg parts => uptoBulkAll parts + 1
  | .iface _ d => uptoBulk d + 1
  | .map entries => uptoBulkEntries entries + 1
  | .held _ => 1
def uptoBulkAll {H : Type} : List (DataW H) → Nat
  | [] => 0
  | d :: r => uptoBulk d + uptoBulkAll r
def uptoBulkEntries {H : Type} : List (Lit × DataW H) → Nat
  | [] => 0
  | x :: r => uptoBulkEntry x + uptoBulkEntries r
def uptoBulkEntry {H : Type} : Lit × DataW H → Nat
  | (.string bytes, d) => bytes.length + uptoBulk d + 1
  | (_, d) => uptoBulk d + 1
 end
def uptoSmall : (H : Type) → List (DataW H) → Bool := fun _ ds => decide (uptoBulkAll ds ≤ 1048576)
def OpenSpec.upto (s : _root_.Go.ChangeSpec) : _root_.Go.OpenSpec := { _root_.Go.OpenSpec.ofChange s with cond := some uptoSmall }

/-- 'glazierlaw53.WidgetChecks', WHERE WHAT IT READS IS OF BULK AT MOST 1048576: true; the input reads as it did. -/
def widgetChecksUptoRow : OpenClaim := { program := "ytnjlkjoahcakpaa", sum := "d983191fffc110df581e4d800aa934958989256d78bb3884f7b4cbd0bd45b2a7", func := "glazier/glazierlaw53.WidgetChecks", spec := "widgetChecks", unfollowed := true, recurses := true, apart := false, narrowed := true }
def WidgetChecksUptoSaid : Prop := widgetChecksUptoRow.holds Try.pinned (OpenSpec.upto widgetChecksSpec)

/-- 'glazierlaw53.WidgetKeys', WHERE WHAT IT READS IS OF BULK AT MOST 1048576: true; the input reads as it did. -/
def widgetKeysUptoRow : OpenClaim := { program := "ytnjlkjoahcakpaa", sum := "d983191fffc110df581e4d800aa934958989256d78bb3884f7b4cbd0bd45b2a7", func := "glazier/glazierlaw53.WidgetKeys", spec := "widgetKeys", unfollowed := true, recurses := true, apart := false, narrowed := true }
def WidgetKeysUptoSaid : Prop := widgetKeysUptoRow.holds Try.pinned (OpenSpec.upto widgetKeysSpec)

/-- 'glazierlaw53.WidgetLetters', WHERE WHAT IT READS IS OF BULK AT MOST 1048576: true; the input reads as it did. -/
def widgetLettersUptoRow : OpenClaim := { program := "ytnjlkjoahcakpaa", sum := "d983191fffc110df581e4d800aa934958989256d78bb3884f7b4cbd0bd45b2a7", func := "glazier/glazierlaw53.WidgetLetters", spec := "widgetLetters", unfollowed := true, recurses := true, apart := false, narrowed := true }
def WidgetLettersUptoSaid : Prop := widgetLettersUptoRow.holds Try.pinned (OpenSpec.upto widgetLettersSpec)

/-- 'glazierlaw53.WidgetTypes', WHERE WHAT IT READS IS OF BULK AT MOST 1048576: true; the input reads as it did. -/
def widgetTypesUptoRow : OpenClaim := { program := "ytnjlkjoahcakpaa", sum := "d983191fffc110df581e4d800aa934958989256d78bb3884f7b4cbd0bd45b2a7", func := "glazier/glazierlaw53.WidgetTypes", spec := "widgetTypes", unfollowed := true, recurses := true, apart := false, narrowed := true }
def WidgetTypesUptoSaid : Prop := widgetTypesUptoRow.holds Try.pinned (OpenSpec.upto widgetTypesSpec)

/-- 'glazierlaw53.WidgetClicks', WHERE WHAT IT READS IS OF BULK AT MOST 1048576: true; the input reads as it did. -/
def widgetClicksUptoRow : OpenClaim := { program := "ytnjlkjoahcakpaa", sum := "d983191fffc110df581e4d800aa934958989256d78bb3884f7b4cbd0bd45b2a7", func := "glazier/glazierlaw53.WidgetClicks", spec := "widgetClicks", unfollowed := true, recurses := true, apart := false, narrowed := true }
def WidgetClicksUptoSaid : Prop := widgetClicksUptoRow.holds Try.pinned (OpenSpec.upto widgetClicksSpec)

/-- 'glazierlaw53.WidgetBars', WHERE WHAT IT READS IS OF BULK AT MOST 1048576: true; the input reads as it did. -/
def widgetBarsUptoRow : OpenClaim := { program := "ytnjlkjoahcakpaa", sum := "d983191fffc110df581e4d800aa934958989256d78bb3884f7b4cbd0bd45b2a7", func := "glazier/glazierlaw53.WidgetBars", spec := "widgetBars", unfollowed := true, recurses := true, apart := false, narrowed := true }
def WidgetBarsUptoSaid : Prop := widgetBarsUptoRow.holds Try.pinned (OpenSpec.upto widgetBarsSpec)

end Rows
end Go.Proofs.Ytnjlkjoahcakpaa
