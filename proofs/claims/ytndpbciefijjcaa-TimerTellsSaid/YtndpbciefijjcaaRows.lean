/-
  No cell of these rows narrows 'for every input' (looked for: loops, veiled, ifaces, maps, wideKeys, modest, calm, conditions, laid).
  DERIVED. THE GIVEN ROWS OF THIS SEAT. 4 by the template 'for every input the law returns true; each argument reads behind the call as it read before'; 0 by the template 'total and deterministic' (their statements: YtndpbciefijjcaaTotals.lean).
  GIVEN WITH THE SEED: the statements are not yours to turn. If you find one false, say at which input.
  Laid BY PROGRAM, IN A SANDBOX (cutbox-rows.mjs): the forced cells as the released guide's own fill.sh prints them over the translation df70e1ac8d12f487… (all of the seat's roots in one cut). By AI agents, Wed Nov 11 2026. No macro, syntax, notation, axiom, sorry.
-/
import Derived.Test.YtndpbciefijjcaaChecked
import GoSem.Claim
import GoSem.ClaimJoined
import GoSem.ClaimMapViews
import Derived.JoinedTies
import Derived.KernelRfl
namespace Go.Proofs.Ytndpbciefijjcaa
/- THE CELL 'sum', in the pinned program and in every row, IS THE sha256 OF THE DUMP (.gsa) THAT YtndpbciefijjcaaProg.lean LOADS. Nothing in Lean hashes anything: it is a label: what it is worth is what the hold of that sum in a sandbox is worth. -/
noncomputable def Try.pinned : Pinned := { name := "ytndpbciefijjcaa", sum := "df70e1ac8d12f487a4a43a80143f4a962bc3e6b0a89ab9992fc347b96c45af95", checked := Try.checked }
namespace Rows
def none {H : Type} : Left H := { results := [], args := [] }

/-- 'nightjarlaw13.TimerTells': WHATEVER THE INPUT: true; the input reads as it did. -/
def timerTellsSpec : ChangeSpec := { name := "timerTells", fn := fun _ => fun
  | [d1, d2] => { results := [.lit (.bool true)], args := [d1, d2] }
  | _ => none }
def timerTellsRow : OpenClaim := { program := "ytndpbciefijjcaa", sum := "df70e1ac8d12f487a4a43a80143f4a962bc3e6b0a89ab9992fc347b96c45af95", func := "nightjar/nightjarlaw13.TimerTells", spec := "timerTells", inPlace := ["slices.overlaps[nightjar/api.Timer]"], unfollowed := true, recurses := true, apart := false }
def TimerTellsSaid : Prop := timerTellsRow.holds Try.pinned (OpenSpec.ofChange timerTellsSpec)

/-- ITS FALSE NEIGHBOUR: 'it returns false'. Refute it at one input. -/
def timerTellsWrong : ChangeSpec := { name := "timerTells", fn := fun _ => fun
  | [d1, d2] => { results := [.lit (.bool false)], args := [d1, d2] }
  | _ => none }
def TimerTellsWrongFalsely : Prop := timerTellsRow.holds Try.pinned (OpenSpec.ofChange timerTellsWrong)

/-- 'nightjarlaw13.TimerOnce': WHATEVER THE INPUT: true; the input reads as it did. -/
def timerOnceSpec : ChangeSpec := { name := "timerOnce", fn := fun _ => fun
  | [d1, d2] => { results := [.lit (.bool true)], args := [d1, d2] }
  | _ => none }
def timerOnceRow : OpenClaim := { program := "ytndpbciefijjcaa", sum := "df70e1ac8d12f487a4a43a80143f4a962bc3e6b0a89ab9992fc347b96c45af95", func := "nightjar/nightjarlaw13.TimerOnce", spec := "timerOnce", inPlace := ["slices.overlaps[nightjar/api.Timer]"], unfollowed := true, recurses := true, apart := false }
def TimerOnceSaid : Prop := timerOnceRow.holds Try.pinned (OpenSpec.ofChange timerOnceSpec)

/-- ITS FALSE NEIGHBOUR: 'it returns false'. Refute it at one input. -/
def timerOnceWrong : ChangeSpec := { name := "timerOnce", fn := fun _ => fun
  | [d1, d2] => { results := [.lit (.bool false)], args := [d1, d2] }
  | _ => none }
def TimerOnceWrongFalsely : Prop := timerOnceRow.holds Try.pinned (OpenSpec.ofChange timerOnceWrong)

/-- 'nightjarlaw13.TimerOthers': WHATEVER THE INPUT: true; the input reads as it did. -/
def timerOthersSpec : ChangeSpec := { name := "timerOthers", fn := fun _ => fun
  | [d1, d2, d3, d4] => { results := [.lit (.bool true)], args := [d1, d2, d3, d4] }
  | _ => none }
def timerOthersRow : OpenClaim := { program := "ytndpbciefijjcaa", sum := "df70e1ac8d12f487a4a43a80143f4a962bc3e6b0a89ab9992fc347b96c45af95", func := "nightjar/nightjarlaw13.TimerOthers", spec := "timerOthers", inPlace := ["slices.overlaps[nightjar/api.Timer]"], unfollowed := true, recurses := true, apart := false }
def TimerOthersSaid : Prop := timerOthersRow.holds Try.pinned (OpenSpec.ofChange timerOthersSpec)

/-- ITS FALSE NEIGHBOUR: 'it returns false'. Refute it at one input. -/
def timerOthersWrong : ChangeSpec := { name := "timerOthers", fn := fun _ => fun
  | [d1, d2, d3, d4] => { results := [.lit (.bool false)], args := [d1, d2, d3, d4] }
  | _ => none }
def TimerOthersWrongFalsely : Prop := timerOthersRow.holds Try.pinned (OpenSpec.ofChange timerOthersWrong)

/-- 'nightjarlaw13.TimerSplits': WHATEVER THE INPUT: true; the input reads as it did. -/
def timerSplitsSpec : ChangeSpec := { name := "timerSplits", fn := fun _ => fun
  | [d1, d2, d3] => { results := [.lit (.bool true)], args := [d1, d2, d3] }
  | _ => none }
def timerSplitsRow : OpenClaim := { program := "ytndpbciefijjcaa", sum := "df70e1ac8d12f487a4a43a80143f4a962bc3e6b0a89ab9992fc347b96c45af95", func := "nightjar/nightjarlaw13.TimerSplits", spec := "timerSplits", inPlace := ["slices.overlaps[nightjar/api.Timer]"], unfollowed := true, recurses := true, apart := false }
def TimerSplitsSaid : Prop := timerSplitsRow.holds Try.pinned (OpenSpec.ofChange timerSplitsSpec)

/-- ITS FALSE NEIGHBOUR: 'it returns false'. Refute it at one input. -/
def timerSplitsWrong : ChangeSpec := { name := "timerSplits", fn := fun _ => fun
  | [d1, d2, d3] => { results := [.lit (.bool false)], args := [d1, d2, d3] }
  | _ => none }
def TimerSplitsWrongFalsely : Prop := timerSplitsRow.holds Try.pinned (OpenSpec.ofChange timerSplitsWrong)

/- THE SECOND FORM. 'bulk': how many values and letters a reading holds, each counted each time it is reached (what is shared counts as often as it is met; a slice's spare places count too). A statement '..UptoSaid' is the law's where the arguments, and the package variables that the reading takes, are together of bulk at most 1048576: NARROWER than '..Said'. Prove '..Said' where nothing that the law and all that it calls make is longer than what came in: it says more and counts as full. Else prove '..UptoSaid'. A law counts once. -/
mutual
def uptoBulk {H : Type} : DataW H → Nat
  | .lit (.string bytes) => bytes.length + 1
  | .lit _ => 1
  | .nil => 1
  | .ptr d => uptoBulk d + 1
  | .slice elems spare => uptoBulkAll elems + uptoBulkAll spare + 1
  | .agg parts => uptoBulkAll parts + 1
  | .iface _ d => uptoBulk d + 1
  | .map entries => uptoBulkEntries entries + 1
  | .held _ => 1
def uptoBulkAll {H : Type} : List (DataW H) → Nat
  | [] => 0
  | d :: r => uptoBulk d + uptoBulkAll r
def uptoBulkEntries {H : Type} : List (Lit × DataW H) → Nat
  | [] => 0
  | x :: r => uptoBulkEntry x + uptoBulkEntries r
def uptoBulkEntry {H : Type} : Lit × DataW H → Nat
  | (.string bytes, d) => bytes.length + uptoBulk d + 1
  | (_, d) => uptoBulk d + 1
 end
def uptoSmall : (H : Type) → List (DataW H) → Bool := fun _ ds => decide (uptoBulkAll ds ≤ 1048576)
def OpenSpec.upto (s : _root_.Go.ChangeSpec) : _root_.Go.OpenSpec := { _root_.Go.OpenSpec.ofChange s with cond := some uptoSmall }

/-- 'nightjarlaw13.TimerTells', WHERE WHAT IT READS IS OF BULK AT MOST 1048576: true; the input reads as it did. -/
def timerTellsUptoRow : OpenClaim := { program := "ytndpbciefijjcaa", sum := "df70e1ac8d12f487a4a43a80143f4a962bc3e6b0a89ab9992fc347b96c45af95", func := "nightjar/nightjarlaw13.TimerTells", spec := "timerTells", inPlace := ["slices.overlaps[nightjar/api.Timer]"], unfollowed := true, recurses := true, apart := false, narrowed := true }
def TimerTellsUptoSaid : Prop := timerTellsUptoRow.holds Try.pinned (OpenSpec.upto timerTellsSpec)

/-- 'nightjarlaw13.TimerOnce', WHERE WHAT IT READS IS OF BULK AT MOST 1048576: true; the input reads as it did. -/
def timerOnceUptoRow : OpenClaim := { program := "ytndpbciefijjcaa", sum := "df70e1ac8d12f487a4a43a80143f4a962bc3e6b0a89ab9992fc347b96c45af95", func := "nightjar/nightjarlaw13.TimerOnce", spec := "timerOnce", inPlace := ["slices.overlaps[nightjar/api.Timer]"], unfollowed := true, recurses := true, apart := false, narrowed := true }
def TimerOnceUptoSaid : Prop := timerOnceUptoRow.holds Try.pinned (OpenSpec.upto timerOnceSpec)

/-- 'nightjarlaw13.TimerOthers', WHERE WHAT IT READS IS OF BULK AT MOST 1048576: true; the input reads as it did. -/
def timerOthersUptoRow : OpenClaim := { program := "ytndpbciefijjcaa", sum := "df70e1ac8d12f487a4a43a80143f4a962bc3e6b0a89ab9992fc347b96c45af95", func := "nightjar/nightjarlaw13.TimerOthers", spec := "timerOthers", inPlace := ["slices.overlaps[nightjar/api.Timer]"], unfollowed := true, recurses := true, apart := false, narrowed := true }
def TimerOthersUptoSaid : Prop := timerOthersUptoRow.holds Try.pinned (OpenSpec.upto timerOthersSpec)

/-- 'nightjarlaw13.TimerSplits', WHERE WHAT IT READS IS OF BULK AT MOST 1048576: true; the input reads as it did. -/
def timerSplitsUptoRow : OpenClaim := { program := "ytndpbciefijjcaa", sum := "df70e1ac8d12f487a4a43a80143f4a962bc3e6b0a89ab9992fc347b96c45af95", func := "nightjar/nightjarlaw13.TimerSplits", spec := "timerSplits", inPlace := ["slices.overlaps[nightjar/api.Timer]"], unfollowed := true, recurses := true, apart := false, narrowed := true }
def TimerSplitsUptoSaid : Prop := timerSplitsUptoRow.holds Try.pinned (OpenSpec.upto timerSplitsSpec)

end Rows
end Go.Proofs.Ytndpbciefijjcaa
