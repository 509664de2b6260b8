/-
  No cell of these rows narrows 'for every input' (looked for: loops, veiled, ifaces, maps, wideKeys, modest, calm, conditions, laid).
  DERIVED. THE GIVEN ROWS OF THIS SEAT. 7 by the template 'for every input the law returns true; each argument reads behind the call as it read before'; 0 by the template 'total and deterministic' (their statements: YtfehhenbdiageaaTotals.lean).
  GIVEN WITH THE SEED: the statements are not yours to turn. If you find one false, say at which input.
  Laid BY PROGRAM, IN A SANDBOX (cutbox-rows.mjs): the forced cells as the released guide's own fill.sh prints them over the translation 3d21c854b0bffcc3… (all of the seat's roots in one cut). By AI agents, Wed Nov 11 2026. No macro, syntax, notation, axiom, sorry.
-/
import Derived.Test.YtfehhenbdiageaaChecked
import GoSem.Claim
import GoSem.ClaimJoined
import GoSem.ClaimMapViews
import Derived.JoinedTies
import Derived.KernelRfl
namespace Go.Proofs.Ytfehhenbdiageaa
/- THE CELL 'sum', in the pinned program and in every row, IS THE sha256 OF THE DUMP (.gsa) THAT YtfehhenbdiageaaProg.lean LOADS. Nothing in Lean hashes anything: it is a label: what it is worth is what the hold of that sum in a sandbox is worth. -/
noncomputable def Try.pinned : Pinned := { name := "ytfehhenbdiageaa", sum := "3d21c854b0bffcc3ea6d884016befd1bb34544fdaba2cfed4d6f6ae658ff56a1", checked := Try.checked }
namespace Rows
def none {H : Type} : Left H := { results := [], args := [] }

/-- 'nightjarlaw17.RosterTells': WHATEVER THE INPUT: true; the input reads as it did. -/
def rosterTellsSpec : ChangeSpec := { name := "rosterTells", fn := fun _ => fun
  | [d1, d2] => { results := [.lit (.bool true)], args := [d1, d2] }
  | _ => none }
def rosterTellsRow : OpenClaim := { program := "ytfehhenbdiageaa", sum := "3d21c854b0bffcc3ea6d884016befd1bb34544fdaba2cfed4d6f6ae658ff56a1", func := "nightjar/nightjarlaw17.RosterTells", spec := "rosterTells", inPlace := ["slices.overlaps[nightjar/api.Rel]"], unfollowed := true, recurses := true, apart := false }
def RosterTellsSaid : Prop := rosterTellsRow.holds Try.pinned (OpenSpec.ofChange rosterTellsSpec)

/-- ITS FALSE NEIGHBOUR: 'it returns false'. Refute it at one input. -/
def rosterTellsWrong : ChangeSpec := { name := "rosterTells", fn := fun _ => fun
  | [d1, d2] => { results := [.lit (.bool false)], args := [d1, d2] }
  | _ => none }
def RosterTellsWrongFalsely : Prop := rosterTellsRow.holds Try.pinned (OpenSpec.ofChange rosterTellsWrong)

/-- 'nightjarlaw17.RosterRight': WHATEVER THE INPUT: true; the input reads as it did. -/
def rosterRightSpec : ChangeSpec := { name := "rosterRight", fn := fun _ => fun
  | [d1, d2] => { results := [.lit (.bool true)], args := [d1, d2] }
  | _ => none }
def rosterRightRow : OpenClaim := { program := "ytfehhenbdiageaa", sum := "3d21c854b0bffcc3ea6d884016befd1bb34544fdaba2cfed4d6f6ae658ff56a1", func := "nightjar/nightjarlaw17.RosterRight", spec := "rosterRight", inPlace := ["slices.overlaps[nightjar/api.Rel]"], unfollowed := true, recurses := true, apart := false }
def RosterRightSaid : Prop := rosterRightRow.holds Try.pinned (OpenSpec.ofChange rosterRightSpec)

/-- ITS FALSE NEIGHBOUR: 'it returns false'. Refute it at one input. -/
def rosterRightWrong : ChangeSpec := { name := "rosterRight", fn := fun _ => fun
  | [d1, d2] => { results := [.lit (.bool false)], args := [d1, d2] }
  | _ => none }
def RosterRightWrongFalsely : Prop := rosterRightRow.holds Try.pinned (OpenSpec.ofChange rosterRightWrong)

/-- 'nightjarlaw17.RosterWatch': WHATEVER THE INPUT: true; the input reads as it did. -/
def rosterWatchSpec : ChangeSpec := { name := "rosterWatch", fn := fun _ => fun
  | [d1, d2] => { results := [.lit (.bool true)], args := [d1, d2] }
  | _ => none }
def rosterWatchRow : OpenClaim := { program := "ytfehhenbdiageaa", sum := "3d21c854b0bffcc3ea6d884016befd1bb34544fdaba2cfed4d6f6ae658ff56a1", func := "nightjar/nightjarlaw17.RosterWatch", spec := "rosterWatch", inPlace := ["slices.overlaps[nightjar/api.Rel]"], unfollowed := true, recurses := true, apart := false }
def RosterWatchSaid : Prop := rosterWatchRow.holds Try.pinned (OpenSpec.ofChange rosterWatchSpec)

/-- ITS FALSE NEIGHBOUR: 'it returns false'. Refute it at one input. -/
def rosterWatchWrong : ChangeSpec := { name := "rosterWatch", fn := fun _ => fun
  | [d1, d2] => { results := [.lit (.bool false)], args := [d1, d2] }
  | _ => none }
def RosterWatchWrongFalsely : Prop := rosterWatchRow.holds Try.pinned (OpenSpec.ofChange rosterWatchWrong)

/-- 'nightjarlaw17.RosterFulls': WHATEVER THE INPUT: true; the input reads as it did. -/
def rosterFullsSpec : ChangeSpec := { name := "rosterFulls", fn := fun _ => fun
  | [d1, d2, d3] => { results := [.lit (.bool true)], args := [d1, d2, d3] }
  | _ => none }
def rosterFullsRow : OpenClaim := { program := "ytfehhenbdiageaa", sum := "3d21c854b0bffcc3ea6d884016befd1bb34544fdaba2cfed4d6f6ae658ff56a1", func := "nightjar/nightjarlaw17.RosterFulls", spec := "rosterFulls", inPlace := ["slices.overlaps[nightjar/api.Rel]"], unfollowed := true, recurses := true, apart := false }
def RosterFullsSaid : Prop := rosterFullsRow.holds Try.pinned (OpenSpec.ofChange rosterFullsSpec)

/-- ITS FALSE NEIGHBOUR: 'it returns false'. Refute it at one input. -/
def rosterFullsWrong : ChangeSpec := { name := "rosterFulls", fn := fun _ => fun
  | [d1, d2, d3] => { results := [.lit (.bool false)], args := [d1, d2, d3] }
  | _ => none }
def RosterFullsWrongFalsely : Prop := rosterFullsRow.holds Try.pinned (OpenSpec.ofChange rosterFullsWrong)

/-- 'nightjarlaw17.RosterMeets': WHATEVER THE INPUT: true; the input reads as it did. -/
def rosterMeetsSpec : ChangeSpec := { name := "rosterMeets", fn := fun _ => fun
  | [d1, d2, d3, d4] => { results := [.lit (.bool true)], args := [d1, d2, d3, d4] }
  | _ => none }
def rosterMeetsRow : OpenClaim := { program := "ytfehhenbdiageaa", sum := "3d21c854b0bffcc3ea6d884016befd1bb34544fdaba2cfed4d6f6ae658ff56a1", func := "nightjar/nightjarlaw17.RosterMeets", spec := "rosterMeets", inPlace := ["slices.overlaps[nightjar/api.Rel]"], unfollowed := true, recurses := true, apart := false }
def RosterMeetsSaid : Prop := rosterMeetsRow.holds Try.pinned (OpenSpec.ofChange rosterMeetsSpec)

/-- ITS FALSE NEIGHBOUR: 'it returns false'. Refute it at one input. -/
def rosterMeetsWrong : ChangeSpec := { name := "rosterMeets", fn := fun _ => fun
  | [d1, d2, d3, d4] => { results := [.lit (.bool false)], args := [d1, d2, d3, d4] }
  | _ => none }
def RosterMeetsWrongFalsely : Prop := rosterMeetsRow.holds Try.pinned (OpenSpec.ofChange rosterMeetsWrong)

/-- 'nightjarlaw17.RosterHides': WHATEVER THE INPUT: true; the input reads as it did. -/
def rosterHidesSpec : ChangeSpec := { name := "rosterHides", fn := fun _ => fun
  | [d1, d2, d3] => { results := [.lit (.bool true)], args := [d1, d2, d3] }
  | _ => none }
def rosterHidesRow : OpenClaim := { program := "ytfehhenbdiageaa", sum := "3d21c854b0bffcc3ea6d884016befd1bb34544fdaba2cfed4d6f6ae658ff56a1", func := "nightjar/nightjarlaw17.RosterHides", spec := "rosterHides", inPlace := ["slices.overlaps[nightjar/api.Rel]"], unfollowed := true, recurses := true, apart := false }
def RosterHidesSaid : Prop := rosterHidesRow.holds Try.pinned (OpenSpec.ofChange rosterHidesSpec)

/-- ITS FALSE NEIGHBOUR: 'it returns false'. Refute it at one input. -/
def rosterHidesWrong : ChangeSpec := { name := "rosterHides", fn := fun _ => fun
  | [d1, d2, d3] => { results := [.lit (.bool false)], args := [d1, d2, d3] }
  | _ => none }
def RosterHidesWrongFalsely : Prop := rosterHidesRow.holds Try.pinned (OpenSpec.ofChange rosterHidesWrong)

/-- 'nightjarlaw17.RosterArgs': WHATEVER THE INPUT: true; the input reads as it did. -/
def rosterArgsSpec : ChangeSpec := { name := "rosterArgs", fn := fun _ => fun
  | [d1, d2] => { results := [.lit (.bool true)], args := [d1, d2] }
  | _ => none }
def rosterArgsRow : OpenClaim := { program := "ytfehhenbdiageaa", sum := "3d21c854b0bffcc3ea6d884016befd1bb34544fdaba2cfed4d6f6ae658ff56a1", func := "nightjar/nightjarlaw17.RosterArgs", spec := "rosterArgs", inPlace := ["slices.overlaps[nightjar/api.Rel]"], unfollowed := true, recurses := true, apart := false }
def RosterArgsSaid : Prop := rosterArgsRow.holds Try.pinned (OpenSpec.ofChange rosterArgsSpec)

/-- ITS FALSE NEIGHBOUR: 'it returns false'. Refute it at one input. -/
def rosterArgsWrong : ChangeSpec := { name := "rosterArgs", fn := fun _ => fun
  | [d1, d2] => { results := [.lit (.bool false)], args := [d1, d2] }
  | _ => none }
def RosterArgsWrongFalsely : Prop := rosterArgsRow.holds Try.pinned (OpenSpec.ofChange rosterArgsWrong)

/- THE SECOND FORM. 'bulk': how many values and letters a reading holds, each counted each time it is reached (what is shared counts as often as it is met; a slice's spare places count too). A statement '..UptoSaid' is the law's where the arguments, and the package variables that the reading takes, are together of bulk at most 1048576: NARROWER than '..Said'. Prove '..Said' where nothing that the law and all that it calls make is longer than what came in: it says more and counts as full. Else prove '..UptoSaid'. A law counts once. -/
mutual
def uptoBulk {H : Type} : DataW H → Nat
  | .lit (.string bytes) => bytes.length + 1
  | .lit _ => 1
  | .nil => 1
  | .ptr d => uptoBulk d + 1
  | .slice elems spare => uptoBulkAll elems + uptoBulkAll spare + 1
  | .agg parts => uptoBulkAll parts + 1
  | .iface _ d => uptoBulk d + 1
  | .map entries => uptoBulkEntries entries + 1
  | .held _ => 1
def uptoBulkAll {H : Type} : List (DataW H) → Nat
  | [] => 0
  | d :: r => uptoBulk d + uptoBulkAll r
def uptoBulkEntries {H : Type} : List (Lit × DataW H) → Nat
  | [] => 0
  | x :: r => uptoBulkEntry x + uptoBulkEntries r
def uptoBulkEntry {H : Type} : Lit × DataW H → Nat
  | (.string bytes, d) => bytes.length + uptoBulk d + 1
  | (_, d) => uptoBulk d + 1
 end
def uptoSmall : (H : Type) → List (DataW H) → Bool := fun _ ds => decide (uptoBulkAll ds ≤ 1048576)
def OpenSpec.upto (s : _root_.Go.ChangeSpec) : _root_.Go.OpenSpec := { _root_.Go.OpenSpec.ofChange s with cond := some uptoSmall }

/-- 'nightjarlaw17.RosterTells', WHERE WHAT IT READS IS OF BULK AT MOST 1048576: true; the input reads as it did. -/
def rosterTellsUptoRow : OpenClaim := { program := "ytfehhenbdiageaa", sum := "3d21c854b0bffcc3ea6d884016befd1bb34544fdaba2cfed4d6f6ae658ff56a1", func := "nightjar/nightjarlaw17.RosterTells", spec := "rosterTells", inPlace := ["slices.overlaps[nightjar/api.Rel]"], unfollowed := true, recurses := true, apart := false, narrowed := true }
def RosterTellsUptoSaid : Prop := rosterTellsUptoRow.holds Try.pinned (OpenSpec.upto rosterTellsSpec)

/-- 'nightjarlaw17.RosterRight', WHERE WHAT IT READS IS OF BULK AT MOST 1048576: true; the input reads as it did. -/
def rosterRightUptoRow : OpenClaim := { program := "ytfehhenbdiageaa", sum := "3d21c854b0bffcc3ea6d884016befd1bb34544fdaba2cfed4d6f6ae658ff56a1", func := "nightjar/nightjarlaw17.RosterRight", spec := "rosterRight", inPlace := ["slices.overlaps[nightjar/api.Rel]"], unfollowed := true, recurses := true, apart := false, narrowed := true }
def RosterRightUptoSaid : Prop := rosterRightUptoRow.holds Try.pinned (OpenSpec.upto rosterRightSpec)

/-- 'nightjarlaw17.RosterWatch', WHERE WHAT IT READS IS OF BULK AT MOST 1048576: true; the input reads as it did. -/
def rosterWatchUptoRow : OpenClaim := { program := "ytfehhenbdiageaa", sum := "3d21c854b0bffcc3ea6d884016befd1bb34544fdaba2cfed4d6f6ae658ff56a1", func := "nightjar/nightjarlaw17.RosterWatch", spec := "rosterWatch", inPlace := ["slices.overlaps[nightjar/api.Rel]"], unfollowed := true, recurses := true, apart := false, narrowed := true }
def RosterWatchUptoSaid : Prop := rosterWatchUptoRow.holds Try.pinned (OpenSpec.upto rosterWatchSpec)

/-- 'nightjarlaw17.RosterFulls', WHERE WHAT IT READS IS OF BULK AT MOST 1048576: true; the input reads as it did. -/
def rosterFullsUptoRow : OpenClaim := { program := "ytfehhenbdiageaa", sum := "3d21c854b0bffcc3ea6d884016befd1bb34544fdaba2cfed4d6f6ae658ff56a1", func := "nightjar/nightjarlaw17.RosterFulls", spec := "rosterFulls", inPlace := ["slices.overlaps[nightjar/api.Rel]"], unfollowed := true, recurses := true, apart := false, narrowed := true }
def RosterFullsUptoSaid : Prop := rosterFullsUptoRow.holds Try.pinned (OpenSpec.upto rosterFullsSpec)

/-- 'nightjarlaw17.RosterMeets', WHERE WHAT IT READS IS OF BULK AT MOST 1048576: true; the input reads as it did. -/
def rosterMeetsUptoRow : OpenClaim := { program := "ytfehhenbdiageaa", sum := "3d21c854b0bffcc3ea6d884016befd1bb34544fdaba2cfed4d6f6ae658ff56a1", func := "nightjar/nightjarlaw17.RosterMeets", spec := "rosterMeets", inPlace := ["slices.overlaps[nightjar/api.Rel]"], unfollowed := true, recurses := true, apart := false, narrowed := true }
def RosterMeetsUptoSaid : Prop := rosterMeetsUptoRow.holds Try.pinned (OpenSpec.upto rosterMeetsSpec)

/-- 'nightjarlaw17.RosterHides', WHERE WHAT IT READS IS OF BULK AT MOST 1048576: true; the input reads as it did. -/
def rosterHidesUptoRow : OpenClaim := { program := "ytfehhenbdiageaa", sum := "3d21c854b0bffcc3ea6d884016befd1bb34544fdaba2cfed4d6f6ae658ff56a1", func := "nightjar/nightjarlaw17.RosterHides", spec := "rosterHides", inPlace := ["slices.overlaps[nightjar/api.Rel]"], unfollowed := true, recurses := true, apart := false, narrowed := true }
def RosterHidesUptoSaid : Prop := rosterHidesUptoRow.holds Try.pinned (OpenSpec.upto rosterHidesSpec)

/-- 'nightjarlaw17.RosterArgs', WHERE WHAT IT READS IS OF BULK AT MOST 1048576: true; the input reads as it did. -/
def rosterArgsUptoRow : OpenClaim := { program := "ytfehhenbdiageaa", sum := "3d21c854b0bffcc3ea6d884016befd1bb34544fdaba2cfed4d6f6ae658ff56a1", func := "nightjar/nightjarlaw17.RosterArgs", spec := "rosterArgs", inPlace := ["slices.overlaps[nightjar/api.Rel]"], unfollowed := true, recurses := true, apart := false, narrowed := true }
def RosterArgsUptoSaid : Prop := rosterArgsUptoRow.holds Try.pinned (OpenSpec.upto rosterArgsSpec)

end Rows
end Go.Proofs.Ytfehhenbdiageaa
