/-
  No cell of these rows narrows 'for every input' (looked for: loops, veiled, ifaces, maps, wideKeys, modest, calm, conditions, laid).
  DERIVED. THE GIVEN ROWS OF THIS SEAT. 4 by the template 'for every input the law returns true; each argument reads behind the call as it read before'; 0 by the template 'total and deterministic' (their statements: YtpegfbdepgmbjaaTotals.lean).
  GIVEN WITH THE SEED: the statements are not yours to turn. If you find one false, say at which input.
  Laid BY PROGRAM, IN A SANDBOX (cutbox-rows.mjs): the forced cells as the released guide's own fill.sh prints them over the translation 0d90c3483103a5c0… (all of the seat's roots in one cut). By AI agents, Wed Nov 11 2026. No macro, syntax, notation, axiom, sorry.
-/
import Derived.Test.YtpegfbdepgmbjaaChecked
import GoSem.Claim
import GoSem.ClaimJoined
import GoSem.ClaimMapViews
import Derived.JoinedTies
import Derived.KernelRfl
namespace Go.Proofs.Ytpegfbdepgmbjaa
/- THE CELL 'sum', in the pinned program and in every row, IS THE sha256 OF THE DUMP (.gsa) THAT YtpegfbdepgmbjaaProg.lean LOADS. Nothing in Lean hashes anything: it is a label: what it is worth is what the hold of that sum in a sandbox is worth. -/
noncomputable def Try.pinned : Pinned := { name := "ytpegfbdepgmbjaa", sum := "0d90c3483103a5c0c09c9c7639368e9711539ba0509db51b03b79598a09b2772", checked := Try.checked }
namespace Rows
def none {H : Type} : Left H := { results := [], args := [] }

/-- 'nightjarlaw20.FanoutFair': WHATEVER THE INPUT: true; the input reads as it did. -/
def fanoutFairSpec : ChangeSpec := { name := "fanoutFair", fn := fun _ => fun
  | [d1, d2] => { results := [.lit (.bool true)], args := [d1, d2] }
  | _ => none }
def fanoutFairRow : OpenClaim := { program := "ytpegfbdepgmbjaa", sum := "0d90c3483103a5c0c09c9c7639368e9711539ba0509db51b03b79598a09b2772", func := "nightjar/nightjarlaw20.FanoutFair", spec := "fanoutFair", unfollowed := true, recurses := true, plainKeys := false, apart := false }
def FanoutFairSaid : Prop := fanoutFairRow.holds Try.pinned (OpenSpec.ofChange fanoutFairSpec)

/-- ITS FALSE NEIGHBOUR: 'it returns false'. Refute it at one input. -/
def fanoutFairWrong : ChangeSpec := { name := "fanoutFair", fn := fun _ => fun
  | [d1, d2] => { results := [.lit (.bool false)], args := [d1, d2] }
  | _ => none }
def FanoutFairWrongFalsely : Prop := fanoutFairRow.holds Try.pinned (OpenSpec.ofChange fanoutFairWrong)

/-- 'nightjarlaw20.FanoutMarks': WHATEVER THE INPUT: true; the input reads as it did. -/
def fanoutMarksSpec : ChangeSpec := { name := "fanoutMarks", fn := fun _ => fun
  | [d1, d2, d3] => { results := [.lit (.bool true)], args := [d1, d2, d3] }
  | _ => none }
def fanoutMarksRow : OpenClaim := { program := "ytpegfbdepgmbjaa", sum := "0d90c3483103a5c0c09c9c7639368e9711539ba0509db51b03b79598a09b2772", func := "nightjar/nightjarlaw20.FanoutMarks", spec := "fanoutMarks", unfollowed := true, recurses := true, plainKeys := false, apart := false }
def FanoutMarksSaid : Prop := fanoutMarksRow.holds Try.pinned (OpenSpec.ofChange fanoutMarksSpec)

/-- ITS FALSE NEIGHBOUR: 'it returns false'. Refute it at one input. -/
def fanoutMarksWrong : ChangeSpec := { name := "fanoutMarks", fn := fun _ => fun
  | [d1, d2, d3] => { results := [.lit (.bool false)], args := [d1, d2, d3] }
  | _ => none }
def FanoutMarksWrongFalsely : Prop := fanoutMarksRow.holds Try.pinned (OpenSpec.ofChange fanoutMarksWrong)

/-- 'nightjarlaw20.FanoutFirst': WHATEVER THE INPUT: true; the input reads as it did. -/
def fanoutFirstSpec : ChangeSpec := { name := "fanoutFirst", fn := fun _ => fun
  | [d1, d2] => { results := [.lit (.bool true)], args := [d1, d2] }
  | _ => none }
def fanoutFirstRow : OpenClaim := { program := "ytpegfbdepgmbjaa", sum := "0d90c3483103a5c0c09c9c7639368e9711539ba0509db51b03b79598a09b2772", func := "nightjar/nightjarlaw20.FanoutFirst", spec := "fanoutFirst", unfollowed := true, recurses := true, plainKeys := false, apart := false }
def FanoutFirstSaid : Prop := fanoutFirstRow.holds Try.pinned (OpenSpec.ofChange fanoutFirstSpec)

/-- ITS FALSE NEIGHBOUR: 'it returns false'. Refute it at one input. -/
def fanoutFirstWrong : ChangeSpec := { name := "fanoutFirst", fn := fun _ => fun
  | [d1, d2] => { results := [.lit (.bool false)], args := [d1, d2] }
  | _ => none }
def FanoutFirstWrongFalsely : Prop := fanoutFirstRow.holds Try.pinned (OpenSpec.ofChange fanoutFirstWrong)

/-- 'nightjarlaw20.FanoutWaits': WHATEVER THE INPUT: true; the input reads as it did. -/
def fanoutWaitsSpec : ChangeSpec := { name := "fanoutWaits", fn := fun _ => fun
  | [d1, d2, d3, d4] => { results := [.lit (.bool true)], args := [d1, d2, d3, d4] }
  | _ => none }
def fanoutWaitsRow : OpenClaim := { program := "ytpegfbdepgmbjaa", sum := "0d90c3483103a5c0c09c9c7639368e9711539ba0509db51b03b79598a09b2772", func := "nightjar/nightjarlaw20.FanoutWaits", spec := "fanoutWaits", unfollowed := true, recurses := true, plainKeys := false, apart := false }
def FanoutWaitsSaid : Prop := fanoutWaitsRow.holds Try.pinned (OpenSpec.ofChange fanoutWaitsSpec)

/-- ITS FALSE NEIGHBOUR: 'it returns false'. Refute it at one input. -/
def fanoutWaitsWrong : ChangeSpec := { name := "fanoutWaits", fn := fun _ => fun
  | [d1, d2, d3, d4] => { results := [.lit (.bool false)], args := [d1, d2, d3, d4] }
  | _ => none }
def FanoutWaitsWrongFalsely : Prop := fanoutWaitsRow.holds Try.pinned (OpenSpec.ofChange fanoutWaitsWrong)

/- THE SECOND FORM. 'bulk': how many values and letters a reading holds, each counted each time it is reached (what is shared counts as often as it is met; a slice's spare places count too). A statement '..UptoSaid' is the law's where the arguments, and the package variables that the reading takes, are together of bulk at most 1048576: NARROWER than '..Said'. Prove '..Said' where nothing that the law and all that it calls make is longer than what came in: it says more and counts as full. Else prove '..UptoSaid'. A law counts once. -/
mutual
def uptoBulk {H : Type} : DataW H → Nat
  | .lit (.string bytes) => bytes.length + 1
  | .lit _ => 1
  | .nil => 1
  | .ptr d => uptoBulk d + 1
  | .slice elems spare => uptoBulkAll elems + uptoBulkAll spare + 1
  | .agg parts => uptoBulkAll parts + 1
  | .iface _ d => uptoBulk d + 1
  | .map entries => uptoBulkEntries entries + 1
  | .held _ => 1
def uptoBulkAll {H : Type} : List (DataW H) → Nat
  | [] => 0
  | d :: r => uptoBulk d + uptoBulkAll r
def uptoBulkEntries {H : Type} : List (Lit × DataW H) → Nat
  | [] => 0
  | x :: r => uptoBulkEntry x + uptoBulkEntries r
def uptoBulkEntry {H : Type} : Lit × DataW H → Nat
  | (.string bytes, d) => bytes.length + uptoBulk d + 1
  | (_, d) => uptoBulk d + 1
 end
def uptoSmall : (H : Type) → List (DataW H) → Bool := fun _ ds => decide (uptoBulkAll ds ≤ 1048576)
def OpenSpec.upto (s : _root_.Go.ChangeSpec) : _root_.Go.OpenSpec := { _root_.Go.OpenSpec.ofChange s with cond := some uptoSmall }

/-- 'nightjarlaw20.FanoutFair', WHERE WHAT IT READS IS OF BULK AT MOST 1048576: true; the input reads as it did. -/
def fanoutFairUptoRow : OpenClaim := { program := "ytpegfbdepgmbjaa", sum := "0d90c3483103a5c0c09c9c7639368e9711539ba0509db51b03b79598a09b2772", func := "nightjar/nightjarlaw20.FanoutFair", spec := "fanoutFair", unfollowed := true, recurses := true, plainKeys := false, apart := false, narrowed := true }
def FanoutFairUptoSaid : Prop := fanoutFairUptoRow.holds Try.pinned (OpenSpec.upto fanoutFairSpec)

/-- 'nightjarlaw20.FanoutMarks', WHERE WHAT IT READS IS OF BULK AT MOST 1048576: true; the input reads as it did. -/
def fanoutMarksUptoRow : OpenClaim := { program := "ytpegfbdepgmbjaa", sum := "0d90c3483103a5c0c09c9c7639368e9711539ba0509db51b03b79598a09b2772", func := "nightjar/nightjarlaw20.FanoutMarks", spec := "fanoutMarks", unfollowed := true, recurses := true, plainKeys := false, apart := false, narrowed := true }
def FanoutMarksUptoSaid : Prop := fanoutMarksUptoRow.holds Try.pinned (OpenSpec.upto fanoutMarksSpec)

/-- 'nightjarlaw20.FanoutFirst', WHERE WHAT IT READS IS OF BULK AT MOST 1048576: true; the input reads as it did. -/
def fanoutFirstUptoRow : OpenClaim := { program := "ytpegfbdepgmbjaa", sum := "0d90c3483103a5c0c09c9c7639368e9711539ba0509db51b03b79598a09b2772", func := "nightjar/nightjarlaw20.FanoutFirst", spec := "fanoutFirst", unfollowed := true, recurses := true, plainKeys := false, apart := false, narrowed := true }
def FanoutFirstUptoSaid : Prop := fanoutFirstUptoRow.holds Try.pinned (OpenSpec.upto fanoutFirstSpec)

/-- 'nightjarlaw20.FanoutWaits', WHERE WHAT IT READS IS OF BULK AT MOST 1048576: true; the input reads as it did. -/
def fanoutWaitsUptoRow : OpenClaim := { program := "ytpegfbdepgmbjaa", sum := "0d90c3483103a5c0c09c9c7639368e9711539ba0509db51b03b79598a09b2772", func := "nightjar/nightjarlaw20.FanoutWaits", spec := "fanoutWaits", unfollowed := true, recurses := true, plainKeys := false, apart := false, narrowed := true }
def FanoutWaitsUptoSaid : Prop := fanoutWaitsUptoRow.holds Try.pinned (OpenSpec.upto fanoutWaitsSpec)

end Rows
end Go.Proofs.Ytpegfbdepgmbjaa
