/-
  No cell of these rows narrows 'for every input' (looked for: loops, veiled, ifaces, maps, wideKeys, modest, calm, conditions, laid).
  DERIVED. THE GIVEN ROWS OF THIS SEAT. 8 by the template 'for every input the law returns true; each argument reads behind the call as it read before'; 0 by the template 'total and deterministic' (their statements: YtbnmpoonkjlkjaaGreatTotals.lean).
  GIVEN WITH THE SEED: the statements are not yours to turn. If you find one false, say at which input.
  Laid BY PROGRAM, IN A SANDBOX (cutbox-rows.mjs): the forced cells as the released guide's own fill.sh prints them over the translation 8a680289b0960a9b… (all of the seat's roots in one cut). By AI agents, Wed Nov 11 2026. No macro, syntax, notation, axiom, sorry.
-/
import Derived.Test.YtbnmpoonkjlkjaaGreatChecked
import GoSem.Claim
import GoSem.ClaimJoined
import GoSem.ClaimMapViews
import Derived.JoinedTies
import Derived.KernelRfl
namespace Go.Proofs.YtbnmpoonkjlkjaaGreat
/- THE CELL 'sum', in the pinned program and in every row, IS THE sha256 OF THE DUMP (.gsa) THAT YtbnmpoonkjlkjaaGreatProg.lean LOADS. Nothing in Lean hashes anything: it is a label: what it is worth is what the hold of that sum in a sandbox is worth. -/
noncomputable def Tryz.pinned : Pinned := { name := "ytbnmpoonkjlkjaagreat", sum := "8a680289b0960a9b263d48bd2e7083f0ab8ab931b22badce9f3438a0454288ae", checked := Tryz.checked }
namespace Rows
def none {H : Type} : Left H := { results := [], args := [] }

/-- 'nightjarlaw22.ClientTells': WHATEVER THE INPUT: true; the input reads as it did. -/
def clientTellsSpec : ChangeSpec := { name := "clientTells", fn := fun _ => fun
  | [d1, d2] => { results := [.lit (.bool true)], args := [d1, d2] }
  | _ => none }
def clientTellsRow : OpenClaim := { program := "ytbnmpoonkjlkjaagreat", sum := "8a680289b0960a9b263d48bd2e7083f0ab8ab931b22badce9f3438a0454288ae", func := "nightjar/nightjarlaw22.ClientTells", spec := "clientTells", unfollowed := true, recurses := true, apart := false }
def ClientTellsSaid : Prop := clientTellsRow.holds Tryz.pinned (OpenSpec.ofChange clientTellsSpec)

/-- ITS FALSE NEIGHBOUR: 'it returns false'. Refute it at one input. -/
def clientTellsWrong : ChangeSpec := { name := "clientTells", fn := fun _ => fun
  | [d1, d2] => { results := [.lit (.bool false)], args := [d1, d2] }
  | _ => none }
def ClientTellsWrongFalsely : Prop := clientTellsRow.holds Tryz.pinned (OpenSpec.ofChange clientTellsWrong)

/-- 'nightjarlaw22.ClientViews': WHATEVER THE INPUT: true; the input reads as it did. -/
def clientViewsSpec : ChangeSpec := { name := "clientViews", fn := fun _ => fun
  | [d1, d2] => { results := [.lit (.bool true)], args := [d1, d2] }
  | _ => none }
def clientViewsRow : OpenClaim := { program := "ytbnmpoonkjlkjaagreat", sum := "8a680289b0960a9b263d48bd2e7083f0ab8ab931b22badce9f3438a0454288ae", func := "nightjar/nightjarlaw22.ClientViews", spec := "clientViews", unfollowed := true, recurses := true, apart := false }
def ClientViewsSaid : Prop := clientViewsRow.holds Tryz.pinned (OpenSpec.ofChange clientViewsSpec)

/-- ITS FALSE NEIGHBOUR: 'it returns false'. Refute it at one input. -/
def clientViewsWrong : ChangeSpec := { name := "clientViews", fn := fun _ => fun
  | [d1, d2] => { results := [.lit (.bool false)], args := [d1, d2] }
  | _ => none }
def ClientViewsWrongFalsely : Prop := clientViewsRow.holds Tryz.pinned (OpenSpec.ofChange clientViewsWrong)

/-- 'nightjarlaw22.ClientOrders': WHATEVER THE INPUT: true; the input reads as it did. -/
def clientOrdersSpec : ChangeSpec := { name := "clientOrders", fn := fun _ => fun
  | [d1, d2] => { results := [.lit (.bool true)], args := [d1, d2] }
  | _ => none }
def clientOrdersRow : OpenClaim := { program := "ytbnmpoonkjlkjaagreat", sum := "8a680289b0960a9b263d48bd2e7083f0ab8ab931b22badce9f3438a0454288ae", func := "nightjar/nightjarlaw22.ClientOrders", spec := "clientOrders", unfollowed := true, recurses := true, apart := false }
def ClientOrdersSaid : Prop := clientOrdersRow.holds Tryz.pinned (OpenSpec.ofChange clientOrdersSpec)

/-- ITS FALSE NEIGHBOUR: 'it returns false'. Refute it at one input. -/
def clientOrdersWrong : ChangeSpec := { name := "clientOrders", fn := fun _ => fun
  | [d1, d2] => { results := [.lit (.bool false)], args := [d1, d2] }
  | _ => none }
def ClientOrdersWrongFalsely : Prop := clientOrdersRow.holds Tryz.pinned (OpenSpec.ofChange clientOrdersWrong)

/-- 'nightjarlaw22.ClientGreets': WHATEVER THE INPUT: true; the input reads as it did. -/
def clientGreetsSpec : ChangeSpec := { name := "clientGreets", fn := fun _ => fun
  | [d1, d2, d3] => { results := [.lit (.bool true)], args := [d1, d2, d3] }
  | _ => none }
def clientGreetsRow : OpenClaim := { program := "ytbnmpoonkjlkjaagreat", sum := "8a680289b0960a9b263d48bd2e7083f0ab8ab931b22badce9f3438a0454288ae", func := "nightjar/nightjarlaw22.ClientGreets", spec := "clientGreets", unfollowed := true, recurses := true, apart := false }
def ClientGreetsSaid : Prop := clientGreetsRow.holds Tryz.pinned (OpenSpec.ofChange clientGreetsSpec)

/-- ITS FALSE NEIGHBOUR: 'it returns false'. Refute it at one input. -/
def clientGreetsWrong : ChangeSpec := { name := "clientGreets", fn := fun _ => fun
  | [d1, d2, d3] => { results := [.lit (.bool false)], args := [d1, d2, d3] }
  | _ => none }
def ClientGreetsWrongFalsely : Prop := clientGreetsRow.holds Tryz.pinned (OpenSpec.ofChange clientGreetsWrong)

/-- 'nightjarlaw22.ClientBeats': WHATEVER THE INPUT: true; the input reads as it did. -/
def clientBeatsSpec : ChangeSpec := { name := "clientBeats", fn := fun _ => fun
  | [d1, d2, d3, d4, d5] => { results := [.lit (.bool true)], args := [d1, d2, d3, d4, d5] }
  | _ => none }
def clientBeatsRow : OpenClaim := { program := "ytbnmpoonkjlkjaagreat", sum := "8a680289b0960a9b263d48bd2e7083f0ab8ab931b22badce9f3438a0454288ae", func := "nightjar/nightjarlaw22.ClientBeats", spec := "clientBeats", unfollowed := true, recurses := true, apart := false }
def ClientBeatsSaid : Prop := clientBeatsRow.holds Tryz.pinned (OpenSpec.ofChange clientBeatsSpec)

/-- ITS FALSE NEIGHBOUR: 'it returns false'. Refute it at one input. -/
def clientBeatsWrong : ChangeSpec := { name := "clientBeats", fn := fun _ => fun
  | [d1, d2, d3, d4, d5] => { results := [.lit (.bool false)], args := [d1, d2, d3, d4, d5] }
  | _ => none }
def ClientBeatsWrongFalsely : Prop := clientBeatsRow.holds Tryz.pinned (OpenSpec.ofChange clientBeatsWrong)

/-- 'nightjarlaw22.ClientShut': WHATEVER THE INPUT: true; the input reads as it did. -/
def clientShutSpec : ChangeSpec := { name := "clientShut", fn := fun _ => fun
  | [d1, d2, d3] => { results := [.lit (.bool true)], args := [d1, d2, d3] }
  | _ => none }
def clientShutRow : OpenClaim := { program := "ytbnmpoonkjlkjaagreat", sum := "8a680289b0960a9b263d48bd2e7083f0ab8ab931b22badce9f3438a0454288ae", func := "nightjar/nightjarlaw22.ClientShut", spec := "clientShut", unfollowed := true, recurses := true, apart := false }
def ClientShutSaid : Prop := clientShutRow.holds Tryz.pinned (OpenSpec.ofChange clientShutSpec)

/-- ITS FALSE NEIGHBOUR: 'it returns false'. Refute it at one input. -/
def clientShutWrong : ChangeSpec := { name := "clientShut", fn := fun _ => fun
  | [d1, d2, d3] => { results := [.lit (.bool false)], args := [d1, d2, d3] }
  | _ => none }
def ClientShutWrongFalsely : Prop := clientShutRow.holds Tryz.pinned (OpenSpec.ofChange clientShutWrong)

/-- 'nightjarlaw22.ClientJoins': WHATEVER THE INPUT: true; the input reads as it did. -/
def clientJoinsSpec : ChangeSpec := { name := "clientJoins", fn := fun _ => fun
  | [d1, d2, d3, d4, d5] => { results := [.lit (.bool true)], args := [d1, d2, d3, d4, d5] }
  | _ => none }
def clientJoinsRow : OpenClaim := { program := "ytbnmpoonkjlkjaagreat", sum := "8a680289b0960a9b263d48bd2e7083f0ab8ab931b22badce9f3438a0454288ae", func := "nightjar/nightjarlaw22.ClientJoins", spec := "clientJoins", unfollowed := true, recurses := true, apart := false }
def ClientJoinsSaid : Prop := clientJoinsRow.holds Tryz.pinned (OpenSpec.ofChange clientJoinsSpec)

/-- ITS FALSE NEIGHBOUR: 'it returns false'. Refute it at one input. -/
def clientJoinsWrong : ChangeSpec := { name := "clientJoins", fn := fun _ => fun
  | [d1, d2, d3, d4, d5] => { results := [.lit (.bool false)], args := [d1, d2, d3, d4, d5] }
  | _ => none }
def ClientJoinsWrongFalsely : Prop := clientJoinsRow.holds Tryz.pinned (OpenSpec.ofChange clientJoinsWrong)

/-- 'nightjarlaw22.ClientAcks': WHATEVER THE INPUT: true; the input reads as it did. -/
def clientAcksSpec : ChangeSpec := { name := "clientAcks", fn := fun _ => fun
  | [d1, d2, d3] => { results := [.lit (.bool true)], args := [d1, d2, d3] }
  | _ => none }
def clientAcksRow : OpenClaim := { program := "ytbnmpoonkjlkjaagreat", sum := "8a680289b0960a9b263d48bd2e7083f0ab8ab931b22badce9f3438a0454288ae", func := "nightjar/nightjarlaw22.ClientAcks", spec := "clientAcks", unfollowed := true, recurses := true, apart := false }
def ClientAcksSaid : Prop := clientAcksRow.holds Tryz.pinned (OpenSpec.ofChange clientAcksSpec)

/-- ITS FALSE NEIGHBOUR: 'it returns false'. Refute it at one input. -/
def clientAcksWrong : ChangeSpec := { name := "clientAcks", fn := fun _ => fun
  | [d1, d2, d3] => { results := [.lit (.bool false)], args := [d1, d2, d3] }
  | _ => none }
def ClientAcksWrongFalsely : Prop := clientAcksRow.holds Tryz.pinned (OpenSpec.ofChange clientAcksWrong)

/- THE SECOND FORM. 'bulk': how many values and letters a reading holds, each counted each time it is reached (what is shared counts as often as it is met; a slice's spare places count too). A statement '..UptoSaid' is the law's where the arguments, and the package variables that the reading takes, are together of bulk at most 1048576: NARROWER than '..Said'. Prove '..Said' where nothing that the law and all that it calls make is longer than what came in: it says more and counts as full. Else prove '..UptoSaid'. A law counts once. -/
mutual
def uptoBulk {H : Type} : DataW H → Nat
  | .lit (.string bytes) => bytes.length + 1
  | .lit _ => 1
  | .nil => 1
  | .ptr d => uptoBulk d + 1
  | .slice elems spare => uptoBulkAll elems + uptoBulkAll spare + 1
  | .agg parts => uptoBulkAll parts + 1
  | .iface _ d => uptoBulk d + 1
  | .map entries => uptoBulkEntries entries + 1
  | .held _ => 1
def uptoBulkAll {H : Type} : List (DataW H) → Nat
  | [] => 0
  | d :: r => uptoBulk d + uptoBulkAll r
def uptoBulkEntries {H : Type} : List (Lit × DataW H) → Nat
  | [] => 0
  | x :: r => uptoBulkEntry x + uptoBulkEntries r
def uptoBulkEntry {H : Type} : Lit × DataW H → Nat
  | (.string bytes, d) => bytes.length + uptoBulk d + 1
  | (_, d) => uptoBulk d + 1
 end
def uptoSmall : (H : Type) → List (DataW H) → Bool := fun _ ds => decide (uptoBulkAll ds ≤ 1048576)
def OpenSpec.upto (s : _root_.Go.ChangeSpec) : _root_.Go.OpenSpec := { _root_.Go.OpenSpec.ofChange s with cond := some uptoSmall }

/-- 'nightjarlaw22.ClientTells', WHERE WHAT IT READS IS OF BULK AT MOST 1048576: true; the input reads as it did. -/
def clientTellsUptoRow : OpenClaim := { program := "ytbnmpoonkjlkjaagreat", sum := "8a680289b0960a9b263d48bd2e7083f0ab8ab931b22badce9f3438a0454288ae", func := "nightjar/nightjarlaw22.ClientTells", spec := "clientTells", unfollowed := true, recurses := true, apart := false, narrowed := true }
def ClientTellsUptoSaid : Prop := clientTellsUptoRow.holds Tryz.pinned (OpenSpec.upto clientTellsSpec)

/-- 'nightjarlaw22.ClientViews', WHERE WHAT IT READS IS OF BULK AT MOST 1048576: true; the input reads as it did. -/
def clientViewsUptoRow : OpenClaim := { program := "ytbnmpoonkjlkjaagreat", sum := "8a680289b0960a9b263d48bd2e7083f0ab8ab931b22badce9f3438a0454288ae", func := "nightjar/nightjarlaw22.ClientViews", spec := "clientViews", unfollowed := true, recurses := true, apart := false, narrowed := true }
def ClientViewsUptoSaid : Prop := clientViewsUptoRow.holds Tryz.pinned (OpenSpec.upto clientViewsSpec)

/-- 'nightjarlaw22.ClientOrders', WHERE WHAT IT READS IS OF BULK AT MOST 1048576: true; the input reads as it did. -/
def clientOrdersUptoRow : OpenClaim := { program := "ytbnmpoonkjlkjaagreat", sum := "8a680289b0960a9b263d48bd2e7083f0ab8ab931b22badce9f3438a0454288ae", func := "nightjar/nightjarlaw22.ClientOrders", spec := "clientOrders", unfollowed := true, recurses := true, apart := false, narrowed := true }
def ClientOrdersUptoSaid : Prop := clientOrdersUptoRow.holds Tryz.pinned (OpenSpec.upto clientOrdersSpec)

/-- 'nightjarlaw22.ClientGreets', WHERE WHAT IT READS IS OF BULK AT MOST 1048576: true; the input reads as it did. -/
def clientGreetsUptoRow : OpenClaim := { program := "ytbnmpoonkjlkjaagreat", sum := "8a680289b0960a9b263d48bd2e7083f0ab8ab931b22badce9f3438a0454288ae", func := "nightjar/nightjarlaw22.ClientGreets", spec := "clientGreets", unfollowed := true, recurses := true, apart := false, narrowed := true }
def ClientGreetsUptoSaid : Prop := clientGreetsUptoRow.holds Tryz.pinned (OpenSpec.upto clientGreetsSpec)

/-- 'nightjarlaw22.ClientBeats', WHERE WHAT IT READS IS OF BULK AT MOST 1048576: true; the input reads as it did. -/
def clientBeatsUptoRow : OpenClaim := { program := "ytbnmpoonkjlkjaagreat", sum := "8a680289b0960a9b263d48bd2e7083f0ab8ab931b22badce9f3438a0454288ae", func := "nightjar/nightjarlaw22.ClientBeats", spec := "clientBeats", unfollowed := true, recurses := true, apart := false, narrowed := true }
def ClientBeatsUptoSaid : Prop := clientBeatsUptoRow.holds Tryz.pinned (OpenSpec.upto clientBeatsSpec)

/-- 'nightjarlaw22.ClientShut', WHERE WHAT IT READS IS OF BULK AT MOST 1048576: true; the input reads as it did. -/
def clientShutUptoRow : OpenClaim := { program := "ytbnmpoonkjlkjaagreat", sum := "8a680289b0960a9b263d48bd2e7083f0ab8ab931b22badce9f3438a0454288ae", func := "nightjar/nightjarlaw22.ClientShut", spec := "clientShut", unfollowed := true, recurses := true, apart := false, narrowed := true }
def ClientShutUptoSaid : Prop := clientShutUptoRow.holds Tryz.pinned (OpenSpec.upto clientShutSpec)

/-- 'nightjarlaw22.ClientJoins', WHERE WHAT IT READS IS OF BULK AT MOST 1048576: true; the input reads as it did. -/
def clientJoinsUptoRow : OpenClaim := { program := "ytbnmpoonkjlkjaagreat", sum := "8a680289b0960a9b263d48bd2e7083f0ab8ab931b22badce9f3438a0454288ae", func := "nightjar/nightjarlaw22.ClientJoins", spec := "clientJoins", unfollowed := true, recurses := true, apart := false, narrowed := true }
def ClientJoinsUptoSaid : Prop := clientJoinsUptoRow.holds Tryz.pinned (OpenSpec.upto clientJoinsSpec)

/-- 'nightjarlaw22.ClientAcks', WHERE WHAT IT READS IS OF BULK AT MOST 1048576: true; the input reads as it did. -/
def clientAcksUptoRow : OpenClaim := { program := "ytbnmpoonkjlkjaagreat", sum := "8a680289b0960a9b263d48bd2e7083f0ab8ab931b22badce9f3438a0454288ae", func := "nightjar/nightjarlaw22.ClientAcks", spec := "clientAcks", unfollowed := true, recurses := true, apart := false, narrowed := true }
def ClientAcksUptoSaid : Prop := clientAcksUptoRow.holds Tryz.pinned (OpenSpec.upto clientAcksSpec)

end Rows
end Go.Proofs.YtbnmpoonkjlkjaaGreat
