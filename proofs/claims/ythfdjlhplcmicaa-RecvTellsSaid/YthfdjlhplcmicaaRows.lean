/-
  No cell of these rows narrows 'for every input' (looked for: loops, veiled, ifaces, maps, wideKeys, modest, calm, conditions, laid).
  DERIVED. THE GIVEN ROWS OF THIS SEAT. 6 by the template 'for every input the law returns true; each argument reads behind the call as it read before'; 0 by the template 'total and deterministic' (their statements: YthfdjlhplcmicaaTotals.lean).
  GIVEN WITH THE SEED: the statements are not yours to turn. If you find one false, say at which input.
  Laid BY PROGRAM, IN A SANDBOX (cutbox-rows.mjs): the forced cells as the released guide's own fill.sh prints them over the translation 7088a4c39e2109ff… (all of the seat's roots in one cut). By AI agents, Wed Nov 11 2026. No macro, syntax, notation, axiom, sorry.
-/
import Derived.Test.YthfdjlhplcmicaaChecked
import GoSem.Claim
import GoSem.ClaimJoined
import GoSem.ClaimMapViews
import Derived.JoinedTies
import Derived.KernelRfl
namespace Go.Proofs.Ythfdjlhplcmicaa
/- THE CELL 'sum', in the pinned program and in every row, IS THE sha256 OF THE DUMP (.gsa) THAT YthfdjlhplcmicaaProg.lean LOADS. Nothing in Lean hashes anything: it is a label: what it is worth is what the hold of that sum in a sandbox is worth. -/
noncomputable def Try.pinned : Pinned := { name := "ythfdjlhplcmicaa", sum := "7088a4c39e2109ff4719c76132c5a33fc4681037e1111575c773fd97689a56c8", checked := Try.checked }
namespace Rows
def none {H : Type} : Left H := { results := [], args := [] }

/-- 'nightjarlaw10.RecvTells': WHATEVER THE INPUT: true; the input reads as it did. -/
def recvTellsSpec : ChangeSpec := { name := "recvTells", fn := fun _ => fun
  | [d1, d2, d3] => { results := [.lit (.bool true)], args := [d1, d2, d3] }
  | _ => none }
def recvTellsRow : OpenClaim := { program := "ythfdjlhplcmicaa", sum := "7088a4c39e2109ff4719c76132c5a33fc4681037e1111575c773fd97689a56c8", func := "nightjar/nightjarlaw10.RecvTells", spec := "recvTells", unfollowed := true, recurses := true, apart := false }
def RecvTellsSaid : Prop := recvTellsRow.holds Try.pinned (OpenSpec.ofChange recvTellsSpec)

/-- ITS FALSE NEIGHBOUR: 'it returns false'. Refute it at one input. -/
def recvTellsWrong : ChangeSpec := { name := "recvTells", fn := fun _ => fun
  | [d1, d2, d3] => { results := [.lit (.bool false)], args := [d1, d2, d3] }
  | _ => none }
def RecvTellsWrongFalsely : Prop := recvTellsRow.holds Try.pinned (OpenSpec.ofChange recvTellsWrong)

/-- 'nightjarlaw10.RecvAcks': WHATEVER THE INPUT: true; the input reads as it did. -/
def recvAcksSpec : ChangeSpec := { name := "recvAcks", fn := fun _ => fun
  | [d1, d2] => { results := [.lit (.bool true)], args := [d1, d2] }
  | _ => none }
def recvAcksRow : OpenClaim := { program := "ythfdjlhplcmicaa", sum := "7088a4c39e2109ff4719c76132c5a33fc4681037e1111575c773fd97689a56c8", func := "nightjar/nightjarlaw10.RecvAcks", spec := "recvAcks", unfollowed := true, recurses := true, apart := false }
def RecvAcksSaid : Prop := recvAcksRow.holds Try.pinned (OpenSpec.ofChange recvAcksSpec)

/-- ITS FALSE NEIGHBOUR: 'it returns false'. Refute it at one input. -/
def recvAcksWrong : ChangeSpec := { name := "recvAcks", fn := fun _ => fun
  | [d1, d2] => { results := [.lit (.bool false)], args := [d1, d2] }
  | _ => none }
def RecvAcksWrongFalsely : Prop := recvAcksRow.holds Try.pinned (OpenSpec.ofChange recvAcksWrong)

/-- 'nightjarlaw10.RecvShut': WHATEVER THE INPUT: true; the input reads as it did. -/
def recvShutSpec : ChangeSpec := { name := "recvShut", fn := fun _ => fun
  | [d1, d2] => { results := [.lit (.bool true)], args := [d1, d2] }
  | _ => none }
def recvShutRow : OpenClaim := { program := "ythfdjlhplcmicaa", sum := "7088a4c39e2109ff4719c76132c5a33fc4681037e1111575c773fd97689a56c8", func := "nightjar/nightjarlaw10.RecvShut", spec := "recvShut", unfollowed := true, recurses := true, apart := false }
def RecvShutSaid : Prop := recvShutRow.holds Try.pinned (OpenSpec.ofChange recvShutSpec)

/-- ITS FALSE NEIGHBOUR: 'it returns false'. Refute it at one input. -/
def recvShutWrong : ChangeSpec := { name := "recvShut", fn := fun _ => fun
  | [d1, d2] => { results := [.lit (.bool false)], args := [d1, d2] }
  | _ => none }
def RecvShutWrongFalsely : Prop := recvShutRow.holds Try.pinned (OpenSpec.ofChange recvShutWrong)

/-- 'nightjarlaw10.RecvCounts': WHATEVER THE INPUT: true; the input reads as it did. -/
def recvCountsSpec : ChangeSpec := { name := "recvCounts", fn := fun _ => fun
  | [d1, d2] => { results := [.lit (.bool true)], args := [d1, d2] }
  | _ => none }
def recvCountsRow : OpenClaim := { program := "ythfdjlhplcmicaa", sum := "7088a4c39e2109ff4719c76132c5a33fc4681037e1111575c773fd97689a56c8", func := "nightjar/nightjarlaw10.RecvCounts", spec := "recvCounts", unfollowed := true, recurses := true, apart := false }
def RecvCountsSaid : Prop := recvCountsRow.holds Try.pinned (OpenSpec.ofChange recvCountsSpec)

/-- ITS FALSE NEIGHBOUR: 'it returns false'. Refute it at one input. -/
def recvCountsWrong : ChangeSpec := { name := "recvCounts", fn := fun _ => fun
  | [d1, d2] => { results := [.lit (.bool false)], args := [d1, d2] }
  | _ => none }
def RecvCountsWrongFalsely : Prop := recvCountsRow.holds Try.pinned (OpenSpec.ofChange recvCountsWrong)

/-- 'nightjarlaw10.RecvSwap': WHATEVER THE INPUT: true; the input reads as it did. -/
def recvSwapSpec : ChangeSpec := { name := "recvSwap", fn := fun _ => fun
  | [d1, d2, d3] => { results := [.lit (.bool true)], args := [d1, d2, d3] }
  | _ => none }
def recvSwapRow : OpenClaim := { program := "ythfdjlhplcmicaa", sum := "7088a4c39e2109ff4719c76132c5a33fc4681037e1111575c773fd97689a56c8", func := "nightjar/nightjarlaw10.RecvSwap", spec := "recvSwap", unfollowed := true, recurses := true, apart := false }
def RecvSwapSaid : Prop := recvSwapRow.holds Try.pinned (OpenSpec.ofChange recvSwapSpec)

/-- ITS FALSE NEIGHBOUR: 'it returns false'. Refute it at one input. -/
def recvSwapWrong : ChangeSpec := { name := "recvSwap", fn := fun _ => fun
  | [d1, d2, d3] => { results := [.lit (.bool false)], args := [d1, d2, d3] }
  | _ => none }
def RecvSwapWrongFalsely : Prop := recvSwapRow.holds Try.pinned (OpenSpec.ofChange recvSwapWrong)

/-- 'nightjarlaw10.RecvFills': WHATEVER THE INPUT: true; the input reads as it did. -/
def recvFillsSpec : ChangeSpec := { name := "recvFills", fn := fun _ => fun
  | [d1, d2] => { results := [.lit (.bool true)], args := [d1, d2] }
  | _ => none }
def recvFillsRow : OpenClaim := { program := "ythfdjlhplcmicaa", sum := "7088a4c39e2109ff4719c76132c5a33fc4681037e1111575c773fd97689a56c8", func := "nightjar/nightjarlaw10.RecvFills", spec := "recvFills", unfollowed := true, recurses := true, apart := false }
def RecvFillsSaid : Prop := recvFillsRow.holds Try.pinned (OpenSpec.ofChange recvFillsSpec)

/-- ITS FALSE NEIGHBOUR: 'it returns false'. Refute it at one input. -/
def recvFillsWrong : ChangeSpec := { name := "recvFills", fn := fun _ => fun
  | [d1, d2] => { results := [.lit (.bool false)], args := [d1, d2] }
  | _ => none }
def RecvFillsWrongFalsely : Prop := recvFillsRow.holds Try.pinned (OpenSpec.ofChange recvFillsWrong)

/- THE SECOND FORM. 'bulk': how many values and letters a reading holds, each counted each time it is reached (what is shared counts as often as it is met; a slice's spare places count too). A statement '..UptoSaid' is the law's where the arguments, and the package variables that the reading takes, are together of bulk at most 1048576: NARROWER than '..Said'. Prove '..Said' where nothing that the law and all that it calls make is longer than what came in: it says more and counts as full. Else prove '..UptoSaid'. A law counts once. -/
mutual
def uptoBulk {H : Type} : DataW H → Nat
  | .lit (.string bytes) => bytes.length + 1
  | .lit _ => 1
  | .nil => 1
  | .ptr d => uptoBulk d + 1
  | .slice elems spare => uptoBulkAll elems + uptoBulkAll spare + 1
  | .agg parts => uptoBulkAll parts + 1
  | .iface _ d => uptoBulk d + 1
  | .map entries => uptoBulkEntries entries + 1
  | .held _ => 1
def uptoBulkAll {H : Type} : List (DataW H) → Nat
  | [] => 0
  | d :: r => uptoBulk d + uptoBulkAll r
def uptoBulkEntries {H : Type} : List (Lit × DataW H) → Nat
  | [] => 0
  | x :: r => uptoBulkEntry x + uptoBulkEntries r
def uptoBulkEntry {H : Type} : Lit × DataW H → Nat
  | (.string bytes, d) => bytes.length + uptoBulk d + 1
  | (_, d) => uptoBulk d + 1
 end
def uptoSmall : (H : Type) → List (DataW H) → Bool := fun _ ds => decide (uptoBulkAll ds ≤ 1048576)
def OpenSpec.upto (s : _root_.Go.ChangeSpec) : _root_.Go.OpenSpec := { _root_.Go.OpenSpec.ofChange s with cond := some uptoSmall }

/-- 'nightjarlaw10.RecvTells', WHERE WHAT IT READS IS OF BULK AT MOST 1048576: true; the input reads as it did. -/
def recvTellsUptoRow : OpenClaim := { program := "ythfdjlhplcmicaa", sum := "7088a4c39e2109ff4719c76132c5a33fc4681037e1111575c773fd97689a56c8", func := "nightjar/nightjarlaw10.RecvTells", spec := "recvTells", unfollowed := true, recurses := true, apart := false, narrowed := true }
def RecvTellsUptoSaid : Prop := recvTellsUptoRow.holds Try.pinned (OpenSpec.upto recvTellsSpec)

/-- 'nightjarlaw10.RecvAcks', WHERE WHAT IT READS IS OF BULK AT MOST 1048576: true; the input reads as it did. -/
def recvAcksUptoRow : OpenClaim := { program := "ythfdjlhplcmicaa", sum := "7088a4c39e2109ff4719c76132c5a33fc4681037e1111575c773fd97689a56c8", func := "nightjar/nightjarlaw10.RecvAcks", spec := "recvAcks", unfollowed := true, recurses := true, apart := false, narrowed := true }
def RecvAcksUptoSaid : Prop := recvAcksUptoRow.holds Try.pinned (OpenSpec.upto recvAcksSpec)

/-- 'nightjarlaw10.RecvShut', WHERE WHAT IT READS IS OF BULK AT MOST 1048576: true; the input reads as it did. -/
def recvShutUptoRow : OpenClaim := { program := "ythfdjlhplcmicaa", sum := "7088a4c39e2109ff4719c76132c5a33fc4681037e1111575c773fd97689a56c8", func := "nightjar/nightjarlaw10.RecvShut", spec := "recvShut", unfollowed := true, recurses := true, apart := false, narrowed := true }
def RecvShutUptoSaid : Prop := recvShutUptoRow.holds Try.pinned (OpenSpec.upto recvShutSpec)

/-- 'nightjarlaw10.RecvCounts', WHERE WHAT IT READS IS OF BULK AT MOST 1048576: true; the input reads as it did. -/
def recvCountsUptoRow : OpenClaim := { program := "ythfdjlhplcmicaa", sum := "7088a4c39e2109ff4719c76132c5a33fc4681037e1111575c773fd97689a56c8", func := "nightjar/nightjarlaw10.RecvCounts", spec := "recvCounts", unfollowed := true, recurses := true, apart := false, narrowed := true }
def RecvCountsUptoSaid : Prop := recvCountsUptoRow.holds Try.pinned (OpenSpec.upto recvCountsSpec)

/-- 'nightjarlaw10.RecvSwap', WHERE WHAT IT READS IS OF BULK AT MOST 1048576: true; the input reads as it did. -/
def recvSwapUptoRow : OpenClaim := { program := "ythfdjlhplcmicaa", sum := "7088a4c39e2109ff4719c76132c5a33fc4681037e1111575c773fd97689a56c8", func := "nightjar/nightjarlaw10.RecvSwap", spec := "recvSwap", unfollowed := true, recurses := true, apart := false, narrowed := true }
def RecvSwapUptoSaid : Prop := recvSwapUptoRow.holds Try.pinned (OpenSpec.upto recvSwapSpec)

/-- 'nightjarlaw10.RecvFills', WHERE WHAT IT READS IS OF BULK AT MOST 1048576: true; the input reads as it did. -/
def recvFillsUptoRow : OpenClaim := { program := "ythfdjlhplcmicaa", sum := "7088a4c39e2109ff4719c76132c5a33fc4681037e1111575c773fd97689a56c8", func := "nightjar/nightjarlaw10.RecvFills", spec := "recvFills", unfollowed := true, recurses := true, apart := false, narrowed := true }
def RecvFillsUptoSaid : Prop := recvFillsUptoRow.holds Try.pinned (OpenSpec.upto recvFillsSpec)

end Rows
end Go.Proofs.Ythfdjlhplcmicaa
