/-
  No cell of these rows narrows 'for every input' (looked for: loops, veiled, ifaces, maps, wideKeys, modest, calm, conditions, laid).
  DERIVED. THE GIVEN ROWS OF THIS SEAT. 3 by the template 'for every input the law returns true; each argument reads behind the call as it read before'; 0 by the template 'total and deterministic' (their statements: YtbpepkpjjfhmpaaTotals.lean).
  GIVEN WITH THE SEED: the statements are not yours to turn. If you find one false, say at which input.
  Laid BY PROGRAM, IN A SANDBOX (cutbox-rows.mjs): the forced cells as the released guide's own fill.sh prints them over the translation 3a4538a6de1b7e7d… (all of the seat's roots in one cut). By AI agents, Wed Nov 11 2026. No macro, syntax, notation, axiom, sorry.
-/
import Derived.Test.YtbpepkpjjfhmpaaChecked
import GoSem.Claim
import GoSem.ClaimJoined
import GoSem.ClaimMapViews
import Derived.JoinedTies
import Derived.KernelRfl
namespace Go.Proofs.Ytbpepkpjjfhmpaa
/- THE CELL 'sum', in the pinned program and in every row, IS THE sha256 OF THE DUMP (.gsa) THAT YtbpepkpjjfhmpaaProg.lean LOADS. Nothing in Lean hashes anything: it is a label: what it is worth is what the hold of that sum in a sandbox is worth. -/
noncomputable def Try.pinned : Pinned := { name := "ytbpepkpjjfhmpaa", sum := "3a4538a6de1b7e7d5c948c7a6183d3a4841e0234ab1db264f256c0921ed0a393", checked := Try.checked }
namespace Rows
def none {H : Type} : Left H := { results := [], args := [] }

/-- 'nightjarlaw25.GhostTells': WHATEVER THE INPUT: true; the input reads as it did. -/
def ghostTellsSpec : ChangeSpec := { name := "ghostTells", fn := fun _ => fun
  | [d1, d2] => { results := [.lit (.bool true)], args := [d1, d2] }
  | _ => none }
def ghostTellsRow : OpenClaim := { program := "ytbpepkpjjfhmpaa", sum := "3a4538a6de1b7e7d5c948c7a6183d3a4841e0234ab1db264f256c0921ed0a393", func := "nightjar/nightjarlaw25.GhostTells", spec := "ghostTells", unfollowed := true, recurses := true, plainKeys := false, apart := false }
def GhostTellsSaid : Prop := ghostTellsRow.holds Try.pinned (OpenSpec.ofChange ghostTellsSpec)

/-- ITS FALSE NEIGHBOUR: 'it returns false'. Refute it at one input. -/
def ghostTellsWrong : ChangeSpec := { name := "ghostTells", fn := fun _ => fun
  | [d1, d2] => { results := [.lit (.bool false)], args := [d1, d2] }
  | _ => none }
def GhostTellsWrongFalsely : Prop := ghostTellsRow.holds Try.pinned (OpenSpec.ofChange ghostTellsWrong)

/-- 'nightjarlaw25.GhostRises': WHATEVER THE INPUT: true; the input reads as it did. -/
def ghostRisesSpec : ChangeSpec := { name := "ghostRises", fn := fun _ => fun
  | [d] => { results := [.lit (.bool true)], args := [d] }
  | _ => none }
def ghostRisesRow : OpenClaim := { program := "ytbpepkpjjfhmpaa", sum := "3a4538a6de1b7e7d5c948c7a6183d3a4841e0234ab1db264f256c0921ed0a393", func := "nightjar/nightjarlaw25.GhostRises", spec := "ghostRises", unfollowed := true, recurses := true, plainKeys := false, apart := false }
def GhostRisesSaid : Prop := ghostRisesRow.holds Try.pinned (OpenSpec.ofChange ghostRisesSpec)

/-- ITS FALSE NEIGHBOUR: 'it returns false'. Refute it at one input. -/
def ghostRisesWrong : ChangeSpec := { name := "ghostRises", fn := fun _ => fun
  | [d] => { results := [.lit (.bool false)], args := [d] }
  | _ => none }
def GhostRisesWrongFalsely : Prop := ghostRisesRow.holds Try.pinned (OpenSpec.ofChange ghostRisesWrong)

/-- 'nightjarlaw25.GhostBoards': WHATEVER THE INPUT: true; the input reads as it did. -/
def ghostBoardsSpec : ChangeSpec := { name := "ghostBoards", fn := fun _ => fun
  | [d1, d2] => { results := [.lit (.bool true)], args := [d1, d2] }
  | _ => none }
def ghostBoardsRow : OpenClaim := { program := "ytbpepkpjjfhmpaa", sum := "3a4538a6de1b7e7d5c948c7a6183d3a4841e0234ab1db264f256c0921ed0a393", func := "nightjar/nightjarlaw25.GhostBoards", spec := "ghostBoards", unfollowed := true, recurses := true, plainKeys := false, apart := false }
def GhostBoardsSaid : Prop := ghostBoardsRow.holds Try.pinned (OpenSpec.ofChange ghostBoardsSpec)

/-- ITS FALSE NEIGHBOUR: 'it returns false'. Refute it at one input. -/
def ghostBoardsWrong : ChangeSpec := { name := "ghostBoards", fn := fun _ => fun
  | [d1, d2] => { results := [.lit (.bool false)], args := [d1, d2] }
  | _ => none }
def GhostBoardsWrongFalsely : Prop := ghostBoardsRow.holds Try.pinned (OpenSpec.ofChange ghostBoardsWrong)

/- THE SECOND FORM. 'bulk': how many values and letters a reading holds, each counted each time it is reached (what is shared counts as often as it is met; a slice's spare places count too). A statement '..UptoSaid' is the law's where the arguments, and the package variables that the reading takes, are together of bulk at most 1048576: NARROWER than '..Said'. Prove '..Said' where nothing that the law and all that it calls make is longer than what came in: it says more and counts as full. Else prove '..UptoSaid'. A law counts once. -/
mutual
def uptoBulk {H : Type} : DataW H → Nat
  | .lit (.string bytes) => bytes.length + 1
  | .lit _ => 1
  | .nil => 1
  | .ptr d => uptoBulk d + 1
  | .slice elems spare => uptoBulkAll elems + uptoBulkAll spare + 1
  | .agg parts => uptoBulkAll parts + 1
  | .iface _ d => uptoBulk d + 1
  | .map entries => uptoBulkEntries entries + 1
  | .held _ => 1
def uptoBulkAll {H : Type} : List (DataW H) → Nat
  | [] => 0
  | d :: r => uptoBulk d + uptoBulkAll r
def uptoBulkEntries {H : Type} : List (Lit × DataW H) → Nat
  | [] => 0
  | x :: r => uptoBulkEntry x + uptoBulkEntries r
def uptoBulkEntry {H : Type} : Lit × DataW H → Nat
  | (.string bytes, d) => bytes.length + uptoBulk d + 1
  | (_, d) => uptoBulk d + 1
 end
def uptoSmall : (H : Type) → List (DataW H) → Bool := fun _ ds => decide (uptoBulkAll ds ≤ 1048576)
def OpenSpec.upto (s : _root_.Go.ChangeSpec) : _root_.Go.OpenSpec := { _root_.Go.OpenSpec.ofChange s with cond := some uptoSmall }

/-- 'nightjarlaw25.GhostTells', WHERE WHAT IT READS IS OF BULK AT MOST 1048576: true; the input reads as it did. -/
def ghostTellsUptoRow : OpenClaim := { program := "ytbpepkpjjfhmpaa", sum := "3a4538a6de1b7e7d5c948c7a6183d3a4841e0234ab1db264f256c0921ed0a393", func := "nightjar/nightjarlaw25.GhostTells", spec := "ghostTells", unfollowed := true, recurses := true, plainKeys := false, apart := false, narrowed := true }
def GhostTellsUptoSaid : Prop := ghostTellsUptoRow.holds Try.pinned (OpenSpec.upto ghostTellsSpec)

/-- 'nightjarlaw25.GhostRises', WHERE WHAT IT READS IS OF BULK AT MOST 1048576: true; the input reads as it did. -/
def ghostRisesUptoRow : OpenClaim := { program := "ytbpepkpjjfhmpaa", sum := "3a4538a6de1b7e7d5c948c7a6183d3a4841e0234ab1db264f256c0921ed0a393", func := "nightjar/nightjarlaw25.GhostRises", spec := "ghostRises", unfollowed := true, recurses := true, plainKeys := false, apart := false, narrowed := true }
def GhostRisesUptoSaid : Prop := ghostRisesUptoRow.holds Try.pinned (OpenSpec.upto ghostRisesSpec)

/-- 'nightjarlaw25.GhostBoards', WHERE WHAT IT READS IS OF BULK AT MOST 1048576: true; the input reads as it did. -/
def ghostBoardsUptoRow : OpenClaim := { program := "ytbpepkpjjfhmpaa", sum := "3a4538a6de1b7e7d5c948c7a6183d3a4841e0234ab1db264f256c0921ed0a393", func := "nightjar/nightjarlaw25.GhostBoards", spec := "ghostBoards", unfollowed := true, recurses := true, plainKeys := false, apart := false, narrowed := true }
def GhostBoardsUptoSaid : Prop := ghostBoardsUptoRow.holds Try.pinned (OpenSpec.upto ghostBoardsSpec)

end Rows
end Go.Proofs.Ytbpepkpjjfhmpaa
