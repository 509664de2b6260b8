/-
  No cell of these rows narrows 'for every input' (looked for: loops, veiled, ifaces, maps, wideKeys, modest, calm, conditions, laid).
  DERIVED. THE GIVEN ROWS OF THIS SEAT. 5 by the template 'for every input the law returns true; each argument reads behind the call as it read before'; 0 by the template 'total and deterministic' (their statements: YtlkgofannoddfaaTotals.lean).
  GIVEN WITH THE SEED: the statements are not yours to turn. If you find one false, say at which input.
  Laid BY PROGRAM, IN A SANDBOX (cutbox-rows.mjs): the forced cells as the released guide's own fill.sh prints them over the translation cfa9cb9aa7a3990f… (all of the seat's roots in one cut). By AI agents, Wed Nov 11 2026. No macro, syntax, notation, axiom, sorry.
-/
import Derived.Test.YtlkgofannoddfaaChecked
import GoSem.Claim
import GoSem.ClaimJoined
import GoSem.ClaimMapViews
import Derived.JoinedTies
import Derived.KernelRfl
namespace Go.Proofs.Ytlkgofannoddfaa
/- THE CELL 'sum', in the pinned program and in every row, IS THE sha256 OF THE DUMP (.gsa) THAT YtlkgofannoddfaaProg.lean LOADS. Nothing in Lean hashes anything: it is a label: what it is worth is what the hold of that sum in a sandbox is worth. -/
noncomputable def Try.pinned : Pinned := { name := "ytlkgofannoddfaa", sum := "cfa9cb9aa7a3990fa365a9b93f5634599c3c4e30f79e3e5d5c2ed8c6c2400cc3", checked := Try.checked }
namespace Rows
def none {H : Type} : Left H := { results := [], args := [] }

/-- 'nightjarlaw19.BoardTells': WHATEVER THE INPUT: true; the input reads as it did. -/
def boardTellsSpec : ChangeSpec := { name := "boardTells", fn := fun _ => fun
  | [d1, d2, d3, d4, d5] => { results := [.lit (.bool true)], args := [d1, d2, d3, d4, d5] }
  | _ => none }
def boardTellsRow : OpenClaim := { program := "ytlkgofannoddfaa", sum := "cfa9cb9aa7a3990fa365a9b93f5634599c3c4e30f79e3e5d5c2ed8c6c2400cc3", func := "nightjar/nightjarlaw19.BoardTells", spec := "boardTells", apart := false }
def BoardTellsSaid : Prop := boardTellsRow.holds Try.pinned (OpenSpec.ofChange boardTellsSpec)

/-- ITS FALSE NEIGHBOUR: 'it returns false'. Refute it at one input. -/
def boardTellsWrong : ChangeSpec := { name := "boardTells", fn := fun _ => fun
  | [d1, d2, d3, d4, d5] => { results := [.lit (.bool false)], args := [d1, d2, d3, d4, d5] }
  | _ => none }
def BoardTellsWrongFalsely : Prop := boardTellsRow.holds Try.pinned (OpenSpec.ofChange boardTellsWrong)

/-- 'nightjarlaw19.BoardVersions': WHATEVER THE INPUT: true; the input reads as it did. -/
def boardVersionsSpec : ChangeSpec := { name := "boardVersions", fn := fun _ => fun
  | [d1, d2, d3] => { results := [.lit (.bool true)], args := [d1, d2, d3] }
  | _ => none }
def boardVersionsRow : OpenClaim := { program := "ytlkgofannoddfaa", sum := "cfa9cb9aa7a3990fa365a9b93f5634599c3c4e30f79e3e5d5c2ed8c6c2400cc3", func := "nightjar/nightjarlaw19.BoardVersions", spec := "boardVersions", apart := false }
def BoardVersionsSaid : Prop := boardVersionsRow.holds Try.pinned (OpenSpec.ofChange boardVersionsSpec)

/-- ITS FALSE NEIGHBOUR: 'it returns false'. Refute it at one input. -/
def boardVersionsWrong : ChangeSpec := { name := "boardVersions", fn := fun _ => fun
  | [d1, d2, d3] => { results := [.lit (.bool false)], args := [d1, d2, d3] }
  | _ => none }
def BoardVersionsWrongFalsely : Prop := boardVersionsRow.holds Try.pinned (OpenSpec.ofChange boardVersionsWrong)

/-- 'nightjarlaw19.BoardFolds': WHATEVER THE INPUT: true; the input reads as it did. -/
def boardFoldsSpec : ChangeSpec := { name := "boardFolds", fn := fun _ => fun
  | [d1, d2] => { results := [.lit (.bool true)], args := [d1, d2] }
  | _ => none }
def boardFoldsRow : OpenClaim := { program := "ytlkgofannoddfaa", sum := "cfa9cb9aa7a3990fa365a9b93f5634599c3c4e30f79e3e5d5c2ed8c6c2400cc3", func := "nightjar/nightjarlaw19.BoardFolds", spec := "boardFolds", apart := false }
def BoardFoldsSaid : Prop := boardFoldsRow.holds Try.pinned (OpenSpec.ofChange boardFoldsSpec)

/-- ITS FALSE NEIGHBOUR: 'it returns false'. Refute it at one input. -/
def boardFoldsWrong : ChangeSpec := { name := "boardFolds", fn := fun _ => fun
  | [d1, d2] => { results := [.lit (.bool false)], args := [d1, d2] }
  | _ => none }
def BoardFoldsWrongFalsely : Prop := boardFoldsRow.holds Try.pinned (OpenSpec.ofChange boardFoldsWrong)

/-- 'nightjarlaw19.BoardTwice': WHATEVER THE INPUT: true; the input reads as it did. -/
def boardTwiceSpec : ChangeSpec := { name := "boardTwice", fn := fun _ => fun
  | [d1, d2, d3] => { results := [.lit (.bool true)], args := [d1, d2, d3] }
  | _ => none }
def boardTwiceRow : OpenClaim := { program := "ytlkgofannoddfaa", sum := "cfa9cb9aa7a3990fa365a9b93f5634599c3c4e30f79e3e5d5c2ed8c6c2400cc3", func := "nightjar/nightjarlaw19.BoardTwice", spec := "boardTwice", apart := false }
def BoardTwiceSaid : Prop := boardTwiceRow.holds Try.pinned (OpenSpec.ofChange boardTwiceSpec)

/-- ITS FALSE NEIGHBOUR: 'it returns false'. Refute it at one input. -/
def boardTwiceWrong : ChangeSpec := { name := "boardTwice", fn := fun _ => fun
  | [d1, d2, d3] => { results := [.lit (.bool false)], args := [d1, d2, d3] }
  | _ => none }
def BoardTwiceWrongFalsely : Prop := boardTwiceRow.holds Try.pinned (OpenSpec.ofChange boardTwiceWrong)

/-- 'nightjarlaw19.BoardTurns': WHATEVER THE INPUT: true; the input reads as it did. -/
def boardTurnsSpec : ChangeSpec := { name := "boardTurns", fn := fun _ => fun
  | [d1, d2, d3] => { results := [.lit (.bool true)], args := [d1, d2, d3] }
  | _ => none }
def boardTurnsRow : OpenClaim := { program := "ytlkgofannoddfaa", sum := "cfa9cb9aa7a3990fa365a9b93f5634599c3c4e30f79e3e5d5c2ed8c6c2400cc3", func := "nightjar/nightjarlaw19.BoardTurns", spec := "boardTurns", apart := false }
def BoardTurnsSaid : Prop := boardTurnsRow.holds Try.pinned (OpenSpec.ofChange boardTurnsSpec)

/-- ITS FALSE NEIGHBOUR: 'it returns false'. Refute it at one input. -/
def boardTurnsWrong : ChangeSpec := { name := "boardTurns", fn := fun _ => fun
  | [d1, d2, d3] => { results := [.lit (.bool false)], args := [d1, d2, d3] }
  | _ => none }
def BoardTurnsWrongFalsely : Prop := boardTurnsRow.holds Try.pinned (OpenSpec.ofChange boardTurnsWrong)

/- THE SECOND FORM. 'bulk': how many values and letters a reading holds, each counted each time it is reached (what is shared counts as often as it is met; a slice's spare places count too). A statement '..UptoSaid' is the law's where the arguments, and the package variables that the reading takes, are together of bulk at most 1048576: NARROWER than '..Said'. Prove '..Said' where nothing that the law and all that it calls make is longer than what came in: it says more and counts as full. Else prove '..UptoSaid'. A law counts once. -/
mutual
def uptoBulk {H : Type} : DataW H → Nat
  | .lit (.string bytes) => bytes.length + 1
  | .lit _ => 1
  | .nil => 1
  | .ptr d => uptoBulk d + 1
  | .slice elems spare => uptoBulkAll elems + uptoBulkAll spare + 1
  | .agg parts => uptoBulkAll parts + 1
  | .iface _ d => uptoBulk d + 1
  | .map entries => uptoBulkEntries entries + 1
  | .held _ => 1
def uptoBulkAll {H : Type} : List (DataW H) → Nat
  | [] => 0
  | d :: r => uptoBulk d + uptoBulkAll r
def uptoBulkEntries {H : Type} : List (Lit × DataW H) → Nat
  | [] => 0
  | x :: r => uptoBulkEntry x + uptoBulkEntries r
def uptoBulkEntry {H : Type} : Lit × DataW H → Nat
  | (.string bytes, d) => bytes.length + uptoBulk d + 1
  | (_, d) => uptoBulk d + 1
 end
def uptoSmall : (H : Type) → List (DataW H) → Bool := fun _ ds => decide (uptoBulkAll ds ≤ 1048576)
def OpenSpec.upto (s : _root_.Go.ChangeSpec) : _root_.Go.OpenSpec := { _root_.Go.OpenSpec.ofChange s with cond := some uptoSmall }

/-- 'nightjarlaw19.BoardTells', WHERE WHAT IT READS IS OF BULK AT MOST 1048576: true; the input reads as it did. -/
def boardTellsUptoRow : OpenClaim := { program := "ytlkgofannoddfaa", sum := "cfa9cb9aa7a3990fa365a9b93f5634599c3c4e30f79e3e5d5c2ed8c6c2400cc3", func := "nightjar/nightjarlaw19.BoardTells", spec := "boardTells", apart := false, narrowed := true }
def BoardTellsUptoSaid : Prop := boardTellsUptoRow.holds Try.pinned (OpenSpec.upto boardTellsSpec)

/-- 'nightjarlaw19.BoardVersions', WHERE WHAT IT READS IS OF BULK AT MOST 1048576: true; the input reads as it did. -/
def boardVersionsUptoRow : OpenClaim := { program := "ytlkgofannoddfaa", sum := "cfa9cb9aa7a3990fa365a9b93f5634599c3c4e30f79e3e5d5c2ed8c6c2400cc3", func := "nightjar/nightjarlaw19.BoardVersions", spec := "boardVersions", apart := false, narrowed := true }
def BoardVersionsUptoSaid : Prop := boardVersionsUptoRow.holds Try.pinned (OpenSpec.upto boardVersionsSpec)

/-- 'nightjarlaw19.BoardFolds', WHERE WHAT IT READS IS OF BULK AT MOST 1048576: true; the input reads as it did. -/
def boardFoldsUptoRow : OpenClaim := { program := "ytlkgofannoddfaa", sum := "cfa9cb9aa7a3990fa365a9b93f5634599c3c4e30f79e3e5d5c2ed8c6c2400cc3", func := "nightjar/nightjarlaw19.BoardFolds", spec := "boardFolds", apart := false, narrowed := true }
def BoardFoldsUptoSaid : Prop := boardFoldsUptoRow.holds Try.pinned (OpenSpec.upto boardFoldsSpec)

/-- 'nightjarlaw19.BoardTwice', WHERE WHAT IT READS IS OF BULK AT MOST 1048576: true; the input reads as it did. -/
def boardTwiceUptoRow : OpenClaim := { program := "ytlkgofannoddfaa", sum := "cfa9cb9aa7a3990fa365a9b93f5634599c3c4e30f79e3e5d5c2ed8c6c2400cc3", func := "nightjar/nightjarlaw19.BoardTwice", spec := "boardTwice", apart := false, narrowed := true }
def BoardTwiceUptoSaid : Prop := boardTwiceUptoRow.holds Try.pinned (OpenSpec.upto boardTwiceSpec)

/-- 'nightjarlaw19.BoardTurns', WHERE WHAT IT READS IS OF BULK AT MOST 1048576: true; the input reads as it did. -/
def boardTurnsUptoRow : OpenClaim := { program := "ytlkgofannoddfaa", sum := "cfa9cb9aa7a3990fa365a9b93f5634599c3c4e30f79e3e5d5c2ed8c6c2400cc3", func := "nightjar/nightjarlaw19.BoardTurns", spec := "boardTurns", apart := false, narrowed := true }
def BoardTurnsUptoSaid : Prop := boardTurnsUptoRow.holds Try.pinned (OpenSpec.upto boardTurnsSpec)

end Rows
end Go.Proofs.Ytlkgofannoddfaa
