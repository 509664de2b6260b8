/- The ghost's set of notes: a map keyed by a struct of four ints. -/
import Derived.Test.YtbpepkpjjfhmpaaF1
import Derived.Maps.Own
import Derived.Maps.Views
import Derived.Maps.Keyed
import Derived.DeepKeys4
namespace Go.Proofs.Ytbpepkpjjfhmpaa
open Go.RowKit Go.Maps
set_option linter.unusedVariables false
set_option linter.unusedSimpArgs false

abbrev Nt := Int × Int × Int × Int
def ntv (x : Nt) : Value := .agg #[.int .i64 x.1, .int .i64 x.2.1, .int .i64 x.2.2.1, .int .i64 x.2.2.2]
def NWF (x : Nt) : Prop := (Lit.int .i64 x.1).wf = true ∧ (Lit.int .i64 x.2.1).wf = true ∧ (Lit.int .i64 x.2.2.1).wf = true ∧ (Lit.int .i64 x.2.2.2).wf = true

theorem laidOut : laidOutB Try.prog = true := by kernel_rfl
theorem noteKeyed : Keyed Try.prog 35 := Keyed.of_law (deep_law_laid laidOut (m := 4) (by omega) (of_decide_eq_true (by kernel_rfl)) (by kernel_rfl) (by rw [Try.underlying35]))
theorem kt35 : Try.prog.keyType 35 = true := by kernel_rfl

theorem key35 (d : Nat) (a b c e : Int) (ha : (Lit.int .i64 a).wf = true) (hb : (Lit.int .i64 b).wf = true) (hc : (Lit.int .i64 c).wf = true) (he : (Lit.int .i64 e).wf = true) :
    Try.prog.keyLits (d + 2) 35 [.int .i64 a, .int .i64 b, .int .i64 c, .int .i64 e] = some [.int .i64 a, .int .i64 b, .int .i64 c, .int .i64 e] := by
  have c35 : Try.prog.cellsOf 35 = 4 := by kernel_rfl
  have c3 : Try.prog.cellsOf 3 = 1 := by kernel_rfl
  have u35 := Try.underlying35
  have u3 := Try.underlying3
  unfold Program.keyLits
  simp only [u35]
  simp [c35, c3, Program.keyLits, u3, ha, hb, hc, he, List.mapM_cons]
theorem keyNote (x : Nt) (h : NWF x) : ∃ kl, keyOf Try.prog 35 (ntv x) = some kl := by
  obtain ⟨a, b, c, d⟩ := x
  obtain ⟨ha, hb, hc, hd⟩ := h
  simp only at ha hb hc hd
  have c35 : Try.prog.cellsOf 35 = 4 := by kernel_rfl
  have u35 := Try.underlying35
  obtain ⟨m, hm⟩ : ∃ m, Try.prog.types.size + 1 = m + 2 := ⟨Try.prog.types.size - 1, by have : 1 ≤ Try.prog.types.size := of_decide_eq_true (by kernel_rfl); omega⟩
  have hf : (Value.agg #[.int .i64 a, .int .i64 b, .int .i64 c, .int .i64 d]).formed Try.prog 35 = true := by simp [Value.formed, u35, c35]
  refine ⟨.string (keyBytes [.int .i64 a, .int .i64 b, .int .i64 c, .int .i64 d]), ?_⟩
  unfold keyOf ntv
  simp only [u35, kt35, hf, Bool.and_self, if_true, hm]
  have := key35 m a b c d ha hb hc hd
  simp only [Value.cells]
  rw [this]
  rfl

theorem keyNote_inj {x y : Nt} {kl : Lit} (hx : keyOf Try.prog 35 (ntv x) = some kl) (hy : keyOf Try.prog 35 (ntv y) = some kl) : x = y := by
  have := noteKeyed.inj hx hy
  obtain ⟨a, b, c, d⟩ := x
  obtain ⟨a', b', c', d'⟩ := y
  simpa [ntv] using this

/-- block bm is a map from just the notes of 'had' to true -/
def Seen (w : World) (bm n : Nat) (had : List Nt) : Prop :=
  ∃ D : DataW Unit, IsMap D ∧ w.ownsMap Try.prog 35 (plainElem Try.prog 4) bm n D ∧ ∀ x kl, keyOf Try.prog 35 (ntv x) = some kl → D.atKey kl (.lit (.bool false)) = .lit (.bool (decide (x ∈ had)))

theorem Seen.made (w : World) : Seen (w.alloc (.map #[] 0)) w.heap.size 0 [] :=
  ⟨.map [], isMap_empty, World.ownsMap_made _ _ _ _, fun x kl _ => by simp [DataW.atKey]⟩
theorem Seen.lt {w : World} {bm n : Nat} {had : List Nt} (h : Seen w bm n had) : bm < w.heap.size := by
  obtain ⟨D, _, h, _⟩ := h
  exact h.lt
theorem Seen.kept {w w' : World} {bm n : Nat} {had : List Nt} {row : Option Nat} (h : Seen w bm n had) (hg : w.grownBy w' row) (hne : some bm ≠ row) : Seen w' bm n had := by
  obtain ⟨D, hD, h, hat⟩ := h
  exact ⟨D, hD, h.kept hg hne, hat⟩
theorem Seen.ups {w w' : World} {bm n : Nat} {had : List Nt} (h : Seen w bm n had) (hb : Below w.heap.size w w') : Seen w' bm n had :=
  h.kept (row := none) ⟨hb.os, hb.tape, hb.output, hb.size, fun k hk _ => hb.block k hk⟩ (by simp)
theorem zero4 (w : World) : (zeroValue 4).run Try.prog w = .ok (.bool false) w := by kernel_rfl
theorem Seen.look {w : World} {bm n : Nat} {had : List Nt} (h : Seen w bm n had) (x : Nt) (hx : NWF x) :
    (Instr.lookup 49 (.map (some bm)) (ntv x) false).run Try.prog w = .ok (.bool (decide (x ∈ had))) w := by
  obtain ⟨D, hD, h, hat⟩ := h
  obtain ⟨kl, hk⟩ := keyNote x hx
  obtain ⟨v, ps, hrun, hv⟩ := h.lookup noteKeyed Try.underlying49 (zero4 w) (plainElem_bool (H := Unit) Try.underlying4 false) hk
  rw [hat x kl hk] at hv
  rw [hrun]
  congr 1
  unfold plainElem at hv
  rw [Try.underlying4] at hv
  cases v <;> simp at hv
  rw [hv.1]
theorem Seen.put {w : World} {bm n : Nat} {had : List Nt} (h : Seen w bm n had) (hn : n < maxLen) (x : Nt) (hx : NWF x) :
    ∃ w', (Instr.mapUpdate 49 (.map (some bm)) (ntv x) (.bool true)).run Try.prog w = .ok () w' ∧ Seen w' bm (n + 1) (x :: had) ∧ w.grownBy w' (some bm) := by
  obtain ⟨D, hD, h, hat⟩ := h
  obtain ⟨kl, hk⟩ := keyNote x hx
  obtain ⟨w', hrun, h', hg⟩ := h.update noteKeyed Try.underlying49 hn hk (plainElem_bool (H := Unit) Try.underlying4 true)
  refine ⟨w', hrun, ⟨_, hD.put _ _, h', fun y ky hy => ?_⟩, hg⟩
  by_cases e : y = x
  · subst e
    have : ky = kl := by rw [hk] at hy; exact (Option.some.inj hy).symm
    subst this
    rw [atKey_put_same hD (noteKeyed.key hk)]
    simp
  · have hne : ky ≠ kl := by
      intro e2
      subst e2
      exact e (keyNote_inj hy hk)
    rw [atKey_put_other hne, hat y ky hy]
    simp [e]
end Go.Proofs.Ytbpepkpjjfhmpaa
