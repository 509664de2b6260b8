/- Fanout: a set of marks: a map keyed by a struct of two ints. -/
import Derived.Test.YtpegfbdepgmbjaaU
import Derived.Maps.Own
import Derived.Maps.Views
import Derived.Maps.Keyed
import Derived.DeepKeys4
namespace Go.Proofs.Ytpegfbdepgmbjaa
open Go.RowKit Go.Maps
set_option linter.unusedVariables false
set_option linter.unusedSimpArgs false


def mkv (x : Mk) : Value := .agg #[.int .i64 x.1, .int .i64 x.2]
def MWF (x : Mk) : Prop := (Lit.int .i64 x.1).wf = true ∧ (Lit.int .i64 x.2).wf = true
theorem laidOut : laidOutB Try.prog = true := by kernel_rfl
theorem markKeyed : Keyed Try.prog 29 := Keyed.of_law (deep_law_laid laidOut (m := 4) (by omega) (of_decide_eq_true (by kernel_rfl)) (by kernel_rfl) (by rw [Try.underlying29]))
theorem kt29 : Try.prog.keyType 29 = true := by kernel_rfl
theorem key29 (d : Nat) (a b : Int) (ha : (Lit.int .i64 a).wf = true) (hb : (Lit.int .i64 b).wf = true) :
    Try.prog.keyLits (d + 2) 29 [.int .i64 a, .int .i64 b] = some [.int .i64 a, .int .i64 b] := by
  have c29 : Try.prog.cellsOf 29 = 2 := by kernel_rfl
  have c3 : Try.prog.cellsOf 3 = 1 := by kernel_rfl
  have u29 := Try.underlying29
  have u3 := Try.underlying3
  unfold Program.keyLits
  simp only [u29]
  simp [c29, c3, Program.keyLits, u3, ha, hb, List.mapM_cons]
theorem keyMark (x : Mk) (h : MWF x) : ∃ kl, keyOf Try.prog 29 (mkv x) = some kl := by
  obtain ⟨a, b⟩ := x
  obtain ⟨ha, hb⟩ := h
  simp only at ha hb
  have c29 : Try.prog.cellsOf 29 = 2 := by kernel_rfl
  have u29 := Try.underlying29
  obtain ⟨m, hm⟩ : ∃ m, Try.prog.types.size + 1 = m + 2 := ⟨Try.prog.types.size - 1, by have : 1 ≤ Try.prog.types.size := of_decide_eq_true (by kernel_rfl); omega⟩
  have hf : (Value.agg #[.int .i64 a, .int .i64 b]).formed Try.prog 29 = true := by simp [Value.formed, u29, c29]
  refine ⟨.string (keyBytes [.int .i64 a, .int .i64 b]), ?_⟩
  unfold keyOf mkv
  simp only [u29, kt29, hf, Bool.and_self, if_true, hm]
  have := key29 m a b ha hb
  simp only [Value.cells]
  rw [this]
  rfl
theorem keyMark_inj {x y : Mk} {kl : Lit} (hx : keyOf Try.prog 29 (mkv x) = some kl) (hy : keyOf Try.prog 29 (mkv y) = some kl) : x = y := by
  have := markKeyed.inj hx hy
  obtain ⟨a, b⟩ := x
  obtain ⟨a', b'⟩ := y
  simpa [mkv] using this
/-- block bm is a map from just the marks of 'had' to true -/
def Seen (w : World) (bm n : Nat) (had : List Mk) : Prop :=
  ∃ D : DataW Unit, IsMap D ∧ w.ownsMap Try.prog 29 (plainElem Try.prog 4) bm n D ∧ ∀ x kl, keyOf Try.prog 29 (mkv x) = some kl → D.atKey kl (.lit (.bool false)) = .lit (.bool (decide (x ∈ had)))
theorem Seen.made (w : World) : Seen (w.alloc (.map #[] 0)) w.heap.size 0 [] :=
  ⟨.map [], isMap_empty, World.ownsMap_made _ _ _ _, fun x kl _ => by simp [DataW.atKey]⟩
theorem Seen.lt {w : World} {bm n : Nat} {had : List Mk} (h : Seen w bm n had) : bm < w.heap.size := by
  obtain ⟨D, _, h, _⟩ := h
  exact h.lt
theorem Seen.kept {w w' : World} {bm n : Nat} {had : List Mk} {row : Option Nat} (h : Seen w bm n had) (hg : w.grownBy w' row) (hne : some bm ≠ row) : Seen w' bm n had := by
  obtain ⟨D, hD, h, hat⟩ := h
  exact ⟨D, hD, h.kept hg hne, hat⟩
theorem Seen.ups {w w' : World} {bm n : Nat} {had : List Mk} (h : Seen w bm n had) (hb : Below w.heap.size w w') : Seen w' bm n had :=
  h.kept (row := none) ⟨hb.os, hb.tape, hb.output, hb.size, fun k hk _ => hb.block k hk⟩ (by simp)
theorem zero4 (w : World) : (zeroValue 4).run Try.prog w = .ok (.bool false) w := by kernel_rfl
theorem Seen.look {w : World} {bm n : Nat} {had : List Mk} (h : Seen w bm n had) (x : Mk) (hx : MWF x) :
    (Instr.lookup 40 (.map (some bm)) (mkv x) false).run Try.prog w = .ok (.bool (decide (x ∈ had))) w := by
  obtain ⟨D, hD, h, hat⟩ := h
  obtain ⟨kl, hk⟩ := keyMark x hx
  obtain ⟨v, ps, hrun, hv⟩ := h.lookup markKeyed Try.underlying40 (zero4 w) (plainElem_bool (H := Unit) Try.underlying4 false) hk
  rw [hat x kl hk] at hv
  rw [hrun]
  congr 1
  unfold plainElem at hv
  rw [Try.underlying4] at hv
  cases v <;> simp at hv
  rw [hv.1]
theorem Seen.put {w : World} {bm n : Nat} {had : List Mk} (h : Seen w bm n had) (hn : n < maxLen) (x : Mk) (hx : MWF x) :
    ∃ w', (Instr.mapUpdate 40 (.map (some bm)) (mkv x) (.bool true)).run Try.prog w = .ok () w' ∧ Seen w' bm (n + 1) (x :: had) ∧ w.grownBy w' (some bm) := by
  obtain ⟨D, hD, h, hat⟩ := h
  obtain ⟨kl, hk⟩ := keyMark x hx
  obtain ⟨w', hrun, h', hg⟩ := h.update markKeyed Try.underlying40 hn hk (plainElem_bool (H := Unit) Try.underlying4 true)
  refine ⟨w', hrun, ⟨_, hD.put _ _, h', fun y ky hy => ?_⟩, hg⟩
  by_cases e : y = x
  · subst e
    have : ky = kl := by rw [hk] at hy; exact (Option.some.inj hy).symm
    subst this
    rw [atKey_put_same hD (markKeyed.key hk)]
    simp
  · have hne : ky ≠ kl := by
      intro e2
      subst e2
      exact e (keyMark_inj hy hk)
    rw [atKey_put_other hne, hat y ky hy]
    simp [e]
section
variable {ops : Array Oper} {rest : List Oper} {d : Option Tmp} {tt : TypeId} {ps : String} {af : Array Edge} {gd : Option (Nat × Bool)} {a : Act} {w : World} {Q : Exit → Act → World → Prop}
theorem op_mm (h : ∀ w' bm, w.heap.size ≤ bm → Below w.heap.size w w' → Seen w' bm 0 [] → wpList Try.prog ops Q rest (a.put d (.map (some bm))) w') : wpList Try.prog ops Q (⟨d, .makeMap 40 none, tt, ps, af, none⟩ :: rest) a w :=
  wl_w _ _ (by
    have hmm := @run_makeMap Try.prog
    unfold execOp
    go_simp) (h _ _ (Nat.le_refl _) ((Below.refl _ _).alloc (Nat.le_refl _) _) (Seen.made w))
theorem r_look {bm n : Nat} {had : List Mk} {x : Mk} {p q : Operand} (h : Seen w bm n had) (hx : MWF x) (hp : a.eval p = .map (some bm)) (hq : a.eval q = .agg #[.int .i64 x.1, .int .i64 x.2]) {b : Bool} (hb : decide (x ∈ had) = b) :
    (execOp a.eval ⟨d, .lookup 40 p q false, tt, ps, af, gd⟩).run Try.prog w = .ok (.value (.bool b)) w := by
  subst hb
  have hl : (Instr.lookup 40 (.map (some bm)) (.agg #[.int .i64 x.1, .int .i64 x.2]) false).run Try.prog w = .ok (.bool (decide (x ∈ had))) w := h.look x hx
  unfold execOp
  simp only [hp, hq]
  go_simp
theorem op_put {bm n : Nat} {had : List Mk} {x : Mk} {p q : Operand} (hs : Seen w bm n had) (hn : n < maxLen) (hx : MWF x) (hp : a.eval p = .map (some bm)) (hq : a.eval q = .agg #[.int .i64 x.1, .int .i64 x.2])
    (h : ∀ w', Seen w' bm (n + 1) (x :: had) → w.grownBy w' (some bm) → wpList Try.prog ops Q rest (a.put d undef) w') : wpList Try.prog ops Q (⟨d, .mapUpdate 40 p q (.const (.bool true)), tt, ps, af, none⟩ :: rest) a w :=
  wpList_plain rfl fun _ hK => by
    obtain ⟨w', hrun, h1, h2⟩ := hs.put hn x hx
    have hr : (Instr.mapUpdate 40 (.map (some bm)) (.agg #[.int .i64 x.1, .int .i64 x.2]) (.bool true)).run Try.prog w = .ok () w' := hrun
    have he : (execOp a.eval ⟨d, .mapUpdate 40 p q (.const (.bool true)), tt, ps, af, none⟩).run Try.prog w = .ok .skip w' := by
      unfold execOp
      simp only [hp, hq]
      go_simp
    unfold Oper.wp
    rw [he]
    exact hK _ _ (h w' h1 h2)
end
/-- marks are right: none stands there twice, and there are no more than may be -/
def rightF (L : List Mk) : Bool := decide (L.Nodup ∧ L.length ≤ 512)
def hadF (L : List Mk) (k : Nat) : List Mk := (L.take k).reverse
theorem had_next {L : List Mk} {k : Nat} {y : Mk} (hy : L[k]? = some y) : y :: hadF L k = hadF L (k + 1) := by
  obtain ⟨hk, e⟩ := List.getElem?_eq_some_iff.1 hy
  unfold hadF
  rw [List.take_succ_eq_append_getElem hk, List.reverse_append, e]
  rfl
theorem had_nodup {L : List Mk} {k : Nat} {y : Mk} (h : (L.take k).Nodup) (hy : L[k]? = some y) (hn : y ∉ hadF L k) : (L.take (k + 1)).Nodup := by
  obtain ⟨hk, e⟩ := List.getElem?_eq_some_iff.1 hy
  rw [List.take_succ_eq_append_getElem hk, e, List.nodup_append]
  refine ⟨h, by simp, fun a ha b hb => ?_⟩
  obtain rfl := List.mem_singleton.1 hb
  rintro rfl
  exact hn (by unfold hadF; simpa using ha)
theorem right_no {L : List Mk} {k : Nat} {y : Mk} (hy : L[k]? = some y) (hm : y ∈ hadF L k) : rightF L = false := by
  unfold rightF
  apply decide_eq_false
  rintro ⟨h, _⟩
  obtain ⟨hk, rfl⟩ := List.getElem?_eq_some_iff.1 hy
  have hm2 : L[k] ∈ L.take k := by unfold hadF at hm; simpa using hm
  obtain ⟨j, hj, e⟩ := List.mem_iff_getElem.1 hm2
  rw [List.getElem_take] at e
  have hj2 : j < k := by simp at hj; omega
  exact (List.pairwise_iff_getElem.1 h) j k (by omega) hk hj2 e

end Go.Proofs.Ytpegfbdepgmbjaa
