/- Roster: what comes in; what the laws ask in plain. -/
import Derived.Test.YtfehhenbdiageaaUj
namespace Go.Proofs.Ytfehhenbdiageaa
open Go.ChangeShapes Go.WideShapes Go.ChangeAt Go.RowKit Go.Maps
set_option linter.unusedVariables false
set_option linter.unusedSimpArgs false

theorem own : ownKnob Try.prog.godebug = none := by kernel_rfl
theorem laidOut : laidOutB Try.prog = true := by kernel_rfl
def decT (l : List Int) : Tm := (l.getD 0 0, l.getD 1 0, l.getD 2 0)
theorem decT_enc (l : List Int) (h : l.length = 3) : encT (decT l) = l := by
  match l, h with
  | [a, b, c], _ => rfl
def LWF (L : List Tm) : Prop := ∀ x ∈ L, (Lit.int .i64 x.1).wf = true ∧ (Lit.int .i64 x.2.1).wf = true ∧ (Lit.int .i64 x.2.2).wf = true
/-- a row as it came in -/
theorem row_in {w : World} {A : Option Addr} {n c : Nat} {B : List Int} (hB : B.length = n * 3) (hw : WF B) (hnc : n ≤ c) (hc : c ≤ maxLen) (hh : Holds w A (B.map (Value.int .i64))) (hz : A = none → c = 0) :
    ∃ L : List Tm, TRow w (.slice A n c) L ∧ L.length = n ∧ LWF L := by
  obtain ⟨L, rfl, rfl⟩ := unflat decT decT_enc n B hB
  exact ⟨L, ⟨A, c, rfl, hnc, hc, hz, hh⟩, rfl, fun x hx => ⟨flat_wf hw x hx x.1 (by simp), flat_wf hw x hx x.2.1 (by simp), flat_wf hw x hx x.2.2 (by simp)⟩⟩
/-- acts as they came in -/
theorem acts_in {w : World} {A : Option Addr} {n : Nat} {B : List Int} (hB : B.length = n * 3) (hw : WF B) (hh : Holds w A (B.map (Value.int .i64))) :
    ∃ V : List Tm, V.length = n ∧ LWF V ∧ Holds w A (FV encT V) := by
  obtain ⟨V, rfl, rfl⟩ := unflat decT decT_enc n B hB
  exact ⟨V, rfl, fun x hx => ⟨flat_wf hw x hx x.1 (by simp), flat_wf hw x hx x.2.1 (by simp), flat_wf hw x hx x.2.2 (by simp)⟩, hh⟩
theorem act_in {B : List Int} (h : B.length = 3) : ∃ op who peer, B = [op, who, peer] := by
  match B, h with
  | [a, b, c], _ => exact ⟨a, b, c, rfl⟩
theorem right_iff (L : List Tm) : rightF L = true ↔ RightL L := by unfold rightF; rw [decide_eq_true_iff]
theorem do_wat {L : List Tm} (hR : RightL L) {op who peer u : Int} (h1 : u ≠ who) (h2 : u ≠ peer) : watF (doF L op who peer).1 u = watF L u ∧ tarF (doF L op who peer).1 u = tarF L u := by
  rcases do_cases hR op who peer with ⟨_, h⟩ | ⟨hb, hs, hf, h⟩
  · rw [h]; exact ⟨rfl, rfl⟩
  · rw [h]
    refine ⟨wat_other hR _ ?_, tar_other hR _ ?_⟩
    · unfold tgtF; split <;> omega
    · unfold wchF; split <;> omega
theorem fm_le {p : Tm → Bool} {q : Tm → Int} {L : List Tm} : (fmF p q L).length ≤ L.length := by
  unfold fmF
  rw [List.length_map]
  exact List.length_filter_le _ _
end Go.Proofs.Ytfehhenbdiageaa
