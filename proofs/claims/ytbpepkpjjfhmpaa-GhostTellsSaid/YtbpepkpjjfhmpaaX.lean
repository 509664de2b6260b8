/- The ghost: New, Look. -/
import Derived.Test.YtbpepkpjjfhmpaaV
import Derived.WalkKit
namespace Go.Proofs.Ytbpepkpjjfhmpaa
open Go.RowKit Go.Maps
set_option linter.unusedVariables false
set_option linter.unusedSimpArgs false

section
variable {P : Program} {ops : Array Oper} {rest : List Oper} {d : Option Tmp} {tt : TypeId} {ps : String} {af : Array Edge} {a : Act} {w : World} {Q : Exit → Act → World → Prop}
theorem op_build (ty : TypeId) (parts : Array (Nat × Operand)) (V : Value) (hr : ∀ w, (Instr.build ty (parts.map fun (i, x) => (i, a.eval x))).run P w = .ok V w) (h : wpList P ops Q rest (a.put d V) w) :
    wpList P ops Q (⟨d, .build ty parts, tt, ps, af, none⟩ :: rest) a w :=
  wpList_plain rfl fun _ hK => by
    unfold Oper.wp execOp
    simp only [hr, Sem.run_bind, Sem.run_pure, Result.andThen_ok]
    exact hK _ _ h
end
theorem op_makeMap {ops : Array Oper} {rest : List Oper} {d : Option Tmp} {tt : TypeId} {ps : String} {af : Array Edge} {a : Act} {w : World} {Q : Exit → Act → World → Prop}
    (h : ∀ w' bm, w.heap.size ≤ bm → Below w.heap.size w w' → Seen w' bm 0 [] → wpList Try.prog ops Q rest (a.put d (.map (some bm))) w') :
    wpList Try.prog ops Q (⟨d, .makeMap 49 none, tt, ps, af, none⟩ :: rest) a w :=
  wpList_plain rfl fun _ hK => by
    unfold Oper.wp execOp
    have hmm := @run_makeMap Try.prog
    simp only [Option.map_none, hmm, Sem.run_bind, Sem.run_pure, Result.andThen_ok]
    exact hK _ _ (h _ _ (Nat.le_refl _) ((Below.refl _ _).alloc (Nat.le_refl _) _) (Seen.made w))

def zl : List Int := List.replicate 68 0
def zm : List Int := List.replicate 17 0
theorem build53 (bm : Nat) (w : World) : (Instr.build 53 #[(0, .map (some bm))]).run Try.prog w = .ok (.agg (gC bm zl zm false)) w := by kernel_rfl
/-- what New has seen when the users below k are told -/
def newS : Nat → List Int × List Int × List Nt
  | 0 => (zl, zm, [])
  | k + 1 => (lastS (newS k).1 (k + 1) (((k + 1 : Nat) : Int), 0, 0, 0), (newS k).2.1.set (k + 1) (ci (newS k).2.1 (k + 1) + 1), (((k + 1 : Nat) : Int), 0, 0, 0) :: (newS k).2.2)
theorem newS_step (m : Nat) (h : 1 ≤ m) : newS m = (lastS (newS (m - 1)).1 m ((m : Int), 0, 0, 0), (newS (m - 1)).2.1.set m (ci (newS (m - 1)).2.1 m + 1), ((m : Int), 0, 0, 0) :: (newS (m - 1)).2.2) := by
  match m, h with
  | k + 1, _ => rfl
def NewRel (w : World) (g bm : Nat) (u : Value) (wr : World) : Prop :=
  ∃ m : Nat, 1 ≤ m ∧ m ≤ 17 ∧ u = .int .i64 m ∧ GAt wr g bm (m - 1) (newS (m - 1)).1 (newS (m - 1)).2.1 false (newS (m - 1)).2.2 ∧ Below w.heap.size w wr
theorem newS_many : ∀ k, k < 16 → ci (newS k).2.1 (k + 1) = 0 := by decide +kernel

set_option maxHeartbeats 1000000 in
set_option maxRecDepth 100000 in
theorem new_any (w : World) : Calls Try.prog 7 #[] w fun e w' => ∃ g bm, e = .returned (.pointer (some ⟨g, 0, none⟩)) ∧ w.heap.size ≤ g ∧ w.heap.size ≤ bm ∧ GAt w' g bm 16 (newS 16).1 (newS 16).2.1 false (newS 16).2.2 ∧ Below w.heap.size w w' := by
  have hall := Below.refl w.heap.size w
  go_enter Try.func7, Try.ntmps7
  go_wp2_with (first
    | ((with_reducible refine op_makeMap ?_); intro w1 bm hge hb hs; have gm : w.heap.size ≤ bm := hge; replace hall := hall.trans (hb.mono hall.size); clear hb hge)
    | ((with_reducible refine op_build 53 #[(0, .tmp 3)] (.agg (gC bm zl zm false)) ?_ ?_); (intro w9; kernel_rfl))
    | ((with_reducible refine op_box 53 (.tmp 4) (gC bm zl zm false) ?_ ?_); rfl; intro w2 g hge hb kg; have hne : g ≠ bm := (by have := hs.lt; omega); have gg : w.heap.size ≤ g := (by have := hall.size; omega); replace hall := hall.trans (hb.mono hall.size); replace hs := hs.ups hb; clear hb hge))
  go_loopw [2] (NewRel w g bm) (fun u _ => 17 - (intOf u).toNat)
  case atStart => exact ⟨1, by omega, by omega, rfl, ⟨kg, hs, hne, by decide +kernel, by decide +kernel⟩, hall⟩
  case round =>
    obtain ⟨m, hm1, hm2, rfl, hg, hbel⟩ := hrel
    by_cases hlt : m ≤ 16
    · have hm0 := newS_many (m - 1) (by omega)
      rw [show m - 1 + 1 = m by omega] at hm0
      have HST := Lib.hid (newS_step m hm1)
      replace hg := Lib.hid hg
      have HM0 := Lib.hid hm0
      clear hm0
      go_wp2_with (first
        | (go_at_call 23; ((with_reducible refine (see_at _ g bm (m - 1) (newS (m - 1)).1 (newS (m - 1)).2.1 false (newS (m - 1)).2.2 m 0 0 0 ?_ ?_ ?_ ?_ ?_ ?_).mono ?_); omega; exact ⟨wf_mk (by simp only []; omega), wf_mk (by simp), wf_mk (by simp), wf_mk (by simp)⟩; (unfold maxLen; omega); (rw [HM0.out]; omega); (rw [HM0.out]; omega); exact hg.out; rintro e w2 ⟨rfl, hb, hg'⟩; replace hg' := Lib.hid hg'))
        | ((with_reducible refine op_build 35 #[(0, .tmp 11)] (.agg #[.int .i64 (m : Int), .int .i64 0, .int .i64 0, .int .i64 0]) ?_ ?_); (intro w9; kernel_rfl)))
      refine ⟨⟨m + 1, by omega, by omega, by go_num, ?_, hbel.trans (hb.below hbel.size gg gm)⟩, by simp [intOf]; omega⟩
      have := hg'.out
      rw [show m - 1 + 1 = m by omega] at this
      rw [show m + 1 - 1 = m by omega, HST.out]
      exact this
    · obtain rfl : m = 17 := by omega
      go_wp2
      go_ret
      exact ⟨g, bm, rfl, gg, gm, hg, hbel⟩
end Go.Proofs.Ytbpepkpjjfhmpaa
