/- TimerTells: proved. -/
import Derived.Test.YtndpbciefijjcaaDe
namespace Go.Proofs.Ytndpbciefijjcaa
open Go.ChangeShapes Go.WideShapes Go.ChangeAt Go.RowKit Go.Maps
set_option linter.unusedVariables false
set_option linter.unusedSimpArgs false

theorem timerTells_it0 : intTy Try.prog 3 40 = true := by kernel_rfl
theorem timerTells_c0 : Try.prog.cellsOf 40 = 2 := by kernel_rfl
theorem timerTells_it1 : intTy Try.prog 3 27 = true := by kernel_rfl
theorem timerTells_c1 : Try.prog.cellsOf 27 = 3 := by kernel_rfl
set_option maxRecDepth 100000 in
theorem timerTells_lifted (os : Os) (started : os.Started) (H : Type) (enc : TypeId × Value → H) :
    ReturnsInHanded {} Try.checked os 3 .any (Rows.timerTellsSpec.pre6 enc Try.prog Try.f3 Rows.timerTellsRow.domain false) (Rows.timerTellsSpec.post enc Try.prog Try.f3 false true false false) := by
  refine returnsInHanded_of_change (C := Try.checked) own started (by kernel_rfl) Try.func3
    (ChangeSpec.witness6 (enc := enc) (C := Try.checked) false ⟨#[], #[.slice none 0 0, .slice none 0 0], []⟩ 8 (by kernel_rfl) (by kernel_rfl) (by kernel_rfl) (by kernel_rfl)) ?_
  intro W base args ds gs before hval0 hW hcnd _
  have hval : ∀ (j : Nat) t v, Try.f3.params[j]? = some t → args[j]? = some v → Value.okWide Try.prog W .any base t v := hval0
  have hW' := hW
  obtain ⟨p, q, hA0, hV, rfl, hfz, hnd⟩ := hW
  have hA : DataW.TrodAll enc Try.prog W 0 (fun _ => true) true Try.f3.params.toList args.toList ds p := hA0
  rw [Try.params3] at hA hval
  obtain ⟨v0, vs0, d0, ds0, p0, q0, hargs, rfl, rfl, h0, r0⟩ := trodAll_cons hA
  obtain ⟨v1, vs1, d1, ds1, p1, q1, rfl, rfl, rfl, h1, r1⟩ := trodAll_cons r0
  obtain ⟨rfl, rfl, rfl⟩ := trodAll_nil r1
  obtain rfl : args = #[v0, v1] := by cases args; simp_all
  obtain ⟨rfl, rfl⟩ := trodVars_none hV
  have k0 := h0
  have lt0 : ∀ x ∈ p0, x.block < W.heap.size := by obtain ⟨m, hm⟩ := k0; exact DataW.trod_lt m _ _ _ hm
  have k1 := h1
  have lt1 : ∀ x ∈ p1, x.block < W.heap.size := by obtain ⟨m, hm⟩ := k1; exact DataW.trod_lt m _ _ _ hm
  obtain ⟨A0, n0, c0, L0, rfl, hn0, hw0, hnc0, hcm0, hh0, hz0⟩ := open_slice_ints 3 2 Try.underlying22 timerTells_it0 timerTells_c0 (by omega) (hval 0 22 v0 rfl rfl) h0
  have hb0 : n0 ≤ 9223372036854775807 := by unfold maxLen at hcm0; omega
  obtain ⟨A1, n1, c1, L1, rfl, hn1, hw1, hnc1, hcm1, hh1, hz1⟩ := open_slice_ints 3 3 Try.underlying23 timerTells_it1 timerTells_c1 (by omega) (hval 1 23 v1 rfl rfl) h1
  have hb1 : n1 ≤ 9223372036854775807 := by unfold maxLen at hcm1; omega
  clear hA0 hval0
  refine (tells_all W A0 n0 c0 L0 A1 n1 c1 L1 hn0 hw0 hnc0 hcm0 hh0 hz0 (by omega) hn1 hw1 hh1 (by omega)).mono fun e W' ⟨he, bel⟩ => ?_
  subst he
  exact ⟨_, rfl, _, _, _, [], _, [], hW', trodAll_mk1 (shut_bool Try.underlying4 _), (trodAll_cons_mk (Below.trod laidOut (by kernel_rfl) (of_decide_eq_true (by kernel_rfl)) k0 bel lt0) (trodAll_cons_mk (Below.trod laidOut (by kernel_rfl) (of_decide_eq_true (by kernel_rfl)) k1 bel lt1) trodAll_mk0)), rfl, bel.frame _, fun h => by cases h⟩

theorem timerTells_holds : Rows.TimerTellsSaid :=
  OpenClaim.holds_of_wide 3 Try.f3 rfl rfl rfl rfl rfl rfl rfl ⟨rfl, rfl, rfl, rfl, rfl⟩ rfl rfl rfl rfl rfl (by kernel_rfl) Try.func3 (by kernel_rfl)
    (of_decide_eq_true (by kernel_rfl)) (by unfold Func.isWrapper; first | (rw [if_pos (by decide +kernel)]; kernel_rfl) | (rw [if_neg (by decide +kernel)]; exact ⟨rfl, rfl⟩))
    (fun os started H enc _ => timerTells_lifted os started H enc)
#print axioms timerTells_holds
end Go.Proofs.Ytndpbciefijjcaa
