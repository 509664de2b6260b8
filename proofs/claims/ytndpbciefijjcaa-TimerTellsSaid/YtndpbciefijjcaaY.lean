/- TimerOnce: proved. -/
import Derived.Test.YtndpbciefijjcaaX
namespace Go.Proofs.Ytndpbciefijjcaa
open Go.ChangeShapes Go.WideShapes Go.ChangeAt Go.RowKit Go.Maps
set_option linter.unusedVariables false
set_option linter.unusedSimpArgs false

def decA (l : List Int) : Ac := (l.getD 0 0, l.getD 1 0, l.getD 2 0)
theorem decA_enc (l : List Int) (h : l.length = 3) : encA (decA l) = l := by
  match l, h with
  | [a, b, c], _ => rfl
/-- acts as they came in -/
theorem acts_in {w : World} {A : Option Addr} {n : Nat} {B : List Int} (hB : B.length = n * 3) (hw : WF B) (hh : Holds w A (B.map (Value.int .i64))) :
    ∃ V : List Ac, V.length = n ∧ AWF V ∧ Holds w A (FV encA V) := by
  obtain ⟨V, rfl, rfl⟩ := unflat decA decA_enc n B hB
  exact ⟨V, rfl, fun x hx => ⟨flat_wf hw x hx x.1 (by simp), flat_wf hw x hx x.2.1 (by simp), flat_wf hw x hx x.2.2 (by simp)⟩, hh⟩
theorem once_all (w : World) (A : Option Addr) (n c : Nat) (B : List Int) (AV : Option Addr) (nV cV : Nat) (BV : List Int) (hB : B.length = n * 2) (hw : WF B) (hnc : n ≤ c) (hc : c ≤ maxLen) (hh : Holds w A (B.map (Value.int .i64))) (hz : A = none → c = 0) (hn : n ≤ 9223372036854775807)
    (hBV : BV.length = nV * 3) (hwV : WF BV) (hhV : Holds w AV (BV.map (Value.int .i64))) (hnV : nV ≤ 9223372036854775807) :
    Calls Try.prog 4 #[.slice A n c, .slice AV nV cV] w fun e w' => e = .returned (.bool true) ∧ Below w.heap.size w w' := by
  obtain ⟨L, h, rfl, hwf⟩ := row_in hB hw hnc hc hh hz
  obtain ⟨V, rfl, hVw, hV⟩ := acts_in hBV hwV hhV
  exact once_walk w _ L AV cV V h hn hwf hnV hVw hV
theorem timerOnce_it0 : intTy Try.prog 3 40 = true := by kernel_rfl
theorem timerOnce_c0 : Try.prog.cellsOf 40 = 2 := by kernel_rfl
theorem timerOnce_it1 : intTy Try.prog 3 27 = true := by kernel_rfl
theorem timerOnce_c1 : Try.prog.cellsOf 27 = 3 := by kernel_rfl
set_option maxRecDepth 100000 in
theorem timerOnce_lifted (os : Os) (started : os.Started) (H : Type) (enc : TypeId × Value → H) :
    ReturnsInHanded {} Try.checked os 4 .any (Rows.timerOnceSpec.pre6 enc Try.prog Try.f4 Rows.timerOnceRow.domain false) (Rows.timerOnceSpec.post enc Try.prog Try.f4 false true false false) := by
  refine returnsInHanded_of_change (C := Try.checked) own started (by kernel_rfl) Try.func4
    (ChangeSpec.witness6 (enc := enc) (C := Try.checked) false ⟨#[], #[.slice none 0 0, .slice none 0 0], []⟩ 8 (by kernel_rfl) (by kernel_rfl) (by kernel_rfl) (by kernel_rfl)) ?_
  intro W base args ds gs before hval0 hW hcnd _
  have hval : ∀ (j : Nat) t v, Try.f4.params[j]? = some t → args[j]? = some v → Value.okWide Try.prog W .any base t v := hval0
  have hW' := hW
  obtain ⟨p, q, hA0, hV, rfl, hfz, hnd⟩ := hW
  have hA : DataW.TrodAll enc Try.prog W 0 (fun _ => true) true Try.f4.params.toList args.toList ds p := hA0
  rw [Try.params4] at hA hval
  obtain ⟨v0, vs0, d0, ds0, p0, q0, hargs, rfl, rfl, h0, r0⟩ := trodAll_cons hA
  obtain ⟨v1, vs1, d1, ds1, p1, q1, rfl, rfl, rfl, h1, r1⟩ := trodAll_cons r0
  obtain ⟨rfl, rfl, rfl⟩ := trodAll_nil r1
  obtain rfl : args = #[v0, v1] := by cases args; simp_all
  obtain ⟨rfl, rfl⟩ := trodVars_none hV
  have k0 := h0
  have lt0 : ∀ x ∈ p0, x.block < W.heap.size := by obtain ⟨m, hm⟩ := k0; exact DataW.trod_lt m _ _ _ hm
  have k1 := h1
  have lt1 : ∀ x ∈ p1, x.block < W.heap.size := by obtain ⟨m, hm⟩ := k1; exact DataW.trod_lt m _ _ _ hm
  obtain ⟨A0, n0, c0, L0, rfl, hn0, hw0, hnc0, hcm0, hh0, hz0⟩ := open_slice_ints 3 2 Try.underlying22 timerOnce_it0 timerOnce_c0 (by omega) (hval 0 22 v0 rfl rfl) h0
  have hb0 : n0 ≤ 9223372036854775807 := by unfold maxLen at hcm0; omega
  obtain ⟨A1, n1, c1, L1, rfl, hn1, hw1, hnc1, hcm1, hh1, hz1⟩ := open_slice_ints 3 3 Try.underlying23 timerOnce_it1 timerOnce_c1 (by omega) (hval 1 23 v1 rfl rfl) h1
  have hb1 : n1 ≤ 9223372036854775807 := by unfold maxLen at hcm1; omega
  clear hA0 hval0
  refine (once_all W A0 n0 c0 L0 A1 n1 c1 L1 hn0 hw0 hnc0 hcm0 hh0 hz0 (by omega) hn1 hw1 hh1 (by omega)).mono fun e W' ⟨he, bel⟩ => ?_
  subst he
  exact ⟨_, rfl, _, _, _, [], _, [], hW', trodAll_mk1 (shut_bool Try.underlying4 _), (trodAll_cons_mk (Below.trod laidOut (by kernel_rfl) (of_decide_eq_true (by kernel_rfl)) k0 bel lt0) (trodAll_cons_mk (Below.trod laidOut (by kernel_rfl) (of_decide_eq_true (by kernel_rfl)) k1 bel lt1) trodAll_mk0)), rfl, bel.frame _, fun h => by cases h⟩

theorem timerOnce_holds : Rows.TimerOnceSaid :=
  OpenClaim.holds_of_wide 4 Try.f4 rfl rfl rfl rfl rfl rfl rfl ⟨rfl, rfl, rfl, rfl, rfl⟩ rfl rfl rfl rfl rfl (by kernel_rfl) Try.func4 (by kernel_rfl)
    (of_decide_eq_true (by kernel_rfl)) (by unfold Func.isWrapper; first | (rw [if_pos (by decide +kernel)]; kernel_rfl) | (rw [if_neg (by decide +kernel)]; exact ⟨rfl, rfl⟩))
    (fun os started H enc _ => timerOnce_lifted os started H enc)
#print axioms timerOnce_holds
end Go.Proofs.Ytndpbciefijjcaa
