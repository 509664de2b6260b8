/- BoardTwice: what is put a second time changes nothing, and what was put is what is told: for every board, every user, every row of statuses. No condition. -/
import Derived.Test.YtlkgofannoddfaaG
import Derived.ChangeOld
namespace Go.Proofs.Ytlkgofannoddfaa
open Go.ChangeShapes Go.WideShapes Go.ChangeAt Go.RowKit
set_option linter.unusedVariables false
set_option linter.unusedSimpArgs false

theorem own : ownKnob Try.prog.godebug = none := by kernel_rfl
theorem laidOut : laidOutB Try.prog = true := by kernel_rfl

set_option maxHeartbeats 1000000 in
set_option maxRecDepth 100000 in
theorem twice_long (B : List Int) (u : Int) (L : List Int) (A : Option Addr) (c : Nat) (w : World) (hL : ¬ L.length ≤ 200) (hL2 : L.length ≤ 9223372036854775807) :
    Calls Try.prog 6 #[.agg (ints B), .int .i64 u, .slice A L.length c] w fun e w' => e = .returned (.bool true) ∧ Below w.heap.size w w' := by
  go_enter Try.func6, Try.ntmps6
  go_wp2_with (first
    | ((with_reducible refine op_box 25 (.tmp 0) (ints B) ?_ ?_); rfl; intro w1 b3 hge hb k3)
    | (go_at_call 8; refine (small_any _).mono ?_; rintro e w2 ⟨rfl, hb2⟩))
  go_ret
  exact ⟨rfl, hb.trans (hb2.mono hb.size)⟩

theorem ci_set_ne {B : List Int} {i j : Nat} (x : Int) (h : i ≠ j) : ci (B.set i x) j = ci B j := by
  simp [ci, List.getD_eq_getElem?_getD, List.getElem?_set_ne h]
theorem ci_set_eq {B : List Int} {i : Nat} (x : Int) (h : i < B.length) : ci (B.set i x) i = x := by
  simp [ci, List.getD_eq_getElem?_getD, h]
/-- what is put is what its entry holds then -/
theorem putF_cell {B : List Int} (hB : B.length = 51) (n : Nat) (hn : n ≤ 16) (x y z : Int) :
    ci (((B.set (n*3) x).set (n*3+1) y).set (n*3+2) z) (n*3+1) = y ∧ ci (((B.set (n*3) x).set (n*3+1) y).set (n*3+2) z) (n*3+2) = z ∧ ci (((B.set (n*3) x).set (n*3+1) y).set (n*3+2) z) (n*3) = x := by
  refine ⟨?_, ?_, ?_⟩
  · rw [ci_set_ne _ (by omega), ci_set_eq _ (by simp; omega)]
  · rw [ci_set_eq _ (by simp; omega)]
  · rw [ci_set_ne _ (by omega), ci_set_ne _ (by omega), ci_set_eq _ (by omega)]

theorem twice_walk (B : List Int) (hB : B.length = 51) (hw : WF B) (u : Int) (L : List Int) (A : Option Addr) (c : Nat) (w : World) (hL2 : L.length ≤ 9223372036854775807) (h : Holds w A (L.map (Value.int .i64))) :
    Calls Try.prog 6 #[.agg (ints B), .int .i64 u, .slice A L.length c] w fun e w' => e = .returned (.bool true) ∧ Below w.heap.size w w' := by
  by_cases hL : L.length ≤ 200
  · by_cases hu : 1 ≤ u ∧ u ≤ 16
    · obtain ⟨n, rfl⟩ : ∃ n : Nat, u = n := ⟨u.toNat, by omega⟩
      have e0 := ints_ci (B := B) (i := n*3) (by omega)
      have hnote : ∀ C, noteF C (n : Int) = ((n : Int), ci C (n*3), ci C (n*3+1), ci C (n*3+2)) := fun C => by unfold noteF; rw [if_pos hu]; simp
      by_cases hv : 1073741824 ≤ ci B (n*3)
      · have hp : putF B n L = (B, false) := by unfold putF; rw [if_pos hu, if_pos (Or.inr (by simpa using hv))]
        exact twice_full B hB hw n (by omega) (by omega) _ e0 L A c w hL h _ _ _ _ _ _ hp hp (hnote B) rfl hv
      · by_cases hs : ci B (n*3+1) = (fold L).1 ∧ ci B (n*3+2) = (fold L).2
        · have hp : putF B n L = (B, false) := by unfold putF; rw [if_pos hu, if_pos (Or.inl (by simpa using hs))]
          exact twice_same B hB hw n (by omega) (by omega) _ e0 L A c w hL h _ _ _ _ hp hp (hnote B) (Prod.ext hs.1.symm hs.2.symm) (by omega)
        · have hp : putF B n L = (((B.set (n*3) (ci B (n*3) + 1)).set (n*3+1) (fold L).1).set (n*3+2) (fold L).2, true) := by
            unfold putF; rw [if_pos hu, if_neg]
            · simp
            · simp only [Int.toNat_natCast]
              intro hh
              rcases hh with hh | hh
              · exact hs hh
              · exact hv hh
          have hc := putF_cell hB n (by omega) (ci B (n*3) + 1) (fold L).1 (fold L).2
          have hp2 : putF (((B.set (n*3) (ci B (n*3) + 1)).set (n*3+1) (fold L).1).set (n*3+2) (fold L).2) n L = (((B.set (n*3) (ci B (n*3) + 1)).set (n*3+1) (fold L).1).set (n*3+2) (fold L).2, false) := by
            unfold putF; rw [if_pos hu, if_pos (Or.inl (by simpa using ⟨hc.1, hc.2.1⟩))]
          have hl := putF_len hB n L
          have hwf := putF_wf hw n L
          rw [hp] at hl hwf
          refine twice_yes B hB hw n (by omega) (by omega) _ e0 L A c w hL h _ hl hwf _ _ _ _ hp hp2 (hnote _) (Prod.ext ?_ ?_) (by omega)
          · exact hc.1.symm
          · exact hc.2.1.symm
    · have hp : putF B u L = (B, false) := by unfold putF; rw [if_neg hu]
      exact twice_bad B hB hw u hu L A c w hL h _ _ hp hp (by unfold noteF; rw [if_neg hu]) rfl
  · exact twice_long B u L A c w hL hL2

theorem it25 : intTy Try.prog 4 25 = true := by kernel_rfl
theorem it3 : intTy Try.prog 2 3 = true := by kernel_rfl
theorem c25 : Try.prog.cellsOf 25 = 51 := by kernel_rfl
theorem c3 : Try.prog.cellsOf 3 = 1 := by kernel_rfl

set_option maxRecDepth 100000 in
theorem twice_lifted (os : Os) (started : os.Started) (H : Type) (enc : TypeId × Value → H) :
    ReturnsInHanded {} Try.checked os 6 .any (Rows.boardTwiceSpec.pre6 enc Try.prog Try.f6 Rows.boardTwiceRow.domain false) (Rows.boardTwiceSpec.post enc Try.prog Try.f6 false true false false) := by
  refine returnsInHanded_of_change (C := Try.checked) own started (by kernel_rfl) Try.func6
    (ChangeSpec.witness6 (enc := enc) (C := Try.checked) false ⟨#[], #[.agg (ints (List.replicate 51 0)), .int .i64 0, .slice none 0 0], []⟩ 8 (by kernel_rfl) (by kernel_rfl) (by kernel_rfl) (by kernel_rfl)) ?_
  intro W base args ds gs before hval0 hW hcnd _
  have hval : ∀ (j : Nat) t v, Try.f6.params[j]? = some t → args[j]? = some v → Value.okWide Try.prog W .any base t v := hval0
  have hW' := hW
  obtain ⟨p, q, hA0, hV, rfl, hfz, hnd⟩ := hW
  have hA : DataW.TrodAll enc Try.prog W 0 (fun _ => true) true Try.f6.params.toList args.toList ds p := hA0
  rw [Try.params6] at hA hval
  obtain ⟨v0, vs0, d0, ds0, p0, q0, hargs, rfl, rfl, h0, r0⟩ := trodAll_cons hA
  obtain ⟨v1, vs1, d1, ds1, p1, q1, rfl, rfl, rfl, h1, r1⟩ := trodAll_cons r0
  obtain ⟨v2, vs2, d2, ds2, p2, q2, rfl, rfl, rfl, h2, r2⟩ := trodAll_cons r1
  obtain ⟨rfl, rfl, rfl⟩ := trodAll_nil r2
  obtain rfl : args = #[v0, v1, v2] := by cases args; simp_all
  obtain ⟨rfl, rfl⟩ := trodVars_none hV
  have k0 := h0
  have lt0 : ∀ x ∈ p0, x.block < W.heap.size := by obtain ⟨m, hm⟩ := k0; exact DataW.trod_lt m _ _ _ hm
  have k2 := h2
  have lt2 : ∀ x ∈ p2, x.block < W.heap.size := by obtain ⟨m, hm⟩ := k2; exact DataW.trod_lt m _ _ _ hm
  obtain ⟨B, rfl, hB, hw⟩ := open_agg_ints 4 51 it25 (by rw [Try.underlying25]) c25 (hval 0 25 v0 rfl rfl) h0
  obtain ⟨u, rfl, rfl, rfl, wu⟩ := open_int Try.underlying3 (hval 1 3 v1 rfl rfl) h1
  obtain ⟨A, n, c, L, rfl, hn, hLw, hnc, hcm, hh⟩ := open_slice_ints 2 1 Try.underlying26 it3 c3 (by omega) (hval 2 26 v2 rfl rfl) h2
  obtain rfl : n = L.length := by omega
  clear hA0 hval0
  refine (twice_walk B hB hw u L A c W (by unfold maxLen at hcm; omega) hh).mono fun e W' ⟨he, bel⟩ => ?_
  subst he
  exact ⟨_, rfl, _, _, _, [], _, [], hW', trodAll_mk1 (shut_bool Try.underlying4 _), (trodAll_cons_mk (Below.trod laidOut (by kernel_rfl) (of_decide_eq_true (by kernel_rfl)) k0 bel lt0) (trodAll_cons_mk (shut_int Try.underlying3 wu) (trodAll_cons_mk (Below.trod laidOut (by kernel_rfl) (of_decide_eq_true (by kernel_rfl)) k2 bel lt2) trodAll_mk0))), rfl, bel.frame _, fun h => by cases h⟩

theorem boardTwice_holds : Rows.BoardTwiceSaid :=
  OpenClaim.holds_of_wide 6 Try.f6 rfl rfl rfl rfl rfl rfl rfl ⟨rfl, rfl, rfl, rfl, rfl⟩ rfl rfl rfl rfl rfl (by kernel_rfl) Try.func6 (by kernel_rfl)
    (of_decide_eq_true (by kernel_rfl)) (by unfold Func.isWrapper; first | (rw [if_pos (by decide +kernel)]; kernel_rfl) | (rw [if_neg (by decide +kernel)]; exact ⟨rfl, rfl⟩))
    (fun os started H enc _ => twice_lifted os started H enc)
#print axioms boardTwice_holds
end Go.Proofs.Ytlkgofannoddfaa
