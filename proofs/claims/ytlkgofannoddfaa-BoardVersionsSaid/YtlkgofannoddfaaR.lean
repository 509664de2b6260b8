/- BoardVersions, joined. -/
import Derived.Test.YtlkgofannoddfaaQ
namespace Go.Proofs.Ytlkgofannoddfaa
open Go.ChangeShapes Go.WideShapes Go.ChangeAt Go.RowKit
set_option linter.unusedVariables false
set_option linter.unusedSimpArgs false

theorem versions_walk (B : List Int) (hB : B.length = 51) (hw : WF B) (U : List Int) (A A2 : Option Addr) (c n2 c2 : Nat) (w : World) (hU : U.length ≤ 9223372036854775807) (hn2 : n2 ≤ 9223372036854775807) (h : Holds w A (U.map (Value.int .i64))) (h2 : HoldsRows w A2 n2) :
    Calls Try.prog 4 #[.agg (ints B), .slice A U.length c, .slice A2 n2 c2] w fun e w' => e = .returned (.bool true) ∧ Below w.heap.size w w' := by
  by_cases h1 : U.length ≤ 100 ∧ n2 = U.length
  · obtain ⟨h1, rfl⟩ := h1
    exact versions_walk0 B hB hw U A A2 c c2 w h1 h h2
  · exact versions_bad B U A A2 c n2 c2 w hU (by omega) hn2

theorem c26 : Try.prog.cellsOf 26 = 1 := by kernel_rfl
set_option maxRecDepth 100000 in
theorem versions_lifted (os : Os) (started : os.Started) (H : Type) (enc : TypeId × Value → H) :
    ReturnsInHanded {} Try.checked os 4 .any (Rows.boardVersionsSpec.pre6 enc Try.prog Try.f4 Rows.boardVersionsRow.domain false) (Rows.boardVersionsSpec.post enc Try.prog Try.f4 false true false false) := by
  refine returnsInHanded_of_change (C := Try.checked) own started (by kernel_rfl) Try.func4
    (ChangeSpec.witness6 (enc := enc) (C := Try.checked) false ⟨#[], #[.agg (ints (List.replicate 51 0)), .slice none 0 0, .slice none 0 0], []⟩ 8 (by kernel_rfl) (by kernel_rfl) (by kernel_rfl) (by kernel_rfl)) ?_
  intro W base args ds gs before hval0 hW hcnd _
  have hval : ∀ (j : Nat) t v, Try.f4.params[j]? = some t → args[j]? = some v → Value.okWide Try.prog W .any base t v := hval0
  have hW' := hW
  obtain ⟨p, q, hA0, hV, rfl, hfz, hnd⟩ := hW
  have hA : DataW.TrodAll enc Try.prog W 0 (fun _ => true) true Try.f4.params.toList args.toList ds p := hA0
  rw [Try.params4] at hA hval
  obtain ⟨v0, vs0, d0, ds0, p0, q0, hargs, rfl, rfl, h0, r0⟩ := trodAll_cons hA
  obtain ⟨v1, vs1, d1, ds1, p1, q1, rfl, rfl, rfl, h1, r1⟩ := trodAll_cons r0
  obtain ⟨v2, vs2, d2, ds2, p2, q2, rfl, rfl, rfl, h2, r2⟩ := trodAll_cons r1
  obtain ⟨rfl, rfl, rfl⟩ := trodAll_nil r2
  obtain rfl : args = #[v0, v1, v2] := by cases args; simp_all
  obtain ⟨rfl, rfl⟩ := trodVars_none hV
  have k0 := h0
  have lt0 : ∀ x ∈ p0, x.block < W.heap.size := by obtain ⟨m, hm⟩ := k0; exact DataW.trod_lt m _ _ _ hm
  have k1 := h1
  have lt1 : ∀ x ∈ p1, x.block < W.heap.size := by obtain ⟨m, hm⟩ := k1; exact DataW.trod_lt m _ _ _ hm
  have k2 := h2
  have lt2 : ∀ x ∈ p2, x.block < W.heap.size := by obtain ⟨m, hm⟩ := k2; exact DataW.trod_lt m _ _ _ hm
  obtain ⟨B, rfl, hB, hw⟩ := open_agg_ints 4 51 it25 (by rw [Try.underlying25]) c25 (hval 0 25 v0 rfl rfl) h0
  obtain ⟨A, n, c, L, rfl, hn, hLw, hnc, hcm, hh⟩ := open_slice_ints 2 1 Try.underlying26 it3 c3 (by omega) (hval 1 26 v1 rfl rfl) h1
  obtain ⟨A2, n2, c2, rfl, hnc2, hcm2, hh2⟩ := open_slice_rows Try.underlying39 Try.underlying26 c26 it3 c3 (hval 2 39 v2 rfl rfl) h2
  obtain rfl : n = L.length := by omega
  clear hA0 hval0
  refine (versions_walk B hB hw L A A2 c n2 c2 W (by unfold maxLen at hcm; omega) (by unfold maxLen at hcm2; omega) hh hh2).mono fun e W' ⟨he, bel⟩ => ?_
  subst he
  exact ⟨_, rfl, _, _, _, [], _, [], hW', trodAll_mk1 (shut_bool Try.underlying4 _), (trodAll_cons_mk (Below.trod laidOut (by kernel_rfl) (of_decide_eq_true (by kernel_rfl)) k0 bel lt0) (trodAll_cons_mk (Below.trod laidOut (by kernel_rfl) (of_decide_eq_true (by kernel_rfl)) k1 bel lt1) (trodAll_cons_mk (Below.trod laidOut (by kernel_rfl) (of_decide_eq_true (by kernel_rfl)) k2 bel lt2) trodAll_mk0))), rfl, bel.frame _, fun h => by cases h⟩

theorem boardVersions_holds : Rows.BoardVersionsSaid :=
  OpenClaim.holds_of_wide 4 Try.f4 rfl rfl rfl rfl rfl rfl rfl ⟨rfl, rfl, rfl, rfl, rfl⟩ rfl rfl rfl rfl rfl (by kernel_rfl) Try.func4 (by kernel_rfl)
    (of_decide_eq_true (by kernel_rfl)) (by unfold Func.isWrapper; first | (rw [if_pos (by decide +kernel)]; kernel_rfl) | (rw [if_neg (by decide +kernel)]; exact ⟨rfl, rfl⟩))
    (fun os started H enc _ => versions_lifted os started H enc)
#print axioms boardVersions_holds
end Go.Proofs.Ytlkgofannoddfaa
