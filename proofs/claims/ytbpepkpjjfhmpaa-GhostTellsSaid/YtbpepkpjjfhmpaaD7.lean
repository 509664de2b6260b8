/- GhostTells: what is remembered, look by look, is what the document says: any boards, any notes. No condition. -/
import Derived.Test.YtbpepkpjjfhmpaaD6
import Derived.ChangeOld
namespace Go.Proofs.Ytbpepkpjjfhmpaa
open Go.ChangeShapes Go.WideShapes Go.ChangeAt Go.RowKit Go.Maps
set_option linter.unusedVariables false
set_option linter.unusedSimpArgs false

theorem own : ownKnob Try.prog.godebug = none := by kernel_rfl
theorem unflat : ∀ (n : Nat) (L : List Int), L.length = n * 4 → WF L → ∃ V : List Nt, nflat V = L ∧ V.length = n ∧ ∀ x ∈ V, NWF x
  | 0, L, h, _ => ⟨[], by have : L = [] := List.eq_nil_of_length_eq_zero (by omega); rw [this]; rfl, rfl, fun x hx => by simp at hx⟩
  | n + 1, L, h, hw => by
    match L, h, hw with
    | a :: b :: c :: d :: L, h, hw =>
      obtain ⟨V, h1, h2, h3⟩ := unflat n L (by simp at h; omega) (fun x hx => hw x (by simp [hx]))
      refine ⟨(a, b, c, d) :: V, by simp only [nflat, List.flatMap_cons] at h1 ⊢; rw [h1]; rfl, by simp [h2], fun x hx => ?_⟩
      rcases List.mem_cons.1 hx with rfl | hx
      · exact ⟨hw _ (by simp), hw _ (by simp), hw _ (by simp), hw _ (by simp)⟩
      · exact h3 x hx
    | [], h, _ => simp at h
    | [_], h, _ => simp at h; omega
    | [_, _], h, _ => simp at h; omega
    | [_, _, _], h, _ => simp at h; omega
theorem tells_long (w : World) (A AV : Option Addr) (n c nV cV : Nat) (h : 50 < n ∨ 50 < nV) (hn : n ≤ 9223372036854775807) (hn2 : nV ≤ 9223372036854775807) :
    Calls Try.prog 3 #[.slice A n c, .slice AV nV cV] w fun e w' => e = .returned (.bool true) ∧ Below w.heap.size w w' := by
  have hall := Below.refl w.heap.size w
  by_cases h1 : 50 < n
  · clear h
    go_enter Try.func3, Try.ntmps3
    go_wp2_with (first
      | (go_at_call 6; refine (small_any _).mono ?_; rintro e w1 ⟨rfl, hb⟩; replace hall := hall.trans (hb.mono hall.size); clear hb))
    go_ret
    exact ⟨rfl, hall⟩
  · have h2 : 50 < nV := by omega
    clear h
    go_enter Try.func3, Try.ntmps3
    go_wp2_with (first
      | (go_at_call 6; refine (small_any _).mono ?_; rintro e w1 ⟨rfl, hb⟩; replace hall := hall.trans (hb.mono hall.size); clear hb))
    go_ret
    exact ⟨rfl, hall⟩
theorem tells_all (L LV : List Int) (A AV : Option Addr) (n c nV cV : Nat) (w : World) (hL : L.length = n * 51) (hLV : LV.length = nV * 4) (hw : WF L) (hwV : WF LV) (hc : nV ≤ cV) (hn : n ≤ 9223372036854775807) (hn2 : nV ≤ 9223372036854775807)
    (hh : Holds w A (L.map (Value.int .i64))) (hhV : Holds w AV (LV.map (Value.int .i64))) :
    Calls Try.prog 3 #[.slice A n c, .slice AV nV cV] w fun e w' => e = .returned (.bool true) ∧ Below w.heap.size w w' := by
  by_cases h : n ≤ 50 ∧ nV ≤ 50
  · obtain ⟨V, rfl, rfl, hVw⟩ := unflat nV LV hLV hwV
    exact tells_walk w A AV n c cV L V hL hw h.1 hh h.2 hc hVw hhV
  · exact tells_long w A AV n c nV cV (by omega) hn hn2

theorem ghostTells_it0 : intTy Try.prog 4 33 = true := by kernel_rfl
theorem ghostTells_c0 : Try.prog.cellsOf 33 = 51 := by kernel_rfl
theorem ghostTells_it1 : intTy Try.prog 3 35 = true := by kernel_rfl
theorem ghostTells_c1 : Try.prog.cellsOf 35 = 4 := by kernel_rfl
set_option maxRecDepth 100000 in
theorem ghostTells_lifted (os : Os) (started : os.Started) (H : Type) (enc : TypeId × Value → H) :
    ReturnsInHanded {} Try.checked os 3 .any (Rows.ghostTellsSpec.pre6 enc Try.prog Try.f3 Rows.ghostTellsRow.domain false) (Rows.ghostTellsSpec.post enc Try.prog Try.f3 false true false false) := by
  refine returnsInHanded_of_change (C := Try.checked) own started (by kernel_rfl) Try.func3
    (ChangeSpec.witness6 (enc := enc) (C := Try.checked) false ⟨#[], #[.slice none 0 0, .slice none 0 0], []⟩ 8 (by kernel_rfl) (by kernel_rfl) (by kernel_rfl) (by kernel_rfl)) ?_
  intro W base args ds gs before hval0 hW hcnd _
  have hval : ∀ (j : Nat) t v, Try.f3.params[j]? = some t → args[j]? = some v → Value.okWide Try.prog W .any base t v := hval0
  have hW' := hW
  obtain ⟨p, q, hA0, hV, rfl, hfz, hnd⟩ := hW
  have hA : DataW.TrodAll enc Try.prog W 0 (fun _ => true) true Try.f3.params.toList args.toList ds p := hA0
  rw [Try.params3] at hA hval
  obtain ⟨v0, vs0, d0, ds0, p0, q0, hargs, rfl, rfl, h0, r0⟩ := trodAll_cons hA
  obtain ⟨v1, vs1, d1, ds1, p1, q1, rfl, rfl, rfl, h1, r1⟩ := trodAll_cons r0
  obtain ⟨rfl, rfl, rfl⟩ := trodAll_nil r1
  obtain rfl : args = #[v0, v1] := by cases args; simp_all
  obtain ⟨rfl, rfl⟩ := trodVars_none hV
  have k0 := h0
  have lt0 : ∀ x ∈ p0, x.block < W.heap.size := by obtain ⟨m, hm⟩ := k0; exact DataW.trod_lt m _ _ _ hm
  have k1 := h1
  have lt1 : ∀ x ∈ p1, x.block < W.heap.size := by obtain ⟨m, hm⟩ := k1; exact DataW.trod_lt m _ _ _ hm
  obtain ⟨A0, n0, c0, L0, rfl, hn0, hw0, hnc0, hcm0, hh0⟩ := open_slice_ints 4 51 Try.underlying22 ghostTells_it0 ghostTells_c0 (by omega) (hval 0 22 v0 rfl rfl) h0
  have hb0 : n0 ≤ 9223372036854775807 := by unfold maxLen at hcm0; omega
  obtain ⟨A1, n1, c1, L1, rfl, hn1, hw1, hnc1, hcm1, hh1⟩ := open_slice_ints 3 4 Try.underlying23 ghostTells_it1 ghostTells_c1 (by omega) (hval 1 23 v1 rfl rfl) h1
  have hb1 : n1 ≤ 9223372036854775807 := by unfold maxLen at hcm1; omega
  clear hA0 hval0
  refine (tells_all L0 L1 A0 A1 n0 c0 n1 c1 W hn0 hn1 hw0 hw1 hnc1 hb0 hb1 hh0 hh1).mono fun e W' ⟨he, bel⟩ => ?_
  subst he
  exact ⟨_, rfl, _, _, _, [], _, [], hW', trodAll_mk1 (shut_bool Try.underlying4 _), (trodAll_cons_mk (Below.trod laidOut (by kernel_rfl) (of_decide_eq_true (by kernel_rfl)) k0 bel lt0) (trodAll_cons_mk (Below.trod laidOut (by kernel_rfl) (of_decide_eq_true (by kernel_rfl)) k1 bel lt1) trodAll_mk0)), rfl, bel.frame _, fun h => by cases h⟩

theorem ghostTells_holds : Rows.GhostTellsSaid :=
  OpenClaim.holds_of_wide 3 Try.f3 rfl rfl rfl rfl rfl rfl rfl ⟨rfl, rfl, rfl, rfl, rfl⟩ rfl rfl rfl rfl rfl (by kernel_rfl) Try.func3 (by kernel_rfl)
    (of_decide_eq_true (by kernel_rfl)) (by unfold Func.isWrapper; first | (rw [if_pos (by decide +kernel)]; kernel_rfl) | (rw [if_neg (by decide +kernel)]; exact ⟨rfl, rfl⟩))
    (fun os started H enc _ => ghostTells_lifted os started H enc)
#print axioms ghostTells_holds
end Go.Proofs.Ytbpepkpjjfhmpaa
