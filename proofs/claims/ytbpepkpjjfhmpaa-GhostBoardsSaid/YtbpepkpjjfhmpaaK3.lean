/- GhostBoards: boards that are made by board's Put alone never disagree, and all their notes are remembered: whom is put, with which statuses, one behind the other. No condition. -/
import Derived.Test.YtbpepkpjjfhmpaaK2
import Derived.ChangeOld
namespace Go.Proofs.Ytbpepkpjjfhmpaa
open Go.ChangeShapes Go.WideShapes Go.ChangeAt Go.RowKit Go.Maps
set_option linter.unusedVariables false
set_option linter.unusedSimpArgs false

theorem own : ownKnob Try.prog.godebug = none := by kernel_rfl
theorem boards_bad (n : Nat) (A A2 : Option Addr) (c n2 c2 : Nat) (w : World) (hU : n ≤ 9223372036854775807) (hn : 100 < n ∨ n2 ≠ n) (hn2 : n2 ≤ 9223372036854775807) :
    Calls Try.prog 5 #[.slice A n c, .slice A2 n2 c2] w fun e w' => e = .returned (.bool true) ∧ Below w.heap.size w w' := by
  have hall := Below.refl w.heap.size w
  by_cases h1 : 100 < n
  · clear hn
    go_enter Try.func5, Try.ntmps5
    go_wp2_with (first
      | (go_at_call 6; refine (small_any _).mono ?_; rintro e w1 ⟨rfl, hb⟩; replace hall := hall.trans (hb.mono hall.size); clear hb))
    go_ret
    exact ⟨rfl, hall⟩
  · have h2 : n2 ≠ n := by omega
    have h3 : ((n2 : Int) != (n : Int)) = true := by simp; omega
    clear hn
    go_enter Try.func5, Try.ntmps5
    go_wp2_with (first
      | (go_at_call 6; refine (small_any _).mono ?_; rintro e w1 ⟨rfl, hb⟩; replace hall := hall.trans (hb.mono hall.size); clear hb))
    go_ret
    exact ⟨rfl, hall⟩
theorem boards_walk (U : List Int) (A A2 : Option Addr) (n c n2 c2 : Nat) (w : World) (hnU : U.length = n) (hU : n ≤ 9223372036854775807) (hn2 : n2 ≤ 9223372036854775807) (h : Holds w A (U.map (Value.int .i64))) (h2 : HoldsRows w A2 n2) :
    Calls Try.prog 5 #[.slice A n c, .slice A2 n2 c2] w fun e w' => e = .returned (.bool true) ∧ Below w.heap.size w w' := by
  subst hnU
  by_cases h1 : U.length ≤ 100 ∧ n2 = U.length
  · obtain ⟨h1, rfl⟩ := h1
    exact boards_walk0 w U A A2 c c2 h1 h h2
  · exact boards_bad U.length A A2 c n2 c2 w hU (by omega) hn2

theorem ghostBoards_it0 : intTy Try.prog 2 3 = true := by kernel_rfl
theorem ghostBoards_c0 : Try.prog.cellsOf 3 = 1 := by kernel_rfl
theorem ghostBoards_it1 : intTy Try.prog 2 3 = true := by kernel_rfl
theorem ghostBoards_c1 : Try.prog.cellsOf 3 = 1 := by kernel_rfl
theorem ghostBoards_e1 : Try.prog.cellsOf 42 = 1 := by kernel_rfl
set_option maxRecDepth 100000 in
theorem ghostBoards_lifted (os : Os) (started : os.Started) (H : Type) (enc : TypeId × Value → H) :
    ReturnsInHanded {} Try.checked os 5 .any (Rows.ghostBoardsSpec.pre6 enc Try.prog Try.f5 Rows.ghostBoardsRow.domain false) (Rows.ghostBoardsSpec.post enc Try.prog Try.f5 false true false false) := by
  refine returnsInHanded_of_change (C := Try.checked) own started (by kernel_rfl) Try.func5
    (ChangeSpec.witness6 (enc := enc) (C := Try.checked) false ⟨#[], #[.slice none 0 0, .slice none 0 0], []⟩ 8 (by kernel_rfl) (by kernel_rfl) (by kernel_rfl) (by kernel_rfl)) ?_
  intro W base args ds gs before hval0 hW hcnd _
  have hval : ∀ (j : Nat) t v, Try.f5.params[j]? = some t → args[j]? = some v → Value.okWide Try.prog W .any base t v := hval0
  have hW' := hW
  obtain ⟨p, q, hA0, hV, rfl, hfz, hnd⟩ := hW
  have hA : DataW.TrodAll enc Try.prog W 0 (fun _ => true) true Try.f5.params.toList args.toList ds p := hA0
  rw [Try.params5] at hA hval
  obtain ⟨v0, vs0, d0, ds0, p0, q0, hargs, rfl, rfl, h0, r0⟩ := trodAll_cons hA
  obtain ⟨v1, vs1, d1, ds1, p1, q1, rfl, rfl, rfl, h1, r1⟩ := trodAll_cons r0
  obtain ⟨rfl, rfl, rfl⟩ := trodAll_nil r1
  obtain rfl : args = #[v0, v1] := by cases args; simp_all
  obtain ⟨rfl, rfl⟩ := trodVars_none hV
  have k0 := h0
  have lt0 : ∀ x ∈ p0, x.block < W.heap.size := by obtain ⟨m, hm⟩ := k0; exact DataW.trod_lt m _ _ _ hm
  have k1 := h1
  have lt1 : ∀ x ∈ p1, x.block < W.heap.size := by obtain ⟨m, hm⟩ := k1; exact DataW.trod_lt m _ _ _ hm
  obtain ⟨A0, n0, c0, L0, rfl, hn0, hw0, hnc0, hcm0, hh0⟩ := open_slice_ints 2 1 Try.underlying42 ghostBoards_it0 ghostBoards_c0 (by omega) (hval 0 42 v0 rfl rfl) h0
  have hb0 : n0 ≤ 9223372036854775807 := by unfold maxLen at hcm0; omega
  obtain ⟨A1, n1, c1, rfl, hnc1, hcm1, hh1⟩ := open_slice_rows Try.underlying44 Try.underlying42 ghostBoards_e1 ghostBoards_it1 ghostBoards_c1 (hval 1 44 v1 rfl rfl) h1
  have hb1 : n1 ≤ 9223372036854775807 := by unfold maxLen at hcm1; omega
  clear hA0 hval0
  refine (boards_walk L0 A0 A1 n0 c0 n1 c1 W (by omega) hb0 hb1 hh0 hh1).mono fun e W' ⟨he, bel⟩ => ?_
  subst he
  exact ⟨_, rfl, _, _, _, [], _, [], hW', trodAll_mk1 (shut_bool Try.underlying4 _), (trodAll_cons_mk (Below.trod laidOut (by kernel_rfl) (of_decide_eq_true (by kernel_rfl)) k0 bel lt0) (trodAll_cons_mk (Below.trod laidOut (by kernel_rfl) (of_decide_eq_true (by kernel_rfl)) k1 bel lt1) trodAll_mk0)), rfl, bel.frame _, fun h => by cases h⟩

theorem ghostBoards_holds : Rows.GhostBoardsSaid :=
  OpenClaim.holds_of_wide 5 Try.f5 rfl rfl rfl rfl rfl rfl rfl ⟨rfl, rfl, rfl, rfl, rfl⟩ rfl rfl rfl rfl rfl (by kernel_rfl) Try.func5 (by kernel_rfl)
    (of_decide_eq_true (by kernel_rfl)) (by unfold Func.isWrapper; first | (rw [if_pos (by decide +kernel)]; kernel_rfl) | (rw [if_neg (by decide +kernel)]; exact ⟨rfl, rfl⟩))
    (fun os started H enc _ => ghostBoards_lifted os started H enc)
#print axioms ghostBoards_holds
end Go.Proofs.Ytbpepkpjjfhmpaa
