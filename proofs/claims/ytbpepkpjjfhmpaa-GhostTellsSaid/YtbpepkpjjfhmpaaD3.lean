/- The document's ghost: Look. -/
import Derived.Test.YtbpepkpjjfhmpaaD2
namespace Go.Proofs.Ytbpepkpjjfhmpaa
open Go.RowKit Go.Maps
set_option linter.unusedVariables false
set_option linter.unusedSimpArgs false

def rlookS (B : List Int) (u : Nat) (S : RS) : RS :=
  if (lastN (rowN S u)).2.1 < (noteF B u).2.1 then ⟨S.rows.set u (rowN S u ++ [noteF B u]), S.bad⟩
  else if noteF B u = lastN (rowN S u) then S else ⟨S.rows, true⟩
def rlookK (B : List Int) (S : RS) : Nat → RS
  | 0 => S
  | k + 1 => rlookS B (k + 1) (rlookK B S k)
theorem rlookK_step (B : List Int) (S : RS) (m : Nat) (h : 1 ≤ m) : rlookK B S m = rlookS B m (rlookK B S (m - 1)) := by
  match m, h with
  | k + 1, _ => rfl
theorem rlookS_row (B : List Int) (u j : Nat) (S : RS) (h : j ≠ u) : rowN (rlookS B u S) j = rowN S j := by
  unfold rlookS
  split
  · simp only [rowN, List.getD_eq_getElem?_getD]
    rw [List.getElem?_set_ne (fun e => h e.symm)]
  · split <;> rfl
theorem rlookK_row (B : List Int) (S : RS) (j : Nat) : ∀ k, k < j → rowN (rlookK B S k) j = rowN S j
  | 0, _ => rfl
  | k + 1, h => by unfold rlookK; rw [rlookS_row B _ j _ (by omega), rlookK_row B S j k (by omega)]
theorem rlookS_new {B : List Int} {m : Nat} {S : RS} {a n1 n2 n3 x0 x1 x2 x3 : Int} (hn : noteF B m = (a, n1, n2, n3)) (hx : lastN (rowN S m) = (x0, x1, x2, x3)) (hv : x1 < n1) : rlookS B m S = ⟨S.rows.set m (rowN S m ++ [(a, n1, n2, n3)]), S.bad⟩ := by
  unfold rlookS; rw [hn, hx, if_pos hv]
theorem rlookS_same {B : List Int} {m : Nat} {S : RS} {a n1 n2 n3 x0 x1 x2 x3 : Int} (hn : noteF B m = (a, n1, n2, n3)) (hx : lastN (rowN S m) = (x0, x1, x2, x3)) (hv : ¬ x1 < n1) (hz : decide (a = x0 ∧ n1 = x1 ∧ n2 = x2 ∧ n3 = x3) = true) : rlookS B m S = S := by
  unfold rlookS; rw [hn, hx, if_neg hv, if_pos (by simpa using hz)]
theorem rlookS_bad {B : List Int} {m : Nat} {S : RS} {a n1 n2 n3 x0 x1 x2 x3 : Int} (hn : noteF B m = (a, n1, n2, n3)) (hx : lastN (rowN S m) = (x0, x1, x2, x3)) (hv : ¬ x1 < n1) (hz : decide (a = x0 ∧ n1 = x1 ∧ n2 = x2 ∧ n3 = x3) = false) : rlookS B m S = ⟨S.rows, true⟩ := by
  unfold rlookS; rw [hn, hx, if_neg hv, if_neg (by intro e; simp only [Prod.mk.injEq] at e; simp [e] at hz)]
theorem RAt.lt {w : World} {r : Nat} {S : RS} (h : RAt w r S) : r < w.heap.size := by
  obtain ⟨vals, _, _, h3, _⟩ := h
  exact h3.lt
theorem cell_up {w w' : World} {b o : Nat} {v : Value} (h : w.cell? ⟨b, o, none⟩ = some v) (hb : Below w.heap.size w w') : w'.cell? ⟨b, o, none⟩ = some v := (hb.cell (p := ⟨b, o, none⟩) (World.block_lt_of_cell? w _ h)).trans h
theorem iv_one {L : List Int} : ∀ u ∈ IV L, u.oneCell' = true := by
  intro u hu
  simp only [IV, List.mem_map] at hu
  obtain ⟨a, _, rfl⟩ := hu
  rfl
theorem rrow_new {w : World} {base r n c : Nat} {A : Option Addr} {V : List Nt} {x : Nt} (h : w.ownsRow base 35 4 (.slice A n c) n ([] ++ IV (nflat V) ++ [.int .i64 x.1, .int .i64 x.2.1, .int .i64 x.2.2.1, .int .i64 x.2.2.2])) (hr : r < base) (hV : V.length ≤ 999) (hn : n = 0 + V.length + 1) : RRow w r (.slice A n c) (V ++ [x]) := by
  obtain ⟨A', c', e, hh, _, _⟩ := own_slice h
  injection e with e1 e2 e3
  subst e1 e3
  refine ⟨A, c, by rw [List.length_append, hn]; simp, ?_, by simp; omega, fun b o e => ?_⟩
  · rw [nflat_snoc]
    simpa [IV] using hh
  · have := h.lt b (by rw [e]; rfl)
    exact ⟨by omega, this.2⟩
def RL (W : World) (r b3 : Nat) (B : List Int) (S : RS) (u : Value) (w : World) : Prop :=
  ∃ m : Nat, 1 ≤ m ∧ m ≤ 17 ∧ u = .int .i64 m ∧ RAt w r (rlookK B S (m - 1)) ∧ But r r W w ∧ Block w b3 33 (ints B)
set_option maxHeartbeats 8000000 in
set_option maxRecDepth 100000 in
theorem rlook_at (w : World) (r : Nat) (B : List Int) (hB : B.length = 51) (hw : WF B) (S : RS) (hb900 : ∀ u : Nat, u ≤ 16 → (rowN S u).length ≤ 900) (hne : ∀ u : Nat, 1 ≤ u → u ≤ 16 → rowN S u ≠ []) (h : RAt w r S) :
    Calls Try.prog 10 #[.pointer (some ⟨r, 0, none⟩), .agg (ints B)] w fun e w' => e = .returned (.tuple #[]) ∧ But r r w w' ∧ RAt w' r (rlookK B S 16) := by
  have hbut := But.refl r r w
  have HB := Lib.hid hB
  have HW := Lib.hid hw
  have hg28 := g28
  clear hB hw
  go_enter Try.func10, Try.ntmps10
  go_upto_region 0 with (fail)
  refine wp_region_lit ?_
  refine op_box 33 _ (ints B) rfl ?_; intro w1 b3 hge hb k3; have n3 : b3 ≠ r := (by have := h.lt; omega); replace hbut := hbut.trans (But.of_below hb); replace h := h.ups hb; clear hb hge; try simp only [Act.put, List.setIfInBounds_toArray, List.set_cons_zero, List.set_cons_succ]
  go_upto_region 1 with (fail)
  refine wp_region_lit ?_
  refine wl_v ?_ ?_ ?_; rotate_left; (focus (go_simp; (try with_reducible rfl); done)); try simp only [Act.put, List.setIfInBounds_toArray, List.set_cons_zero, List.set_cons_succ]
  go_wp2_with fail
  go_loopw [4] (RL w r b3 B S) (fun u _ => 17 - (intOf u).toNat)
  case atStart => exact ⟨1, by omega, by omega, rfl, h, hbut, k3⟩
  case round =>
    clear h hbut k3
    obtain ⟨m, hm1, hm2, rfl, h, hbut, k3⟩ := hrel
    by_cases hm : m ≤ 16
    · skip
      obtain ⟨S1, hS1⟩ : ∃ S1, rlookK B S (m - 1) = S1 := ⟨_, rfl⟩
      rw [hS1] at h
      have hrow : rowN S1 m = rowN S m := by rw [← hS1]; exact rlookK_row B S m (m - 1) (by omega)
      have hlen : (rowN S1 m).length ≤ 900 := by rw [hrow]; exact hb900 m (by omega)
      have hne1 : rowN S1 m ≠ [] := by rw [hrow]; exact hne m hm1 hm
      have hstep : rlookK B S m = rlookS B m S1 := by rw [← hS1]; exact rlookK_step B S m hm1
      have HSTEP := Lib.hid hstep
      clear hstep hrow hS1
      obtain ⟨A, c, hc, hh, _⟩ := h.row (u := m) hm
      have hnote := noteF_nat B m hm1 hm
      obtain ⟨V, hV⟩ : ∃ V, rowN S1 m = V := ⟨_, rfl⟩
      rw [hV] at hc hh hlen hne1
      have HV := Lib.hid hV
      obtain ⟨bq, oq, hA, hrg⟩ := row_last hh hne1
      have hp := List.length_pos_iff.2 hne1
      have HNE := Lib.hid hne1
      obtain ⟨⟨x0, x1, x2, x3⟩, hx⟩ : ∃ x, lastN V = x := ⟨_, rfl⟩
      rw [hx] at hrg
      simp only at hrg
      generalize ci B (m*3) = n1 at *
      generalize ci B (m*3+1) = n2 at *
      generalize ci B (m*3+2) = n3' at *
      have HNOTE := Lib.hid hnote
      have HX := Lib.hid hx
      have HHH := Lib.hid hh
      have HA := Lib.hid hA
      have HC := Lib.hid hc
      have HRG := Lib.hid hrg
      have h17 : (m : Int) < 17 := by omega
      have WV : IntKind.i64.wrap ((V.length : Int) - 1) = ((V.length - 1 : Nat) : Int) := by rw [IntWalk.i64_in _ (by omega)]; omega
      have hix : ((V.length - 1 : Nat) : Int) < (V.length : Int) := by omega
      clear hV hnote hx hh hc hrg hne1
      subst hA
      clear HA
      go_upto_region 2 with (fail)
      refine wp_region_lit ?_
      refine wl_v ?_ ?_ ?_; rotate_left; (focus (go_simp; (try with_reducible rfl); done)); try simp only [Act.put, List.setIfInBounds_toArray, List.set_cons_zero, List.set_cons_succ]
      refine wl_v (.bool true) (by go_simp <;> omega) ?_; try simp only [Act.put, List.setIfInBounds_toArray, List.set_cons_zero, List.set_cons_succ]
      go_upto_region 4 with (fail)
      refine wp_region_lit ?_
      refine op_loadR _ _ _ _ _ rfl k3 (by kernel_rfl) (info25b _ HB.out) ?_; try simp only [Act.put, List.setIfInBounds_toArray, List.set_cons_zero, List.set_cons_succ]
      refine wl_v ?_ ?_ ?_; rotate_left; (focus (go_simp; (try with_reducible rfl); done)); try simp only [Act.put, List.setIfInBounds_toArray, List.set_cons_zero, List.set_cons_succ]
      refine wl_call _ _ _ (rnote_at B (m : Int) (m : Int) n1 n2 n3' _ HB.out HNOTE.out) (by go_simp) ?_; rintro e w9 ⟨rfl, hb⟩; refine ⟨_, rfl, ?_⟩; replace hbut := hbut.trans (But.of_below hb); replace h := h.ups hb; replace k3 := k3.ups hb; replace HC := Lib.hid (cell_up HC.out hb); replace HHH := Lib.hid (HHH.out.up hb); replace HRG := Lib.hid (range_ups HRG.out hb); (try replace k5 := k5.ups hb); clear hb; try simp only [Act.put, List.setIfInBounds_toArray, List.set_cons_zero, List.set_cons_succ]
      refine op_new 35 5 _ #[.int .i64 (m : Int), .int .i64 n1, .int .i64 n2, .int .i64 n3'] zN info28z info28s rfl (by simp [Value.oneCell']) (by intro p; rfl) (by intro p; rfl) ?_; intro w3 b5 hge hb k5; have n5 : b5 ≠ r := (by have := h.lt; omega); replace hbut := hbut.trans (But.of_below hb); replace h := h.ups hb; replace k3 := k3.ups hb; replace HC := Lib.hid (cell_up HC.out hb); replace HHH := Lib.hid (HHH.out.up hb); replace HRG := Lib.hid (range_ups HRG.out hb); clear hb hge; try simp only [Act.put, List.setIfInBounds_toArray, List.set_cons_zero, List.set_cons_succ]
      have hlr := h.lt
      go_upto_region 5 with (fail)
      have hS : BelowOf w3 _ := (Below.refl _ _).drew
      refine region_tree (BelowOf w3) 18 (.fl 0 (.fl 1 (.fl 2 (.fl 3 (.fl 4 (.fl 5 (.fl 6 (.fl 7 (.fl 8 (.fl 9 (.fl 10 (.fl 11 (.fl 12 (.fl 13 (.fl 14 (.fl 15 (.one 16 (.one 17 .done)))))))))))))))))) (by kernel_rfl) (by kernel_rfl) rfl (by kernel_rfl) hS ?_
      skip
      refine pt_f0 ?_ rfl ?_ ?_; rotate_left; (focus (intro w' hS'; go_simp; (try with_reducible rfl); done)); try simp only [Act.put, List.setIfInBounds_toArray, List.set_cons_zero, List.set_cons_succ]
      refine pt_f0 ?_ rfl ?_ ?_; rotate_left; (focus (intro w' hS'; go_simp; (try with_reducible rfl); done)); try simp only [Act.put, List.setIfInBounds_toArray, List.set_cons_zero, List.set_cons_succ]
      refine pt_f0 ?_ rfl ?_ ?_; rotate_left; (focus (intro w' hS'; go_simp; (try with_reducible rfl); done)); try simp only [Act.put, List.setIfInBounds_toArray, List.set_cons_zero, List.set_cons_succ]
      refine pt_f0 ?_ rfl ?_ ?_; rotate_left; (focus (intro w' hS'; go_simp; (try with_reducible rfl); done)); try simp only [Act.put, List.setIfInBounds_toArray, List.set_cons_zero, List.set_cons_succ]
      refine pt_f0 ?_ rfl ?_ ?_; rotate_left; (focus (intro w' hS'; go_simp; (try rw [if_pos h17]); (try rw [if_pos hix]); (try with_reducible rfl); done)); try simp only [Act.put, List.setIfInBounds_toArray, List.set_cons_zero, List.set_cons_succ]
      refine pt_f0 ?_ rfl ?_ ?_; rotate_left; (focus (intro w' hS'; have hc1 := (Below.cell hS' (p := ⟨r, m, none⟩) hlr).trans HC.out; go_simp; (try with_reducible rfl); done)); try simp only [Act.put, List.setIfInBounds_toArray, List.set_cons_zero, List.set_cons_succ]
      refine pt_f0 ?_ rfl ?_ ?_; rotate_left; (focus (intro w' hS'; go_simp; (try with_reducible rfl); done)); try simp only [Act.put, List.setIfInBounds_toArray, List.set_cons_zero, List.set_cons_succ]
      refine pt_f0 ?_ rfl ?_ ?_; rotate_left; (focus (intro w' hS'; go_simp; (try with_reducible rfl); done)); try simp only [Act.put, List.setIfInBounds_toArray, List.set_cons_zero, List.set_cons_succ]
      refine pt_f0 ?_ rfl ?_ ?_; rotate_left; (focus (intro w' hS'; go_simp; (try with_reducible rfl); done)); try simp only [Act.put, List.setIfInBounds_toArray, List.set_cons_zero, List.set_cons_succ]
      refine pt_f0 ?_ rfl ?_ ?_; rotate_left; (focus (intro w' hS'; go_simp; (try with_reducible rfl); done)); try simp only [Act.put, List.setIfInBounds_toArray, List.set_cons_zero, List.set_cons_succ]
      refine pt_f0 ?_ rfl ?_ ?_; rotate_left; (focus (intro w' hS'; go_simp; (try rw [if_pos h17]); (try rw [if_pos hix]); (try with_reducible rfl); done)); try simp only [Act.put, List.setIfInBounds_toArray, List.set_cons_zero, List.set_cons_succ]
      refine pt_f0 ?_ rfl ?_ ?_; rotate_left; (focus (intro w' hS'; have hc1 := (Below.cell hS' (p := ⟨r, m, none⟩) hlr).trans HC.out; go_simp; (try with_reducible rfl); done)); try simp only [Act.put, List.setIfInBounds_toArray, List.set_cons_zero, List.set_cons_succ]
      refine pt_f0 ?_ rfl ?_ ?_; rotate_left; (focus (intro w' hS'; go_simp; (try with_reducible rfl); done)); try simp only [Act.put, List.setIfInBounds_toArray, List.set_cons_zero, List.set_cons_succ]
      refine pt_f0 ?_ rfl ?_ ?_; rotate_left; (focus (intro w' hS'; go_simp; (try with_reducible rfl); done)); try simp only [Act.put, List.setIfInBounds_toArray, List.set_cons_zero, List.set_cons_succ]
      refine pt_f0 ?_ rfl ?_ ?_; rotate_left; (focus (intro w' hS'; go_simp; (try rw [if_pos h17]); (try rw [if_pos hix]); (try with_reducible rfl); done)); try simp only [Act.put, List.setIfInBounds_toArray, List.set_cons_zero, List.set_cons_succ]
      refine pt_f0 ?_ rfl ?_ ?_; rotate_left; (focus (intro w' hS'; refine run_loadM 35 _ bq (oq + (V.length - 1) * 4) [.int .i64 x0, .int .i64 x1, .int .i64 x2, .int .i64 x3] ?_ (range_ups HRG.out hS') ?_ ?_; rfl; kernel_rfl; exact info28s)); try simp only [Act.put, List.setIfInBounds_toArray, List.set_cons_zero, List.set_cons_succ]
      refine pt_one (fun K hK => ?_); refine st_a0 rfl ?_; refine wpo_alloc 35 zN info28z fun w6 b6 hge6 hb6 k6 => ?_; have g6 : w3.heap.size ≤ b6 := Nat.le_trans (Below.size hS) hge6; replace hS : BelowOf w3 w6 := Below.trans hS (hb6.mono (Below.size hS)); refine hK _ _ ⟨(fun _ => hS), ?_⟩; clear hK; clear K; try simp only [Act.put, List.setIfInBounds_toArray, List.set_cons_zero, List.set_cons_succ]
      refine pt_one (fun K hK => ?_); refine st_a0 rfl ?_; refine wpo_store 35 (.tmp 6) (.tmp 29) b6 35 #[.int .i64 x0, .int .i64 x1, .int .i64 x2, .int .i64 x3] zN rfl rfl k6 info28s rfl (by simp [Value.oneCell']) fun w7 hb7 ho7 k6' => ?_; replace hS : BelowOf w3 w7 := Below.trans hS (hb7 _ g6); refine hK _ _ ⟨(fun _ => hS), ?_⟩; clear hK; clear K; try simp only [Act.put, List.setIfInBounds_toArray, List.set_cons_zero, List.set_cons_succ]
      refine pt_done (NoPanic.normal ?_)
      have hb : Below w3.heap.size w3 w7 := hS
      replace hbut := hbut.trans (But.of_below hb); replace h := h.ups hb; replace k3 := k3.ups hb; replace HC := Lib.hid (cell_up HC.out hb); replace HHH := Lib.hid (HHH.out.up hb); replace HRG := Lib.hid (range_ups HRG.out hb); (try replace k5 := k5.ups hb)
      have n6 : b6 ≠ r := by omega
      have k6 : Block w7 b6 35 #[.int .i64 x0, .int .i64 x1, .int .i64 x2, .int .i64 x3] := k6'
      clear hb hS WV k6' g6 hge6 hb6 hb7 ho7 hlr
      by_cases hv : x1 < n1
      · skip
        go_upto_region 6 with (fail)
        refine wp_region_lit ?_
        refine wl_v ?_ ?_ ?_; rotate_left; (focus (go_simp; (try with_reducible rfl); done)); try simp only [Act.put, List.setIfInBounds_toArray, List.set_cons_zero, List.set_cons_succ]
        refine wl_v (.int .i64 n1) (by have q1 := k5.cell 1; have q2 := k6.cell 1; go_simp) ?_; try simp only [Act.put, List.setIfInBounds_toArray, List.set_cons_zero, List.set_cons_succ]
        refine wl_v ?_ ?_ ?_; rotate_left; (focus (go_simp; (try with_reducible rfl); done)); try simp only [Act.put, List.setIfInBounds_toArray, List.set_cons_zero, List.set_cons_succ]
        refine wl_v (.int .i64 x1) (by have q1 := k5.cell 1; have q2 := k6.cell 1; go_simp) ?_; try simp only [Act.put, List.setIfInBounds_toArray, List.set_cons_zero, List.set_cons_succ]
        refine wl_v (.bool true) (by go_simp <;> omega) ?_; try simp only [Act.put, List.setIfInBounds_toArray, List.set_cons_zero, List.set_cons_succ]
        have hlr := h.lt
        go_upto_region 7 with (fail)
        have hS : BelowOf w7 _ := (Below.refl _ _).drew
        refine region_tree (BelowOf w7) 16 (.fl 0 (.fl 1 (.fl 3 (.fl 4 (.fl 5 (.fl 6 (.fl 7 (.fl 8 (.fl 10 (.fl 13 (.fl 14 (.two 2 (.two 9 (.one 11 (.one 12 (.fl 15 (.one 16 .done)))) 11 (.one 9 (.one 12 (.fl 15 (.one 16 .done))))) 11 (.one 2 (.one 9 (.one 12 (.fl 15 (.one 16 .done))))))))))))))))) (by kernel_rfl) (by kernel_rfl) rfl (by kernel_rfl) hS ?_
        skip
        refine pt_f0 ?_ rfl ?_ ?_; rotate_left; (focus (intro w' hS'; go_simp; (try with_reducible rfl); done)); try simp only [Act.put, List.setIfInBounds_toArray, List.set_cons_zero, List.set_cons_succ]
        refine pt_f0 ?_ rfl ?_ ?_; rotate_left; (focus (intro w' hS'; go_simp; (try with_reducible rfl); done)); try simp only [Act.put, List.setIfInBounds_toArray, List.set_cons_zero, List.set_cons_succ]
        refine pt_f0 ?_ rfl ?_ ?_; rotate_left; (focus (intro w' hS'; go_simp; (try with_reducible rfl); done)); try simp only [Act.put, List.setIfInBounds_toArray, List.set_cons_zero, List.set_cons_succ]
        refine pt_f0 ?_ rfl ?_ ?_; rotate_left; (focus (intro w' hS'; go_simp; (try with_reducible rfl); done)); try simp only [Act.put, List.setIfInBounds_toArray, List.set_cons_zero, List.set_cons_succ]
        refine pt_f0 ?_ rfl ?_ ?_; rotate_left; (focus (intro w' hS'; go_simp; (try with_reducible rfl); done)); try simp only [Act.put, List.setIfInBounds_toArray, List.set_cons_zero, List.set_cons_succ]
        refine pt_f0 ?_ rfl ?_ ?_; rotate_left; (focus (intro w' hS'; go_simp; (try with_reducible rfl); done)); try simp only [Act.put, List.setIfInBounds_toArray, List.set_cons_zero, List.set_cons_succ]
        refine pt_f0 ?_ rfl ?_ ?_; rotate_left; (focus (intro w' hS'; go_simp; (try rw [if_pos h17]); (try rw [if_pos hix]); (try with_reducible rfl); done)); try simp only [Act.put, List.setIfInBounds_toArray, List.set_cons_zero, List.set_cons_succ]
        refine pt_f0 ?_ rfl ?_ ?_; rotate_left; (focus (intro w' hS'; have hc1 := (Below.cell hS' (p := ⟨r, m, none⟩) hlr).trans HC.out; go_simp; (try with_reducible rfl); done)); try simp only [Act.put, List.setIfInBounds_toArray, List.set_cons_zero, List.set_cons_succ]
        refine pt_f0 ?_ rfl ?_ ?_; rotate_left; (focus (intro w' hS'; refine run_load_row b5 35 #[.int .i64 (m : Int), .int .i64 n1, .int .i64 n2, .int .i64 n3'] _ ?_ (k5.ups hS') Try.underlying35 ?_ info28s <;> rfl)); try simp only [Act.put, List.setIfInBounds_toArray, List.set_cons_zero, List.set_cons_succ]
        refine pt_f0 ?_ rfl ?_ ?_; rotate_left; (focus (intro w' hS'; go_simp; (try with_reducible rfl); done)); try simp only [Act.put, List.setIfInBounds_toArray, List.set_cons_zero, List.set_cons_succ]
        refine pt_f0 ?_ rfl ?_ ?_; rotate_left; (focus (intro w' hS'; go_simp; (try with_reducible rfl); done)); try simp only [Act.put, List.setIfInBounds_toArray, List.set_cons_zero, List.set_cons_succ]
        refine pt_two (fun K hK => ?_) (fun K hK => ?_)
        · skip
          refine st_a0 rfl ?_; refine wpo_lit _ 0 _ 35 #[] (by intro wl; kernel_rfl) fun w8 g1 hge1 hb8 kg1 => ?_; have gg1 : w7.heap.size ≤ g1 := Nat.le_trans (Below.size hS) hge1; (try have nlg : bl ≠ g1 := (by have := kl.lt; omega)); (try replace kl := kl.ups hb8); replace hS : BelowOf w7 w8 := Below.trans hS (hb8.mono (Below.size hS)); refine hK _ _ ⟨(fun _ => hS), ?_⟩; clear hK; clear K; try simp only [Act.put, List.setIfInBounds_toArray, List.set_cons_zero, List.set_cons_succ]
          refine pt_two (fun K hK => ?_) (fun K hK => ?_)
          · skip
            refine st_a0 rfl ?_; refine wpo_append 23 35 (.tmp 37) (.tmp 43) w7.heap.size (.agg zN) 4 32 _ 0 [] (some ⟨bq, oq, none⟩) V.length c (IV (nflat V)) rfl rfl Try.underlying23 i35 rfl (by omega) (own_empty kg1 gg1) (by simp [IV, nflat_len]) (HHH.out.up hS) iv_one (by unfold maxLen; omega) (by omega) (Below.size hS) fun v1 w10 own1 hg1 hn1 hb10 => ?_; (try replace kl := (hg1.block bl kl.lt (fun e => nlg (Option.some.inj e))).trans kl); replace hS : BelowOf w7 w10 := Below.trans hS hb10; refine hK _ _ ⟨(fun _ => hS), ?_⟩; clear hK; clear K; try simp only [Act.put, List.setIfInBounds_toArray, List.set_cons_zero, List.set_cons_succ]
            refine pt_one (fun K hK => ?_); refine st_a0 rfl ?_; refine wpo_lit _ 1 _ 35 (ints [(m : Int), n1, n2, n3']) (by intro wl; kernel_rfl) fun w9 bl hge2 hb9 kl => ?_; (try have nlg : bl ≠ g1 := (by have := kg1.lt; omega)); (try replace kg1 := kg1.ups hb9); (try replace own1 := own_ups own1 hb9); replace hS : BelowOf w7 w9 := Below.trans hS (hb9.mono (Below.size hS)); refine hK _ _ ⟨(fun _ => hS), ?_⟩; clear hK; clear K; try simp only [Act.put, List.setIfInBounds_toArray, List.set_cons_zero, List.set_cons_succ]
            refine pt_one (fun K hK => ?_); refine st_a0 rfl ?_; refine wpo_append 23 35 (.tmp 44) (.tmp 46) w7.heap.size (.agg zN) 4 32 v1 (0 + V.length) _ (some ⟨bl, 0, none⟩) 1 1 [.int .i64 (m : Int), .int .i64 n1, .int .i64 n2, .int .i64 n3'] rfl rfl Try.underlying23 i35 rfl (by omega) own1 rfl (Block.holds kl) (by simp [Value.oneCell']) (by unfold maxLen; omega) (by omega) (Below.size hS) fun v2 w11 own2 hg2 hn2 hb11 => ?_; replace hS : BelowOf w7 w11 := Below.trans hS hb11; obtain ⟨A2, c2, ev2, hh2, _, _⟩ := own_slice own2; subst ev2; refine hK _ _ ⟨(fun _ => hS), ?_⟩; clear hK; clear K; try simp only [Act.put, List.setIfInBounds_toArray, List.set_cons_zero, List.set_cons_succ]
            refine pt_f0 ?_ rfl ?_ ?_; rotate_left; (focus (intro w' hS'; go_simp; (try rw [if_pos h17]); (try rw [if_pos hix]); (try with_reducible rfl); done)); try simp only [Act.put, List.setIfInBounds_toArray, List.set_cons_zero, List.set_cons_succ]
            refine pt_one (fun K hK => ?_); refine st_a0 rfl ?_; obtain ⟨vals, hvl, hrl, kr, hrows⟩ := h.ups hS; refine wpo_store1 23 (.tmp 50) (.tmp 47) r m 57 (.slice A2 (0 + V.length + 1) c2) (vals ++ [Value.bool S1.bad]).toArray rfl rfl kr (by kernel_rfl) (by simp [Value.cells, hvl]; omega) (by simp [Value.cells, Value.oneCell']) fun w12 hb12 ho12 kr' => ?_; have h12 : RAt w12 r ⟨S1.rows.set m (V ++ [((m : Int), n1, n2, n3')]), S1.bad⟩ := RAt.put hvl hrl hm hrows (rrow_new own2 hlr (by omega) rfl) ho12 (Below.size (hb12 0 (Nat.zero_le _))) kr'; have hbut12 : But r r w w12 := (hbut.trans (But.of_below hS)).trans ⟨(hb12 0 (Nat.zero_le _)).os, (hb12 0 (Nat.zero_le _)).tape, (hb12 0 (Nat.zero_le _)).output, (hb12 0 (Nat.zero_le _)).size, fun k _ hk _ => ho12 k hk⟩; have k3' : Block w12 b3 33 (ints B) := (ho12 b3 n3).trans (k3.ups hS); refine hK _ _ ⟨(fun h => absurd rfl h), ?_⟩; clear hK; clear K; try simp only [Act.put, List.setIfInBounds_toArray, List.set_cons_zero, List.set_cons_succ]
            refine pt_done (NoPanic.normal ?_)
            go_upto_region 3 with (fail)
            refine wp_region_lit ?_
            refine wl_v ?_ ?_ ?_; rotate_left; (focus (go_simp; (try with_reducible rfl); done)); try simp only [Act.put, List.setIfInBounds_toArray, List.set_cons_zero, List.set_cons_succ]
            refine wl_v (.int .i64 ((m : Int) + 1)) (by go_simp <;> exact IntWalk.i64_in _ (by omega)) ?_; try simp only [Act.put, List.setIfInBounds_toArray, List.set_cons_zero, List.set_cons_succ]
            refine wl_v ?_ ?_ ?_; rotate_left; (focus (go_simp; (try with_reducible rfl); done)); try simp only [Act.put, List.setIfInBounds_toArray, List.set_cons_zero, List.set_cons_succ]
            go_wp2_with fail
            refine ⟨?_, ?_⟩
            · first
              | (exact ⟨m + 1, by omega, by omega, by go_num, (by rw [show m + 1 - 1 = m by omega, HSTEP.out, rlookS_new HNOTE.out (HV.out ▸ HX.out) hv, HV.out]; exact h12), hbut12, k3'⟩)
              | ((repeat apply Exists.intro); refine ⟨?_, ?_⟩; rotate_left; (focus (first | exact rfl | (repeat (first | exact rfl | refine ⟨rfl, ?_⟩)))); (exact ⟨m + 1, by omega, by omega, by go_num, (by rw [show m + 1 - 1 = m by omega, HSTEP.out, rlookS_new HNOTE.out (HV.out ▸ HX.out) hv, HV.out]; exact h12), hbut12, k3'⟩))
            · simp [intOf]; omega
          · skip
            refine st_a0 rfl ?_; refine wpo_lit _ 1 _ 35 (ints [(m : Int), n1, n2, n3']) (by intro wl; kernel_rfl) fun w9 bl hge2 hb9 kl => ?_; (try have nlg : bl ≠ g1 := (by have := kg1.lt; omega)); (try replace kg1 := kg1.ups hb9); (try replace own1 := own_ups own1 hb9); replace hS : BelowOf w7 w9 := Below.trans hS (hb9.mono (Below.size hS)); refine hK _ _ ⟨(fun _ => hS), ?_⟩; clear hK; clear K; try simp only [Act.put, List.setIfInBounds_toArray, List.set_cons_zero, List.set_cons_succ]
            refine pt_one (fun K hK => ?_); refine st_a0 rfl ?_; refine wpo_append 23 35 (.tmp 37) (.tmp 43) w7.heap.size (.agg zN) 4 32 _ 0 [] (some ⟨bq, oq, none⟩) V.length c (IV (nflat V)) rfl rfl Try.underlying23 i35 rfl (by omega) (own_empty kg1 gg1) (by simp [IV, nflat_len]) (HHH.out.up hS) iv_one (by unfold maxLen; omega) (by omega) (Below.size hS) fun v1 w10 own1 hg1 hn1 hb10 => ?_; (try replace kl := (hg1.block bl kl.lt (fun e => nlg (Option.some.inj e))).trans kl); replace hS : BelowOf w7 w10 := Below.trans hS hb10; refine hK _ _ ⟨(fun _ => hS), ?_⟩; clear hK; clear K; try simp only [Act.put, List.setIfInBounds_toArray, List.set_cons_zero, List.set_cons_succ]
            refine pt_one (fun K hK => ?_); refine st_a0 rfl ?_; refine wpo_append 23 35 (.tmp 44) (.tmp 46) w7.heap.size (.agg zN) 4 32 v1 (0 + V.length) _ (some ⟨bl, 0, none⟩) 1 1 [.int .i64 (m : Int), .int .i64 n1, .int .i64 n2, .int .i64 n3'] rfl rfl Try.underlying23 i35 rfl (by omega) own1 rfl (Block.holds kl) (by simp [Value.oneCell']) (by unfold maxLen; omega) (by omega) (Below.size hS) fun v2 w11 own2 hg2 hn2 hb11 => ?_; replace hS : BelowOf w7 w11 := Below.trans hS hb11; obtain ⟨A2, c2, ev2, hh2, _, _⟩ := own_slice own2; subst ev2; refine hK _ _ ⟨(fun _ => hS), ?_⟩; clear hK; clear K; try simp only [Act.put, List.setIfInBounds_toArray, List.set_cons_zero, List.set_cons_succ]
            refine pt_f0 ?_ rfl ?_ ?_; rotate_left; (focus (intro w' hS'; go_simp; (try rw [if_pos h17]); (try rw [if_pos hix]); (try with_reducible rfl); done)); try simp only [Act.put, List.setIfInBounds_toArray, List.set_cons_zero, List.set_cons_succ]
            refine pt_one (fun K hK => ?_); refine st_a0 rfl ?_; obtain ⟨vals, hvl, hrl, kr, hrows⟩ := h.ups hS; refine wpo_store1 23 (.tmp 50) (.tmp 47) r m 57 (.slice A2 (0 + V.length + 1) c2) (vals ++ [Value.bool S1.bad]).toArray rfl rfl kr (by kernel_rfl) (by simp [Value.cells, hvl]; omega) (by simp [Value.cells, Value.oneCell']) fun w12 hb12 ho12 kr' => ?_; have h12 : RAt w12 r ⟨S1.rows.set m (V ++ [((m : Int), n1, n2, n3')]), S1.bad⟩ := RAt.put hvl hrl hm hrows (rrow_new own2 hlr (by omega) rfl) ho12 (Below.size (hb12 0 (Nat.zero_le _))) kr'; have hbut12 : But r r w w12 := (hbut.trans (But.of_below hS)).trans ⟨(hb12 0 (Nat.zero_le _)).os, (hb12 0 (Nat.zero_le _)).tape, (hb12 0 (Nat.zero_le _)).output, (hb12 0 (Nat.zero_le _)).size, fun k _ hk _ => ho12 k hk⟩; have k3' : Block w12 b3 33 (ints B) := (ho12 b3 n3).trans (k3.ups hS); refine hK _ _ ⟨(fun h => absurd rfl h), ?_⟩; clear hK; clear K; try simp only [Act.put, List.setIfInBounds_toArray, List.set_cons_zero, List.set_cons_succ]
            refine pt_done (NoPanic.normal ?_)
            go_upto_region 3 with (fail)
            refine wp_region_lit ?_
            refine wl_v ?_ ?_ ?_; rotate_left; (focus (go_simp; (try with_reducible rfl); done)); try simp only [Act.put, List.setIfInBounds_toArray, List.set_cons_zero, List.set_cons_succ]
            refine wl_v (.int .i64 ((m : Int) + 1)) (by go_simp <;> exact IntWalk.i64_in _ (by omega)) ?_; try simp only [Act.put, List.setIfInBounds_toArray, List.set_cons_zero, List.set_cons_succ]
            refine wl_v ?_ ?_ ?_; rotate_left; (focus (go_simp; (try with_reducible rfl); done)); try simp only [Act.put, List.setIfInBounds_toArray, List.set_cons_zero, List.set_cons_succ]
            go_wp2_with fail
            refine ⟨?_, ?_⟩
            · first
              | (exact ⟨m + 1, by omega, by omega, by go_num, (by rw [show m + 1 - 1 = m by omega, HSTEP.out, rlookS_new HNOTE.out (HV.out ▸ HX.out) hv, HV.out]; exact h12), hbut12, k3'⟩)
              | ((repeat apply Exists.intro); refine ⟨?_, ?_⟩; rotate_left; (focus (first | exact rfl | (repeat (first | exact rfl | refine ⟨rfl, ?_⟩)))); (exact ⟨m + 1, by omega, by omega, by go_num, (by rw [show m + 1 - 1 = m by omega, HSTEP.out, rlookS_new HNOTE.out (HV.out ▸ HX.out) hv, HV.out]; exact h12), hbut12, k3'⟩))
            · simp [intOf]; omega
        · skip
          refine st_a0 rfl ?_; refine wpo_lit _ 1 _ 35 (ints [(m : Int), n1, n2, n3']) (by intro wl; kernel_rfl) fun w9 bl hge2 hb9 kl => ?_; (try have nlg : bl ≠ g1 := (by have := kg1.lt; omega)); (try replace kg1 := kg1.ups hb9); (try replace own1 := own_ups own1 hb9); replace hS : BelowOf w7 w9 := Below.trans hS (hb9.mono (Below.size hS)); refine hK _ _ ⟨(fun _ => hS), ?_⟩; clear hK; clear K; try simp only [Act.put, List.setIfInBounds_toArray, List.set_cons_zero, List.set_cons_succ]
          refine pt_one (fun K hK => ?_); refine st_a0 rfl ?_; refine wpo_lit _ 0 _ 35 #[] (by intro wl; kernel_rfl) fun w8 g1 hge1 hb8 kg1 => ?_; have gg1 : w7.heap.size ≤ g1 := Nat.le_trans (Below.size hS) hge1; (try have nlg : bl ≠ g1 := (by have := kl.lt; omega)); (try replace kl := kl.ups hb8); replace hS : BelowOf w7 w8 := Below.trans hS (hb8.mono (Below.size hS)); refine hK _ _ ⟨(fun _ => hS), ?_⟩; clear hK; clear K; try simp only [Act.put, List.setIfInBounds_toArray, List.set_cons_zero, List.set_cons_succ]
          refine pt_one (fun K hK => ?_); refine st_a0 rfl ?_; refine wpo_append 23 35 (.tmp 37) (.tmp 43) w7.heap.size (.agg zN) 4 32 _ 0 [] (some ⟨bq, oq, none⟩) V.length c (IV (nflat V)) rfl rfl Try.underlying23 i35 rfl (by omega) (own_empty kg1 gg1) (by simp [IV, nflat_len]) (HHH.out.up hS) iv_one (by unfold maxLen; omega) (by omega) (Below.size hS) fun v1 w10 own1 hg1 hn1 hb10 => ?_; (try replace kl := (hg1.block bl kl.lt (fun e => nlg (Option.some.inj e))).trans kl); replace hS : BelowOf w7 w10 := Below.trans hS hb10; refine hK _ _ ⟨(fun _ => hS), ?_⟩; clear hK; clear K; try simp only [Act.put, List.setIfInBounds_toArray, List.set_cons_zero, List.set_cons_succ]
          refine pt_one (fun K hK => ?_); refine st_a0 rfl ?_; refine wpo_append 23 35 (.tmp 44) (.tmp 46) w7.heap.size (.agg zN) 4 32 v1 (0 + V.length) _ (some ⟨bl, 0, none⟩) 1 1 [.int .i64 (m : Int), .int .i64 n1, .int .i64 n2, .int .i64 n3'] rfl rfl Try.underlying23 i35 rfl (by omega) own1 rfl (Block.holds kl) (by simp [Value.oneCell']) (by unfold maxLen; omega) (by omega) (Below.size hS) fun v2 w11 own2 hg2 hn2 hb11 => ?_; replace hS : BelowOf w7 w11 := Below.trans hS hb11; obtain ⟨A2, c2, ev2, hh2, _, _⟩ := own_slice own2; subst ev2; refine hK _ _ ⟨(fun _ => hS), ?_⟩; clear hK; clear K; try simp only [Act.put, List.setIfInBounds_toArray, List.set_cons_zero, List.set_cons_succ]
          refine pt_f0 ?_ rfl ?_ ?_; rotate_left; (focus (intro w' hS'; go_simp; (try rw [if_pos h17]); (try rw [if_pos hix]); (try with_reducible rfl); done)); try simp only [Act.put, List.setIfInBounds_toArray, List.set_cons_zero, List.set_cons_succ]
          refine pt_one (fun K hK => ?_); refine st_a0 rfl ?_; obtain ⟨vals, hvl, hrl, kr, hrows⟩ := h.ups hS; refine wpo_store1 23 (.tmp 50) (.tmp 47) r m 57 (.slice A2 (0 + V.length + 1) c2) (vals ++ [Value.bool S1.bad]).toArray rfl rfl kr (by kernel_rfl) (by simp [Value.cells, hvl]; omega) (by simp [Value.cells, Value.oneCell']) fun w12 hb12 ho12 kr' => ?_; have h12 : RAt w12 r ⟨S1.rows.set m (V ++ [((m : Int), n1, n2, n3')]), S1.bad⟩ := RAt.put hvl hrl hm hrows (rrow_new own2 hlr (by omega) rfl) ho12 (Below.size (hb12 0 (Nat.zero_le _))) kr'; have hbut12 : But r r w w12 := (hbut.trans (But.of_below hS)).trans ⟨(hb12 0 (Nat.zero_le _)).os, (hb12 0 (Nat.zero_le _)).tape, (hb12 0 (Nat.zero_le _)).output, (hb12 0 (Nat.zero_le _)).size, fun k _ hk _ => ho12 k hk⟩; have k3' : Block w12 b3 33 (ints B) := (ho12 b3 n3).trans (k3.ups hS); refine hK _ _ ⟨(fun h => absurd rfl h), ?_⟩; clear hK; clear K; try simp only [Act.put, List.setIfInBounds_toArray, List.set_cons_zero, List.set_cons_succ]
          refine pt_done (NoPanic.normal ?_)
          go_upto_region 3 with (fail)
          refine wp_region_lit ?_
          refine wl_v ?_ ?_ ?_; rotate_left; (focus (go_simp; (try with_reducible rfl); done)); try simp only [Act.put, List.setIfInBounds_toArray, List.set_cons_zero, List.set_cons_succ]
          refine wl_v (.int .i64 ((m : Int) + 1)) (by go_simp <;> exact IntWalk.i64_in _ (by omega)) ?_; try simp only [Act.put, List.setIfInBounds_toArray, List.set_cons_zero, List.set_cons_succ]
          refine wl_v ?_ ?_ ?_; rotate_left; (focus (go_simp; (try with_reducible rfl); done)); try simp only [Act.put, List.setIfInBounds_toArray, List.set_cons_zero, List.set_cons_succ]
          go_wp2_with fail
          refine ⟨?_, ?_⟩
          · first
            | (exact ⟨m + 1, by omega, by omega, by go_num, (by rw [show m + 1 - 1 = m by omega, HSTEP.out, rlookS_new HNOTE.out (HV.out ▸ HX.out) hv, HV.out]; exact h12), hbut12, k3'⟩)
            | ((repeat apply Exists.intro); refine ⟨?_, ?_⟩; rotate_left; (focus (first | exact rfl | (repeat (first | exact rfl | refine ⟨rfl, ?_⟩)))); (exact ⟨m + 1, by omega, by omega, by go_num, (by rw [show m + 1 - 1 = m by omega, HSTEP.out, rlookS_new HNOTE.out (HV.out ▸ HX.out) hv, HV.out]; exact h12), hbut12, k3'⟩))
          · simp [intOf]; omega
      · skip
        go_upto_region 6 with (fail)
        refine wp_region_lit ?_
        refine wl_v ?_ ?_ ?_; rotate_left; (focus (go_simp; (try with_reducible rfl); done)); try simp only [Act.put, List.setIfInBounds_toArray, List.set_cons_zero, List.set_cons_succ]
        refine wl_v (.int .i64 n1) (by have q1 := k5.cell 1; have q2 := k6.cell 1; go_simp) ?_; try simp only [Act.put, List.setIfInBounds_toArray, List.set_cons_zero, List.set_cons_succ]
        refine wl_v ?_ ?_ ?_; rotate_left; (focus (go_simp; (try with_reducible rfl); done)); try simp only [Act.put, List.setIfInBounds_toArray, List.set_cons_zero, List.set_cons_succ]
        refine wl_v (.int .i64 x1) (by have q1 := k5.cell 1; have q2 := k6.cell 1; go_simp) ?_; try simp only [Act.put, List.setIfInBounds_toArray, List.set_cons_zero, List.set_cons_succ]
        refine wl_v (.bool false) (by go_simp <;> omega) ?_; try simp only [Act.put, List.setIfInBounds_toArray, List.set_cons_zero, List.set_cons_succ]
        obtain ⟨z, hz⟩ : ∃ z, decide ((m : Int) = x0 ∧ n1 = x1 ∧ n2 = x2 ∧ n3' = x3) = z := ⟨_, rfl⟩
        have heq : ∀ w, (Op.equalIn 10000 35 (.agg #[.int .i64 (m : Int), .int .i64 n1, .int .i64 n2, .int .i64 n3']) (.agg #[.int .i64 x0, .int .i64 x1, .int .i64 x2, .int .i64 x3])).run Try.prog w = .ok z w := fun w => by rw [eqN, hz]
        have HZ := Lib.hid hz
        clear hz
        cases z
        · skip
          go_upto_region 8 with (fail)
          refine wp_region_lit ?_
          refine op_loadR _ _ _ _ _ rfl k5 (by kernel_rfl) info28s ?_; try simp only [Act.put, List.setIfInBounds_toArray, List.set_cons_zero, List.set_cons_succ]
          refine op_loadR _ _ _ _ _ rfl k6 (by kernel_rfl) info28s ?_; try simp only [Act.put, List.setIfInBounds_toArray, List.set_cons_zero, List.set_cons_succ]
          refine wl_v (.bool true) (by go_simp) ?_; try simp only [Act.put, List.setIfInBounds_toArray, List.set_cons_zero, List.set_cons_succ]
          go_upto_region 9 with (fail)
          refine wp_region_lit ?_
          refine wl_v ?_ ?_ ?_; rotate_left; (focus (go_simp; (try with_reducible rfl); done)); try simp only [Act.put, List.setIfInBounds_toArray, List.set_cons_zero, List.set_cons_succ]
          refine wl_v ?_ ?_ ?_; rotate_left; (focus (go_simp; (try with_reducible rfl); done)); try simp only [Act.put, List.setIfInBounds_toArray, List.set_cons_zero, List.set_cons_succ]
          refine wl_v ?_ ?_ ?_; rotate_left; (focus (go_simp; (try with_reducible rfl); done)); try simp only [Act.put, List.setIfInBounds_toArray, List.set_cons_zero, List.set_cons_succ]
          obtain ⟨vals, hvl, hrl, kr, hrows⟩ := h; refine op_store1 4 _ _ r 17 57 (.bool true) (vals ++ [Value.bool S1.bad]).toArray rfl rfl kr (by kernel_rfl) (by simp [Value.cells, hvl]) (by simp [Value.cells, Value.oneCell']) ?_; intro w12 hb12 ho12 kr'; have h12 : RAt w12 r ⟨S1.rows, true⟩ := RAt.setBad hvl hrl hrows ho12 (Below.size (hb12 0 (Nat.zero_le _))) kr'; have hbut12 : But r r w w12 := hbut.trans ⟨(hb12 0 (Nat.zero_le _)).os, (hb12 0 (Nat.zero_le _)).tape, (hb12 0 (Nat.zero_le _)).output, (hb12 0 (Nat.zero_le _)).size, fun k _ hk _ => ho12 k hk⟩; have k3' : Block w12 b3 33 (ints B) := (ho12 b3 n3).trans k3; try simp only [Act.put, List.setIfInBounds_toArray, List.set_cons_zero, List.set_cons_succ]
          go_upto_region 3 with (fail)
          refine wp_region_lit ?_
          refine wl_v ?_ ?_ ?_; rotate_left; (focus (go_simp; (try with_reducible rfl); done)); try simp only [Act.put, List.setIfInBounds_toArray, List.set_cons_zero, List.set_cons_succ]
          refine wl_v (.int .i64 ((m : Int) + 1)) (by go_simp <;> exact IntWalk.i64_in _ (by omega)) ?_; try simp only [Act.put, List.setIfInBounds_toArray, List.set_cons_zero, List.set_cons_succ]
          refine wl_v ?_ ?_ ?_; rotate_left; (focus (go_simp; (try with_reducible rfl); done)); try simp only [Act.put, List.setIfInBounds_toArray, List.set_cons_zero, List.set_cons_succ]
          go_wp2_with fail
          refine ⟨?_, ?_⟩
          · first
            | (exact ⟨m + 1, by omega, by omega, by go_num, (by rw [show m + 1 - 1 = m by omega, HSTEP.out, rlookS_bad HNOTE.out (HV.out ▸ HX.out) hv HZ.out]; exact h12), hbut12, k3'⟩)
            | ((repeat apply Exists.intro); refine ⟨?_, ?_⟩; rotate_left; (focus (first | exact rfl | (repeat (first | exact rfl | refine ⟨rfl, ?_⟩)))); (exact ⟨m + 1, by omega, by omega, by go_num, (by rw [show m + 1 - 1 = m by omega, HSTEP.out, rlookS_bad HNOTE.out (HV.out ▸ HX.out) hv HZ.out]; exact h12), hbut12, k3'⟩))
          · simp [intOf]; omega
        · skip
          go_upto_region 8 with (fail)
          refine wp_region_lit ?_
          refine op_loadR _ _ _ _ _ rfl k5 (by kernel_rfl) info28s ?_; try simp only [Act.put, List.setIfInBounds_toArray, List.set_cons_zero, List.set_cons_succ]
          refine op_loadR _ _ _ _ _ rfl k6 (by kernel_rfl) info28s ?_; try simp only [Act.put, List.setIfInBounds_toArray, List.set_cons_zero, List.set_cons_succ]
          refine wl_v (.bool false) (by go_simp) ?_; try simp only [Act.put, List.setIfInBounds_toArray, List.set_cons_zero, List.set_cons_succ]
          go_upto_region 3 with (fail)
          refine wp_region_lit ?_
          refine wl_v ?_ ?_ ?_; rotate_left; (focus (go_simp; (try with_reducible rfl); done)); try simp only [Act.put, List.setIfInBounds_toArray, List.set_cons_zero, List.set_cons_succ]
          refine wl_v (.int .i64 ((m : Int) + 1)) (by go_simp <;> exact IntWalk.i64_in _ (by omega)) ?_; try simp only [Act.put, List.setIfInBounds_toArray, List.set_cons_zero, List.set_cons_succ]
          refine wl_v ?_ ?_ ?_; rotate_left; (focus (go_simp; (try with_reducible rfl); done)); try simp only [Act.put, List.setIfInBounds_toArray, List.set_cons_zero, List.set_cons_succ]
          go_wp2_with fail
          refine ⟨?_, ?_⟩
          · first
            | (exact ⟨m + 1, by omega, by omega, by go_num, (by rw [show m + 1 - 1 = m by omega, HSTEP.out, rlookS_same HNOTE.out (HV.out ▸ HX.out) hv HZ.out]; exact h), hbut, k3⟩)
            | ((repeat apply Exists.intro); refine ⟨?_, ?_⟩; rotate_left; (focus (first | exact rfl | (repeat (first | exact rfl | refine ⟨rfl, ?_⟩)))); (exact ⟨m + 1, by omega, by omega, by go_num, (by rw [show m + 1 - 1 = m by omega, HSTEP.out, rlookS_same HNOTE.out (HV.out ▸ HX.out) hv HZ.out]; exact h), hbut, k3⟩))
          · simp [intOf]; omega
    · obtain rfl : m = 17 := by omega
      go_upto_region 2 with (fail)
      refine wp_region_lit ?_
      refine wl_v ?_ ?_ ?_; rotate_left; (focus (go_simp; (try with_reducible rfl); done)); try simp only [Act.put, List.setIfInBounds_toArray, List.set_cons_zero, List.set_cons_succ]
      refine wl_v (.bool false) (by go_simp <;> omega) ?_; try simp only [Act.put, List.setIfInBounds_toArray, List.set_cons_zero, List.set_cons_succ]
      go_wp2_with fail
      refine bodyPost_end (results_none rfl _ _ _) rfl ?_
      exact ⟨rfl, hbut, h⟩
end Go.Proofs.Ytbpepkpjjfhmpaa
