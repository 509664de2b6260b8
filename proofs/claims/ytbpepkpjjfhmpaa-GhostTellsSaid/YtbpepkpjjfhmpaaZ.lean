/- The ghost: the walk of Look. -/
import Derived.Test.YtbpepkpjjfhmpaaY
namespace Go.Proofs.Ytbpepkpjjfhmpaa
open Go.RowKit Go.Maps
set_option linter.unusedVariables false
set_option linter.unusedSimpArgs false

set_option maxHeartbeats 1000000 in
set_option maxRecDepth 100000 in
theorem look_at (w : World) (g bm : Nat) (B : List Int) (hB : B.length = 51) (hw : WF B) (G : GS) (hn : G.n + 16 < maxLen) (hm : ∀ u, u ≤ 16 → 0 ≤ ci G.many u ∧ ci G.many u ≤ 9223372036854775806) (h : GG w g bm G) :
    Calls Try.prog 9 #[.pointer (some ⟨g, 0, none⟩), .agg (ints B)] w fun e w' => e = .returned (.tuple #[]) ∧ But g bm w w' ∧ GG w' g bm (lookK B G 16) := by
  have hall := But.refl g bm w
  have HB := Lib.hid hB
  have HW := Lib.hid hw
  have HM := Lib.hid hm
  have HN := Lib.hid hn
  clear hB hw hm hn
  go_enter Try.func9, Try.ntmps9
  go_wp2_with (first
    | ((with_reducible refine op_box 33 (.tmp 1) (ints B) ?_ ?_); rfl; intro w1 b3 hge hb k3; have n3 : b3 ≠ g := (by have := h.1.lt; omega); have n3' : b3 ≠ bm := (by have := h.2.1.lt; omega); replace hall := hall.trans (But.of_below hb); replace h := h.ups hb; clear hb hge))
  go_loopw [4] (LookRel w g bm b3 B G) (fun u _ => 17 - (intOf u).toNat)
  case atStart => exact ⟨1, by omega, by omega, rfl, h, hall, k3⟩
  case round =>
    obtain ⟨m, hm1, hm2, rfl, hg, hbut, k3'⟩ := hrel
    clear h hall k3
    by_cases hlt : m ≤ 16
    · obtain ⟨G', hG⟩ : ∃ G', lookK B G (m - 1) = G' := ⟨_, rfl⟩
      have hmany : ci G'.many m = ci G.many m := by rw [← hG]; exact lookK_many B G m (m - 1) (by omega)
      have hn' : G'.n < maxLen := by have := lookK_n B G (m - 1); rw [hG] at this; have := HN.out; omega
      have hmb := HM.out m hlt
      rw [← hmany] at hmb
      rw [hG] at hg
      have HSTEP := Lib.hid (lookK_step B G m hm1)
      rw [hG] at HSTEP
      replace hG := Lib.hid hG
      clear hmany
      obtain ⟨kg, hs, hne, hl, hmm⟩ := hg
      have p0 := gC_last (bm := bm) (wrong := G'.wrong) (j := m*4) hl hmm (by omega)
      have p1 := gC_last (bm := bm) (wrong := G'.wrong) (j := m*4+1) hl hmm (by omega)
      have p2 := gC_last (bm := bm) (wrong := G'.wrong) (j := m*4+2) hl hmm (by omega)
      have p3 := gC_last (bm := bm) (wrong := G'.wrong) (j := m*4+3) hl hmm (by omega)
      simp only [← Nat.add_assoc] at p1 p2 p3
      have hlast : lastF G'.last m = (ci G'.last (m*4), ci G'.last (m*4+1), ci G'.last (m*4+2), ci G'.last (m*4+3)) := by unfold lastF; rw [if_pos (by omega)]; simp
      have hnote : noteF B m = ((m : Int), ci B (m*3), ci B (m*3+1), ci B (m*3+2)) := by unfold noteF; rw [if_pos (by omega)]; simp
      have hx : NWF ((m : Int), ci B (m*3), ci B (m*3+1), ci B (m*3+2)) := ⟨wf_mk (by simp only []; omega), wf_ci HW.out _, wf_ci HW.out _, wf_ci HW.out _⟩
      generalize ci G'.last (m*4) = l0 at *
      generalize ci G'.last (m*4+1) = l1 at *
      generalize ci G'.last (m*4+2) = l2 at *
      generalize ci G'.last (m*4+3) = l3 at *
      generalize ci B (m*3) = x1 at *
      generalize ci B (m*3+1) = x2 at *
      generalize ci B (m*3+2) = x3 at *
      have HLAST := Lib.hid hlast
      have HNOTE := Lib.hid hnote
      have HXW := Lib.hid hx
      have HMB := Lib.hid hmb
      replace hn' := Lib.hid hn'
      replace hl := Lib.hid hl
      replace hmm := Lib.hid hmm
      have h17 : (m : Int) < 17 := by omega
      clear hlast hnote hx hmb
      go_wp2_with (first
        | ((with_reducible refine op_load 33 (.tmp 3) b3 33 (ints B) (.array 17 31) ?_ ?_ ?_ ?_ ?_ ?_); rfl; exact k3'; exact Try.underlying33; rfl; exact info25b _ HB.out)
        | (go_at_call 22; ((with_reducible refine (note_at B m m x1 x2 x3 _ ?_ ?_).mono ?_); exact HB.out; exact HNOTE.out; rintro e w2 ⟨rfl, hb⟩; replace hbut := hbut.trans (But.of_below hb); replace kg := kg.ups hb; replace hs := hs.ups hb; replace k3' := k3'.ups hb; clear hb))
        | ((with_reducible refine op_new 35 5 (.tmp 12) #[.int .i64 (m : Int), .int .i64 x1, .int .i64 x2, .int .i64 x3] zN info28z ?_ ?_ ?_ ?_ ?_ ?_); exact info28s; rfl; (simp [Value.oneCell']); (intro p; rfl); (intro p; rfl); intro w3 b5 hge hb k5; have n5 : b5 ≠ g := (by have := kg.lt; omega); have n5' : b5 ≠ bm := (by have := hs.lt; omega); replace hbut := hbut.trans (But.of_below hb); replace kg := kg.ups hb; replace hs := hs.ups hb; replace k3' := k3'.ups hb; clear hb hge))
      obtain ⟨r, hr⟩ : ∃ r, newer l0 l1 m x1 = r := ⟨_, rfl⟩
      have HNew := Lib.hid hr
      clear hr
      have hS : SL w3 g (gC bm G'.last G'.many G'.wrong) b5 #[.int .i64 (m : Int), .int .i64 x1, .int .i64 x2, .int .i64 x3] w3.drew := ⟨(Below.refl _ _).drew, kg, k5⟩
      refine region_pi (SL w3 g (gC bm G'.last G'.many G'.wrong) b5 #[.int .i64 (m : Int), .int .i64 x1, .int .i64 x2, .int .i64 x3]) [(0, true), (1, true), (2, true), (3, true), (4, true), (5, true), (6, true), (7, false), (8, true)] (by kernel_rfl) (by kernel_rfl) rfl (by kernel_rfl) hS ?_
      refine pi_f0 ?_ rfl ?_ ?_; rotate_left; (focus (intro w' hS'; have q0 := (hS'.2.1.cell (1 + m*4)).trans p0; have q1 := (hS'.2.1.cell (1 + m*4 + 1)).trans p1; have q2 := (hS'.2.1.cell (1 + m*4 + 2)).trans p2; have q3 := (hS'.2.1.cell (1 + m*4 + 3)).trans p3; go_simp; (try rw [if_pos h17]); (try go_simp); (try with_reducible rfl); done)); try simp only [Act.put, List.setIfInBounds_toArray, List.set_cons_zero, List.set_cons_succ]
      refine pi_f0 ?_ rfl ?_ ?_; rotate_left; (focus (intro w' hS'; have q0 := (hS'.2.1.cell (1 + m*4)).trans p0; have q1 := (hS'.2.1.cell (1 + m*4 + 1)).trans p1; have q2 := (hS'.2.1.cell (1 + m*4 + 2)).trans p2; have q3 := (hS'.2.1.cell (1 + m*4 + 3)).trans p3; go_simp; (try rw [if_pos h17]); (try go_simp); (try with_reducible rfl); done)); try simp only [Act.put, List.setIfInBounds_toArray, List.set_cons_zero, List.set_cons_succ]
      refine pi_f0 ?_ rfl ?_ ?_; rotate_left; (focus (intro w' hS'; have q0 := (hS'.2.1.cell (1 + m*4)).trans p0; have q1 := (hS'.2.1.cell (1 + m*4 + 1)).trans p1; have q2 := (hS'.2.1.cell (1 + m*4 + 2)).trans p2; have q3 := (hS'.2.1.cell (1 + m*4 + 3)).trans p3; go_simp; (try rw [if_pos h17]); (try go_simp); (try with_reducible rfl); done)); try simp only [Act.put, List.setIfInBounds_toArray, List.set_cons_zero, List.set_cons_succ]
      refine pi_f0 ?_ rfl ?_ ?_; rotate_left; (focus (intro w' hS'; have q0 := (hS'.2.1.cell (1 + m*4)).trans p0; have q1 := (hS'.2.1.cell (1 + m*4 + 1)).trans p1; have q2 := (hS'.2.1.cell (1 + m*4 + 2)).trans p2; have q3 := (hS'.2.1.cell (1 + m*4 + 3)).trans p3; go_simp; (try rw [if_pos h17]); (try go_simp); (try with_reducible rfl); done)); try simp only [Act.put, List.setIfInBounds_toArray, List.set_cons_zero, List.set_cons_succ]
      refine pi_f0 ?_ rfl ?_ ?_; rotate_left; (focus (intro w' hS'; have q0 := (hS'.2.1.cell (1 + m*4)).trans p0; have q1 := (hS'.2.1.cell (1 + m*4 + 1)).trans p1; have q2 := (hS'.2.1.cell (1 + m*4 + 2)).trans p2; have q3 := (hS'.2.1.cell (1 + m*4 + 3)).trans p3; go_simp; (try rw [if_pos h17]); (try go_simp); (try with_reducible rfl); done)); try simp only [Act.put, List.setIfInBounds_toArray, List.set_cons_zero, List.set_cons_succ]
      refine pi_f0 ?_ rfl ?_ ?_; rotate_left; (focus (intro w' hS'; have q0 := (hS'.2.1.cell (1 + m*4)).trans p0; have q1 := (hS'.2.1.cell (1 + m*4 + 1)).trans p1; have q2 := (hS'.2.1.cell (1 + m*4 + 2)).trans p2; have q3 := (hS'.2.1.cell (1 + m*4 + 3)).trans p3; go_simp; (try rw [if_pos h17]); (try go_simp); (try with_reducible rfl); done)); try simp only [Act.put, List.setIfInBounds_toArray, List.set_cons_zero, List.set_cons_succ]
      refine pi_f0 ?_ rfl ?_ ?_; rotate_left; (focus (intro w' h; refine run_load_row b5 35 #[.int .i64 (m : Int), .int .i64 x1, .int .i64 x2, .int .i64 x3] _ ?_ h.2.2 Try.underlying35 ?_ info28s <;> rfl)); try simp only [Act.put, List.setIfInBounds_toArray, List.set_cons_zero, List.set_cons_succ]
      refine pi_a0 rfl (fun K hK => ?_); go_simp; refine (newer_at l0 l1 l2 l3 m x1 x2 x3 r _ HNew.out).mono ?_; rintro e w9 ⟨rfl, hb9⟩; replace hS := hS.up hb9; clear hb9; refine hK _ _ ⟨hS, ?_⟩; clear hK; clear K; try simp only [Act.put, List.setIfInBounds_toArray, List.set_cons_zero, List.set_cons_succ]
      refine pi_f0 ?_ rfl ?_ ?_; rotate_left; (focus (intro w' hS'; have q0 := (hS'.2.1.cell (1 + m*4)).trans p0; have q1 := (hS'.2.1.cell (1 + m*4 + 1)).trans p1; have q2 := (hS'.2.1.cell (1 + m*4 + 2)).trans p2; have q3 := (hS'.2.1.cell (1 + m*4 + 3)).trans p3; go_simp; (try rw [if_pos h17]); (try go_simp); (try with_reducible rfl); done)); try simp only [Act.put, List.setIfInBounds_toArray, List.set_cons_zero, List.set_cons_succ]
      refine pi_nil (NoPanic.normal ?_)
      replace hbut := hbut.trans (But.of_below hS.1)
      replace hs := hs.ups hS.1
      replace k3' := k3'.ups hS.1
      replace kg := hS.2.1
      replace k5 := hS.2.2
      clear hS
      cases r
      · obtain ⟨b, hbd⟩ : ∃ b, decide ((m : Int) = l0 ∧ x1 = l1 ∧ x2 = l2 ∧ x3 = l3) = b := ⟨_, rfl⟩
        have hg28 := g28
        have heq : ∀ w, (Op.equalIn 10000 35 (.agg #[.int .i64 (m : Int), .int .i64 x1, .int .i64 x2, .int .i64 x3]) (.agg #[.int .i64 l0, .int .i64 l1, .int .i64 l2, .int .i64 l3])).run Try.prog w = .ok b w := fun w => by rw [eqN, hbd]
        have HBD := Lib.hid hbd
        clear hbd
        go_wp2
        have hS : SL w9 g (gC bm G'.last G'.many G'.wrong) b5 #[.int .i64 (m : Int), .int .i64 x1, .int .i64 x2, .int .i64 x3] w9.drew := ⟨(Below.refl _ _).drew, kg, k5⟩
        refine region_pi (SL w9 g (gC bm G'.last G'.many G'.wrong) b5 #[.int .i64 (m : Int), .int .i64 x1, .int .i64 x2, .int .i64 x3]) [(0, true), (1, true), (2, true), (3, true), (4, true), (5, true), (6, true), (7, true), (8, true)] (by kernel_rfl) (by kernel_rfl) rfl (by kernel_rfl) hS ?_
        refine pi_f0 ?_ rfl ?_ ?_; rotate_left; (focus (intro w' h; refine run_load_row b5 35 #[.int .i64 (m : Int), .int .i64 x1, .int .i64 x2, .int .i64 x3] _ ?_ h.2.2 Try.underlying35 ?_ info28s <;> rfl)); try simp only [Act.put, List.setIfInBounds_toArray, List.set_cons_zero, List.set_cons_succ]
        refine pi_f0 ?_ rfl ?_ ?_; rotate_left; (focus (intro w' hS'; have q0 := (hS'.2.1.cell (1 + m*4)).trans p0; have q1 := (hS'.2.1.cell (1 + m*4 + 1)).trans p1; have q2 := (hS'.2.1.cell (1 + m*4 + 2)).trans p2; have q3 := (hS'.2.1.cell (1 + m*4 + 3)).trans p3; go_simp; (try rw [if_pos h17]); (try go_simp); (try with_reducible rfl); done)); try simp only [Act.put, List.setIfInBounds_toArray, List.set_cons_zero, List.set_cons_succ]
        refine pi_f0 ?_ rfl ?_ ?_; rotate_left; (focus (intro w' hS'; have q0 := (hS'.2.1.cell (1 + m*4)).trans p0; have q1 := (hS'.2.1.cell (1 + m*4 + 1)).trans p1; have q2 := (hS'.2.1.cell (1 + m*4 + 2)).trans p2; have q3 := (hS'.2.1.cell (1 + m*4 + 3)).trans p3; go_simp; (try rw [if_pos h17]); (try go_simp); (try with_reducible rfl); done)); try simp only [Act.put, List.setIfInBounds_toArray, List.set_cons_zero, List.set_cons_succ]
        refine pi_f0 ?_ rfl ?_ ?_; rotate_left; (focus (intro w' hS'; have q0 := (hS'.2.1.cell (1 + m*4)).trans p0; have q1 := (hS'.2.1.cell (1 + m*4 + 1)).trans p1; have q2 := (hS'.2.1.cell (1 + m*4 + 2)).trans p2; have q3 := (hS'.2.1.cell (1 + m*4 + 3)).trans p3; go_simp; (try rw [if_pos h17]); (try go_simp); (try with_reducible rfl); done)); try simp only [Act.put, List.setIfInBounds_toArray, List.set_cons_zero, List.set_cons_succ]
        refine pi_f0 ?_ rfl ?_ ?_; rotate_left; (focus (intro w' hS'; have q0 := (hS'.2.1.cell (1 + m*4)).trans p0; have q1 := (hS'.2.1.cell (1 + m*4 + 1)).trans p1; have q2 := (hS'.2.1.cell (1 + m*4 + 2)).trans p2; have q3 := (hS'.2.1.cell (1 + m*4 + 3)).trans p3; go_simp; (try rw [if_pos h17]); (try go_simp); (try with_reducible rfl); done)); try simp only [Act.put, List.setIfInBounds_toArray, List.set_cons_zero, List.set_cons_succ]
        refine pi_f0 ?_ rfl ?_ ?_; rotate_left; (focus (intro w' hS'; have q0 := (hS'.2.1.cell (1 + m*4)).trans p0; have q1 := (hS'.2.1.cell (1 + m*4 + 1)).trans p1; have q2 := (hS'.2.1.cell (1 + m*4 + 2)).trans p2; have q3 := (hS'.2.1.cell (1 + m*4 + 3)).trans p3; go_simp; (try rw [if_pos h17]); (try go_simp); (try with_reducible rfl); done)); try simp only [Act.put, List.setIfInBounds_toArray, List.set_cons_zero, List.set_cons_succ]
        refine pi_f0 ?_ rfl ?_ ?_; rotate_left; (focus (intro w' hS'; have q0 := (hS'.2.1.cell (1 + m*4)).trans p0; have q1 := (hS'.2.1.cell (1 + m*4 + 1)).trans p1; have q2 := (hS'.2.1.cell (1 + m*4 + 2)).trans p2; have q3 := (hS'.2.1.cell (1 + m*4 + 3)).trans p3; go_simp; (try rw [if_pos h17]); (try go_simp); (try with_reducible rfl); done)); try simp only [Act.put, List.setIfInBounds_toArray, List.set_cons_zero, List.set_cons_succ]
        refine pi_f0 ?_ rfl ?_ ?_; rotate_left; (focus (intro w' hS'; have q0 := (hS'.2.1.cell (1 + m*4)).trans p0; have q1 := (hS'.2.1.cell (1 + m*4 + 1)).trans p1; have q2 := (hS'.2.1.cell (1 + m*4 + 2)).trans p2; have q3 := (hS'.2.1.cell (1 + m*4 + 3)).trans p3; go_simp; (try rw [if_pos h17]); (try go_simp); (try with_reducible rfl); done)); try simp only [Act.put, List.setIfInBounds_toArray, List.set_cons_zero, List.set_cons_succ]
        refine pi_f0 ?_ rfl ?_ ?_; rotate_left; (focus (intro w' hS'; have q0 := (hS'.2.1.cell (1 + m*4)).trans p0; have q1 := (hS'.2.1.cell (1 + m*4 + 1)).trans p1; have q2 := (hS'.2.1.cell (1 + m*4 + 2)).trans p2; have q3 := (hS'.2.1.cell (1 + m*4 + 3)).trans p3; go_simp; (try rw [if_pos h17]); (try go_simp); (try with_reducible rfl); done)); try simp only [Act.put, List.setIfInBounds_toArray, List.set_cons_zero, List.set_cons_succ]
        refine pi_nil (NoPanic.normal ?_)
        have c86 := (Block.cell kg 86).trans (gC_wrong hl.out hmm.out)
        have f86 := Block.frozen kg 86
        have hS9 := hS.1
        clear hS
        have hset2 := Block.set (w := w9.drew) kg 86 (.bool true)
        rw [gC_setWrong hl.out hmm.out] at hset2
        have HK := Lib.hid hset2
        have HSS := Lib.hid (hs.kept (w' := w9.drew.setCell ⟨g, 86, none⟩ (.bool true)) (row := some g) ⟨rfl, rfl, rfl, by simp, fun k _ hk => Below.heap_setCell _ _ _ k (fun e => hk (by rw [e]))⟩ (by simpa using hne.symm))
        have HA := Lib.hid (hbut.trans (c := w9.drew.setCell ⟨g, 86, none⟩ (.bool true)) ⟨rfl, rfl, rfl, by simp, fun k _ hk _ => Below.heap_setCell _ _ _ k hk⟩)
        have HK3 := Lib.hid ((Below.heap_setCell w9.drew ⟨g, 86, none⟩ (.bool true) b3 n3).trans k3')
        have KG := Lib.hid kg
        have KS := Lib.hid hs
        have KB := Lib.hid hbut
        have K3 := Lib.hid k3'
        clear hset2 kg hs hbut k3' k5
        cases b
        · go_wp2
          refine ⟨⟨m + 1, by omega, by omega, by go_num, ?_, HA.out, HK3.out⟩, by simp [intOf]; omega⟩
          rw [show m + 1 - 1 = m by omega, HSTEP.out]
          have e : lookS B m G' = { G' with wrong := true } := by
            unfold lookS
            rw [HLAST.out, HNOTE.out, if_neg (by rw [HNew.out]; simp), if_neg (by have := HBD.out; simpa using this)]
          rw [e]
          exact ⟨HK.out, HSS.out, hne, hl.out, hmm.out⟩
        · go_wp2
          refine ⟨⟨m + 1, by omega, by omega, by go_num, ?_, ⟨KB.out.os, KB.out.tape, KB.out.output, KB.out.size, KB.out.block⟩, K3.out⟩, by simp [intOf]; omega⟩
          rw [show m + 1 - 1 = m by omega, HSTEP.out]
          have e : lookS B m G' = G' := by
            unfold lookS
            rw [HLAST.out, HNOTE.out, if_neg (by rw [HNew.out]; simp), if_pos (by have := HBD.out; simpa using this)]
          rw [e]
          exact ⟨KG.out, KS.out, hne, hl.out, hmm.out⟩
      · have e0 := Block.cell k5 0
        have e1 := Block.cell k5 1
        have e2 := Block.cell k5 2
        have e3 := Block.cell k5 3
        go_wp2_with (first
          | (go_at_call 23; ((with_reducible refine (see_at _ g bm G'.n G'.last G'.many G'.wrong G'.had m x1 x2 x3 ?_ ?_ ?_ ?_ ?_ ?_).mono ?_); exact hlt; exact HXW.out; exact hn'.out; exact HMB.out.1; exact HMB.out.2; exact ⟨kg, hs, hne, hl.out, hmm.out⟩; rintro e w2 ⟨rfl, hb, hg'⟩; have hk3 := (hb.block b3 k3'.lt n3 n3').trans k3'; replace hbut := hbut.trans hb; replace hg' := Lib.hid hg')))
        refine ⟨⟨m + 1, by omega, by omega, by go_num, ?_, hbut, hk3⟩, by simp [intOf]; omega⟩
        rw [show m + 1 - 1 = m by omega, HSTEP.out]
        have e : lookS B m G' = seeS m ((m : Int), x1, x2, x3) G' := by unfold lookS; rw [HLAST.out, HNOTE.out, if_pos HNew.out]
        rw [e]
        exact hg'.out
    · obtain rfl : m = 17 := by omega
      go_wp2
      refine bodyPost_end (results_none rfl _ _ _) rfl ?_
      exact ⟨rfl, hbut, hg⟩
end Go.Proofs.Ytbpepkpjjfhmpaa
