/- BoardVersions: the walk. -/
import Derived.Test.YtlkgofannoddfaaZ
namespace Go.Proofs.Ytlkgofannoddfaa
open Go.ChangeShapes Go.WideShapes Go.ChangeAt Go.RowKit
set_option linter.unusedVariables false
set_option linter.unusedSimpArgs false

set_option maxHeartbeats 2000000 in
set_option maxRecDepth 100000 in
theorem versions_walk0 (B : List Int) (hB : B.length = 51) (hw : WF B) (U : List Int) (A A2 : Option Addr) (c c2 : Nat) (w : World) (hU : U.length ≤ 100) (h : Holds w A (U.map (Value.int .i64))) (h2 : HoldsRows w A2 U.length) :
    Calls Try.prog 4 #[.agg (ints B), .slice A U.length c, .slice A2 U.length c2] w fun e w' => e = .returned (.bool true) ∧ Below w.heap.size w w' := by
  have hall := Below.refl w.heap.size w
  have HB := Lib.hid hB
  have HW := Lib.hid hw
  replace h := Lib.hid h
  replace h2 := Lib.hid h2
  clear hB hw
  go_enter Try.func4, Try.ntmps4
  go_wp2_with (first
    | ((with_reducible refine op_box 25 (.tmp 0) (ints B) ?_ ?_); rfl; intro w1 b3 hge hb k3; have g3 : w.heap.size ≤ b3 := (by omega); replace hall := hall.trans (hb.mono hall.size); clear hb hge)
    | (go_at_call 8; refine (small_any _).mono ?_; rintro e w1 ⟨rfl, hb⟩; replace hall := hall.trans (hb.mono hall.size); replace k3 := k3.ups hb; clear hb))
  go_loop [8] (VerRel B) (fun u => 17 - (intOf u).toNat)
  case atStart => exact ⟨1, by omega, by omega, rfl, fun j h1 h2 => by omega⟩
  case round =>
    obtain ⟨k, hk1, hk2, rfl, hver⟩ := hrel
    by_cases hk : k ≤ 16
    · have e0 := (k3.cell (k*3)).trans (ints_ci (B := B) (i := k*3) (by have := HB.out; omega))
      have HV := Lib.hid hver
      clear hver
      by_cases v0 : ci B (k*3) < 0
      · go_wp2
        go_ret
        exact ⟨rfl, hall⟩
      · by_cases v1 : 1048576 < ci B (k*3)
        · go_wp2
          go_ret
          exact ⟨rfl, hall⟩
        · go_wp2
          refine ⟨⟨k + 1, by omega, by omega, by go_num, fun j h1 h2 => ?_⟩, by simp [intOf]; omega⟩
          by_cases e : j = k
          · subst e
            omega
          · exact HV.out j h1 (by omega)
    · obtain rfl : k = 17 := by omega
      clear hk1 hk2 hk
      have HV := Lib.hid hver
      clear hver
      go_wp2
      go_loopw [9] (V2 w b3 U.length) (fun i _ => U.length - (intOf i).toNat)
      case atStart => exact ⟨0, Nat.zero_le _, rfl, B, HB.out, HW.out, fun j h1 h2 => by have := HV.out j h1 (by omega); omega, k3, hall⟩
      case round =>
        obtain ⟨k, hk, rfl, C, hC, hCw, hver, k3', hbel⟩ := hrel
        have HC := Lib.hid hC
        have HCw := Lib.hid hCw
        have HVer := Lib.hid hver
        clear hC hCw hver HV HB HW
        by_cases hlt : k < U.length
        · obtain ⟨⟨A', c', L'⟩, hrow⟩ := h2.out k hlt
          obtain ⟨bu, ou, rfl, hcx⟩ := h.out k (by simpa using hlt)
          rw [List.getElem?_map, List.getElem?_eq_getElem hlt] at hcx
          simp only [Option.map_some] at hcx
          obtain ⟨bs, os, rfl, hcs⟩ := hrow.1
          simp only [] at hcs
          have hcx' := (hbel.cell (p := ⟨bu, ou + k, none⟩) (World.block_lt_of_cell? w _ hcx)).trans hcx
          have hcs' := (hbel.cell (p := ⟨bs, os + k, none⟩) (World.block_lt_of_cell? w _ hcs)).trans hcs
          have hl63 := hrow.2.2
          simp only [maxLen] at hl63
          have hh := hrow.2.1.up hbel
          simp only [] at hh
          have hltI : (k : Int) < (U.length : Int) := by omega
          generalize hx : U[k] = x at *
          replace hx := Lib.hid hx
          obtain ⟨D, ok, hp⟩ : ∃ D ok, putF C x L' = (D, ok) := ⟨_, _, rfl⟩
          have HD : Hid (D.length = 51) := Lib.hid (by have := putF_len HC.out x L'; rw [hp] at this; exact this)
          have HP := Lib.hid hp
          have hS : VC w b3 C bu (ou + k) x bs (os + k) A' c' L' wr.drew := ⟨hbel.drew, k3', hcx', hcs', hh⟩
          have HS0 := Lib.hid hS
          clear hrow hcx hcs hS hp hh
          by_cases hl : L'.length ≤ 100
          · go_upto_region 14 with (fail)
            go_cut [10, 11] from 52 to 71 (fun p o wc => ∃ b10, p = .pointer (some ⟨b10, 0, none⟩) ∧ o = .bool ok ∧ VC w b3 C bu (ou + k) x bs (os + k) A' c' L' wc ∧ Block wc b10 25 (ints D) ∧ b10 ≠ b3 ∧ w.heap.size ≤ b10)
            case first =>
              have hS := HS0.out
-- REGION14
              refine region_fork (VC w b3 C bu (ou + k) x bs (os + k) A' c' L') [(0, true), (1, true), (2, true), (3, true), (4, true), (5, true), (6, true), (7, true), (8, true)] 9 [(10, true), (11, true), (12, true), (13, false), (14, false), (15, true)] 13 [(9, false), (10, true), (11, true), (12, true), (14, false), (15, true)] (by kernel_rfl) (by kernel_rfl) rfl rfl (by kernel_rfl) hS ?_
              refine pi_f0 ?_ rfl ?_ ?_; rotate_left; (focus (intro w' h; refine run_load_row b3 25 (ints C) (.array 17 23) ?_ h.2.1 Try.underlying25 ?_ (info25b _ HC.out) <;> rfl)); try simp only [Act.put, List.setIfInBounds_toArray, List.set_cons_zero, List.set_cons_succ]
              refine pi_f0 ?_ rfl ?_ ?_; rotate_left; (focus (intro w' hS'; have q1 := hS'.2.2.1; have q2 := hS'.2.2.2.1; go_simp; (try rw [if_pos hltI]); (try with_reducible rfl); done)); try simp only [Act.put, List.setIfInBounds_toArray, List.set_cons_zero, List.set_cons_succ]
              refine pi_f0 ?_ rfl ?_ ?_; rotate_left; (focus (intro w' hS'; have q1 := hS'.2.2.1; have q2 := hS'.2.2.2.1; go_simp; (try rw [if_pos hltI]); (try with_reducible rfl); done)); try simp only [Act.put, List.setIfInBounds_toArray, List.set_cons_zero, List.set_cons_succ]
              refine pi_f0 ?_ rfl ?_ ?_; rotate_left; (focus (intro w' hS'; have q1 := hS'.2.2.1; have q2 := hS'.2.2.2.1; go_simp; (try rw [if_pos hltI]); (try with_reducible rfl); done)); try simp only [Act.put, List.setIfInBounds_toArray, List.set_cons_zero, List.set_cons_succ]
              refine pi_f0 ?_ rfl ?_ ?_; rotate_left; (focus (intro w' hS'; have q1 := hS'.2.2.1; have q2 := hS'.2.2.2.1; go_simp; (try rw [if_pos hltI]); (try with_reducible rfl); done)); try simp only [Act.put, List.setIfInBounds_toArray, List.set_cons_zero, List.set_cons_succ]
              refine pi_f0 ?_ rfl ?_ ?_; rotate_left; (focus (intro w' hS'; have q1 := hS'.2.2.1; have q2 := hS'.2.2.2.1; go_simp; (try rw [if_pos hltI]); (try with_reducible rfl); done)); try simp only [Act.put, List.setIfInBounds_toArray, List.set_cons_zero, List.set_cons_succ]
              refine pi_f0 ?_ rfl ?_ ?_; rotate_left; (focus (intro w' hS'; have q1 := hS'.2.2.1; have q2 := hS'.2.2.2.1; go_simp; (try rw [if_pos hltI]); (try with_reducible rfl); done)); try simp only [Act.put, List.setIfInBounds_toArray, List.set_cons_zero, List.set_cons_succ]
              refine pi_f0 ?_ rfl ?_ ?_; rotate_left; (focus (intro w' hS'; have q1 := hS'.2.2.1; have q2 := hS'.2.2.2.1; go_simp; (try rw [if_pos hltI]); (try with_reducible rfl); done)); try simp only [Act.put, List.setIfInBounds_toArray, List.set_cons_zero, List.set_cons_succ]
              refine pi_f0 ?_ rfl ?_ ?_; rotate_left; (focus (intro w' hS'; have q1 := hS'.2.2.1; have q2 := hS'.2.2.2.1; go_simp; (try rw [if_pos hltI]); (try with_reducible rfl); done)); try simp only [Act.put, List.setIfInBounds_toArray, List.set_cons_zero, List.set_cons_succ]
              refine pi_nil ⟨?_, ?_⟩
              · refine pi_a0 rfl (fun K hK => ?_); go_simp; refine (put_at C x L' D ok A' _ c' _ HC.out HCw.out HP.out rfl (by omega) hS.2.2.2.2).mono ?_; rintro e w9 ⟨rfl, hb9⟩; replace hS := hS.up hb9; clear hb9; refine hK _ _ ⟨hS, ?_⟩; clear hK; clear K; try simp only [Act.put, List.setIfInBounds_toArray, List.set_cons_zero, List.set_cons_succ]
                refine pi_f0 ?_ rfl ?_ ?_; rotate_left; (focus (intro w' hS'; have q1 := hS'.2.2.1; have q2 := hS'.2.2.2.1; go_simp; (try rw [if_pos hltI]); (try with_reducible rfl); done)); try simp only [Act.put, List.setIfInBounds_toArray, List.set_cons_zero, List.set_cons_succ]
                refine pi_f0 ?_ rfl ?_ ?_; rotate_left; (focus (intro w' hS'; have q1 := hS'.2.2.1; have q2 := hS'.2.2.2.1; go_simp; (try rw [if_pos hltI]); (try with_reducible rfl); done)); try simp only [Act.put, List.setIfInBounds_toArray, List.set_cons_zero, List.set_cons_succ]
                refine pi_f0 ?_ rfl ?_ ?_; rotate_left; (focus (intro w' hS'; have q1 := hS'.2.2.1; have q2 := hS'.2.2.2.1; go_simp; (try rw [if_pos hltI]); (try with_reducible rfl); done)); try simp only [Act.put, List.setIfInBounds_toArray, List.set_cons_zero, List.set_cons_succ]
                refine pi_a0 rfl (fun K hK => ?_); refine wpo_alloc 25 zB info25z fun w4 b10 hge hbA k10 => ?_; have hSA := hS; have hgA := hge; have n10 : b10 ≠ b3 := (by have := hS.2.1.lt; omega); have g10 : w.heap.size ≤ b10 := (by have := hS.1.size; omega); replace hS := hS.up hbA; clear hge; refine hK _ _ ⟨hS, ?_⟩; clear hK; clear K; try simp only [Act.put, List.setIfInBounds_toArray, List.set_cons_zero, List.set_cons_succ]
                refine pi_a0 rfl (fun K hK => ?_); refine wpo_store 25 (.tmp 10) (.tmp 70) b10 25 (ints D) zB rfl rfl k10 (info25b _ HD.out) (by rw [ints_size, HD.out]; exact zB_size) (ints_one _) fun w6 hbS ho kD => ?_; have hS6 := hSA.up (hbA.trans (hbS _ hgA)); refine hK _ _ ⟨hS6, ?_⟩; clear hK; clear K; try simp only [Act.put, List.setIfInBounds_toArray, List.set_cons_zero, List.set_cons_succ]
                refine pi_f0 ?_ rfl ?_ ?_; rotate_left; (focus (intro w' hS'; have q1 := hS'.2.2.1; have q2 := hS'.2.2.2.1; go_simp; (try rw [if_pos hltI]); (try with_reducible rfl); done)); try simp only [Act.put, List.setIfInBounds_toArray, List.set_cons_zero, List.set_cons_succ]
                refine pi_nil (NoPanic.normal ?_)
                go_wp2_with fail
                go_meet
                exact ⟨b10, rfl, rfl, hS6, kD, n10, g10⟩
              · refine pi_a0 rfl (fun K hK => ?_); refine wpo_alloc 25 zB info25z fun w4 b10 hge hbA k10 => ?_; have hSA := hS; have hgA := hge; have n10 : b10 ≠ b3 := (by have := hS.2.1.lt; omega); have g10 : w.heap.size ≤ b10 := (by have := hS.1.size; omega); replace hS := hS.up hbA; clear hge; refine hK _ _ ⟨hS, ?_⟩; clear hK; clear K; try simp only [Act.put, List.setIfInBounds_toArray, List.set_cons_zero, List.set_cons_succ]
                refine pi_a0 rfl (fun K hK => ?_); go_simp; refine (put_at C x L' D ok A' _ c' _ HC.out HCw.out HP.out rfl (by omega) hS.2.2.2.2).mono ?_; rintro e w9 ⟨rfl, hb9⟩; replace hbA := hbA.trans (hb9.mono hbA.size); replace k10 := k10.ups hb9; replace hS := hS.up hb9; clear hb9; refine hK _ _ ⟨hS, ?_⟩; clear hK; clear K; try simp only [Act.put, List.setIfInBounds_toArray, List.set_cons_zero, List.set_cons_succ]
                refine pi_f0 ?_ rfl ?_ ?_; rotate_left; (focus (intro w' hS'; have q1 := hS'.2.2.1; have q2 := hS'.2.2.2.1; go_simp; (try rw [if_pos hltI]); (try with_reducible rfl); done)); try simp only [Act.put, List.setIfInBounds_toArray, List.set_cons_zero, List.set_cons_succ]
                refine pi_f0 ?_ rfl ?_ ?_; rotate_left; (focus (intro w' hS'; have q1 := hS'.2.2.1; have q2 := hS'.2.2.2.1; go_simp; (try rw [if_pos hltI]); (try with_reducible rfl); done)); try simp only [Act.put, List.setIfInBounds_toArray, List.set_cons_zero, List.set_cons_succ]
                refine pi_f0 ?_ rfl ?_ ?_; rotate_left; (focus (intro w' hS'; have q1 := hS'.2.2.1; have q2 := hS'.2.2.2.1; go_simp; (try rw [if_pos hltI]); (try with_reducible rfl); done)); try simp only [Act.put, List.setIfInBounds_toArray, List.set_cons_zero, List.set_cons_succ]
                refine pi_a0 rfl (fun K hK => ?_); refine wpo_store 25 (.tmp 10) (.tmp 70) b10 25 (ints D) zB rfl rfl k10 (info25b _ HD.out) (by rw [ints_size, HD.out]; exact zB_size) (ints_one _) fun w6 hbS ho kD => ?_; have hS6 := hSA.up (hbA.trans (hbS _ hgA)); refine hK _ _ ⟨hS6, ?_⟩; clear hK; clear K; try simp only [Act.put, List.setIfInBounds_toArray, List.set_cons_zero, List.set_cons_succ]
                refine pi_f0 ?_ rfl ?_ ?_; rotate_left; (focus (intro w' hS'; have q1 := hS'.2.2.1; have q2 := hS'.2.2.2.1; go_simp; (try rw [if_pos hltI]); (try with_reducible rfl); done)); try simp only [Act.put, List.setIfInBounds_toArray, List.set_cons_zero, List.set_cons_succ]
                refine pi_nil (NoPanic.normal ?_)
                go_wp2_with fail
                go_meet
                exact ⟨b10, rfl, rfl, hS6, kD, n10, g10⟩
-- END14
            case rest =>
              obtain ⟨b10, rfl, rfl, hS, kD, n10, g10⟩ := hcut
              clear k3' hbel hcs' hcx' HS0 hall k3
              have hcs := hS.2.2.2.1
              obtain ⟨s, n, hf⟩ : ∃ s n, fold L' = (s, n) := ⟨_, _, rfl⟩
              have HF := Lib.hid hf
              clear hf
              go_wp2_with (first
                | (go_at_call 9; ((with_reducible refine (fold_at L' A' _ c' s n _ ?_ ?_ ?_ ?_).mono ?_); exact HF.out; rfl; omega; exact hS.2.2.2.2; rintro e w2 ⟨rfl, rfl⟩)))
              go_loopw [14] (V3 w b3 C bu (ou + k) x bs (os + k) A' c' L' b10 D) (fun u _ => 17 - (intOf u).toNat)
              case atStart => exact ⟨1, by omega, by omega, rfl, hS, kD⟩
              case round =>
                obtain ⟨m, hm1, hm2, rfl, hS', kD'⟩ := hrel
                clear hS kD hcs
                by_cases hm : m ≤ 16
                · have hcx := hS'.2.2.1
                  have hv := HVer.out m hm1 hm
                  have hg28 := g28
                  have e28 := eqN
                  obtain ⟨v, ev⟩ : ∃ v, ci C (m*3) = v := ⟨_, rfl⟩
                  obtain ⟨s0, es⟩ : ∃ v, ci C (m*3+1) = v := ⟨_, rfl⟩
                  obtain ⟨n0, en⟩ : ∃ v, ci C (m*3+2) = v := ⟨_, rfl⟩
                  have HN0 : Hid (noteF C m = ((m : Int), v, s0, n0)) := Lib.hid (by unfold noteF; rw [if_pos (by omega)]; simp [ev, es, en])
                  have hcase := ver_cases HC.out HP.out HF.out m hm1 hm (by omega)
                  rw [ev, es, en] at hcase
                  rw [ev] at hv
                  clear ev es en
                  have hvl : v ≤ 1048676 := by omega
                  rcases hcase with ⟨rfl, rfl, hn1⟩ | ⟨rfl, rfl, hn1, rfl, rfl⟩ | ⟨hxm, hn1⟩
                  · have HN1 := Lib.hid hn1
                    have HNew : Hid (newer m v m (v + 1) = true) := Lib.hid (by simp [newer]; omega)
                    have q1 : ((v + 1) != v) = true := (by simp; omega)
                    clear hn1
                    go_wp2_with (first
                      | ((with_reducible refine op_unguard _ _ ?_ ?_); rfl)
                      | ((with_reducible refine op_load 25 (.tmp 3) b3 25 (ints C) (.array 17 23) ?_ ?_ ?_ ?_ ?_ ?_); rfl; exact hS'.2.1; exact Try.underlying25; rfl; exact info25b _ HC.out)
                      | ((with_reducible refine op_load 25 (.tmp 10) b10 25 (ints D) (.array 17 23) ?_ ?_ ?_ ?_ ?_ ?_); rfl; exact kD'; exact Try.underlying25; rfl; exact info25b _ HD.out)
                      | ((with_reducible refine op_new 28 15 (.tmp 86) #[.int .i64 (m : Int), .int .i64 v, .int .i64 s0, .int .i64 n0] zN info28z ?_ ?_ ?_ ?_ ?_ ?_); exact info28s; rfl; (simp [Value.oneCell']); (intro p; rfl); (intro p; rfl); intro w2 b15 hge hb k15; replace hS' := hS'.up hb; replace hcx := hS'.2.2.1; replace kD' := kD'.ups hb; (try replace k16 := k16.ups hb); (try replace m0 := k15.cell 0); (try replace m1 := k15.cell 1); (try replace m2 := k15.cell 2); (try replace m3 := k15.cell 3); (try replace p0 := k16.cell 0); (try replace p1 := k16.cell 1); (try replace p2 := k16.cell 2); (try replace p3 := k16.cell 3); clear hb hge; have m0 := k15.cell 0; have m1 := k15.cell 1; have m2 := k15.cell 2; have m3 := k15.cell 3)
                      | ((with_reducible refine op_new 28 16 (.tmp 89) #[.int .i64 (m : Int), .int .i64 (v + 1), .int .i64 s, .int .i64 n] zN info28z ?_ ?_ ?_ ?_ ?_ ?_); exact info28s; rfl; (simp [Value.oneCell']); (intro p; rfl); (intro p; rfl); intro w2 b16 hge hb k16; replace hS' := hS'.up hb; replace hcx := hS'.2.2.1; replace kD' := kD'.ups hb; (try replace k15 := k15.ups hb); (try replace m0 := k15.cell 0); (try replace m1 := k15.cell 1); (try replace m2 := k15.cell 2); (try replace m3 := k15.cell 3); (try replace p0 := k16.cell 0); (try replace p1 := k16.cell 1); (try replace p2 := k16.cell 2); (try replace p3 := k16.cell 3); clear hb hge; have p0 := k16.cell 0; have p1 := k16.cell 1; have p2 := k16.cell 2; have p3 := k16.cell 3)
                      | (go_at_call 13; ((with_reducible refine (note_at C m m v s0 n0 _ ?_ ?_).mono ?_); exact HC.out; exact HN0.out; rintro e w2 ⟨rfl, hb⟩; replace hS' := hS'.up hb; replace hcx := hS'.2.2.1; replace kD' := kD'.ups hb; (try replace k15 := k15.ups hb); (try replace k16 := k16.ups hb); (try replace m0 := k15.cell 0); (try replace m1 := k15.cell 1); (try replace m2 := k15.cell 2); (try replace m3 := k15.cell 3); (try replace p0 := k16.cell 0); (try replace p1 := k16.cell 1); (try replace p2 := k16.cell 2); (try replace p3 := k16.cell 3); clear hb))
                      | (go_at_call 13; ((with_reducible refine (note_at D m m (v + 1) s n _ ?_ ?_).mono ?_); exact HD.out; exact HN1.out; rintro e w2 ⟨rfl, hb⟩; replace hS' := hS'.up hb; replace hcx := hS'.2.2.1; replace kD' := kD'.ups hb; (try replace k15 := k15.ups hb); (try replace k16 := k16.ups hb); (try replace m0 := k15.cell 0); (try replace m1 := k15.cell 1); (try replace m2 := k15.cell 2); (try replace m3 := k15.cell 3); (try replace p0 := k16.cell 0); (try replace p1 := k16.cell 1); (try replace p2 := k16.cell 2); (try replace p3 := k16.cell 3); clear hb))
                      | (go_at_call 15; ((with_reducible refine (newer_at m v s0 n0 m (v + 1) s n true _ ?_).mono ?_); exact HNew.out; rintro e w2 ⟨rfl, hb⟩; replace hS' := hS'.up hb; replace hcx := hS'.2.2.1; replace kD' := kD'.ups hb; (try replace k15 := k15.ups hb); (try replace k16 := k16.ups hb); (try replace m0 := k15.cell 0); (try replace m1 := k15.cell 1); (try replace m2 := k15.cell 2); (try replace m3 := k15.cell 3); (try replace p0 := k16.cell 0); (try replace p1 := k16.cell 1); (try replace p2 := k16.cell 2); (try replace p3 := k16.cell 3); clear hb)))
                    exact ⟨⟨m + 1, by omega, by omega, by go_num, hS', kD'⟩, by simp [intOf]; omega⟩
                  · have HN1 := Lib.hid hn1
                    have HNew : Hid (newer m v m v = false) := Lib.hid (by simp [newer])
                    clear hn1
                    go_wp2_with (first
                      | ((with_reducible refine op_unguard _ _ ?_ ?_); rfl)
                      | ((with_reducible refine op_load 25 (.tmp 3) b3 25 (ints C) (.array 17 23) ?_ ?_ ?_ ?_ ?_ ?_); rfl; exact hS'.2.1; exact Try.underlying25; rfl; exact info25b _ HC.out)
                      | ((with_reducible refine op_load 25 (.tmp 10) b10 25 (ints D) (.array 17 23) ?_ ?_ ?_ ?_ ?_ ?_); rfl; exact kD'; exact Try.underlying25; rfl; exact info25b _ HD.out)
                      | ((with_reducible refine op_new 28 15 (.tmp 86) #[.int .i64 (m : Int), .int .i64 v, .int .i64 s0, .int .i64 n0] zN info28z ?_ ?_ ?_ ?_ ?_ ?_); exact info28s; rfl; (simp [Value.oneCell']); (intro p; rfl); (intro p; rfl); intro w2 b15 hge hb k15; replace hS' := hS'.up hb; replace hcx := hS'.2.2.1; replace kD' := kD'.ups hb; (try replace k16 := k16.ups hb); (try replace m0 := k15.cell 0); (try replace m1 := k15.cell 1); (try replace m2 := k15.cell 2); (try replace m3 := k15.cell 3); (try replace p0 := k16.cell 0); (try replace p1 := k16.cell 1); (try replace p2 := k16.cell 2); (try replace p3 := k16.cell 3); clear hb hge; have m0 := k15.cell 0; have m1 := k15.cell 1; have m2 := k15.cell 2; have m3 := k15.cell 3)
                      | ((with_reducible refine op_new 28 16 (.tmp 89) #[.int .i64 (m : Int), .int .i64 v, .int .i64 s0, .int .i64 n0] zN info28z ?_ ?_ ?_ ?_ ?_ ?_); exact info28s; rfl; (simp [Value.oneCell']); (intro p; rfl); (intro p; rfl); intro w2 b16 hge hb k16; replace hS' := hS'.up hb; replace hcx := hS'.2.2.1; replace kD' := kD'.ups hb; (try replace k15 := k15.ups hb); (try replace m0 := k15.cell 0); (try replace m1 := k15.cell 1); (try replace m2 := k15.cell 2); (try replace m3 := k15.cell 3); (try replace p0 := k16.cell 0); (try replace p1 := k16.cell 1); (try replace p2 := k16.cell 2); (try replace p3 := k16.cell 3); clear hb hge; have p0 := k16.cell 0; have p1 := k16.cell 1; have p2 := k16.cell 2; have p3 := k16.cell 3)
                      | (go_at_call 13; ((with_reducible refine (note_at C m m v s0 n0 _ ?_ ?_).mono ?_); exact HC.out; exact HN0.out; rintro e w2 ⟨rfl, hb⟩; replace hS' := hS'.up hb; replace hcx := hS'.2.2.1; replace kD' := kD'.ups hb; (try replace k15 := k15.ups hb); (try replace k16 := k16.ups hb); (try replace m0 := k15.cell 0); (try replace m1 := k15.cell 1); (try replace m2 := k15.cell 2); (try replace m3 := k15.cell 3); (try replace p0 := k16.cell 0); (try replace p1 := k16.cell 1); (try replace p2 := k16.cell 2); (try replace p3 := k16.cell 3); clear hb))
                      | (go_at_call 13; ((with_reducible refine (note_at D m m v s0 n0 _ ?_ ?_).mono ?_); exact HD.out; exact HN1.out; rintro e w2 ⟨rfl, hb⟩; replace hS' := hS'.up hb; replace hcx := hS'.2.2.1; replace kD' := kD'.ups hb; (try replace k15 := k15.ups hb); (try replace k16 := k16.ups hb); (try replace m0 := k15.cell 0); (try replace m1 := k15.cell 1); (try replace m2 := k15.cell 2); (try replace m3 := k15.cell 3); (try replace p0 := k16.cell 0); (try replace p1 := k16.cell 1); (try replace p2 := k16.cell 2); (try replace p3 := k16.cell 3); clear hb))
                      | (go_at_call 15; ((with_reducible refine (newer_at m v s0 n0 m v s0 n0 false _ ?_).mono ?_); exact HNew.out; rintro e w2 ⟨rfl, hb⟩; replace hS' := hS'.up hb; replace hcx := hS'.2.2.1; replace kD' := kD'.ups hb; (try replace k15 := k15.ups hb); (try replace k16 := k16.ups hb); (try replace m0 := k15.cell 0); (try replace m1 := k15.cell 1); (try replace m2 := k15.cell 2); (try replace m3 := k15.cell 3); (try replace p0 := k16.cell 0); (try replace p1 := k16.cell 1); (try replace p2 := k16.cell 2); (try replace p3 := k16.cell 3); clear hb)))
                    exact ⟨⟨m + 1, by omega, by omega, by go_num, hS', kD'⟩, by simp [intOf]; omega⟩
                  · have HN1 := Lib.hid hn1
                    have HNew : Hid (newer m v m v = false) := Lib.hid (by simp [newer])
                    have q1 : ((m : Int) == x) = false := by simp; omega
                    have q2 : ((m : Int) != x) = true := by simp; omega
                    clear hn1 hxm
                    cases ok
                    · skip
                      go_wp2_with (first
                        | ((with_reducible refine op_unguard _ _ ?_ ?_); rfl)
                        | ((with_reducible refine op_load 25 (.tmp 3) b3 25 (ints C) (.array 17 23) ?_ ?_ ?_ ?_ ?_ ?_); rfl; exact hS'.2.1; exact Try.underlying25; rfl; exact info25b _ HC.out)
                        | ((with_reducible refine op_load 25 (.tmp 10) b10 25 (ints D) (.array 17 23) ?_ ?_ ?_ ?_ ?_ ?_); rfl; exact kD'; exact Try.underlying25; rfl; exact info25b _ HD.out)
                        | ((with_reducible refine op_new 28 15 (.tmp 86) #[.int .i64 (m : Int), .int .i64 v, .int .i64 s0, .int .i64 n0] zN info28z ?_ ?_ ?_ ?_ ?_ ?_); exact info28s; rfl; (simp [Value.oneCell']); (intro p; rfl); (intro p; rfl); intro w2 b15 hge hb k15; replace hS' := hS'.up hb; replace hcx := hS'.2.2.1; replace kD' := kD'.ups hb; (try replace k16 := k16.ups hb); (try replace m0 := k15.cell 0); (try replace m1 := k15.cell 1); (try replace m2 := k15.cell 2); (try replace m3 := k15.cell 3); (try replace p0 := k16.cell 0); (try replace p1 := k16.cell 1); (try replace p2 := k16.cell 2); (try replace p3 := k16.cell 3); clear hb hge; have m0 := k15.cell 0; have m1 := k15.cell 1; have m2 := k15.cell 2; have m3 := k15.cell 3)
                        | ((with_reducible refine op_new 28 16 (.tmp 89) #[.int .i64 (m : Int), .int .i64 v, .int .i64 s0, .int .i64 n0] zN info28z ?_ ?_ ?_ ?_ ?_ ?_); exact info28s; rfl; (simp [Value.oneCell']); (intro p; rfl); (intro p; rfl); intro w2 b16 hge hb k16; replace hS' := hS'.up hb; replace hcx := hS'.2.2.1; replace kD' := kD'.ups hb; (try replace k15 := k15.ups hb); (try replace m0 := k15.cell 0); (try replace m1 := k15.cell 1); (try replace m2 := k15.cell 2); (try replace m3 := k15.cell 3); (try replace p0 := k16.cell 0); (try replace p1 := k16.cell 1); (try replace p2 := k16.cell 2); (try replace p3 := k16.cell 3); clear hb hge; have p0 := k16.cell 0; have p1 := k16.cell 1; have p2 := k16.cell 2; have p3 := k16.cell 3)
                        | (go_at_call 13; ((with_reducible refine (note_at C m m v s0 n0 _ ?_ ?_).mono ?_); exact HC.out; exact HN0.out; rintro e w2 ⟨rfl, hb⟩; replace hS' := hS'.up hb; replace hcx := hS'.2.2.1; replace kD' := kD'.ups hb; (try replace k15 := k15.ups hb); (try replace k16 := k16.ups hb); (try replace m0 := k15.cell 0); (try replace m1 := k15.cell 1); (try replace m2 := k15.cell 2); (try replace m3 := k15.cell 3); (try replace p0 := k16.cell 0); (try replace p1 := k16.cell 1); (try replace p2 := k16.cell 2); (try replace p3 := k16.cell 3); clear hb))
                        | (go_at_call 13; ((with_reducible refine (note_at D m m v s0 n0 _ ?_ ?_).mono ?_); exact HD.out; exact HN1.out; rintro e w2 ⟨rfl, hb⟩; replace hS' := hS'.up hb; replace hcx := hS'.2.2.1; replace kD' := kD'.ups hb; (try replace k15 := k15.ups hb); (try replace k16 := k16.ups hb); (try replace m0 := k15.cell 0); (try replace m1 := k15.cell 1); (try replace m2 := k15.cell 2); (try replace m3 := k15.cell 3); (try replace p0 := k16.cell 0); (try replace p1 := k16.cell 1); (try replace p2 := k16.cell 2); (try replace p3 := k16.cell 3); clear hb))
                        | (go_at_call 15; ((with_reducible refine (newer_at m v s0 n0 m v s0 n0 false _ ?_).mono ?_); exact HNew.out; rintro e w2 ⟨rfl, hb⟩; replace hS' := hS'.up hb; replace hcx := hS'.2.2.1; replace kD' := kD'.ups hb; (try replace k15 := k15.ups hb); (try replace k16 := k16.ups hb); (try replace m0 := k15.cell 0); (try replace m1 := k15.cell 1); (try replace m2 := k15.cell 2); (try replace m3 := k15.cell 3); (try replace p0 := k16.cell 0); (try replace p1 := k16.cell 1); (try replace p2 := k16.cell 2); (try replace p3 := k16.cell 3); clear hb)))
                      exact ⟨⟨m + 1, by omega, by omega, by go_num, hS', kD'⟩, by simp [intOf]; omega⟩
                    · skip
                      go_wp2_with (first
                        | ((with_reducible refine op_unguard _ _ ?_ ?_); rfl)
                        | ((with_reducible refine op_load 25 (.tmp 3) b3 25 (ints C) (.array 17 23) ?_ ?_ ?_ ?_ ?_ ?_); rfl; exact hS'.2.1; exact Try.underlying25; rfl; exact info25b _ HC.out)
                        | ((with_reducible refine op_load 25 (.tmp 10) b10 25 (ints D) (.array 17 23) ?_ ?_ ?_ ?_ ?_ ?_); rfl; exact kD'; exact Try.underlying25; rfl; exact info25b _ HD.out)
                        | ((with_reducible refine op_new 28 15 (.tmp 86) #[.int .i64 (m : Int), .int .i64 v, .int .i64 s0, .int .i64 n0] zN info28z ?_ ?_ ?_ ?_ ?_ ?_); exact info28s; rfl; (simp [Value.oneCell']); (intro p; rfl); (intro p; rfl); intro w2 b15 hge hb k15; replace hS' := hS'.up hb; replace hcx := hS'.2.2.1; replace kD' := kD'.ups hb; (try replace k16 := k16.ups hb); (try replace m0 := k15.cell 0); (try replace m1 := k15.cell 1); (try replace m2 := k15.cell 2); (try replace m3 := k15.cell 3); (try replace p0 := k16.cell 0); (try replace p1 := k16.cell 1); (try replace p2 := k16.cell 2); (try replace p3 := k16.cell 3); clear hb hge; have m0 := k15.cell 0; have m1 := k15.cell 1; have m2 := k15.cell 2; have m3 := k15.cell 3)
                        | ((with_reducible refine op_new 28 16 (.tmp 89) #[.int .i64 (m : Int), .int .i64 v, .int .i64 s0, .int .i64 n0] zN info28z ?_ ?_ ?_ ?_ ?_ ?_); exact info28s; rfl; (simp [Value.oneCell']); (intro p; rfl); (intro p; rfl); intro w2 b16 hge hb k16; replace hS' := hS'.up hb; replace hcx := hS'.2.2.1; replace kD' := kD'.ups hb; (try replace k15 := k15.ups hb); (try replace m0 := k15.cell 0); (try replace m1 := k15.cell 1); (try replace m2 := k15.cell 2); (try replace m3 := k15.cell 3); (try replace p0 := k16.cell 0); (try replace p1 := k16.cell 1); (try replace p2 := k16.cell 2); (try replace p3 := k16.cell 3); clear hb hge; have p0 := k16.cell 0; have p1 := k16.cell 1; have p2 := k16.cell 2; have p3 := k16.cell 3)
                        | (go_at_call 13; ((with_reducible refine (note_at C m m v s0 n0 _ ?_ ?_).mono ?_); exact HC.out; exact HN0.out; rintro e w2 ⟨rfl, hb⟩; replace hS' := hS'.up hb; replace hcx := hS'.2.2.1; replace kD' := kD'.ups hb; (try replace k15 := k15.ups hb); (try replace k16 := k16.ups hb); (try replace m0 := k15.cell 0); (try replace m1 := k15.cell 1); (try replace m2 := k15.cell 2); (try replace m3 := k15.cell 3); (try replace p0 := k16.cell 0); (try replace p1 := k16.cell 1); (try replace p2 := k16.cell 2); (try replace p3 := k16.cell 3); clear hb))
                        | (go_at_call 13; ((with_reducible refine (note_at D m m v s0 n0 _ ?_ ?_).mono ?_); exact HD.out; exact HN1.out; rintro e w2 ⟨rfl, hb⟩; replace hS' := hS'.up hb; replace hcx := hS'.2.2.1; replace kD' := kD'.ups hb; (try replace k15 := k15.ups hb); (try replace k16 := k16.ups hb); (try replace m0 := k15.cell 0); (try replace m1 := k15.cell 1); (try replace m2 := k15.cell 2); (try replace m3 := k15.cell 3); (try replace p0 := k16.cell 0); (try replace p1 := k16.cell 1); (try replace p2 := k16.cell 2); (try replace p3 := k16.cell 3); clear hb))
                        | (go_at_call 15; ((with_reducible refine (newer_at m v s0 n0 m v s0 n0 false _ ?_).mono ?_); exact HNew.out; rintro e w2 ⟨rfl, hb⟩; replace hS' := hS'.up hb; replace hcx := hS'.2.2.1; replace kD' := kD'.ups hb; (try replace k15 := k15.ups hb); (try replace k16 := k16.ups hb); (try replace m0 := k15.cell 0); (try replace m1 := k15.cell 1); (try replace m2 := k15.cell 2); (try replace m3 := k15.cell 3); (try replace p0 := k16.cell 0); (try replace p1 := k16.cell 1); (try replace p2 := k16.cell 2); (try replace p3 := k16.cell 3); clear hb)))
                      exact ⟨⟨m + 1, by omega, by omega, by go_num, hS', kD'⟩, by simp [intOf]; omega⟩
                · obtain rfl : m = 17 := by omega
                  have k3 := hS'.2.1
                  have hbel := hS'.1
                  clear hm1 hm2 hm
                  go_wp2_with (first
                    | ((with_reducible refine op_load 25 (.tmp 10) b10 25 (ints D) (.array 17 23) ?_ ?_ ?_ ?_ ?_ ?_); rfl; exact kD'; exact Try.underlying25; rfl; exact info25b _ HD.out)
                    | ((with_reducible refine op_store 25 (.tmp 3) (.tmp 168) b3 25 (ints D) (ints C) ?_ ?_ ?_ ?_ ?_ ?_ ?_); rfl; rfl; exact k3; exact info25b _ HD.out; (rw [ints_size, ints_size, HC.out, HD.out]); exact ints_one _; intro w3 hb ho k7; replace hbel := hbel.trans (hb _ g3); clear hb ho))
                  have hD : (putF C x L').1 = D := by rw [HP.out]
                  refine ⟨⟨k + 1, by omega, by go_num, D, HD.out, by rw [← hD]; exact putF_wf HCw.out x L', fun j h1 h2 => ?_, k7, hbel⟩, by simp [intOf]; omega⟩
                  have hj := putF_ver HC.out x L' j h2
                  rw [hD] at hj
                  have := HVer.out j h1 h2
                  omega
          · go_wp2
            go_ret
            exact ⟨rfl, hbel⟩
        · obtain rfl : k = U.length := by omega
          go_wp2
          go_ret
          exact ⟨rfl, hbel⟩
end Go.Proofs.Ytlkgofannoddfaa
