/- Client: part ZRg of the proof. -/
import Derived.Test.YtbnmpoonkjlkjaaGreatXL
import Derived.ChangeSame
import Derived.ChangeOld
namespace Go.Proofs.YtbnmpoonkjlkjaaGreat
open Go.RowKit
set_option linter.unusedVariables false
set_option linter.unusedSimpArgs false
section
open Go.ChangeShapes Go.WideShapes Go.ChangeAt Go.Maps
def Rga (W : World) (N bcl D : Nat) (A : Option Addr) (c : Nat) (v n : Int) (a : Act) (w : World) : Prop :=
 ∃ (t : Nat) (m : Option Nat), Kn a 92 [(2, .int .i64 (N : Nat)), (7, .bool true), (8, .pointer (some ⟨bcl, 0, none⟩)), (9, .bool true), (10, .slice A (encF (helloP n)).length c), (12, .int .i64 (t : Nat))] ∧ t ≤ N ∧ ClAt w bcl m (G1 v n t) ∧ BOwn w D (.slice A (encF (helloP n)).length c) (encF (helloP n)) ∧ Below W.heap.size W w
def Rgb (W : World) (N bcl : Nat) (v : Int) (a : Act) (w : World) : Prop :=
 ∃ (t : Nat) (m : Option Nat), Kn a 92 [(2, .int .i64 (N : Nat)), (7, .bool true), (8, .pointer (some ⟨bcl, 0, none⟩)), (9, .bool false), (12, .int .i64 (t : Nat))] ∧ t ≤ N ∧ ClAt w bcl m (J0 v) ∧ Below W.heap.size W w
theorem cell_up {w w' : World} {g i : Nat} {x : Value} (hb : Below w.heap.size w w') (h : w.cell? ⟨g, i, none⟩ = some x) : w'.cell? ⟨g, i, none⟩ = some x := by
 have h1 := World.block_lt_of_cell? w _ h
 rw [← h]
 unfold World.cell?
 rw [hb.block g h1]
set_option maxRecDepth 100000 in
set_option maxHeartbeats 4000000 in
theorem greets_all (w : World) (u n q : Int) (hnw : i64 n) : Calls Tryz.prog 6 #[.int .i64 (u), .int .i64 (n), .int .i64 (q)] w fun e w' => e = .returned (.bool true) ∧ Below w.heap.size w w' := by
 obtain ⟨v, hv⟩ : ∃ v, clampU u = v := ⟨_, rfl⟩
 have hvr := clampU_in u
 rw [hv] at hvr
 have hall := Below.refl w.heap.size w
 refine K_enter 92 Tryz.func6 rfl rfl fun a H => ?_
 replace H := H.pick [0, 1, 2]
 refine zC (zD ?_)
 refine kR 1 H rfl fun a H => ?_
 refine zA (zB (zC (zD ?_)))
 refine wl_call _ _ _ (small_any _) (r_call0 cf11) ?_; rintro e w9 ⟨rfl, hb⟩; refine ⟨_, rfl, ?_⟩; replace hall := hall.tr hb; clear hb; refine kl H rfl fun a H => ?_
 refine kR 1 H rfl fun a H => ?_
 refine zA (zB (zC (zC (zD ?_))))
 refine kR 1 H rfl fun a H => ?_
 by_cases hcc0 : (q) < 0
 ·
  refine kV H (r_lt U3 (H.ev rfl) evc (dec_t (hcc0))) rfl fun a H => ?_
  refine kR 4 H rfl fun a H => ?_
  refine zA (zB (zH H rfl (zC (zD ?_))))
  refine kR 2 H rfl fun a H => ?_
  refine zA (zB (zF (zJ ?_)))
  exact k_ret1 H rfl rfl ⟨rfl, hall⟩
 ·
  refine kV H (r_lt U3 (H.ev rfl) evc (dec_f (hcc0))) rfl fun a H => ?_
  refine kR 2 H rfl fun a H => ?_
  by_cases hcc1 : (q) > 100
  ·
   refine kW H rfl (r_gt U3 (H.ev rfl) evc (dec_t (hcc1))) rfl fun a H => ?_
   refine kR 1 H rfl fun a H => ?_
   refine zA (zB (zH H rfl (zC (zD ?_))))
   refine kR 2 H rfl fun a H => ?_
   refine zA (zB (zF (zJ ?_)))
   exact k_ret1 H rfl rfl ⟨rfl, hall⟩
  ·
   refine kW H rfl (r_gt U3 (H.ev rfl) evc (dec_f (hcc1))) rfl fun a H => ?_
   refine kR 1 H rfl fun a H => ?_
   refine zA (zB (zG H rfl (zE (zB (zC (zD ?_))))))
   refine kR 1 H rfl fun a H => ?_
   refine wl_call _ _ _ (new_l _ (u) (J0 v) (by rw [hv]; rfl)) (r_call1 cf13 (H.ev rfl)) ?_; rintro e w9 ⟨⟨bcl, rfl, hge, hcl⟩, hb⟩; refine ⟨_, rfl, ?_⟩; have ghcl : _ ≤ bcl := Nat.le_trans hall.size hge; replace hall := hall.tr hb; clear hb; clear hge; refine kl H rfl fun a H => ?_
   refine kR 1 H rfl fun a H => ?_
   refine zA (zB (zC (zC (zD ?_))))
   refine kR 1 H rfl fun a H => ?_
   refine kV H (r_eqpnil (H.ev rfl) rfl) rfl fun a H => ?_
   refine zA (zB (zG H rfl (zE (zB (zC ?_)))))
   by_cases hn : 0 ≤ n ∧ n ≤ 1073741824
   ·
    refine zD ?_
    refine kR 2 H rfl fun a H => ?_
    refine wl_call _ _ _ (start_l _ _ _ (J0 v) (J1 v n) (n) true hcl (j_startB hn) (j_start hn)) (r_call2 cf17 (H.ev rfl) (H.ev rfl)) ?_; rintro e w9 ⟨rfl, ⟨m9, hc9⟩, hon⟩; refine ⟨_, rfl, ?_⟩; replace hall := ClAt.down hcl hall ghcl hall.size hon; clear hcl; have hcl := hc9; clear hc9 hon; refine kl H rfl fun a H => ?_
    refine kR 1 H rfl fun a H => ?_
    refine zA (zB (zC (zC (zD ?_))))
    refine kR 2 H rfl fun a H => ?_
    refine kV H (r_ge U3 (H.ev rfl) evc (dec_t (by omega))) rfl fun a H => ?_
    refine kR 2 H rfl fun a H => ?_
    refine kW H rfl (r_le U3 (H.ev rfl) evc (dec_t (by omega))) rfl fun a H => ?_
    refine kR 1 H rfl fun a H => ?_
    refine kV (v := .bool false) H (r_nebool U4 (H.ev rfl) (H.ev rfl) rfl) rfl fun a H => ?_
    refine zA (zB (zG H rfl (zE (zB (zC (zD ?_))))))
    refine kR 1 H rfl fun a H => ?_
    refine kV (v := .agg (pv (helloP n))) H (r_build #[(0, .int .i64 1), (10, .int .i64 (n))] (.agg (pv (helloP n))) (by simp [evc, H.ev (j := 38) rfl]) (fun w => by kernel_rfl)) rfl fun a H => ?_
    refine wl_call _ _ _ (renc_t _ _ (show (helloP n).ok from lit_ok rfl rfl (by unfold i64 at *; omega)) (right_hello hn)) (r_call1 cf39 (H.ev rfl)) ?_; rintro e w9 ⟨⟨D, A, c, hDe, rfl, hown⟩, hb⟩; refine ⟨_, rfl, ?_⟩; have hD : bcl < D := hDe ▸ hcl.lt; clear hDe; replace hcl := ClAt.up hcl hb; replace hall := hall.tr hb; clear hb; refine kl H rfl fun a H => ?_
    refine kR 5 H rfl fun a H => ?_
    refine zA (zB (zC (zC (zD ?_))))
    refine kR 1 H rfl fun a H => ?_
    refine zA (zB ?_)
    refine wp_block ?_
    obtain ⟨N, rfl⟩ : ∃ N : Nat, q = (N : Int) := ⟨q.toNat, by omega⟩
    refine wp_loop (Rga w N bcl D A c v n) (fun a _ => N - (intOf (a.eval (.tmp 12))).toNat) ⟨0, _, H.pick [2, 7, 8, 9, 10, 12], by omega, hcl, hown, hall⟩ ?_
    clear H hall hcl hown
    rintro a w' ⟨t, m, H, hi, hcl, hown, hall⟩
    have H0 := H
    by_cases hlt : t < N
    ·
     refine zC (zC (zD ?_))
     refine kR 2 H rfl fun a H => ?_
     refine kV H (r_lt U3 (H.ev rfl) (H.ev rfl) (dec_t (by omega))) rfl fun a H => ?_
     refine zA (zB (zH H rfl (zE (zB (zC ?_)))))
     refine wp_block ?_
     refine zC ?_
     by_cases h4 : t % 4 = 0
     ·
      refine zD ?_
      refine kR 1 H rfl fun a H => ?_
      refine wl_call _ _ _ (tick_l _ _ _ (G1 v n t) (G1 v n (t + 1)) [encF (helloP n)] 1 hcl rfl (g_yes (by omega) h4 hn).2 (g_yes (by omega) h4 hn).1) (r_call1 cf15 (H.ev rfl)) ?_; rintro e w9 ⟨⟨A0, q0, rfl, B0, hB0, ho0⟩, hc9, hon⟩; refine ⟨_, rfl, ?_⟩; replace hown := own_onlym hown hD hcl.mp hon; replace hall := ClAt.down hcl hall ghcl hall.size hon; clear hcl; have hcl := hc9; clear hc9 hon; obtain ⟨o0, ho9⟩ := Outs.head ho0 (by omega); subst ho9; refine kl H rfl fun a H => ?_
      refine kR 1 H rfl fun a H => ?_
      refine zA (zB (zC (zC (zD ?_))))
      refine kR 1 H rfl fun a H => ?_
      refine kV H (r_not (H.ev rfl) rfl) rfl fun a H => ?_
      refine kR 2 H rfl fun a H => ?_
      refine kW H rfl (r_rem (p := t) (q := 4) U3 (H.ev rfl) evc (by omega)) rfl fun a H => ?_
      refine kW H rfl (r_ne U3 (H.ev rfl) evc (dec_f (by omega))) rfl fun a H => ?_
      refine kR 1 H rfl fun a H => ?_
      refine zA (zB (zG H rfl (zE (zB (zC ?_)))))
      obtain ⟨x0_0, hx0_0, hr0_0⟩ := Outs.at ho0 (i := 0) rfl
      have hall18 := hall
      have hS : BelowOf (BelowTo hall18) _ := Below.drew (Below.refl _ (BelowTo hall18))
      refine region_tree (BelowOf (BelowTo hall18)) 12 (.fl 0 (.fl 1 (.fl 2 (.fl 3 (.fl 4 (.fl 5 (.fl 6 (.fl 7 (.fl 8 (.fl 9 (.fl 10 (.fl 11 .done)))))))))))) (by kernel_rfl) (by kernel_rfl) rfl (by kernel_rfl) hS ?_
      refine kQ 1 H rfl fun a H => ?_
      refine kF H rfl rfl (fun w' hS' => r_len U29 (H.ev rfl)) rfl fun a H => ?_
      refine kF H rfl rfl (fun w' hS' => r_ne U3 (H.ev rfl) evc (dec_f (by omega))) rfl fun a H => ?_
      refine kQ 2 H rfl fun a H => ?_
      refine kF H rfl rfl (fun w' hS' => r_idx (j := 0) (q := 0) U29 s30 (H.ev rfl) evc (by omega) rfl) rfl fun a H => ?_
      refine kF (v := x0_0) H rfl rfl (fun w' hS' => r_ld U30 rfl (H.ev rfl) (cell_up hS' hx0_0)) rfl fun a H => ?_
      refine kF (v := .string (strB (encF (helloP n)))) H rfl rfl (fun w' hS' => r_str (H.ev rfl) (BRow.up hr0_0 hS')) rfl fun a H => ?_
      refine kQ 1 H rfl fun a H => ?_
      refine kF (v := .string (strB (encF (helloP n)))) H rfl rfl (fun w' hS' => r_str (H.ev rfl) (BOwn.row (own_ups hown hS'))) rfl fun a H => ?_
      refine kF (v := .bool false) H rfl rfl (fun w' hS' => r_nestr (s := strB (encF (helloP n))) (H.ev rfl) (H.ev rfl)) rfl fun a H => ?_
      refine kQ 1 H rfl fun a H => ?_
      refine pt_done (NoPanic.normal ?_)
      replace hcl := ClAt.up hcl hS
      replace hown := own_ups hown hS
      replace ho0 := Outs.up ho0 hS
      replace hall := hall.trans (Below.mono hS hall.size)
      clear hS
      refine zB (zG H rfl (zE (n_block (zB (zD ?_)))))
      refine kR 1 H rfl fun a H => ?_
      refine kV H (r_add (q := ((t + 1 : Nat) : Int)) U3 (H.ev rfl) evc (by omega) (by omega)) rfl fun a H => ?_
      refine kR 1 H rfl fun a H => ?_
      refine zA ?_
      refine zI ⟨⟨t + 1, _, H.pick [2, 7, 8, 9, 10, 12], by omega, hcl, hown, hall⟩, ?_⟩
      rw [H.ev (j := 12) rfl, H0.ev (j := 12) rfl]
      simp only [intOf]
      omega
     ·
      refine zD ?_
      refine kR 1 H rfl fun a H => ?_
      refine wl_call _ _ _ (tick_l _ _ _ (G1 v n t) (G1 v n (t + 1)) [] 0 hcl rfl (g_no (by omega) h4).2 (g_no (by omega) h4).1) (r_call1 cf15 (H.ev rfl)) ?_; rintro e w9 ⟨⟨A1, q1, rfl, B1, hB1, ho1⟩, hc9, hon⟩; refine ⟨_, rfl, ?_⟩; replace hown := own_onlym hown hD hcl.mp hon; replace hall := ClAt.down hcl hall ghcl hall.size hon; clear hcl; have hcl := hc9; clear hc9 hon; clear ho1 hB1; refine kl H rfl fun a H => ?_
      refine kR 1 H rfl fun a H => ?_
      refine zA (zB (zC (zC (zD ?_))))
      refine kR 1 H rfl fun a H => ?_
      refine kV H (r_not (H.ev rfl) rfl) rfl fun a H => ?_
      refine kR 2 H rfl fun a H => ?_
      refine kW H rfl (r_rem (p := t) (q := 4) U3 (H.ev rfl) evc (by omega)) rfl fun a H => ?_
      refine kW H rfl (r_ne U3 (H.ev rfl) evc (dec_t (by omega))) rfl fun a H => ?_
      refine kR 1 H rfl fun a H => ?_
      refine zA (zB (zH H rfl (zC (zC (zD ?_)))))
      refine kR 1 H rfl fun a H => ?_
      refine kV H (r_len U29 (H.ev rfl)) rfl fun a H => ?_
      refine kV H (r_ne U3 (H.ev rfl) evc (dec_f (by omega))) rfl fun a H => ?_
      refine zA (zB (zG H rfl (zE (zB (wp_exit (e_then ?_))))))
      refine e_here ?_
      refine zB (zD ?_)
      refine kR 1 H rfl fun a H => ?_
      refine kV H (r_add (q := ((t + 1 : Nat) : Int)) U3 (H.ev rfl) evc (by omega) (by omega)) rfl fun a H => ?_
      refine kR 1 H rfl fun a H => ?_
      refine zA ?_
      refine zI ⟨⟨t + 1, _, H.pick [2, 7, 8, 9, 10, 12], by omega, hcl, hown, hall⟩, ?_⟩
      rw [H.ev (j := 12) rfl, H0.ev (j := 12) rfl]
      simp only [intOf]
      omega
    ·
     obtain rfl : t = N := by omega
     refine zC (zC (zD ?_))
     refine kR 2 H rfl fun a H => ?_
     refine kV H (r_lt U3 (H.ev rfl) (H.ev rfl) (dec_f (by omega))) rfl fun a H => ?_
     refine zA (zB (zG H rfl (wp_exit (e_then (e_then ?_)))))
     refine e_here ?_
     refine zB (zC (zD ?_))
     refine kR 3 H rfl fun a H => ?_
     refine kG H rfl ?_; refine wl_call _ _ _ (state_l _ _ _ (G1 v n t) 1 hcl rfl) (r_call1 cf27 (H.ev rfl)) ?_; rintro e w9 ⟨rfl, hb⟩; refine ⟨_, rfl, ?_⟩; replace hcl := ClAt.up hcl hb; replace hown := own_ups hown hb; replace hall := hall.tr hb; clear hb; refine kl H rfl fun a H => ?_
     refine kW H rfl (r_eq U3 (H.ev rfl) evc (dec_t (by omega))) rfl fun a H => ?_
     refine kR 1 H rfl fun a H => ?_
     refine kG H rfl ?_; refine kV (v := .bool true) H (r_eqbool U4 (H.ev rfl) (H.ev rfl) rfl) rfl fun a H => ?_
     refine kR 3 H rfl fun a H => ?_
     refine kG H rfl ?_; refine wl_call _ _ _ (state_l _ _ _ (G1 v n t) 1 hcl rfl) (r_call1 cf27 (H.ev rfl)) ?_; rintro e w9 ⟨rfl, hb⟩; refine ⟨_, rfl, ?_⟩; replace hcl := ClAt.up hcl hb; replace hown := own_ups hown hb; replace hall := hall.tr hb; clear hb; refine kl H rfl fun a H => ?_
     refine kW H rfl (r_eq U3 (H.ev rfl) evc (dec_f (by omega))) rfl fun a H => ?_
     refine kR 1 H rfl fun a H => ?_
     refine kG H rfl ?_; refine kV (v := .bool true) H (r_nebool U4 (H.ev rfl) (H.ev rfl) rfl) rfl fun a H => ?_
     refine kR 3 H rfl fun a H => ?_
     refine kG H rfl ?_; refine wl_call _ _ _ (sess_l _ _ _ (G1 v n t) 0 hcl rfl) (r_call1 cf29 (H.ev rfl)) ?_; rintro e w9 ⟨rfl, hb⟩; refine ⟨_, rfl, ?_⟩; replace hcl := ClAt.up hcl hb; replace hown := own_ups hown hb; replace hall := hall.tr hb; clear hb; refine kl H rfl fun a H => ?_
     refine kW H rfl (r_eq U3 (H.ev rfl) evc (dec_t (by omega))) rfl fun a H => ?_
     refine kR 2 H rfl fun a H => ?_
     refine zA (zB (zF ?_))
     exact k_ret1 H rfl rfl ⟨rfl, hall⟩
   ·
    refine zD ?_
    refine kR 2 H rfl fun a H => ?_
    refine wl_call _ _ _ (start_l _ _ _ (J0 v) (J0 v) (n) false hcl (decide_eq_false (by omega)) (if_pos (by omega))) (r_call2 cf17 (H.ev rfl) (H.ev rfl)) ?_; rintro e w9 ⟨rfl, ⟨m9, hc9⟩, hon⟩; refine ⟨_, rfl, ?_⟩; replace hall := ClAt.down hcl hall ghcl hall.size hon; clear hcl; have hcl := hc9; clear hc9 hon; refine kl H rfl fun a H => ?_
    refine kR 1 H rfl fun a H => ?_
    refine zA (zB (zC (zC (zD ?_))))
    refine kR 2 H rfl fun a H => ?_
    by_cases hcc2 : (n) ≥ 0
    ·
     refine kV H (r_ge U3 (H.ev rfl) evc (dec_t (hcc2))) rfl fun a H => ?_
     refine kR 2 H rfl fun a H => ?_
     by_cases hcc3 : (n) ≤ 1073741824
     ·
      refine kW H rfl (r_le U3 (H.ev rfl) evc (dec_t (hcc3))) rfl fun a H => ?_
      refine kR 1 H rfl fun a H => ?_
      refine kV (v := .bool true) H (r_nebool U4 (H.ev rfl) (H.ev rfl) rfl) rfl fun a H => ?_
      refine zA (zB (zH H rfl (zC (zD ?_))))
      refine kR 1 H rfl fun a H => ?_
      refine zA (zB (zF (zJ ?_)))
      exfalso; omega
     ·
      refine kW H rfl (r_le U3 (H.ev rfl) evc (dec_f (hcc3))) rfl fun a H => ?_
      refine kR 1 H rfl fun a H => ?_
      refine kV (v := .bool false) H (r_nebool U4 (H.ev rfl) (H.ev rfl) rfl) rfl fun a H => ?_
      refine zA (zB (zG H rfl (zE (zB (zC (zD ?_))))))
      refine kR 1 H rfl fun a H => ?_
      refine kV (v := .agg (pv (helloP n))) H (r_build #[(0, .int .i64 1), (10, .int .i64 (n))] (.agg (pv (helloP n))) (by simp [evc, H.ev (j := 38) rfl]) (fun w => by kernel_rfl)) rfl fun a H => ?_
      refine wl_call _ _ _ (renc_b _ _ (show (helloP n).ok from lit_ok rfl rfl (by unfold i64 at *; omega))) (r_call1 cf39 (H.ev rfl)) ?_; rintro e w9 ⟨⟨v9, rfl, hv9⟩, hb⟩; refine ⟨_, rfl, ?_⟩; clear hv9; replace hcl := ClAt.up hcl hb; replace hall := hall.tr hb; clear hb; refine kl H rfl fun a H => ?_
      refine kR 5 H rfl fun a H => ?_
      refine zA (zB (zC (zC (zD ?_))))
      refine kR 1 H rfl fun a H => ?_
      refine zA (zB ?_)
      refine wp_block ?_
      obtain ⟨N, rfl⟩ : ∃ N : Nat, q = (N : Int) := ⟨q.toNat, by omega⟩
      refine wp_loop (Rgb w N bcl v) (fun a _ => N - (intOf (a.eval (.tmp 12))).toNat) ⟨0, _, H.pick [2, 7, 8, 9, 12], by omega, hcl, hall⟩ ?_
      clear H hall hcl
      rintro a w' ⟨t, m, H, hi, hcl, hall⟩
      have H0 := H
      by_cases hlt : t < N
      ·
       refine zC (zC (zD ?_))
       refine kR 2 H rfl fun a H => ?_
       refine kV H (r_lt U3 (H.ev rfl) (H.ev rfl) (dec_t (by omega))) rfl fun a H => ?_
       refine zA (zB (zH H rfl (zE (zB (zC ?_)))))
       refine wp_block ?_
       refine zC (zD ?_)
       refine kR 1 H rfl fun a H => ?_
       refine wl_call _ _ _ (tick_l _ _ _ (J0 v) (J0 v) [] 0 hcl rfl rfl rfl) (r_call1 cf15 (H.ev rfl)) ?_; rintro e w9 ⟨⟨A2, q2, rfl, B2, hB2, ho2⟩, hc9, hon⟩; refine ⟨_, rfl, ?_⟩; replace hall := ClAt.down hcl hall ghcl hall.size hon; clear hcl; have hcl := hc9; clear hc9 hon; clear ho2 hB2; refine kl H rfl fun a H => ?_
       refine kR 1 H rfl fun a H => ?_
       refine zA (zB (zC (zC (zD ?_))))
       refine kR 1 H rfl fun a H => ?_
       refine kV H (r_not (H.ev rfl) rfl) rfl fun a H => ?_
       refine kR 5 H rfl fun a H => ?_
       refine zA (zB (zH H rfl (zC (zC (zD ?_)))))
       refine kR 1 H rfl fun a H => ?_
       refine kV H (r_len U29 (H.ev rfl)) rfl fun a H => ?_
       refine kV H (r_ne U3 (H.ev rfl) evc (dec_f (by omega))) rfl fun a H => ?_
       refine zA (zB (zG H rfl (zE (zB (wp_exit (e_then ?_))))))
       refine e_here ?_
       refine zB (zD ?_)
       refine kR 1 H rfl fun a H => ?_
       refine kV H (r_add (q := ((t + 1 : Nat) : Int)) U3 (H.ev rfl) evc (by omega) (by omega)) rfl fun a H => ?_
       refine kR 1 H rfl fun a H => ?_
       refine zA ?_
       refine zI ⟨⟨t + 1, _, H.pick [2, 7, 8, 9, 12], by omega, hcl, hall⟩, ?_⟩
       rw [H.ev (j := 12) rfl, H0.ev (j := 12) rfl]
       simp only [intOf]
       omega
      ·
       obtain rfl : t = N := by omega
       refine zC (zC (zD ?_))
       refine kR 2 H rfl fun a H => ?_
       refine kV H (r_lt U3 (H.ev rfl) (H.ev rfl) (dec_f (by omega))) rfl fun a H => ?_
       refine zA (zB (zG H rfl (wp_exit (e_then (e_then ?_)))))
       refine e_here ?_
       refine zB (zC (zD ?_))
       refine kR 3 H rfl fun a H => ?_
       refine kG H rfl ?_; refine wl_call _ _ _ (state_l _ _ _ (J0 v) 0 hcl rfl) (r_call1 cf27 (H.ev rfl)) ?_; rintro e w9 ⟨rfl, hb⟩; refine ⟨_, rfl, ?_⟩; replace hcl := ClAt.up hcl hb; replace hall := hall.tr hb; clear hb; refine kl H rfl fun a H => ?_
       refine kW H rfl (r_eq U3 (H.ev rfl) evc (dec_f (by omega))) rfl fun a H => ?_
       refine kR 1 H rfl fun a H => ?_
       refine kG H rfl ?_; refine kV (v := .bool true) H (r_eqbool U4 (H.ev rfl) (H.ev rfl) rfl) rfl fun a H => ?_
       refine kR 3 H rfl fun a H => ?_
       refine kG H rfl ?_; refine wl_call _ _ _ (state_l _ _ _ (J0 v) 0 hcl rfl) (r_call1 cf27 (H.ev rfl)) ?_; rintro e w9 ⟨rfl, hb⟩; refine ⟨_, rfl, ?_⟩; replace hcl := ClAt.up hcl hb; replace hall := hall.tr hb; clear hb; refine kl H rfl fun a H => ?_
       refine kW H rfl (r_eq U3 (H.ev rfl) evc (dec_t (by omega))) rfl fun a H => ?_
       refine kR 1 H rfl fun a H => ?_
       refine kG H rfl ?_; refine kV (v := .bool true) H (r_nebool U4 (H.ev rfl) (H.ev rfl) rfl) rfl fun a H => ?_
       refine kR 3 H rfl fun a H => ?_
       refine kG H rfl ?_; refine wl_call _ _ _ (sess_l _ _ _ (J0 v) 0 hcl rfl) (r_call1 cf29 (H.ev rfl)) ?_; rintro e w9 ⟨rfl, hb⟩; refine ⟨_, rfl, ?_⟩; replace hcl := ClAt.up hcl hb; replace hall := hall.tr hb; clear hb; refine kl H rfl fun a H => ?_
       refine kW H rfl (r_eq U3 (H.ev rfl) evc (dec_t (by omega))) rfl fun a H => ?_
       refine kR 2 H rfl fun a H => ?_
       refine zA (zB (zF ?_))
       exact k_ret1 H rfl rfl ⟨rfl, hall⟩
    ·
     refine kV H (r_ge U3 (H.ev rfl) evc (dec_f (hcc2))) rfl fun a H => ?_
     refine kR 4 H rfl fun a H => ?_
     refine kV (v := .bool false) H (r_nebool U4 (H.ev rfl) (H.ev rfl) rfl) rfl fun a H => ?_
     refine zA (zB (zG H rfl (zE (zB (zC (zD ?_))))))
     refine kR 1 H rfl fun a H => ?_
     refine kV (v := .agg (pv (helloP n))) H (r_build #[(0, .int .i64 1), (10, .int .i64 (n))] (.agg (pv (helloP n))) (by simp [evc, H.ev (j := 38) rfl]) (fun w => by kernel_rfl)) rfl fun a H => ?_
     refine wl_call _ _ _ (renc_b _ _ (show (helloP n).ok from lit_ok rfl rfl (by unfold i64 at *; omega))) (r_call1 cf39 (H.ev rfl)) ?_; rintro e w9 ⟨⟨v9, rfl, hv9⟩, hb⟩; refine ⟨_, rfl, ?_⟩; clear hv9; replace hcl := ClAt.up hcl hb; replace hall := hall.tr hb; clear hb; refine kl H rfl fun a H => ?_
     refine kR 5 H rfl fun a H => ?_
     refine zA (zB (zC (zC (zD ?_))))
     refine kR 1 H rfl fun a H => ?_
     refine zA (zB ?_)
     refine wp_block ?_
     obtain ⟨N, rfl⟩ : ∃ N : Nat, q = (N : Int) := ⟨q.toNat, by omega⟩
     refine wp_loop (Rgb w N bcl v) (fun a _ => N - (intOf (a.eval (.tmp 12))).toNat) ⟨0, _, H.pick [2, 7, 8, 9, 12], by omega, hcl, hall⟩ ?_
     clear H hall hcl
     rintro a w' ⟨t, m, H, hi, hcl, hall⟩
     have H0 := H
     by_cases hlt : t < N
     ·
      refine zC (zC (zD ?_))
      refine kR 2 H rfl fun a H => ?_
      refine kV H (r_lt U3 (H.ev rfl) (H.ev rfl) (dec_t (by omega))) rfl fun a H => ?_
      refine zA (zB (zH H rfl (zE (zB (zC ?_)))))
      refine wp_block ?_
      refine zC (zD ?_)
      refine kR 1 H rfl fun a H => ?_
      refine wl_call _ _ _ (tick_l _ _ _ (J0 v) (J0 v) [] 0 hcl rfl rfl rfl) (r_call1 cf15 (H.ev rfl)) ?_; rintro e w9 ⟨⟨A3, q3, rfl, B3, hB3, ho3⟩, hc9, hon⟩; refine ⟨_, rfl, ?_⟩; replace hall := ClAt.down hcl hall ghcl hall.size hon; clear hcl; have hcl := hc9; clear hc9 hon; clear ho3 hB3; refine kl H rfl fun a H => ?_
      refine kR 1 H rfl fun a H => ?_
      refine zA (zB (zC (zC (zD ?_))))
      refine kR 1 H rfl fun a H => ?_
      refine kV H (r_not (H.ev rfl) rfl) rfl fun a H => ?_
      refine kR 5 H rfl fun a H => ?_
      refine zA (zB (zH H rfl (zC (zC (zD ?_)))))
      refine kR 1 H rfl fun a H => ?_
      refine kV H (r_len U29 (H.ev rfl)) rfl fun a H => ?_
      refine kV H (r_ne U3 (H.ev rfl) evc (dec_f (by omega))) rfl fun a H => ?_
      refine zA (zB (zG H rfl (zE (zB (wp_exit (e_then ?_))))))
      refine e_here ?_
      refine zB (zD ?_)
      refine kR 1 H rfl fun a H => ?_
      refine kV H (r_add (q := ((t + 1 : Nat) : Int)) U3 (H.ev rfl) evc (by omega) (by omega)) rfl fun a H => ?_
      refine kR 1 H rfl fun a H => ?_
      refine zA ?_
      refine zI ⟨⟨t + 1, _, H.pick [2, 7, 8, 9, 12], by omega, hcl, hall⟩, ?_⟩
      rw [H.ev (j := 12) rfl, H0.ev (j := 12) rfl]
      simp only [intOf]
      omega
     ·
      obtain rfl : t = N := by omega
      refine zC (zC (zD ?_))
      refine kR 2 H rfl fun a H => ?_
      refine kV H (r_lt U3 (H.ev rfl) (H.ev rfl) (dec_f (by omega))) rfl fun a H => ?_
      refine zA (zB (zG H rfl (wp_exit (e_then (e_then ?_)))))
      refine e_here ?_
      refine zB (zC (zD ?_))
      refine kR 3 H rfl fun a H => ?_
      refine kG H rfl ?_; refine wl_call _ _ _ (state_l _ _ _ (J0 v) 0 hcl rfl) (r_call1 cf27 (H.ev rfl)) ?_; rintro e w9 ⟨rfl, hb⟩; refine ⟨_, rfl, ?_⟩; replace hcl := ClAt.up hcl hb; replace hall := hall.tr hb; clear hb; refine kl H rfl fun a H => ?_
      refine kW H rfl (r_eq U3 (H.ev rfl) evc (dec_f (by omega))) rfl fun a H => ?_
      refine kR 1 H rfl fun a H => ?_
      refine kG H rfl ?_; refine kV (v := .bool true) H (r_eqbool U4 (H.ev rfl) (H.ev rfl) rfl) rfl fun a H => ?_
      refine kR 3 H rfl fun a H => ?_
      refine kG H rfl ?_; refine wl_call _ _ _ (state_l _ _ _ (J0 v) 0 hcl rfl) (r_call1 cf27 (H.ev rfl)) ?_; rintro e w9 ⟨rfl, hb⟩; refine ⟨_, rfl, ?_⟩; replace hcl := ClAt.up hcl hb; replace hall := hall.tr hb; clear hb; refine kl H rfl fun a H => ?_
      refine kW H rfl (r_eq U3 (H.ev rfl) evc (dec_t (by omega))) rfl fun a H => ?_
      refine kR 1 H rfl fun a H => ?_
      refine kG H rfl ?_; refine kV (v := .bool true) H (r_nebool U4 (H.ev rfl) (H.ev rfl) rfl) rfl fun a H => ?_
      refine kR 3 H rfl fun a H => ?_
      refine kG H rfl ?_; refine wl_call _ _ _ (sess_l _ _ _ (J0 v) 0 hcl rfl) (r_call1 cf29 (H.ev rfl)) ?_; rintro e w9 ⟨rfl, hb⟩; refine ⟨_, rfl, ?_⟩; replace hcl := ClAt.up hcl hb; replace hall := hall.tr hb; clear hb; refine kl H rfl fun a H => ?_
      refine kW H rfl (r_eq U3 (H.ev rfl) evc (dec_t (by omega))) rfl fun a H => ?_
      refine kR 2 H rfl fun a H => ?_
      refine zA (zB (zF ?_))
      exact k_ret1 H rfl rfl ⟨rfl, hall⟩
set_option maxRecDepth 100000 in
theorem clientGreets_lifted (os : Os) (started : os.Started) (H : Type) (enc : TypeId × Value → H) :
  ReturnsInHanded {} Tryz.checked os 6 .any (Rows.clientGreetsSpec.pre6 enc Tryz.prog Tryz.f6 Rows.clientGreetsRow.domain false) (Rows.clientGreetsSpec.post enc Tryz.prog Tryz.f6 false true false false) := by
 refine returnsInHanded_of_change (C := Tryz.checked) own started (by kernel_rfl) Tryz.func6
  (ChangeSpec.witness6 (enc := enc) (C := Tryz.checked) false ⟨#[], #[.int .i64 0, .int .i64 0, .int .i64 0], []⟩ 8 (by kernel_rfl) (by kernel_rfl) (by kernel_rfl) (by kernel_rfl)) ?_
 intro W base args ds gs before hval0 hW hcnd _
 have hval : ∀ (j : Nat) t v, Tryz.f6.params[j]? = some t → args[j]? = some v → Value.okWide Tryz.prog W .any base t v := hval0
 have hW' := hW
 obtain ⟨p, q, hA0, hV, rfl, hfz, hnd⟩ := hW
 have hA : DataW.TrodAll enc Tryz.prog W 0 (fun _ => true) true Tryz.f6.params.toList args.toList ds p := hA0
 rw [Tryz.params6] at hA hval
 obtain ⟨v0, vs0, d0, ds0, p0, q0, hargs, rfl, rfl, h0, r0⟩ := trodAll_cons hA
 obtain ⟨v1, vs1, d1, ds1, p1, q1, rfl, rfl, rfl, h1, r1⟩ := trodAll_cons r0
 obtain ⟨v2, vs2, d2, ds2, p2, q2, rfl, rfl, rfl, h2, r2⟩ := trodAll_cons r1
 obtain ⟨rfl, rfl, rfl⟩ := trodAll_nil r2
 obtain rfl : args = #[v0, v1, v2] := by cases args; simp_all
 obtain ⟨rfl, rfl⟩ := trodVars_none hV
 obtain ⟨u0, rfl, rfl, rfl, wu0⟩ := open_int U3 (hval 0 3 v0 rfl rfl) h0
 obtain ⟨u1, rfl, rfl, rfl, wu1⟩ := open_int U3 (hval 1 3 v1 rfl rfl) h1
 obtain ⟨u2, rfl, rfl, rfl, wu2⟩ := open_int U3 (hval 2 3 v2 rfl rfl) h2
 clear hA0 hval0
 refine (greets_all W u0 u1 u2 (i64_wf wu1)).mono fun e W' ⟨he, bel⟩ => ?_
 subst he
 exact ⟨_, rfl, _, _, _, [], _, [], hW', trodAll_mk1 (shut_bool U4 _), (trodAll_cons_mk (shut_int U3 wu0) (trodAll_cons_mk (shut_int U3 wu1) (trodAll_cons_mk (shut_int U3 wu2) trodAll_mk0))), rfl, bel.frame _, fun h => by cases h⟩
theorem clientGreets_holds : Rows.ClientGreetsSaid :=
 OpenClaim.holds_of_wide 6 Tryz.f6 rfl rfl rfl rfl rfl rfl rfl ⟨rfl, rfl, rfl, rfl, rfl⟩ rfl rfl rfl rfl rfl (by kernel_rfl) Tryz.func6 (by kernel_rfl)
  (of_decide_eq_true (by kernel_rfl)) (by unfold Func.isWrapper; first | (rw [if_pos (by decide +kernel)]; kernel_rfl) | (rw [if_neg (by decide +kernel)]; exact ⟨rfl, rfl⟩))
  (fun os started H enc _ => clientGreets_lifted os started H enc)
#print axioms clientGreets_holds
end
end Go.Proofs.YtbnmpoonkjlkjaaGreat
