/- Client: part ZRj of the proof. -/
import Derived.Test.YtbnmpoonkjlkjaaGreatXL
import Derived.ChangeSame
import Derived.ChangeOld
namespace Go.Proofs.YtbnmpoonkjlkjaaGreat
open Go.RowKit
set_option linter.unusedVariables false
set_option linter.unusedSimpArgs false
section
open Go.ChangeShapes Go.WideShapes Go.ChangeAt Go.Maps
set_option maxRecDepth 100000 in
set_option maxHeartbeats 4000000 in
theorem joins_all (w : World) (u n i o : Int) (k : List B8) (hk : k.length = 16) (hnw : i64 n) : Calls Tryz.prog 9 #[.int .i64 (u), .int .i64 (n), .int .i64 (i), .agg (barr k), .int .i64 (o)] w fun e w' => e = .returned (.bool true) ∧ Below w.heap.size w w' := by
 obtain ⟨v, hv⟩ : ∃ v, clampU u = v := ⟨_, rfl⟩
 have hvr := clampU_in u
 rw [hv] at hvr
 have hall := Below.refl w.heap.size w
 refine K_enter 194 Tryz.func9 rfl rfl fun a H => ?_
 replace H := H.pick [0, 1, 2, 3, 4]
 refine zC (zD ?_)
 refine op_box 33 (.tmp 3) (barr k) (H.ev rfl) fun w0 b0 hge hb k0 => ?_; have g0 := Nat.le_trans hall.size hge; replace hall := hall.tr hb; clear hb; clear hge; refine kl H rfl fun a H => ?_
 refine kR 1 H rfl fun a H => ?_
 refine zA (zB (zC (zD ?_)))
 refine wl_call _ _ _ (small_any _) (r_call0 cf11) ?_; rintro e w9 ⟨rfl, hb⟩; refine ⟨_, rfl, ?_⟩; replace k0 := Block.ups k0 hb; replace hall := hall.tr hb; clear hb; refine kl H rfl fun a H => ?_
 refine kR 1 H rfl fun a H => ?_
 refine zA (zB (zC (zC (zD ?_))))
 refine kR 1 H rfl fun a H => ?_
 by_cases hcc0 : (n) < 0
 ·
  refine kV H (r_lt U3 (H.ev rfl) evc (dec_t (hcc0))) rfl fun a H => ?_
  refine kR 25 H rfl fun a H => ?_
  refine zA (zB (zH H rfl (zC (zD ?_))))
  refine kR 2 H rfl fun a H => ?_
  refine zA (zB (zF (zJ ?_)))
  exact k_ret1 H rfl rfl ⟨rfl, hall⟩
 ·
  refine kV H (r_lt U3 (H.ev rfl) evc (dec_f (hcc0))) rfl fun a H => ?_
  refine kR 2 H rfl fun a H => ?_
  by_cases hcc1 : (n) ≥ 1073741824
  ·
   refine kW H rfl (r_ge U3 (H.ev rfl) evc (dec_t (hcc1))) rfl fun a H => ?_
   refine kR 22 H rfl fun a H => ?_
   refine zA (zB (zH H rfl (zC (zD ?_))))
   refine kR 2 H rfl fun a H => ?_
   refine zA (zB (zF (zJ ?_)))
   exact k_ret1 H rfl rfl ⟨rfl, hall⟩
  ·
   refine kW H rfl (r_ge U3 (H.ev rfl) evc (dec_f (hcc1))) rfl fun a H => ?_
   refine kR 3 H rfl fun a H => ?_
   by_cases hcc2 : (i) < 1
   ·
    refine kW H rfl (r_lt U3 (H.ev rfl) evc (dec_t (hcc2))) rfl fun a H => ?_
    refine kR 18 H rfl fun a H => ?_
    refine zA (zB (zH H rfl (zC (zD ?_))))
    refine kR 2 H rfl fun a H => ?_
    refine zA (zB (zF (zJ ?_)))
    exact k_ret1 H rfl rfl ⟨rfl, hall⟩
   ·
    refine kW H rfl (r_lt U3 (H.ev rfl) evc (dec_f (hcc2))) rfl fun a H => ?_
    refine kR 3 H rfl fun a H => ?_
    by_cases hcc3 : (i) > 1073741824
    ·
     refine kW H rfl (r_gt U3 (H.ev rfl) evc (dec_t (hcc3))) rfl fun a H => ?_
     refine kR 14 H rfl fun a H => ?_
     refine zA (zB (zH H rfl (zC (zD ?_))))
     refine kR 2 H rfl fun a H => ?_
     refine zA (zB (zF (zJ ?_)))
     exact k_ret1 H rfl rfl ⟨rfl, hall⟩
    ·
     refine kW H rfl (r_gt U3 (H.ev rfl) evc (dec_f (hcc3))) rfl fun a H => ?_
     refine kR 3 H rfl fun a H => ?_
     by_cases hcc4 : (o) < 0
     ·
      refine kW H rfl (r_lt U3 (H.ev rfl) evc (dec_t (hcc4))) rfl fun a H => ?_
      refine kR 10 H rfl fun a H => ?_
      refine zA (zB (zH H rfl (zC (zD ?_))))
      refine kR 2 H rfl fun a H => ?_
      refine zA (zB (zF (zJ ?_)))
      exact k_ret1 H rfl rfl ⟨rfl, hall⟩
     ·
      refine kW H rfl (r_lt U3 (H.ev rfl) evc (dec_f (hcc4))) rfl fun a H => ?_
      refine kR 3 H rfl fun a H => ?_
      by_cases hcc5 : (o) > 1073741824
      ·
       refine kW H rfl (r_gt U3 (H.ev rfl) evc (dec_t (hcc5))) rfl fun a H => ?_
       refine kR 6 H rfl fun a H => ?_
       refine zA (zB (zH H rfl (zC (zD ?_))))
       refine kR 2 H rfl fun a H => ?_
       refine zA (zB (zF (zJ ?_)))
       exact k_ret1 H rfl rfl ⟨rfl, hall⟩
      ·
       refine kW H rfl (r_gt U3 (H.ev rfl) evc (dec_f (hcc5))) rfl fun a H => ?_
       refine kR 4 H rfl fun a H => ?_
       by_cases hcc6 : (o) = (n)
       ·
        refine kW H rfl (r_eq U3 (H.ev rfl) (H.ev rfl) (dec_t (hcc6))) rfl fun a H => ?_
        refine kR 1 H rfl fun a H => ?_
        refine zA (zB (zH H rfl (zC (zD ?_))))
        refine kR 2 H rfl fun a H => ?_
        refine zA (zB (zF (zJ ?_)))
        exact k_ret1 H rfl rfl ⟨rfl, hall⟩
       ·
        refine kW H rfl (r_eq U3 (H.ev rfl) (H.ev rfl) (dec_f (hcc6))) rfl fun a H => ?_
        refine kR 1 H rfl fun a H => ?_
        refine zA (zB (zG H rfl (zE (zB (zC (zD ?_))))))
        refine kR 1 H rfl fun a H => ?_
        refine wl_call _ _ _ (new_l _ (u) (J0 v) (by rw [hv]; rfl)) (r_call1 cf13 (H.ev rfl)) ?_; rintro e w9 ⟨⟨bcl, rfl, hge, hcl⟩, hb⟩; refine ⟨_, rfl, ?_⟩; have ghcl : _ ≤ bcl := Nat.le_trans hall.size hge; have dbcl_0 : b0 < bcl := Nat.lt_of_lt_of_le k0.lt hge; replace k0 := Block.ups k0 hb; replace hall := hall.tr hb; clear hb; clear hge; refine kl H rfl fun a H => ?_
        refine kR 1 H rfl fun a H => ?_
        refine zA (zB (zC (zC (zD ?_))))
        refine kR 1 H rfl fun a H => ?_
        refine kV H (r_eqpnil (H.ev rfl) rfl) rfl fun a H => ?_
        refine zA (zB (zG H rfl (zE (zB (zC (zD ?_))))))
        refine kR 2 H rfl fun a H => ?_
        refine wl_call _ _ _ (start_l _ _ _ (J0 v) (J1 v n) (n) true hcl (j_startB (by omega)) (j_start (by omega))) (r_call2 cf17 (H.ev rfl) (H.ev rfl)) ?_; rintro e w9 ⟨rfl, ⟨m9, hc9⟩, hon⟩; refine ⟨_, rfl, ?_⟩; replace k0 := Block.onlym k0 (by omega) hcl.mp hon; replace hall := ClAt.down hcl hall ghcl hall.size hon; clear hcl; have hcl := hc9; clear hc9 hon; refine kl H rfl fun a H => ?_
        refine zA (zB (zC (zD ?_)))
        refine kR 2 H rfl fun a H => ?_
        refine kV H (run_load_row b0 33 _ _ (H.ev rfl) k0 U33 rfl (by rw [barr_size, hk]; exact s33a)) rfl fun a H => ?_
        refine kV (v := .agg (pv (cookP o 0 k))) H (r_cook0 hk (H.ev rfl) (H.ev rfl)) rfl fun a H => ?_
        refine wl_v (.agg (acV (actP 5 Z16 (cookP o 0 k)) (.slice none 0 0))) (r_act5 (cook_pok hk (i64_id (x := o) (by omega)) (i64_id (x := 0) (by omega))) (H.ev rfl)) ?_; refine kl H rfl fun a H => ?_
        refine wl_call _ _ _ (input_l _ (actP 5 Z16 (cookP o 0 k)) _ (encF (cookP o 0 k)) (actP_ok (cook_pok hk (i64_id (x := o) (by omega)) (i64_id (x := 0) (by omega))) rfl) (brow_nil _) (inp5 (right_cookie (n := o) (e := 0) (by omega) (by omega)))) (r_call1 cf24 (H.ev rfl)) ?_; rintro e w9 ⟨⟨v9, rfl, hv⟩, hb⟩; refine ⟨_, rfl, ?_⟩; replace k0 := Block.ups k0 hb; replace hcl := ClAt.up hcl hb; replace hall := hall.tr hb; clear hb; refine kl H rfl fun a H => ?_
        refine wl_call _ _ _ (step_l _ _ _ (J1 v n) (J1 v n) [] 0 hcl rfl _ (encF (cookP o 0 k)) hv (Nat.le_trans (encF_len _ (cook_pok hk (i64_id (x := o) (by omega)) (i64_id (x := 0) (by omega)))) (by omega)) (j_cook_no hk (by omega) (by omega) (by omega)).2 (j_cook_no hk (by omega) (by omega) (by omega)).1) (r_call2 cf23 (H.ev rfl) (H.ev rfl)) ?_; rintro e w9 ⟨⟨A0, q0, rfl, B0, hB0, ho0⟩, ⟨m9, hc9⟩, hon⟩; refine ⟨_, rfl, ?_⟩; replace k0 := Block.onlym k0 (by omega) hcl.mp hon; clear hv; replace hall := ClAt.down hcl hall ghcl hall.size hon; clear hcl; have hcl := hc9; clear hc9 hon; clear ho0 hB0; refine kl H rfl fun a H => ?_
        refine kR 1 H rfl fun a H => ?_
        refine zA (zB (zC (zD ?_)))
        refine kR 2 H rfl fun a H => ?_
        refine kV H (run_load_row b0 33 _ _ (H.ev rfl) k0 U33 rfl (by rw [barr_size, hk]; exact s33a)) rfl fun a H => ?_
        refine kV (v := .agg (pv (cookP n 5 k))) H (r_cook hk (H.ev rfl) evc (H.ev rfl)) rfl fun a H => ?_
        refine wl_v (.agg (acV (actP 5 Z16 (cookP n 5 k)) (.slice none 0 0))) (r_act5 (cook_pok hk (i64_id (x := n) (by omega)) (i64_id (x := 5) (by omega))) (H.ev rfl)) ?_; refine kl H rfl fun a H => ?_
        refine wl_call _ _ _ (input_l _ (actP 5 Z16 (cookP n 5 k)) _ (encF (cookP n 5 k)) (actP_ok (cook_pok hk (i64_id (x := n) (by omega)) (i64_id (x := 5) (by omega))) rfl) (brow_nil _) (inp5 (right_cookie (n := n) (e := 5) (by omega) (by omega)))) (r_call1 cf24 (H.ev rfl)) ?_; rintro e w9 ⟨⟨v9, rfl, hv⟩, hb⟩; refine ⟨_, rfl, ?_⟩; replace k0 := Block.ups k0 hb; replace hcl := ClAt.up hcl hb; replace hall := hall.tr hb; clear hb; refine kl H rfl fun a H => ?_
        refine wl_call _ _ _ (step_l _ _ _ (J1 v n) (J2 v n 5 k) [encF (connP v n 5 k)] 1 hcl rfl _ (encF (cookP n 5 k)) hv (Nat.le_trans (encF_len _ (cook_pok hk (i64_id (x := n) (by omega)) (i64_id (x := 5) (by omega)))) (by omega)) (j_cook hk (by omega) (by omega) hvr).2 (j_cook hk (by omega) (by omega) hvr).1) (r_call2 cf23 (H.ev rfl) (H.ev rfl)) ?_; rintro e w9 ⟨⟨A1, q1, rfl, B1, hB1, ho1⟩, ⟨m9, hc9⟩, hon⟩; refine ⟨_, rfl, ?_⟩; replace k0 := Block.onlym k0 (by omega) hcl.mp hon; clear hv; replace hall := ClAt.down hcl hall ghcl hall.size hon; clear hcl; have hcl := hc9; clear hc9 hon; obtain ⟨o1, ho9⟩ := Outs.head ho1 (by omega); subst ho9; refine kl H rfl fun a H => ?_
        refine kR 1 H rfl fun a H => ?_
        refine zA (zB (zC (zC (zD ?_))))
        refine kR 1 H rfl fun a H => ?_
        refine kV H (r_len U29 (H.ev rfl)) rfl fun a H => ?_
        refine kV H (r_ne U3 (H.ev rfl) evc (dec_f (by omega))) rfl fun a H => ?_
        refine kR 2 H rfl fun a H => ?_
        refine kW H rfl (r_len U29 (H.ev rfl)) rfl fun a H => ?_
        refine kW H rfl (r_ne U3 (H.ev rfl) evc (dec_f (by omega))) rfl fun a H => ?_
        refine kR 3 H rfl fun a H => ?_
        refine kG H rfl ?_; refine wl_call _ _ _ (state_l _ _ _ (J2 v n 5 k) 2 hcl rfl) (r_call1 cf27 (H.ev rfl)) ?_; rintro e w9 ⟨rfl, hb⟩; refine ⟨_, rfl, ?_⟩; replace k0 := Block.ups k0 hb; replace hcl := ClAt.up hcl hb; replace ho1 := Outs.up ho1 hb; replace hall := hall.tr hb; clear hb; refine kl H rfl fun a H => ?_
        refine kW H rfl (r_ne U3 (H.ev rfl) evc (dec_f (by omega))) rfl fun a H => ?_
        refine kR 1 H rfl fun a H => ?_
        refine zA (zB (zG H rfl (zE (zB (zC ?_)))))
        obtain ⟨x1_0, hx1_0, hr1_0⟩ := Outs.at ho1 (i := 0) rfl
        refine zD ?_
        refine kR 1 H rfl fun a H => ?_
        refine kV H (r_idx (j := 0) (q := 0) U29 s30 (H.ev rfl) evc (by omega) rfl) rfl fun a H => ?_
        refine kV H (r_ld U30 rfl (H.ev rfl) hx1_0) rfl fun a H => ?_
        refine wl_call _ _ _ (rdec_l _ _ (encF (connP v n 5 k)) (connP v n 5 k) 0 hr1_0 (Nat.le_trans (encF_len _ (show (connP v n 5 k).ok from lit_ok hk rfl (by unfold i64; omega))) (by omega)) (dec_enc (show (connP v n 5 k).ok from lit_ok hk rfl (by unfold i64; omega)) (right_conn (u := v) (n := n) (e := 5) (k := k) (by omega) (by omega) (by omega)))) (r_call1 cf41 (H.ev rfl)) ?_; rintro e w9 ⟨rfl, hb⟩; refine ⟨_, rfl, ?_⟩; replace k0 := Block.ups k0 hb; replace hcl := ClAt.up hcl hb; replace ho1 := Outs.up ho1 hb; replace hall := hall.tr hb; clear hb; refine kl H rfl fun a H => ?_
        refine kR 3 H rfl fun a H => ?_
        refine op_new 36 15 (.tmp 92) (pv (connP v n 5 k)) _ z36 (s36p (show (connP v n 5 k).ok from lit_ok hk rfl (by unfold i64; omega))) (by rw [pv_size pk0_ok, pv_size (show (connP v n 5 k).ok from lit_ok hk rfl (by unfold i64; omega))]) (pv_one _) (fun p => (H.put 15 p rfl).ev rfl) (fun p => (H.put 15 p rfl).ev rfl) fun w15 b15 hge hb k15 => ?_; have g15 := Nat.le_trans hall.size hge; have d0_15 : b0 < b15 := Nat.lt_of_lt_of_le k0.lt hge; have dhcl_15 : bcl < b15 := Nat.lt_of_lt_of_le hcl.lt hge; replace k0 := Block.ups k0 hb; replace hcl := ClAt.up hcl hb; replace ho1 := Outs.up ho1 hb; replace hall := hall.tr hb; clear hb; clear hge; refine kl H rfl fun a H => ?_
        refine kR 1 H rfl fun a H => ?_
        refine zA (zB (zC (zD ?_)))
        refine kR 3 H rfl fun a H => ?_
        refine kV H (run_load_row b0 33 _ _ (H.ev rfl) k0 U33 rfl (by rw [barr_size, hk]; exact s33a)) rfl fun a H => ?_
        refine kV (v := .agg (pv (accP i o k))) H (r_acc hk (H.ev rfl) (H.ev rfl) (H.ev rfl)) rfl fun a H => ?_
        refine wl_v (.agg (acV (actP 5 Z16 (accP i o k)) (.slice none 0 0))) (r_act5 (acc_pok hk (i64_id (x := i) (by omega)) (i64_id (x := o) (by omega))) (H.ev rfl)) ?_; refine kl H rfl fun a H => ?_
        refine wl_call _ _ _ (input_l _ (actP 5 Z16 (accP i o k)) _ (encF (accP i o k)) (actP_ok (acc_pok hk (i64_id (x := i) (by omega)) (i64_id (x := o) (by omega))) rfl) (brow_nil _) (inp5 (right_acc (i := i) (n := o) (by omega) (by omega)))) (r_call1 cf24 (H.ev rfl)) ?_; rintro e w9 ⟨⟨v9, rfl, hv⟩, hb⟩; refine ⟨_, rfl, ?_⟩; replace k0 := Block.ups k0 hb; replace hcl := ClAt.up hcl hb; replace ho1 := Outs.up ho1 hb; replace k15 := Block.ups k15 hb; replace hall := hall.tr hb; clear hb; refine kl H rfl fun a H => ?_
        refine wl_call _ _ _ (step_l _ _ _ (J2 v n 5 k) (J2 v n 5 k) [] 0 hcl rfl _ (encF (accP i o k)) hv (Nat.le_trans (encF_len _ (acc_pok hk (i64_id (x := i) (by omega)) (i64_id (x := o) (by omega)))) (by omega)) (j_acc_no hk (by omega) (by omega) (by omega)).2 (j_acc_no hk (by omega) (by omega) (by omega)).1) (r_call2 cf23 (H.ev rfl) (H.ev rfl)) ?_; rintro e w9 ⟨⟨A2, q2, rfl, B2, hB2, ho2⟩, ⟨m9, hc9⟩, hon⟩; refine ⟨_, rfl, ?_⟩; replace k0 := Block.onlym k0 (by omega) hcl.mp hon; replace ho1 := Outs.onlym ho1 hB1 hcl.mp hon; replace k15 := Block.onlym k15 (by omega) hcl.mp hon; clear hv; replace hall := ClAt.down hcl hall ghcl hall.size hon; clear hcl; have hcl := hc9; clear hc9 hon; clear ho2 hB2; refine kl H rfl fun a H => ?_
        refine zA (zB (zC (zD ?_)))
        refine kR 1 H rfl fun a H => ?_
        refine wl_call _ _ _ (state_l _ _ _ (J2 v n 5 k) 2 hcl rfl) (r_call1 cf27 (H.ev rfl)) ?_; rintro e w9 ⟨rfl, hb⟩; refine ⟨_, rfl, ?_⟩; replace k0 := Block.ups k0 hb; replace hcl := ClAt.up hcl hb; replace ho1 := Outs.up ho1 hb; replace k15 := Block.ups k15 hb; replace hall := hall.tr hb; clear hb; refine kl H rfl fun a H => ?_
        refine kV H (r_eq U3 (H.ev rfl) evc (dec_t (by omega))) rfl fun a H => ?_
        refine kR 1 H rfl fun a H => ?_
        refine zA (zB (zC (zD ?_)))
        refine kR 3 H rfl fun a H => ?_
        refine kV H (run_load_row b0 33 _ _ (H.ev rfl) k0 U33 rfl (by rw [barr_size, hk]; exact s33a)) rfl fun a H => ?_
        refine kV (v := .agg (pv (accP i n k))) H (r_acc hk (H.ev rfl) (H.ev rfl) (H.ev rfl)) rfl fun a H => ?_
        refine wl_v (.agg (acV (actP 5 Z16 (accP i n k)) (.slice none 0 0))) (r_act5 (acc_pok hk (i64_id (x := i) (by omega)) (i64_id (x := n) (by omega))) (H.ev rfl)) ?_; refine kl H rfl fun a H => ?_
        refine wl_call _ _ _ (input_l _ (actP 5 Z16 (accP i n k)) _ (encF (accP i n k)) (actP_ok (acc_pok hk (i64_id (x := i) (by omega)) (i64_id (x := n) (by omega))) rfl) (brow_nil _) (inp5 (right_acc (i := i) (n := n) (by omega) (by omega)))) (r_call1 cf24 (H.ev rfl)) ?_; rintro e w9 ⟨⟨v9, rfl, hv⟩, hb⟩; refine ⟨_, rfl, ?_⟩; replace k0 := Block.ups k0 hb; replace hcl := ClAt.up hcl hb; replace ho1 := Outs.up ho1 hb; replace k15 := Block.ups k15 hb; replace hall := hall.tr hb; clear hb; refine kl H rfl fun a H => ?_
        refine wl_call _ _ _ (step_l _ _ _ (J2 v n 5 k) (J3 v n 5 k i) [] 0 hcl rfl _ (encF (accP i n k)) hv (Nat.le_trans (encF_len _ (acc_pok hk (i64_id (x := i) (by omega)) (i64_id (x := n) (by omega)))) (by omega)) (j_acc hk (by omega) (by omega)).2 (j_acc hk (by omega) (by omega)).1) (r_call2 cf23 (H.ev rfl) (H.ev rfl)) ?_; rintro e w9 ⟨⟨A3, q3, rfl, B3, hB3, ho3⟩, ⟨m9, hc9⟩, hon⟩; refine ⟨_, rfl, ?_⟩; replace k0 := Block.onlym k0 (by omega) hcl.mp hon; replace ho1 := Outs.onlym ho1 hB1 hcl.mp hon; replace k15 := Block.onlym k15 (by omega) hcl.mp hon; clear hv; replace hall := ClAt.down hcl hall ghcl hall.size hon; clear hcl; have hcl := hc9; clear hc9 hon; clear ho3 hB3; refine kl H rfl fun a H => ?_
        refine zA (zB (zC (zD ?_)))
        refine kR 1 H rfl fun a H => ?_
        refine wl_call _ _ _ (state_l _ _ _ (J3 v n 5 k i) 3 hcl rfl) (r_call1 cf27 (H.ev rfl)) ?_; rintro e w9 ⟨rfl, hb⟩; refine ⟨_, rfl, ?_⟩; replace k0 := Block.ups k0 hb; replace hcl := ClAt.up hcl hb; replace ho1 := Outs.up ho1 hb; replace k15 := Block.ups k15 hb; replace hall := hall.tr hb; clear hb; refine kl H rfl fun a H => ?_
        refine kV H (r_eq U3 (H.ev rfl) evc (dec_t (by omega))) rfl fun a H => ?_
        refine kR 2 H rfl fun a H => ?_
        refine kG H rfl ?_; refine wl_call _ _ _ (sess_l _ _ _ (J3 v n 5 k i) (i) hcl rfl) (r_call1 cf29 (H.ev rfl)) ?_; rintro e w9 ⟨rfl, hb⟩; refine ⟨_, rfl, ?_⟩; replace k0 := Block.ups k0 hb; replace hcl := ClAt.up hcl hb; replace ho1 := Outs.up ho1 hb; replace k15 := Block.ups k15 hb; replace hall := hall.tr hb; clear hb; refine kl H rfl fun a H => ?_
        refine kR 1 H rfl fun a H => ?_
        refine kW H rfl (r_eq U3 (H.ev rfl) (H.ev rfl) (dec_t (by omega))) rfl fun a H => ?_
        refine kR 2 H rfl fun a H => ?_
        refine zA (zB (zC (zD ?_)))
        refine kR 1 H rfl fun a H => ?_
        refine kV H (run_load_row b0 33 _ _ (H.ev rfl) k0 U33 rfl (by rw [barr_size, hk]; exact s33a)) rfl fun a H => ?_
        refine kR 1 H rfl fun a H => ?_
        refine kV (v := .agg (pv (jN i))) H (r_build #[(0, .int .i64 8), (1, .int .i64 i), (2, .int .i64 1), (3, .int .i64 5), (7, .int .i64 8), (5, .int .i64 1), (6, .int .i64 1)] (.agg (pv (jN i))) (by simp [evc, H.ev (j := 124) rfl]) (fun w => by kernel_rfl)) rfl fun a H => ?_
        refine wl_v (.agg (acV (actP 6 k (jN i)) (.slice none 0 0))) (r_act6 (jN_ok (by omega)) hk (H.ev rfl) (H.ev rfl)) ?_; refine kl H rfl fun a H => ?_
        refine wl_call _ _ _ (input_l _ (actP 6 k (jN i)) _ (encF (signF k (jN i))) (actP_ok (jN_ok (by omega)) hk) (brow_nil _) (inp6 (jN_so (by omega)))) (r_call1 cf24 (H.ev rfl)) ?_; rintro e w9 ⟨⟨v9, rfl, hv⟩, hb⟩; refine ⟨_, rfl, ?_⟩; replace k0 := Block.ups k0 hb; replace hcl := ClAt.up hcl hb; replace ho1 := Outs.up ho1 hb; replace k15 := Block.ups k15 hb; replace hall := hall.tr hb; clear hb; refine kl H rfl fun a H => ?_
        refine wl_call _ _ _ (step_l _ _ _ (J3 v n 5 k i) (J4 v n 5 k i) [encF (signF k (jA i))] 1 hcl rfl _ (encF (signF k (jN i))) hv (Nat.le_trans (encF_len _ (signF_ok (jN_ok (by omega)))) (by omega)) (j_note (by omega)).2 (j_note (by omega)).1) (r_call2 cf23 (H.ev rfl) (H.ev rfl)) ?_; rintro e w9 ⟨⟨A4, q4, rfl, B4, hB4, ho4⟩, ⟨m9, hc9⟩, hon⟩; refine ⟨_, rfl, ?_⟩; replace k0 := Block.onlym k0 (by omega) hcl.mp hon; replace ho1 := Outs.onlym ho1 hB1 hcl.mp hon; replace k15 := Block.onlym k15 (by omega) hcl.mp hon; clear hv; replace hall := ClAt.down hcl hall ghcl hall.size hon; clear hcl; have hcl := hc9; clear hc9 hon; clear ho4 hB4; refine kl H rfl fun a H => ?_
        refine zA (zB (zC (zD ?_)))
        refine kR 2 H rfl fun a H => ?_
        refine kV (v := .agg (pv (errP i 6))) H (r_build #[(0, .int .i64 12), (10, .int .i64 i), (4, .int .i64 6)] (.agg (pv (errP i 6))) (by simp [evc, H.ev (j := 130) rfl]) (fun w => by kernel_rfl)) rfl fun a H => ?_
        refine wl_v (.agg (acV (actP 5 Z16 (errP i 6)) (.slice none 0 0))) (r_act5 (err_pok (i64_id (x := i) (by omega)) (i64_id (x := 6) (by omega))) (H.ev rfl)) ?_; refine kl H rfl fun a H => ?_
        refine wl_call _ _ _ (input_l _ (actP 5 Z16 (errP i 6)) _ (encF (errP i 6)) (actP_ok (err_pok (i64_id (x := i) (by omega)) (i64_id (x := 6) (by omega))) rfl) (brow_nil _) (inp5 (right_err (n := i) (c := 6) (by omega) (by omega)))) (r_call1 cf24 (H.ev rfl)) ?_; rintro e w9 ⟨⟨v9, rfl, hv⟩, hb⟩; refine ⟨_, rfl, ?_⟩; replace k0 := Block.ups k0 hb; replace hcl := ClAt.up hcl hb; replace ho1 := Outs.up ho1 hb; replace k15 := Block.ups k15 hb; replace hall := hall.tr hb; clear hb; refine kl H rfl fun a H => ?_
        refine wl_call _ _ _ (step_l _ _ _ (J4 v n 5 k i) (J5 v n 5 k i) [] 0 hcl rfl _ (encF (errP i 6)) hv (Nat.le_trans (encF_len _ (err_pok (i64_id (x := i) (by omega)) (i64_id (x := 6) (by omega)))) (by omega)) (j_err (by omega) (by omega)).2 (j_err (by omega) (by omega)).1) (r_call2 cf23 (H.ev rfl) (H.ev rfl)) ?_; rintro e w9 ⟨⟨A5, q5, rfl, B5, hB5, ho5⟩, ⟨m9, hc9⟩, hon⟩; refine ⟨_, rfl, ?_⟩; replace k0 := Block.onlym k0 (by omega) hcl.mp hon; replace ho1 := Outs.onlym ho1 hB1 hcl.mp hon; replace k15 := Block.onlym k15 (by omega) hcl.mp hon; clear hv; replace hall := ClAt.down hcl hall ghcl hall.size hon; clear hcl; have hcl := hc9; clear hc9 hon; clear ho5 hB5; refine kl H rfl fun a H => ?_
        refine zA (zB (zC (zD ?_)))
        refine kR 1 H rfl fun a H => ?_
        refine wl_call _ _ _ (view_l _ _ _ (J5 v n 5 k i) 5 (5, 8, 1, 1) true hcl (by omega) rfl rfl) (r_call2 cf35 (H.ev rfl) evc) ?_; rintro e w9 ⟨rfl, hb⟩; refine ⟨_, rfl, ?_⟩; replace k0 := Block.ups k0 hb; replace hcl := ClAt.up hcl hb; replace ho1 := Outs.up ho1 hb; replace k15 := Block.ups k15 hb; replace hall := hall.tr hb; clear hb; refine kl H rfl fun a H => ?_
        refine kR 3 H rfl fun a H => ?_
        refine op_new 49 19 (.tmp 138) (#[.int .i64 5, .int .i64 8, .int .i64 1, .int .i64 1]) _ z49 s49 rfl (by simp [Value.oneCell']) (fun p => (H.put 19 p rfl).ev rfl) (fun p => (H.put 19 p rfl).ev rfl) fun w19 b19 hge hb k19 => ?_; have g19 := Nat.le_trans hall.size hge; have d0_19 : b0 < b19 := Nat.lt_of_lt_of_le k0.lt hge; have d15_19 : b15 < b19 := Nat.lt_of_lt_of_le k15.lt hge; have dhcl_19 : bcl < b19 := Nat.lt_of_lt_of_le hcl.lt hge; replace k0 := Block.ups k0 hb; replace hcl := ClAt.up hcl hb; replace ho1 := Outs.up ho1 hb; replace k15 := Block.ups k15 hb; replace hall := hall.tr hb; clear hb; clear hge; refine kl H rfl fun a H => ?_
        refine kR 1 H rfl fun a H => ?_
        refine zA (zB (zC (zD ?_)))
        refine kR 1 H rfl fun a H => ?_
        refine wl_call _ _ _ (tick_l _ _ _ (J5 v n 5 k i) (J6 v n 5 k i) [encF (helloP (n + 1))] 1 hcl rfl (j_tick (by omega)).2 (j_tick (by omega)).1) (r_call1 cf15 (H.ev rfl)) ?_; rintro e w9 ⟨⟨A6, q6, rfl, B6, hB6, ho6⟩, hc9, hon⟩; refine ⟨_, rfl, ?_⟩; replace k0 := Block.onlym k0 (by omega) hcl.mp hon; replace ho1 := Outs.onlym ho1 hB1 hcl.mp hon; replace k15 := Block.onlym k15 (by omega) hcl.mp hon; replace k19 := Block.onlym k19 (by omega) hcl.mp hon; replace hall := ClAt.down hcl hall ghcl hall.size hon; clear hcl; have hcl := hc9; clear hc9 hon; obtain ⟨o6, ho9⟩ := Outs.head ho6 (by omega); subst ho9; refine kl H rfl fun a H => ?_
        refine kR 1 H rfl fun a H => ?_
        refine zA (zB (zC (zC (zD ?_))))
        refine kR 1 H rfl fun a H => ?_
        refine kV H (r_len U29 (H.ev rfl)) rfl fun a H => ?_
        refine kV H (r_ne U3 (H.ev rfl) evc (dec_f (by omega))) rfl fun a H => ?_
        refine zA (zB (zG H rfl (zE (zB (zC ?_)))))
        obtain ⟨x6_0, hx6_0, hr6_0⟩ := Outs.at ho6 (i := 0) rfl
        refine zD ?_
        refine kR 1 H rfl fun a H => ?_
        refine kV H (r_idx (j := 0) (q := 0) U29 s30 (H.ev rfl) evc (by omega) rfl) rfl fun a H => ?_
        refine kV H (r_ld U30 rfl (H.ev rfl) hx6_0) rfl fun a H => ?_
        refine wl_call _ _ _ (rdec_l _ _ (encF (helloP (n + 1))) (helloP (n + 1)) 0 hr6_0 (Nat.le_trans (encF_len _ (show (helloP (n + 1)).ok from lit_ok rfl rfl (by unfold i64; omega))) (by omega)) (dec_enc (show (helloP (n + 1)).ok from lit_ok rfl rfl (by unfold i64; omega)) (right_hello (n := n + 1) (by omega)))) (r_call1 cf41 (H.ev rfl)) ?_; rintro e w9 ⟨rfl, hb⟩; refine ⟨_, rfl, ?_⟩; replace k0 := Block.ups k0 hb; replace hcl := ClAt.up hcl hb; replace ho1 := Outs.up ho1 hb; replace k15 := Block.ups k15 hb; replace k19 := Block.ups k19 hb; replace ho6 := Outs.up ho6 hb; replace hall := hall.tr hb; clear hb; refine kl H rfl fun a H => ?_
        refine kR 3 H rfl fun a H => ?_
        refine op_new 36 22 (.tmp 150) (pv (helloP (n + 1))) _ z36 (s36p (show (helloP (n + 1)).ok from lit_ok rfl rfl (by unfold i64; omega))) (by rw [pv_size pk0_ok, pv_size (show (helloP (n + 1)).ok from lit_ok rfl rfl (by unfold i64; omega))]) (pv_one _) (fun p => (H.put 22 p rfl).ev rfl) (fun p => (H.put 22 p rfl).ev rfl) fun w22 b22 hge hb k22 => ?_; have g22 := Nat.le_trans hall.size hge; have d0_22 : b0 < b22 := Nat.lt_of_lt_of_le k0.lt hge; have d15_22 : b15 < b22 := Nat.lt_of_lt_of_le k15.lt hge; have d19_22 : b19 < b22 := Nat.lt_of_lt_of_le k19.lt hge; have dhcl_22 : bcl < b22 := Nat.lt_of_lt_of_le hcl.lt hge; replace k0 := Block.ups k0 hb; replace hcl := ClAt.up hcl hb; replace ho1 := Outs.up ho1 hb; replace k15 := Block.ups k15 hb; replace k19 := Block.ups k19 hb; replace ho6 := Outs.up ho6 hb; replace hall := hall.tr hb; clear hb; clear hge; refine kl H rfl fun a H => ?_
        refine kR 1 H rfl fun a H => ?_
        refine zA (zB (zC (zD ?_)))
        refine kR 2 H rfl fun a H => ?_
        refine kG H rfl ?_; refine kV (v := .agg (pv (connP v n 5 k))) H (run_load_row b15 36 _ _ (H.ev rfl) k15 U36 rfl (s36p (show (connP v n 5 k).ok from lit_ok hk rfl (by unfold i64; omega)))) rfl fun a H => ?_
        refine kR 1 H rfl fun a H => ?_
        refine kW H rfl (r_min (q := (if 16 < (u) then 16 else (u))) (H.ev rfl) evc rfl) rfl fun a H => ?_
        refine kG H rfl ?_; refine kV (v := .int .i64 (v)) H (r_max (q := v) evc (H.ev rfl) (clamp_eq.trans hv)) rfl fun a H => ?_
        refine kR 1 H rfl fun a H => ?_
        refine kW H rfl (run_load_row b0 33 _ _ (H.ev rfl) k0 U33 rfl (by rw [barr_size, hk]; exact s33a)) rfl fun a H => ?_
        refine kG H rfl ?_; refine kV (v := .agg (pv (connP v n 5 k))) H (r_conn hk (H.ev rfl) (H.ev rfl) evc (H.ev rfl)) rfl fun a H => ?_
        refine kW H rfl (r_eqpk_b (p := connP v n 5 k) (q := connP v n 5 k) (show (connP v n 5 k).ok from lit_ok hk rfl (by unfold i64; omega)) (show (connP v n 5 k).ok from lit_ok hk rfl (by unfold i64; omega)) (H.ev rfl) (H.ev rfl) (decide_eq_true rfl)) rfl fun a H => ?_
        refine kR 12 H rfl fun a H => ?_
        refine kW H rfl (r_ld U3 rfl (H.ev rfl) ((Block.cell k19 1).trans rfl)) rfl fun a H => ?_
        refine kW H rfl (r_eq U3 (H.ev rfl) evc (dec_t (by omega))) rfl fun a H => ?_
        refine kR 3 H rfl fun a H => ?_
        refine kG H rfl ?_; refine wl_call _ _ _ (state_l _ _ _ (J6 v n 5 k i) 1 hcl rfl) (r_call1 cf27 (H.ev rfl)) ?_; rintro e w9 ⟨rfl, hb⟩; refine ⟨_, rfl, ?_⟩; replace k0 := Block.ups k0 hb; replace hcl := ClAt.up hcl hb; replace ho1 := Outs.up ho1 hb; replace k15 := Block.ups k15 hb; replace k19 := Block.ups k19 hb; replace ho6 := Outs.up ho6 hb; replace k22 := Block.ups k22 hb; replace hall := hall.tr hb; clear hb; refine kl H rfl fun a H => ?_
        refine kW H rfl (r_eq U3 (H.ev rfl) evc (dec_t (by omega))) rfl fun a H => ?_
        refine kR 3 H rfl fun a H => ?_
        refine kG H rfl ?_; refine wl_call _ _ _ (last_l _ _ _ (J6 v n 5 k i) 6 hcl rfl) (r_call1 cf33 (H.ev rfl)) ?_; rintro e w9 ⟨rfl, hb⟩; refine ⟨_, rfl, ?_⟩; replace k0 := Block.ups k0 hb; replace hcl := ClAt.up hcl hb; replace ho1 := Outs.up ho1 hb; replace k15 := Block.ups k15 hb; replace k19 := Block.ups k19 hb; replace ho6 := Outs.up ho6 hb; replace k22 := Block.ups k22 hb; replace hall := hall.tr hb; clear hb; refine kl H rfl fun a H => ?_
        refine kW H rfl (r_eq U46 (H.ev rfl) evc (dec_t (by omega))) rfl fun a H => ?_
        refine kR 2 H rfl fun a H => ?_
        refine kG H rfl ?_; refine kV (v := .agg (pv (helloP (n + 1)))) H (run_load_row b22 36 _ _ (H.ev rfl) k22 U36 rfl (s36p (show (helloP (n + 1)).ok from lit_ok rfl rfl (by unfold i64; omega)))) rfl fun a H => ?_
        refine kR 1 H rfl fun a H => ?_
        refine kW H rfl (r_add (q := (n) + 1) U3 (H.ev rfl) evc (by omega) (by omega)) rfl fun a H => ?_
        refine kG H rfl ?_; refine kV (v := .agg (pv (helloP (n + 1)))) H (r_build #[(0, .int .i64 1), (10, .int .i64 (n + 1))] (.agg (pv (helloP (n + 1)))) (by simp [evc, H.ev (j := 190) rfl]) (fun w => by kernel_rfl)) rfl fun a H => ?_
        refine kW H rfl (r_eqpk_b (p := helloP (n + 1)) (q := helloP (n + 1)) (show (helloP (n + 1)).ok from lit_ok rfl rfl (by unfold i64; omega)) (show (helloP (n + 1)).ok from lit_ok rfl rfl (by unfold i64; omega)) (H.ev rfl) (H.ev rfl) (decide_eq_true rfl)) rfl fun a H => ?_
        refine kR 2 H rfl fun a H => ?_
        refine zA (zB (zF ?_))
        exact k_ret1 H rfl rfl ⟨rfl, hall⟩
set_option maxRecDepth 100000 in
theorem clientJoins_lifted (os : Os) (started : os.Started) (H : Type) (enc : TypeId × Value → H) :
  ReturnsInHanded {} Tryz.checked os 9 .any (Rows.clientJoinsSpec.pre6 enc Tryz.prog Tryz.f9 Rows.clientJoinsRow.domain false) (Rows.clientJoinsSpec.post enc Tryz.prog Tryz.f9 false true false false) := by
 refine returnsInHanded_of_change (C := Tryz.checked) own started (by kernel_rfl) Tryz.func9
  (ChangeSpec.witness6 (enc := enc) (C := Tryz.checked) false ⟨#[], #[.int .i64 0, .int .i64 0, .int .i64 0, .agg (barr (List.replicate 16 0)), .int .i64 0], []⟩ 8 (by kernel_rfl) (by kernel_rfl) (by kernel_rfl) (by kernel_rfl)) ?_
 intro W base args ds gs before hval0 hW hcnd _
 have hval : ∀ (j : Nat) t v, Tryz.f9.params[j]? = some t → args[j]? = some v → Value.okWide Tryz.prog W .any base t v := hval0
 have hW' := hW
 obtain ⟨p, q, hA0, hV, rfl, hfz, hnd⟩ := hW
 have hA : DataW.TrodAll enc Tryz.prog W 0 (fun _ => true) true Tryz.f9.params.toList args.toList ds p := hA0
 rw [Tryz.params9] at hA hval
 obtain ⟨v0, vs0, d0, ds0, p0, q0, hargs, rfl, rfl, h0, r0⟩ := trodAll_cons hA
 obtain ⟨v1, vs1, d1, ds1, p1, q1, rfl, rfl, rfl, h1, r1⟩ := trodAll_cons r0
 obtain ⟨v2, vs2, d2, ds2, p2, q2, rfl, rfl, rfl, h2, r2⟩ := trodAll_cons r1
 obtain ⟨v3, vs3, d3, ds3, p3, q3, rfl, rfl, rfl, h3, r3⟩ := trodAll_cons r2
 obtain ⟨v4, vs4, d4, ds4, p4, q4, rfl, rfl, rfl, h4, r4⟩ := trodAll_cons r3
 obtain ⟨rfl, rfl, rfl⟩ := trodAll_nil r4
 obtain rfl : args = #[v0, v1, v2, v3, v4] := by cases args; simp_all
 obtain ⟨rfl, rfl⟩ := trodVars_none hV
 have k3 := h3
 have lt3 : ∀ x ∈ p3, x.block < W.heap.size := by obtain ⟨m, hm⟩ := k3; exact DataW.trod_lt m _ _ _ hm
 obtain ⟨u0, rfl, rfl, rfl, wu0⟩ := open_int U3 (hval 0 3 v0 rfl rfl) h0
 obtain ⟨u1, rfl, rfl, rfl, wu1⟩ := open_int U3 (hval 1 3 v1 rfl rfl) h1
 obtain ⟨u2, rfl, rfl, rfl, wu2⟩ := open_int U3 (hval 2 3 v2 rfl rfl) h2
 obtain ⟨K3, rfl, hk3⟩ := open_key (hval 3 33 v3 rfl rfl) h3
 obtain ⟨u4, rfl, rfl, rfl, wu4⟩ := open_int U3 (hval 4 3 v4 rfl rfl) h4
 clear hA0 hval0
 refine (joins_all W u0 u1 u2 u4 K3 hk3 (i64_wf wu1)).mono fun e W' ⟨he, bel⟩ => ?_
 subst he
 exact ⟨_, rfl, _, _, _, [], _, [], hW', trodAll_mk1 (shut_bool U4 _), (trodAll_cons_mk (shut_int U3 wu0) (trodAll_cons_mk (shut_int U3 wu1) (trodAll_cons_mk (shut_int U3 wu2) (trodAll_cons_mk (Below.trod laidOut (by kernel_rfl) (of_decide_eq_true (by kernel_rfl)) k3 bel lt3) (trodAll_cons_mk (shut_int U3 wu4) trodAll_mk0))))), rfl, bel.frame _, fun h => by cases h⟩
theorem clientJoins_holds : Rows.ClientJoinsSaid :=
 OpenClaim.holds_of_wide 9 Tryz.f9 rfl rfl rfl rfl rfl rfl rfl ⟨rfl, rfl, rfl, rfl, rfl⟩ rfl rfl rfl rfl rfl (by kernel_rfl) Tryz.func9 (by kernel_rfl)
  (of_decide_eq_true (by kernel_rfl)) (by unfold Func.isWrapper; first | (rw [if_pos (by decide +kernel)]; kernel_rfl) | (rw [if_neg (by decide +kernel)]; exact ⟨rfl, rfl⟩))
  (fun os started H enc _ => clientJoins_lifted os started H enc)
#print axioms clientJoins_holds
end
end Go.Proofs.YtbnmpoonkjlkjaaGreat
