/- Client: part ZRb of the proof. -/
import Derived.Test.YtbnmpoonkjlkjaaGreatXL
import Derived.ChangeSame
import Derived.ChangeOld
namespace Go.Proofs.YtbnmpoonkjlkjaaGreat
open Go.RowKit
set_option linter.unusedVariables false
set_option linter.unusedSimpArgs false
section
open Go.ChangeShapes Go.WideShapes Go.ChangeAt Go.Maps
def Rbe (W : World) (N bcl b0 : Nat) (v n i : Int) (k : List B8) (a : Act) (w : World) : Prop :=
 ∃ (t : Nat) (m : Option Nat), Kn a 110 [(2, .int .i64 (i)), (4, .int .i64 (N : Nat)), (8, .pointer (some ⟨b0, 0, none⟩)), (11, .bool true), (12, .pointer (some ⟨bcl, 0, none⟩)), (13, .int .i64 (t : Nat))] ∧ t ≤ N ∧ ClAt w bcl m (B3 v n 0 k i t) ∧ Block w b0 33 (barr k) ∧ Below W.heap.size W w
set_option maxRecDepth 100000 in
set_option maxHeartbeats 4000000 in
theorem beats_all (w : World) (u n i q : Int) (k : List B8) (hk : k.length = 16) : Calls Tryz.prog 7 #[.int .i64 (u), .int .i64 (n), .int .i64 (i), .agg (barr k), .int .i64 (q)] w fun e w' => e = .returned (.bool true) ∧ Below w.heap.size w w' := by
 obtain ⟨v, hv⟩ : ∃ v, clampU u = v := ⟨_, rfl⟩
 have hvr := clampU_in u
 rw [hv] at hvr
 have hall := Below.refl w.heap.size w
 refine K_enter 110 Tryz.func7 rfl rfl fun a H => ?_
 replace H := H.pick [0, 1, 2, 3, 4]
 refine zC (zD ?_)
 refine op_box 33 (.tmp 3) (barr k) (H.ev rfl) fun w0 b0 hge hb k0 => ?_; have g0 := Nat.le_trans hall.size hge; replace hall := hall.tr hb; clear hb; clear hge; refine kl H rfl fun a H => ?_
 refine kR 1 H rfl fun a H => ?_
 refine zA (zB (zC (zD ?_)))
 refine wl_call _ _ _ (small_any _) (r_call0 cf11) ?_; rintro e w9 ⟨rfl, hb⟩; refine ⟨_, rfl, ?_⟩; replace k0 := Block.ups k0 hb; replace hall := hall.tr hb; clear hb; refine kl H rfl fun a H => ?_
 refine kR 1 H rfl fun a H => ?_
 refine zA (zB (zC (zC (zD ?_))))
 refine kR 1 H rfl fun a H => ?_
 by_cases hcc0 : (q) < 0
 ·
  refine kV H (r_lt U3 (H.ev rfl) evc (dec_t (hcc0))) rfl fun a H => ?_
  refine kR 20 H rfl fun a H => ?_
  refine zA (zB (zH H rfl (zC (zD ?_))))
  refine kR 2 H rfl fun a H => ?_
  refine zA (zB (zF (zJ ?_)))
  exact k_ret1 H rfl rfl ⟨rfl, hall⟩
 ·
  refine kV H (r_lt U3 (H.ev rfl) evc (dec_f (hcc0))) rfl fun a H => ?_
  refine kR 2 H rfl fun a H => ?_
  by_cases hcc1 : (q) > 100
  ·
   refine kW H rfl (r_gt U3 (H.ev rfl) evc (dec_t (hcc1))) rfl fun a H => ?_
   refine kR 17 H rfl fun a H => ?_
   refine zA (zB (zH H rfl (zC (zD ?_))))
   refine kR 2 H rfl fun a H => ?_
   refine zA (zB (zF (zJ ?_)))
   exact k_ret1 H rfl rfl ⟨rfl, hall⟩
  ·
   refine kW H rfl (r_gt U3 (H.ev rfl) evc (dec_f (hcc1))) rfl fun a H => ?_
   refine kR 3 H rfl fun a H => ?_
   by_cases hcc2 : (n) < 0
   ·
    refine kW H rfl (r_lt U3 (H.ev rfl) evc (dec_t (hcc2))) rfl fun a H => ?_
    refine kR 13 H rfl fun a H => ?_
    refine zA (zB (zH H rfl (zC (zD ?_))))
    refine kR 2 H rfl fun a H => ?_
    refine zA (zB (zF (zJ ?_)))
    exact k_ret1 H rfl rfl ⟨rfl, hall⟩
   ·
    refine kW H rfl (r_lt U3 (H.ev rfl) evc (dec_f (hcc2))) rfl fun a H => ?_
    refine kR 3 H rfl fun a H => ?_
    by_cases hcc3 : (n) > 1073741824
    ·
     refine kW H rfl (r_gt U3 (H.ev rfl) evc (dec_t (hcc3))) rfl fun a H => ?_
     refine kR 9 H rfl fun a H => ?_
     refine zA (zB (zH H rfl (zC (zD ?_))))
     refine kR 2 H rfl fun a H => ?_
     refine zA (zB (zF (zJ ?_)))
     exact k_ret1 H rfl rfl ⟨rfl, hall⟩
    ·
     refine kW H rfl (r_gt U3 (H.ev rfl) evc (dec_f (hcc3))) rfl fun a H => ?_
     refine kR 3 H rfl fun a H => ?_
     by_cases hcc4 : (i) < 1
     ·
      refine kW H rfl (r_lt U3 (H.ev rfl) evc (dec_t (hcc4))) rfl fun a H => ?_
      refine kR 5 H rfl fun a H => ?_
      refine zA (zB (zH H rfl (zC (zD ?_))))
      refine kR 2 H rfl fun a H => ?_
      refine zA (zB (zF (zJ ?_)))
      exact k_ret1 H rfl rfl ⟨rfl, hall⟩
     ·
      refine kW H rfl (r_lt U3 (H.ev rfl) evc (dec_f (hcc4))) rfl fun a H => ?_
      refine kR 3 H rfl fun a H => ?_
      by_cases hcc5 : (i) > 1073741824
      ·
       refine kW H rfl (r_gt U3 (H.ev rfl) evc (dec_t (hcc5))) rfl fun a H => ?_
       refine kR 1 H rfl fun a H => ?_
       refine zA (zB (zH H rfl (zC (zD ?_))))
       refine kR 2 H rfl fun a H => ?_
       refine zA (zB (zF (zJ ?_)))
       exact k_ret1 H rfl rfl ⟨rfl, hall⟩
      ·
       refine kW H rfl (r_gt U3 (H.ev rfl) evc (dec_f (hcc5))) rfl fun a H => ?_
       refine kR 1 H rfl fun a H => ?_
       refine zA (zB (zG H rfl (zE (zB (zC (zD ?_))))))
       refine kR 3 H rfl fun a H => ?_
       refine kV H (run_load_row b0 33 _ _ (H.ev rfl) k0 U33 rfl (by rw [barr_size, hk]; exact s33a)) rfl fun a H => ?_
       refine wl_call _ _ _ (on_any _ u n i k hk (by omega) (by omega)) (r_call4 cf40 (H.ev rfl) (H.ev rfl) (H.ev rfl) (H.ev rfl)) ?_; rintro e w9 ⟨⟨bcl, m0, rfl, hge, hcl⟩, hb⟩; refine ⟨_, rfl, ?_⟩; rw [hv] at hcl; have ghcl : _ ≤ bcl := Nat.le_trans hall.size hge; have dbcl_0 : b0 < bcl := Nat.lt_of_lt_of_le k0.lt hge; replace k0 := Block.ups k0 hb; replace hall := hall.tr hb; clear hb; clear hge; refine kl H rfl fun a H => ?_
       refine kR 1 H rfl fun a H => ?_
       refine zA (zB (zC (zC (zD ?_))))
       refine kR 1 H rfl fun a H => ?_
       refine kV H (r_eqpnil (H.ev rfl) rfl) rfl fun a H => ?_
       refine kR 2 H rfl fun a H => ?_
       refine kG H rfl ?_; refine wl_call _ _ _ (state_l _ _ _ (J3 v n 0 k i) 3 hcl rfl) (r_call1 cf27 (H.ev rfl)) ?_; rintro e w9 ⟨rfl, hb⟩; refine ⟨_, rfl, ?_⟩; replace k0 := Block.ups k0 hb; replace hcl := ClAt.up hcl hb; replace hall := hall.tr hb; clear hb; refine kl H rfl fun a H => ?_
       refine kW H rfl (r_ne U3 (H.ev rfl) evc (dec_f (by omega))) rfl fun a H => ?_
       refine kR 3 H rfl fun a H => ?_
       refine kG H rfl ?_; refine wl_call _ _ _ (sess_l _ _ _ (J3 v n 0 k i) (i) hcl rfl) (r_call1 cf29 (H.ev rfl)) ?_; rintro e w9 ⟨rfl, hb⟩; refine ⟨_, rfl, ?_⟩; replace k0 := Block.ups k0 hb; replace hcl := ClAt.up hcl hb; replace hall := hall.tr hb; clear hb; refine kl H rfl fun a H => ?_
       refine kR 1 H rfl fun a H => ?_
       refine kW H rfl (r_ne U3 (H.ev rfl) (H.ev rfl) (dec_f (by omega))) rfl fun a H => ?_
       refine kR 1 H rfl fun a H => ?_
       refine zA (zB (zG H rfl (zE (zB (zC (zC (zD ?_)))))))
       refine kR 1 H rfl fun a H => ?_
       refine zA (zB ?_)
       refine wp_block ?_
       obtain ⟨N, rfl⟩ : ∃ N : Nat, q = (N : Int) := ⟨q.toNat, by omega⟩
       refine wp_loop (Rbe w N bcl b0 v n i k) (fun a _ => N - (intOf (a.eval (.tmp 13))).toNat) ⟨0, m0, H.pick [2, 4, 8, 11, 12, 13], by omega, hcl, k0, hall⟩ ?_
       clear H hall k0 hcl
       rintro a w' ⟨t, m, H, hi, hcl, k0, hall⟩
       have H0 := H
       by_cases hlt : t < N
       ·
        refine zC (zC (zD ?_))
        refine kR 2 H rfl fun a H => ?_
        refine kV H (r_lt U3 (H.ev rfl) (H.ev rfl) (dec_t (by omega))) rfl fun a H => ?_
        refine zA (zB (zH H rfl (zE (zB (zC ?_)))))
        refine wp_block ?_
        refine zC ?_
        by_cases h4 : t % 4 = 0
        ·
         refine zD ?_
         refine kR 1 H rfl fun a H => ?_
         refine wl_call _ _ _ (tick_l _ _ _ (B3 v n 0 k i t) (B3 v n 0 k i (t + 1)) [encF (signF k (bP i ((1 + t / 4 : Nat) : Int)))] 1 hcl rfl (b_yes (by omega) h4 (by omega)).2 (b_yes (by omega) h4 (by omega)).1) (r_call1 cf15 (H.ev rfl)) ?_; rintro e w9 ⟨⟨A0, q0, rfl, B0, hB0, ho0⟩, hc9, hon⟩; refine ⟨_, rfl, ?_⟩; replace k0 := Block.onlym k0 (by omega) hcl.mp hon; replace hall := ClAt.down hcl hall ghcl hall.size hon; clear hcl; have hcl := hc9; clear hc9 hon; obtain ⟨o0, ho9⟩ := Outs.head ho0 (by omega); subst ho9; refine kl H rfl fun a H => ?_
         refine kR 1 H rfl fun a H => ?_
         refine zA (zB (zC (zC (zD ?_))))
         refine kR 1 H rfl fun a H => ?_
         refine kV H (r_rem (p := t) (q := 4) U3 (H.ev rfl) evc (by omega)) rfl fun a H => ?_
         refine kV H (r_ne U3 (H.ev rfl) evc (dec_f (by omega))) rfl fun a H => ?_
         refine zA (zB (zG H rfl (zE (zB (zC (zC (zD ?_)))))))
         refine kR 1 H rfl fun a H => ?_
         refine kV H (r_len U29 (H.ev rfl)) rfl fun a H => ?_
         refine kV H (r_ne U3 (H.ev rfl) evc (dec_f (by omega))) rfl fun a H => ?_
         refine zA (zB (zG H rfl (zE (zB (zC ?_)))))
         obtain ⟨x0_0, hx0_0, hr0_0⟩ := Outs.at ho0 (i := 0) rfl
         refine zD ?_
         refine kR 1 H rfl fun a H => ?_
         refine kV H (r_idx (j := 0) (q := 0) U29 s30 (H.ev rfl) evc (by omega) rfl) rfl fun a H => ?_
         refine kV H (r_ld U30 rfl (H.ev rfl) hx0_0) rfl fun a H => ?_
         refine wl_call _ _ _ (rdec_l _ _ (encF (signF k (bP i ((1 + t / 4 : Nat) : Int)))) (signF k (bP i ((1 + t / 4 : Nat) : Int))) 0 hr0_0 (Nat.le_trans (encF_len _ (signF_ok (bP_ok (i := i) (q := ((1 + t / 4 : Nat) : Int)) (by omega) (by omega)))) (by omega)) (dec_sign (bP_ok (i := i) (q := ((1 + t / 4 : Nat) : Int)) (by omega) (by omega)) (bP_so (i := i) (q := ((1 + t / 4 : Nat) : Int)) (by omega) (by omega)))) (r_call1 cf41 (H.ev rfl)) ?_; rintro e w9 ⟨rfl, hb⟩; refine ⟨_, rfl, ?_⟩; replace k0 := Block.ups k0 hb; replace hcl := ClAt.up hcl hb; replace ho0 := Outs.up ho0 hb; replace hall := hall.tr hb; clear hb; refine kl H rfl fun a H => ?_
         refine kR 3 H rfl fun a H => ?_
         refine op_new 36 15 (.tmp 80) (pv (signF k (bP i ((1 + t / 4 : Nat) : Int)))) _ z36 (s36p (signF_ok (bP_ok (i := i) (q := ((1 + t / 4 : Nat) : Int)) (by omega) (by omega)))) (by rw [pv_size pk0_ok, pv_size (signF_ok (bP_ok (i := i) (q := ((1 + t / 4 : Nat) : Int)) (by omega) (by omega)))]) (pv_one _) (fun p => (H.put 15 p rfl).ev rfl) (fun p => (H.put 15 p rfl).ev rfl) fun w15 b15 hge hb k15 => ?_; have g15 := Nat.le_trans hall.size hge; have d0_15 : b0 < b15 := Nat.lt_of_lt_of_le k0.lt hge; have dhcl_15 : bcl < b15 := Nat.lt_of_lt_of_le hcl.lt hge; replace k0 := Block.ups k0 hb; replace hcl := ClAt.up hcl hb; replace ho0 := Outs.up ho0 hb; replace hall := hall.tr hb; clear hb; clear hge; refine kl H rfl fun a H => ?_
         refine kR 1 H rfl fun a H => ?_
         refine zA (zB (zC (zD ?_)))
         refine kR 1 H rfl fun a H => ?_
         refine kV H (r_ne U46 (H.ev rfl) evc (dec_f (by omega))) rfl fun a H => ?_
         refine kR 2 H rfl fun a H => ?_
         refine kW H rfl (r_ld U3 rfl (H.ev rfl) (pv_cell k15 (x := 5) rfl)) rfl fun a H => ?_
         refine kW H rfl (r_ne U3 (H.ev rfl) evc (dec_f (by omega))) rfl fun a H => ?_
         refine kR 3 H rfl fun a H => ?_
         refine kW H rfl (r_ld U3 rfl (H.ev rfl) (pv_cell k15 (x := (i)) rfl)) rfl fun a H => ?_
         refine kR 1 H rfl fun a H => ?_
         refine kW H rfl (r_ne U3 (H.ev rfl) (H.ev rfl) (dec_f (by omega))) rfl fun a H => ?_
         refine kR 3 H rfl fun a H => ?_
         refine kW H rfl (r_ld U3 rfl (H.ev rfl) (pv_cell k15 (x := ((1 + t / 4 : Nat) : Int)) rfl)) rfl fun a H => ?_
         refine kR 1 H rfl fun a H => ?_
         refine kW H rfl (r_quo (p := t) (q := 4) U3 (H.ev rfl) evc (by omega) (by omega)) rfl fun a H => ?_
         refine kW H rfl (r_add (q := 1 + ((t / 4 : Nat) : Int)) U3 evc (H.ev rfl) (by omega) (by omega)) rfl fun a H => ?_
         refine kW H rfl (r_ne U3 (H.ev rfl) (H.ev rfl) (dec_f (by omega))) rfl fun a H => ?_
         refine kR 2 H rfl fun a H => ?_
         refine kW H rfl (run_load_row b0 33 _ _ (H.ev rfl) k0 U33 rfl (by rw [barr_size, hk]; exact s33a)) rfl fun a H => ?_
         refine kG H rfl ?_; refine kV (v := .agg (pv (signF k (bP i ((1 + t / 4 : Nat) : Int))))) H (run_load_row b15 36 _ _ (H.ev rfl) k15 U36 rfl (s36p (signF_ok (bP_ok (i := i) (q := ((1 + t / 4 : Nat) : Int)) (by omega) (by omega))))) rfl fun a H => ?_
         refine kG H rfl ?_; refine wl_call _ _ _ (good_l _ k (signF k (bP i ((1 + t / 4 : Nat) : Int))) true hk (signF_ok (bP_ok (i := i) (q := ((1 + t / 4 : Nat) : Int)) (by omega) (by omega))) (sign_good (bP_so (i := i) (q := ((1 + t / 4 : Nat) : Int)) (by omega) (by omega)))) (r_call2 cf42 (H.ev rfl) (H.ev rfl)) ?_; rintro e w9 ⟨rfl, hb⟩; refine ⟨_, rfl, ?_⟩; replace k0 := Block.ups k0 hb; replace hcl := ClAt.up hcl hb; replace ho0 := Outs.up ho0 hb; replace k15 := Block.ups k15 hb; replace hall := hall.tr hb; clear hb; refine kl H rfl fun a H => ?_
         refine kW H rfl (r_not (H.ev rfl) rfl) rfl fun a H => ?_
         refine kR 1 H rfl fun a H => ?_
         refine zA (zB (zG H rfl (zE (n_block (zB (zD ?_))))))
         refine kR 1 H rfl fun a H => ?_
         refine kV H (r_add (q := ((t + 1 : Nat) : Int)) U3 (H.ev rfl) evc (by omega) (by omega)) rfl fun a H => ?_
         refine kR 1 H rfl fun a H => ?_
         refine zA ?_
         refine zI ⟨⟨t + 1, _, H.pick [2, 4, 8, 11, 12, 13], by omega, hcl, k0, hall⟩, ?_⟩
         rw [H.ev (j := 13) rfl, H0.ev (j := 13) rfl]
         simp only [intOf]
         omega
        ·
         refine zD ?_
         refine kR 1 H rfl fun a H => ?_
         refine wl_call _ _ _ (tick_l _ _ _ (B3 v n 0 k i t) (B3 v n 0 k i (t + 1)) [] 0 hcl rfl (b_no (by omega) h4).2 (b_no (by omega) h4).1) (r_call1 cf15 (H.ev rfl)) ?_; rintro e w9 ⟨⟨A1, q1, rfl, B1, hB1, ho1⟩, hc9, hon⟩; refine ⟨_, rfl, ?_⟩; replace k0 := Block.onlym k0 (by omega) hcl.mp hon; replace hall := ClAt.down hcl hall ghcl hall.size hon; clear hcl; have hcl := hc9; clear hc9 hon; clear ho1 hB1; refine kl H rfl fun a H => ?_
         refine kR 1 H rfl fun a H => ?_
         refine zA (zB (zC (zC (zD ?_))))
         refine kR 1 H rfl fun a H => ?_
         refine kV H (r_rem (p := t) (q := 4) U3 (H.ev rfl) evc (by omega)) rfl fun a H => ?_
         refine kV H (r_ne U3 (H.ev rfl) evc (dec_t (by omega))) rfl fun a H => ?_
         refine zA (zB (zH H rfl (zC (zC (zD ?_)))))
         refine kR 1 H rfl fun a H => ?_
         refine kV H (r_len U29 (H.ev rfl)) rfl fun a H => ?_
         refine kV H (r_ne U3 (H.ev rfl) evc (dec_f (by omega))) rfl fun a H => ?_
         refine zA (zB (zG H rfl (zE (zB (wp_exit (e_then ?_))))))
         refine e_here ?_
         refine zB (zD ?_)
         refine kR 1 H rfl fun a H => ?_
         refine kV H (r_add (q := ((t + 1 : Nat) : Int)) U3 (H.ev rfl) evc (by omega) (by omega)) rfl fun a H => ?_
         refine kR 1 H rfl fun a H => ?_
         refine zA ?_
         refine zI ⟨⟨t + 1, _, H.pick [2, 4, 8, 11, 12, 13], by omega, hcl, k0, hall⟩, ?_⟩
         rw [H.ev (j := 13) rfl, H0.ev (j := 13) rfl]
         simp only [intOf]
         omega
       ·
        obtain rfl : t = N := by omega
        refine zC (zC (zD ?_))
        refine kR 2 H rfl fun a H => ?_
        refine kV H (r_lt U3 (H.ev rfl) (H.ev rfl) (dec_f (by omega))) rfl fun a H => ?_
        refine zA (zB (zG H rfl (wp_exit (e_then (e_then ?_)))))
        refine e_here ?_
        refine zB (zC (zD ?_))
        refine kR 2 H rfl fun a H => ?_
        refine zA (zB (zF ?_))
        exact k_ret1 H rfl rfl ⟨rfl, hall⟩
set_option maxRecDepth 100000 in
theorem clientBeats_lifted (os : Os) (started : os.Started) (H : Type) (enc : TypeId × Value → H) :
  ReturnsInHanded {} Tryz.checked os 7 .any (Rows.clientBeatsSpec.pre6 enc Tryz.prog Tryz.f7 Rows.clientBeatsRow.domain false) (Rows.clientBeatsSpec.post enc Tryz.prog Tryz.f7 false true false false) := by
 refine returnsInHanded_of_change (C := Tryz.checked) own started (by kernel_rfl) Tryz.func7
  (ChangeSpec.witness6 (enc := enc) (C := Tryz.checked) false ⟨#[], #[.int .i64 0, .int .i64 0, .int .i64 0, .agg (barr (List.replicate 16 0)), .int .i64 0], []⟩ 8 (by kernel_rfl) (by kernel_rfl) (by kernel_rfl) (by kernel_rfl)) ?_
 intro W base args ds gs before hval0 hW hcnd _
 have hval : ∀ (j : Nat) t v, Tryz.f7.params[j]? = some t → args[j]? = some v → Value.okWide Tryz.prog W .any base t v := hval0
 have hW' := hW
 obtain ⟨p, q, hA0, hV, rfl, hfz, hnd⟩ := hW
 have hA : DataW.TrodAll enc Tryz.prog W 0 (fun _ => true) true Tryz.f7.params.toList args.toList ds p := hA0
 rw [Tryz.params7] at hA hval
 obtain ⟨v0, vs0, d0, ds0, p0, q0, hargs, rfl, rfl, h0, r0⟩ := trodAll_cons hA
 obtain ⟨v1, vs1, d1, ds1, p1, q1, rfl, rfl, rfl, h1, r1⟩ := trodAll_cons r0
 obtain ⟨v2, vs2, d2, ds2, p2, q2, rfl, rfl, rfl, h2, r2⟩ := trodAll_cons r1
 obtain ⟨v3, vs3, d3, ds3, p3, q3, rfl, rfl, rfl, h3, r3⟩ := trodAll_cons r2
 obtain ⟨v4, vs4, d4, ds4, p4, q4, rfl, rfl, rfl, h4, r4⟩ := trodAll_cons r3
 obtain ⟨rfl, rfl, rfl⟩ := trodAll_nil r4
 obtain rfl : args = #[v0, v1, v2, v3, v4] := by cases args; simp_all
 obtain ⟨rfl, rfl⟩ := trodVars_none hV
 have k3 := h3
 have lt3 : ∀ x ∈ p3, x.block < W.heap.size := by obtain ⟨m, hm⟩ := k3; exact DataW.trod_lt m _ _ _ hm
 obtain ⟨u0, rfl, rfl, rfl, wu0⟩ := open_int U3 (hval 0 3 v0 rfl rfl) h0
 obtain ⟨u1, rfl, rfl, rfl, wu1⟩ := open_int U3 (hval 1 3 v1 rfl rfl) h1
 obtain ⟨u2, rfl, rfl, rfl, wu2⟩ := open_int U3 (hval 2 3 v2 rfl rfl) h2
 obtain ⟨K3, rfl, hk3⟩ := open_key (hval 3 33 v3 rfl rfl) h3
 obtain ⟨u4, rfl, rfl, rfl, wu4⟩ := open_int U3 (hval 4 3 v4 rfl rfl) h4
 clear hA0 hval0
 refine (beats_all W u0 u1 u2 u4 K3 hk3).mono fun e W' ⟨he, bel⟩ => ?_
 subst he
 exact ⟨_, rfl, _, _, _, [], _, [], hW', trodAll_mk1 (shut_bool U4 _), (trodAll_cons_mk (shut_int U3 wu0) (trodAll_cons_mk (shut_int U3 wu1) (trodAll_cons_mk (shut_int U3 wu2) (trodAll_cons_mk (Below.trod laidOut (by kernel_rfl) (of_decide_eq_true (by kernel_rfl)) k3 bel lt3) (trodAll_cons_mk (shut_int U3 wu4) trodAll_mk0))))), rfl, bel.frame _, fun h => by cases h⟩
theorem clientBeats_holds : Rows.ClientBeatsSaid :=
 OpenClaim.holds_of_wide 7 Tryz.f7 rfl rfl rfl rfl rfl rfl rfl ⟨rfl, rfl, rfl, rfl, rfl⟩ rfl rfl rfl rfl rfl (by kernel_rfl) Tryz.func7 (by kernel_rfl)
  (of_decide_eq_true (by kernel_rfl)) (by unfold Func.isWrapper; first | (rw [if_pos (by decide +kernel)]; kernel_rfl) | (rw [if_neg (by decide +kernel)]; exact ⟨rfl, rfl⟩))
  (fun os started H enc _ => clientBeats_lifted os started H enc)
#print axioms clientBeats_holds
end
end Go.Proofs.YtbnmpoonkjlkjaaGreat
