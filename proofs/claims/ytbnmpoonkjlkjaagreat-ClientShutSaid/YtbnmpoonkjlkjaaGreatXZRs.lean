/- Client: part ZRs of the proof. -/
import Derived.Test.YtbnmpoonkjlkjaaGreatXZTw
import Derived.ChangeSame
import Derived.ChangeOld
namespace Go.Proofs.YtbnmpoonkjlkjaaGreat
open Go.RowKit
set_option linter.unusedVariables false
set_option linter.unusedSimpArgs false
section
open Go.ChangeShapes Go.WideShapes Go.ChangeAt Go.Maps
theorem wp_mid {P : Program} {c : Code} {Q : Exit → Act → World → Prop} {a : Act} {w : World} (M : Act → World → Prop) (h : c.wp P (fun e a w => e = .normal ∧ M a w) a w) (k : ∀ a w, M a w → Q .normal a w) : c.wp P Q a w :=
 wp_mono h fun e a w ⟨he, hm⟩ => he.symm ▸ k a w hm
theorem ac_o {w : World} {b q : Nat} {x : Ac} {vb : Value} (h : w.rangeAt b q (acL x vb)) : w.rangeAt b (q + 3) [.int .i64 x.o.1, .int .i64 x.o.2.1, .int .i64 x.o.2.2.1, .int .i64 x.o.2.2.2] := fun j v hj => by
 have := h (3 + j) v (by
  match j, hj with
  | 0, hj => exact hj
  | 1, hj => exact hj
  | 2, hj => exact hj
  | 3, hj => exact hj
  | j + 4, hj => simp at hj)
 rwa [← Nat.add_assoc] at this
theorem clat_ups {w w' : World} {b : Nat} {m : Option Nat} {c : Cl} (h : ∀ I : Lim, @ClAt I w b m c) (hb : Below w.heap.size w w') : ∀ I : Lim, @ClAt I w' b m c := fun I => (h I).up hb
section
variable {H : Type} {enc : TypeId × Value → H} {w : World} {base : Nat} {spare : Nat → Bool} {held : Bool}
set_option maxRecDepth 100000 in
theorem open_bytes1 {r : Reach} {b0 : Nat} {v : Value} {dd : DataW H} {p : List MemPlace} (hv : Value.okWide Tryz.prog w r b0 30 v) (h : DataW.Trod enc Tryz.prog w base spare held 30 v dd p) : ∃ bs, BRow w v bs := by
 obtain ⟨A, n, c, rfl⟩ := Go.WideShapes.okWide_slice U30 hv
 obtain ⟨fuel, hf⟩ := h
 have hf' : DataW.trod enc Tryz.prog w base spare held fuel 30 [.slice A n c] = some (dd, p) := by simpa [Value.cells] using hf
 obtain ⟨v', L, e, hr⟩ := open_bytes U30 U5 (by kernel_rfl) hf'
 injection e with e
 subst e
 exact ⟨L, hr⟩
end
def Rsh1 (I : Lim) (W : World) (bcl bdl : Nat) (A : Option Addr) (cc : Nat) (Ab : Option Addr) (cb : Nat) (L : List Ac) (bs : List B8) (c : Cl) (a : Act) (w : World) : Prop :=
 ∃ (r : Bool) (m md : Option Nat), Kn a 170 [(1, .slice A L.length cc), (2, .slice Ab bs.length cb), (7, .bool true), (9, .pointer (some ⟨bcl, 0, none⟩)), (10, .pointer (some ⟨bdl, 0, none⟩)), (68, .bool r)] ∧ (r = false → Junk bs) ∧ @ClAt I w bcl m c ∧ @ClAt I w bdl md c ∧ Apart2 m md ∧ Below W.heap.size W w
def Rsh2 (I : Lim) (W : World) (bcl bdl : Nat) (A : Option Addr) (cc : Nat) (Ab : Option Addr) (cb : Nat) (L : List Ac) (bs : List B8) (a : Act) (w : World) : Prop :=
 ∃ (i : Nat) (m md : Option Nat) (c : Cl), Kn a 170 [(1, .slice A L.length cc), (2, .slice Ab bs.length cb), (7, .bool true), (9, .pointer (some ⟨bcl, 0, none⟩)), (10, .pointer (some ⟨bdl, 0, none⟩)), (13, .int .i64 (i : Nat))] ∧ i ≤ L.length ∧ @ClAt I w bcl m c ∧ @ClAt I w bdl md c ∧ Apart2 m md ∧ Below W.heap.size W w
def Rsh3 (I : Lim) (W : World) (bcl bdl : Nat) (A : Option Addr) (cc : Nat) (Ab : Option Addr) (cb : Nat) (L : List Ac) (bs : List B8) (i : Nat) (a : Act) (w : World) : Prop :=
 ∃ (x9 y9 : Value) (B1 B2 : Nat) (M : List (List B8)) (m md : Option Nat) (c : Cl), Kn a 170 [(1, .slice A L.length cc), (2, .slice Ab bs.length cb), (7, .bool true), (9, .pointer (some ⟨bcl, 0, none⟩)), (10, .pointer (some ⟨bdl, 0, none⟩)), (13, .int .i64 (i : Nat)), (14, x9), (15, y9)] ∧ Outs w B1 x9 M ∧ Outs w B2 y9 M ∧ @ClAt I w bcl m c ∧ @ClAt I w bdl md c ∧ Apart2 m md ∧ Below W.heap.size W w
set_option maxRecDepth 100000 in
set_option maxHeartbeats 4000000 in
theorem shut_all (w : World) (u : Int) (v vb : Value) (L : List Ac) (bs : List B8) (hr0 : ARow w v L) (hb0 : BRow w vb bs) : Calls Tryz.prog 8 #[.int .i64 (u), v, vb] w fun e w' => e = .returned (.bool true) ∧ Below w.heap.size w w' := by
 obtain ⟨A, cc, hvv⟩ := ARow.shape hr0
 subst hvv
 obtain ⟨Ab, cb, hvb0⟩ := brow_shape hb0
 subst hvb0
 have hall := Below.refl w.heap.size w
 refine K_enter 170 Tryz.func8 rfl rfl fun a H => ?_
 replace H := H.pick [0, 1, 2]
 refine zC (zD ?_)
 refine kR 1 H rfl fun a H => ?_
 refine zA (zB (zC (zD ?_)))
 refine wl_call _ _ _ (small_any _) (r_call0 cf11) ?_; rintro e w9 ⟨rfl, hb⟩; refine ⟨_, rfl, ?_⟩; replace hall := hall.tr hb; clear hb; refine kl H rfl fun a H => ?_
 refine kR 1 H rfl fun a H => ?_
 refine zA (zB (zC (zD ?_)))
 refine kR 1 H rfl fun a H => ?_
 refine wl_call _ _ _ (few_any _ _ L (ARow.up hr0 hall)) (r_call1 cf12 (H.ev rfl)) ?_; rintro e w9 ⟨⟨r, rfl, hfew⟩, hb⟩; refine ⟨_, rfl, ?_⟩; replace hall := hall.tr hb; clear hb; refine kl H rfl fun a H => ?_
 refine kR 1 H rfl fun a H => ?_
 refine zA (zB (zC (zC ?_)))
 cases r
 ·
  refine zD ?_
  refine kR 1 H rfl fun a H => ?_
  refine kV H (r_not (H.ev rfl) rfl) rfl fun a H => ?_
  refine kR 5 H rfl fun a H => ?_
  refine zA (zB (zH H rfl (zC (zD ?_))))
  refine kR 2 H rfl fun a H => ?_
  refine zA (zB (zF (zJ ?_)))
  exact k_ret1 H rfl rfl ⟨rfl, hall⟩
 ·
  obtain ⟨hfl, hfb⟩ := hfew rfl
  refine zD ?_
  refine kR 1 H rfl fun a H => ?_
  refine kV H (r_not (H.ev rfl) rfl) rfl fun a H => ?_
  refine kR 2 H rfl fun a H => ?_
  refine kW H rfl (r_len U30 (H.ev rfl)) rfl fun a H => ?_
  by_cases hcc0 : ((bs.length : Nat) : Int) > 100
  ·
   refine kW H rfl (r_gt U3 (H.ev rfl) evc (dec_t (hcc0))) rfl fun a H => ?_
   refine kR 1 H rfl fun a H => ?_
   refine zA (zB (zH H rfl (zC (zD ?_))))
   refine kR 2 H rfl fun a H => ?_
   refine zA (zB (zF (zJ ?_)))
   exact k_ret1 H rfl rfl ⟨rfl, hall⟩
  ·
   refine kW H rfl (r_gt U3 (H.ev rfl) evc (dec_f (hcc0))) rfl fun a H => ?_
   refine kR 1 H rfl fun a H => ?_
   refine zA (zB (zG H rfl (zE (zB (zC (zD ?_))))))
   refine kR 1 H rfl fun a H => ?_
   refine wl_call _ _ _ (new_m _ u _ rfl) (r_call1 cf13 (H.ev rfl)) ?_; rintro e w9 ⟨⟨bcl, rfl, hge, hcl⟩, hb⟩; refine ⟨_, rfl, ?_⟩; have ghcl : _ ≤ bcl := Nat.le_trans hall.size hge; replace hall := hall.tr hb; clear hb; clear hge; refine kl H rfl fun a H => ?_
   refine kR 1 H rfl fun a H => ?_
   refine zA (zB (zC (zD ?_)))
   refine kR 1 H rfl fun a H => ?_
   refine wl_call _ _ _ (new_m _ u _ rfl) (r_call1 cf13 (H.ev rfl)) ?_; rintro e w9 ⟨⟨bdl, rfl, hge, hdl⟩, hb⟩; refine ⟨_, rfl, ?_⟩; have ghdl : _ ≤ bdl := Nat.le_trans hall.size hge; have hcd : bcl < bdl := Nat.lt_of_lt_of_le (hcl limZ).lt hge; replace hcl := clat_ups hcl hb; replace hall := hall.tr hb; clear hb; clear hge; obtain ⟨I, hIc, hId⟩ : ∃ I : Lim, I.lim bcl = bdl + 1 ∧ I.lim bdl = bdl + 1 := ⟨limQ bdl, Nat.max_eq_right (by omega), Nat.max_self _⟩; replace hcl := hcl I; replace hdl := hdl I; refine kl H rfl fun a H => ?_
   refine kR 1 H rfl fun a H => ?_
   refine zA (zB (zC (zC (zD ?_))))
   refine kR 1 H rfl fun a H => ?_
   refine kV H (r_eqpnil (H.ev rfl) rfl) rfl fun a H => ?_
   refine kR 2 H rfl fun a H => ?_
   refine kW H rfl (r_eqpnil (H.ev rfl) rfl) rfl fun a H => ?_
   refine kR 1 H rfl fun a H => ?_
   refine zA (zB (zG H rfl (zE (zB (zC (zD ?_))))))
   refine kR 1 H rfl fun a H => ?_
   refine wl_call _ _ _ (rdec_any _ _ bs (BRow.up hb0 hall) (by omega)) (r_call1 cf41 (H.ev rfl)) ?_; rintro e w9 ⟨rfl, hb⟩; refine ⟨_, rfl, ?_⟩; replace hcl := ClAt.up hcl hb; replace hdl := ClAt.up hdl hb; replace hall := hall.tr hb; clear hb; refine kl H rfl fun a H => ?_
   refine kR 3 H rfl fun a H => ?_
   refine op_new 36 11 (.tmp 40) (pv (decP bs)) _ z36 (s36p (decP_ok bs)) (by rw [pv_size pk0_ok, pv_size (decP_ok bs)]) (pv_one _) (fun p => (H.put 11 p rfl).ev rfl) (fun p => (H.put 11 p rfl).ev rfl) fun w11 b11 hge hb k11 => ?_; have g11 := Nat.le_trans hall.size hge; have dhcl_11 : bcl < b11 := Nat.lt_of_lt_of_le hcl.lt hge; have dhdl_11 : bdl < b11 := Nat.lt_of_lt_of_le hdl.lt hge; replace hcl := ClAt.up hcl hb; replace hdl := ClAt.up hdl hb; replace hall := hall.tr hb; clear hb; clear hge; refine kl H rfl fun a H => ?_
   refine kR 1 H rfl fun a H => ?_
   refine zA (zB (zC (zC ?_)))
   refine wp_mid (Rsh1 I w bcl bdl A cc Ab cb L bs (clZ (clampU u))) ?_ ?_
   ·
    refine zD ?_
    refine kR 1 H rfl fun a H => ?_
    by_cases hcc1 : (decE bs) = 0
    ·
     refine kV H (r_eq U46 (H.ev rfl) evc (dec_t (hcc1))) rfl fun a H => ?_
     refine kR 2 H rfl fun a H => ?_
     refine kW H rfl (r_ld U3 rfl (H.ev rfl) (pv_cell k11 (fld_at (decP_ok bs) (j := 0) (by omega)))) rfl fun a H => ?_
     by_cases hcc2 : ((decP bs).fld 0) = 2
     ·
      refine kW H rfl (r_eq U3 (H.ev rfl) evc (dec_t (hcc2))) rfl fun a H => ?_
      refine kR 21 H rfl fun a H => ?_
      refine zA ?_
      exact ⟨rfl, true, _, _, H.pick [1, 2, 7, 9, 10, 68], (fun h => by cases h), hcl, hdl, (fun q e => by cases e), hall⟩
     ·
      refine kW H rfl (r_eq U3 (H.ev rfl) evc (dec_f (hcc2))) rfl fun a H => ?_
      refine kR 2 H rfl fun a H => ?_
      refine kW H rfl (r_ld U3 rfl (H.ev rfl) (pv_cell k11 (fld_at (decP_ok bs) (j := 0) (by omega)))) rfl fun a H => ?_
      by_cases hcc3 : ((decP bs).fld 0) = 4
      ·
       refine kW H rfl (r_eq U3 (H.ev rfl) evc (dec_t (hcc3))) rfl fun a H => ?_
       refine kR 17 H rfl fun a H => ?_
       refine zA ?_
       exact ⟨rfl, true, _, _, H.pick [1, 2, 7, 9, 10, 68], (fun h => by cases h), hcl, hdl, (fun q e => by cases e), hall⟩
      ·
       refine kW H rfl (r_eq U3 (H.ev rfl) evc (dec_f (hcc3))) rfl fun a H => ?_
       refine kR 3 H rfl fun a H => ?_
       refine kW H rfl (r_ld U3 rfl (H.ev rfl) (pv_cell k11 (fld_at (decP_ok bs) (j := 0) (by omega)))) rfl fun a H => ?_
       by_cases hcc4 : ((decP bs).fld 0) = 12
       ·
        refine kW H rfl (r_eq U3 (H.ev rfl) evc (dec_t (hcc4))) rfl fun a H => ?_
        refine kR 12 H rfl fun a H => ?_
        refine zA ?_
        exact ⟨rfl, true, _, _, H.pick [1, 2, 7, 9, 10, 68], (fun h => by cases h), hcl, hdl, (fun q e => by cases e), hall⟩
       ·
        refine kW H rfl (r_eq U3 (H.ev rfl) evc (dec_f (hcc4))) rfl fun a H => ?_
        refine kR 3 H rfl fun a H => ?_
        refine kW H rfl (r_ld U3 rfl (H.ev rfl) (pv_cell k11 (fld_at (decP_ok bs) (j := 0) (by omega)))) rfl fun a H => ?_
        by_cases hcc5 : ((decP bs).fld 0) = 8
        ·
         refine kW H rfl (r_eq U3 (H.ev rfl) evc (dec_t (hcc5))) rfl fun a H => ?_
         refine kR 7 H rfl fun a H => ?_
         refine zA ?_
         exact ⟨rfl, true, _, _, H.pick [1, 2, 7, 9, 10, 68], (fun h => by cases h), hcl, hdl, (fun q e => by cases e), hall⟩
        ·
         refine kW H rfl (r_eq U3 (H.ev rfl) evc (dec_f (hcc5))) rfl fun a H => ?_
         refine kR 3 H rfl fun a H => ?_
         refine kW H rfl (r_ld U3 rfl (H.ev rfl) (pv_cell k11 (fld_at (decP_ok bs) (j := 0) (by omega)))) rfl fun a H => ?_
         by_cases hcc6 : ((decP bs).fld 0) = 11
         ·
          refine kW H rfl (r_eq U3 (H.ev rfl) evc (dec_t (hcc6))) rfl fun a H => ?_
          refine kR 2 H rfl fun a H => ?_
          refine zA ?_
          exact ⟨rfl, true, _, _, H.pick [1, 2, 7, 9, 10, 68], (fun h => by cases h), hcl, hdl, (fun q e => by cases e), hall⟩
         ·
          refine kW H rfl (r_eq U3 (H.ev rfl) evc (dec_f (hcc6))) rfl fun a H => ?_
          refine kR 2 H rfl fun a H => ?_
          refine zA ?_
          exact ⟨rfl, false, _, _, H.pick [1, 2, 7, 9, 10, 68], (fun _ h => by omega), hcl, hdl, (fun q e => by cases e), hall⟩
    ·
     refine kV H (r_eq U46 (H.ev rfl) evc (dec_f (hcc1))) rfl fun a H => ?_
     refine kR 25 H rfl fun a H => ?_
     refine zA ?_
     exact ⟨rfl, false, _, _, H.pick [1, 2, 7, 9, 10, 68], (fun _ h => by omega), hcl, hdl, (fun q e => by cases e), hall⟩
   ·
    clear H hall hcl hdl k11
    rintro a w' ⟨r, m, md, H, hj, hcl, hdl, hap, hall⟩
    cases r
    ·
     replace hj : Junk bs := hj rfl
     refine zB (zG H rfl (zE (zB (zC (zC (zD ?_))))))
     refine kR 1 H rfl fun a H => ?_
     refine zA (zB ?_)
     refine wp_block ?_
     refine wp_loop (Rsh2 I w bcl bdl A cc Ab cb L bs) (fun a _ => L.length - (intOf (a.eval (.tmp 13))).toNat) ⟨0, _, _, _, H.pick [1, 2, 7, 9, 10, 13], by omega, hcl, hdl, hap, hall⟩ ?_
     clear H hall hcl hdl hap
     rintro a w' ⟨i, m, md, c, H, hi, hcl, hdl, hap, hall⟩
     have H0 := H
     have hr := hr0
     by_cases hlt : i < L.length
     ·
      obtain ⟨x, hx⟩ : ∃ x, L[i]? = some x := ⟨_, List.getElem?_eq_getElem hlt⟩
      obtain ⟨hxo, b, o, vb, hA, hvb, hrg⟩ := ARow.at hr hx
      subst hA
      have hok := hcl.ok
      have hxb := hfb x (List.mem_of_getElem? hx)
      refine zC (zC (zD ?_))
      refine kR 2 H rfl fun a H => ?_
      refine kV H (r_len U22 (H.ev rfl)) rfl fun a H => ?_
      refine kV H (r_lt U3 (H.ev rfl) (H.ev rfl) (dec_t (by omega))) rfl fun a H => ?_
      refine zA (zB (zH H rfl (zE (zB (zC ?_)))))
      refine wp_block ?_
      refine zC (zC (zD ?_))
      refine kR 2 H rfl fun a H => ?_
      refine wl_call _ _ _ (step_m _ _ _ c c [] hcl (by rw [hIc]; exact Nat.succ_le_of_lt hdl.lt) _ bs (BRow.up hb0 hall) (by omega) (junk_step hj).2 (junk_step hj).1) (r_call2 cf23 (H.ev rfl) (H.ev rfl)) ?_; rintro e w9 ⟨⟨A0, q0, rfl, B0, hB0, hBe, ho0⟩, ⟨m9, hc9, hn9⟩, hon⟩; refine ⟨_, rfl, ?_⟩; have hBd0 : bdl < B0 := hBe ▸ hdl.lt; clear hBe; have hd9 := ClAt.two hdl hcl (by omega) (by rw [hId]; omega) hap.symm hon; have hap9 := Apart2.next hap hdl hn9; replace hall := ClAt.down hcl hall ghcl hall.size hon; clear hap hcl hdl hn9 hon; have hap := hap9; have hcl := hc9; have hdl := hd9; clear hap9 hc9 hd9; clear ho0 hB0 hBd0; refine kl H rfl fun a H => ?_
      refine kV (v := .int .i64 (0 : Nat)) H (r_len (n := 0) U29 (H.ev rfl)) rfl fun a H => ?_
      refine kV H (r_ne U3 (H.ev rfl) evc (dec_f (by omega))) rfl fun a H => ?_
      refine zA (zB (zG H rfl (zE (zB (zC (zD ?_))))))
      refine kR 1 H rfl fun a H => ?_
      refine zA (zB (zC (zD ?_)))
      refine kR 1 H rfl fun a H => ?_
      refine zA (zB (zC (zC (zD ?_))))
      refine kR 2 H rfl fun a H => ?_
      refine kV (v := .pointer (some ⟨b, o + i * 59, none⟩)) H (r_idx (j := i) (q := o + i * 59) U22 s38 (H.ev rfl) (H.ev rfl) hlt rfl) rfl fun a H => ?_
      refine kV (v := .pointer (some ⟨b, o + i * 59 + 0, none⟩)) H (r_fld (q := o + i * 59 + 0) fld38_0 (H.ev rfl) rfl) rfl fun a H => ?_
      refine kV (v := .int .i64 (x.d)) H (r_ld U3 rfl (H.ev rfl) (range_cell (range_up hrg hall) 0 rfl)) rfl fun a H => ?_
      refine zA (zB ?_)
      refine wp_mid (Rsh3 I w bcl bdl (some ⟨b, o, none⟩) cc Ab cb L bs i) ?_ ?_
      ·
       refine wp_block ?_
       refine zC (zD ?_)
       by_cases hcc7 : (x.d) = 0
       ·
        refine kV H (r_eq U3 (H.ev rfl) evc (dec_t (hcc7))) rfl fun a H => ?_
        refine kR 1 H rfl fun a H => ?_
        refine zA (zB (zH H rfl (zC (zD ?_))))
        refine kR 1 H rfl fun a H => ?_
        refine wl_call _ _ _ (tick_m _ _ _ c (tickC c) (tickO c) hcl rfl rfl) (r_call1 cf15 (H.ev rfl)) ?_; rintro e w9 ⟨⟨A1, q1, rfl, B1, hB1, hBe, ho1⟩, ⟨m9, hc9, hn9⟩, hon⟩; refine ⟨_, rfl, ?_⟩; have hBd1 : bdl < B1 := hBe ▸ hdl.lt; clear hBe; have hd9 := ClAt.two hdl hcl (by omega) (by rw [hId]; omega) hap.symm hon; have hap9 := Apart2.next hap hdl hn9; replace hall := ClAt.down hcl hall ghcl hall.size hon; clear hap hcl hdl hn9 hon; have hap := hap9; have hcl := hc9; have hdl := hd9; clear hap9 hc9 hd9; refine kl H rfl fun a H => ?_
        refine kR 1 H rfl fun a H => ?_
        refine zA (zB (zD ?_))
        refine kR 1 H rfl fun a H => ?_
        refine wl_call _ _ _ (tick_m _ _ _ c (tickC c) (tickO c) hdl rfl rfl) (r_call1 cf15 (H.ev rfl)) ?_; rintro e w9 ⟨⟨A2, q2, rfl, B2, hB2, hBe, ho2⟩, ⟨m9, hc9, hn9⟩, hon⟩; refine ⟨_, rfl, ?_⟩; have hBd2 : bdl < B2 := hBe ▸ hdl.lt; clear hBe; replace ho1 := Outs.onlym ho1 hBd1 hdl.mp hon; have hd9 := ClAt.two hcl hdl (by omega) (by rw [hIc]; omega) hap hon; have hap9 := (Apart2.next hap.symm hcl hn9).symm; replace hall := ClAt.down hdl hall ghdl hall.size hon; clear hap hdl hcl hn9 hon; have hap := hap9; have hdl := hc9; have hcl := hd9; clear hap9 hc9 hd9; refine kl H rfl fun a H => ?_
        refine kR 1 H rfl fun a H => ?_
        refine zA (n_block ?_)
        exact ⟨rfl, _, _, _, _, _, _, _, _, H.pick [1, 2, 7, 9, 10, 13, 14, 15], ho1, ho2, hcl, hdl, hap, hall⟩
       ·
        refine kV H (r_eq U3 (H.ev rfl) evc (dec_f (hcc7))) rfl fun a H => ?_
        refine kR 1 H rfl fun a H => ?_
        refine zA (zB (zG H rfl (zC (zD ?_))))
        by_cases hcc8 : (x.d) = 2
        ·
         refine kV H (r_eq U3 (H.ev rfl) evc (dec_t (hcc8))) rfl fun a H => ?_
         refine kR 1 H rfl fun a H => ?_
         refine zA (zB (zH H rfl (zC (zD ?_))))
         refine kR 3 H rfl fun a H => ?_
         refine kV (v := .pointer (some ⟨b, o + i * 59, none⟩)) H (r_idx (j := i) (q := o + i * 59) U22 s38 (H.ev rfl) (H.ev rfl) hlt rfl) rfl fun a H => ?_
         refine kV (v := .pointer (some ⟨b, o + i * 59 + 1, none⟩)) H (r_fld (q := o + i * 59 + 1) fld38_1 (H.ev rfl) rfl) rfl fun a H => ?_
         refine kV (v := .int .i64 (x.n)) H (r_ld U3 rfl (H.ev rfl) (range_cell (range_up hrg hall) 1 rfl)) rfl fun a H => ?_
         refine wl_call _ _ _ (start_m _ _ _ c (startF c x.n) x.n (startB x.n) hcl rfl rfl) (r_call2 cf17 (H.ev rfl) (H.ev rfl)) ?_; rintro e w9 ⟨rfl, ⟨m9, hc9, hn9⟩, hon⟩; refine ⟨_, rfl, ?_⟩; have hd9 := ClAt.two hdl hcl (by omega) (by rw [hId]; omega) hap.symm hon; have hap9 := Apart2.next hap hdl hn9; replace hall := ClAt.down hcl hall ghcl hall.size hon; clear hap hcl hdl hn9 hon; have hap := hap9; have hcl := hc9; have hdl := hd9; clear hap9 hc9 hd9; refine kl H rfl fun a H => ?_
         refine zA (zB (zD ?_))
         refine kR 3 H rfl fun a H => ?_
         refine kV (v := .pointer (some ⟨b, o + i * 59, none⟩)) H (r_idx (j := i) (q := o + i * 59) U22 s38 (H.ev rfl) (H.ev rfl) hlt rfl) rfl fun a H => ?_
         refine kV (v := .pointer (some ⟨b, o + i * 59 + 1, none⟩)) H (r_fld (q := o + i * 59 + 1) fld38_1 (H.ev rfl) rfl) rfl fun a H => ?_
         refine kV (v := .int .i64 (x.n)) H (r_ld U3 rfl (H.ev rfl) (range_cell (range_up hrg hall) 1 rfl)) rfl fun a H => ?_
         refine wl_call _ _ _ (start_m _ _ _ c (startF c x.n) x.n (startB x.n) hdl rfl rfl) (r_call2 cf17 (H.ev rfl) (H.ev rfl)) ?_; rintro e w9 ⟨rfl, ⟨m9, hc9, hn9⟩, hon⟩; refine ⟨_, rfl, ?_⟩; have hd9 := ClAt.two hcl hdl (by omega) (by rw [hIc]; omega) hap hon; have hap9 := (Apart2.next hap.symm hcl hn9).symm; replace hall := ClAt.down hdl hall ghdl hall.size hon; clear hap hdl hcl hn9 hon; have hap := hap9; have hdl := hc9; have hcl := hd9; clear hap9 hc9 hd9; refine kl H rfl fun a H => ?_
         refine zA (n_block ?_)
         exact ⟨rfl, _, _, _, _, _, _, _, _, H.pick [1, 2, 7, 9, 10, 13, 14, 15], (outs_nil (B := 0)), (outs_nil (B := 0)), hcl, hdl, hap, hall⟩
        ·
         refine kV H (r_eq U3 (H.ev rfl) evc (dec_f (hcc8))) rfl fun a H => ?_
         refine kR 1 H rfl fun a H => ?_
         refine zA (zB (zG H rfl (zC (zD ?_))))
         by_cases hcc9 : (x.d) = 3
         ·
          refine kV H (r_eq U3 (H.ev rfl) evc (dec_t (hcc9))) rfl fun a H => ?_
          refine kR 1 H rfl fun a H => ?_
          refine zA (zB (zH H rfl (zC (zD ?_))))
          refine kR 1 H rfl fun a H => ?_
          refine wl_call _ _ _ (crash_m _ _ _ c hcl) (r_call1 cf19 (H.ev rfl)) ?_; rintro e w9 ⟨rfl, ⟨m9, hc9, hn9⟩, hon⟩; refine ⟨_, rfl, ?_⟩; have hd9 := ClAt.two hdl hcl (by omega) (by rw [hId]; omega) hap.symm hon; have hap9 := Apart2.next hap hdl hn9; replace hall := ClAt.down hcl hall ghcl hall.size hon; clear hap hcl hdl hn9 hon; have hap := hap9; have hcl := hc9; have hdl := hd9; clear hap9 hc9 hd9; refine kl H rfl fun a H => ?_
          refine zA (zB (zD ?_))
          refine kR 1 H rfl fun a H => ?_
          refine wl_call _ _ _ (crash_m _ _ _ c hdl) (r_call1 cf19 (H.ev rfl)) ?_; rintro e w9 ⟨rfl, ⟨m9, hc9, hn9⟩, hon⟩; refine ⟨_, rfl, ?_⟩; have hd9 := ClAt.two hcl hdl (by omega) (by rw [hIc]; omega) hap hon; have hap9 := (Apart2.next hap.symm hcl hn9).symm; replace hall := ClAt.down hdl hall ghdl hall.size hon; clear hap hdl hcl hn9 hon; have hap := hap9; have hdl := hc9; have hcl := hd9; clear hap9 hc9 hd9; refine kl H rfl fun a H => ?_
          refine zA (n_block ?_)
          exact ⟨rfl, _, _, _, _, _, _, _, _, H.pick [1, 2, 7, 9, 10, 13, 14, 15], (outs_nil (B := 0)), (outs_nil (B := 0)), hcl, hdl, hap, hall⟩
         ·
          refine kV H (r_eq U3 (H.ev rfl) evc (dec_f (hcc9))) rfl fun a H => ?_
          refine kR 1 H rfl fun a H => ?_
          refine zA (zB (zG H rfl (zC (zD ?_))))
          by_cases hcc10 : (x.d) = 4
          ·
           refine kV H (r_eq U3 (H.ev rfl) evc (dec_t (hcc10))) rfl fun a H => ?_
           refine kR 1 H rfl fun a H => ?_
           refine zA (zB (zH H rfl (zC (zD ?_))))
           refine kR 3 H rfl fun a H => ?_
           refine kV (v := .pointer (some ⟨b, o + i * 59, none⟩)) H (r_idx (j := i) (q := o + i * 59) U22 s38 (H.ev rfl) (H.ev rfl) hlt rfl) rfl fun a H => ?_
           refine kV (v := .pointer (some ⟨b, o + i * 59 + 3, none⟩)) H (r_fld (q := o + i * 59 + 3) fld38_3 (H.ev rfl) rfl) rfl fun a H => ?_
           refine kV (v := .agg (cN x.o)) H (r_row (cs := [.int .i64 x.o.1, .int .i64 x.o.2.1, .int .i64 x.o.2.2.1, .int .i64 x.o.2.2.2]) (H.ev rfl) (ac_o (range_up hrg hall)) (by kernel_rfl) s32 rfl) rfl fun a H => ?_
           refine wl_call _ _ _ (order_m _ _ _ c (orderF c x.o) x.o (decide (¬ orderNo c x.o)) hcl (by rw [hIc]; exact Nat.succ_le_of_lt hdl.lt) rfl rfl) (r_call2 cf21 (H.ev rfl) (H.ev rfl)) ?_; rintro e w9 ⟨rfl, ⟨m9, hc9, hn9⟩, hon⟩; refine ⟨_, rfl, ?_⟩; have hd9 := ClAt.two hdl hcl (by omega) (by rw [hId]; omega) hap.symm hon; have hap9 := Apart2.next hap hdl hn9; replace hall := ClAt.down hcl hall ghcl hall.size hon; clear hap hcl hdl hn9 hon; have hap := hap9; have hcl := hc9; have hdl := hd9; clear hap9 hc9 hd9; refine kl H rfl fun a H => ?_
           refine zA (zB (zD ?_))
           refine kR 3 H rfl fun a H => ?_
           refine kV (v := .pointer (some ⟨b, o + i * 59, none⟩)) H (r_idx (j := i) (q := o + i * 59) U22 s38 (H.ev rfl) (H.ev rfl) hlt rfl) rfl fun a H => ?_
           refine kV (v := .pointer (some ⟨b, o + i * 59 + 3, none⟩)) H (r_fld (q := o + i * 59 + 3) fld38_3 (H.ev rfl) rfl) rfl fun a H => ?_
           refine kV (v := .agg (cN x.o)) H (r_row (cs := [.int .i64 x.o.1, .int .i64 x.o.2.1, .int .i64 x.o.2.2.1, .int .i64 x.o.2.2.2]) (H.ev rfl) (ac_o (range_up hrg hall)) (by kernel_rfl) s32 rfl) rfl fun a H => ?_
           refine wl_call _ _ _ (order_m _ _ _ c (orderF c x.o) x.o (decide (¬ orderNo c x.o)) hdl (by rw [hId]; exact Nat.succ_le_of_lt hdl.lt) rfl rfl) (r_call2 cf21 (H.ev rfl) (H.ev rfl)) ?_; rintro e w9 ⟨rfl, ⟨m9, hc9, hn9⟩, hon⟩; refine ⟨_, rfl, ?_⟩; have hd9 := ClAt.two hcl hdl (by omega) (by rw [hIc]; omega) hap hon; have hap9 := (Apart2.next hap.symm hcl hn9).symm; replace hall := ClAt.down hdl hall ghdl hall.size hon; clear hap hdl hcl hn9 hon; have hap := hap9; have hdl := hc9; have hcl := hd9; clear hap9 hc9 hd9; refine kl H rfl fun a H => ?_
           refine zA (n_block ?_)
           exact ⟨rfl, _, _, _, _, _, _, _, _, H.pick [1, 2, 7, 9, 10, 13, 14, 15], (outs_nil (B := 0)), (outs_nil (B := 0)), hcl, hdl, hap, hall⟩
          ·
           refine kV H (r_eq U3 (H.ev rfl) evc (dec_f (hcc10))) rfl fun a H => ?_
           refine kR 1 H rfl fun a H => ?_
           refine zA (zB (zG H rfl (zC (zD ?_))))
           refine kR 3 H rfl fun a H => ?_
           refine kV (v := .pointer (some ⟨b, o + i * 59, none⟩)) H (r_idx (j := i) (q := o + i * 59) U22 s38 (H.ev rfl) (H.ev rfl) hlt rfl) rfl fun a H => ?_
           refine kV (v := .agg (acV x vb)) H (r_row (cs := acL x vb) (H.ev rfl) (range_up hrg hall) (by kernel_rfl) (by rw [acL_len hxo]; exact s38) rfl) rfl fun a H => ?_
           refine wl_call _ _ _ (input_l _ x _ (inputF x) hxo (BRow.up hvb hall) rfl) (r_call1 cf24 (H.ev rfl)) ?_; rintro e w9 ⟨⟨v9, rfl, hv⟩, hb⟩; refine ⟨_, rfl, ?_⟩; replace hcl := ClAt.up hcl hb; replace hdl := ClAt.up hdl hb; replace hall := hall.tr hb; clear hb; refine kl H rfl fun a H => ?_
           refine wl_call _ _ _ (step_m _ _ _ c (stepC c (inputF x)) (stepO c (inputF x)) hcl (by rw [hIc]; exact Nat.succ_le_of_lt hdl.lt) _ (inputF x) hv (input_len hxo hxb) rfl rfl) (r_call2 cf23 (H.ev rfl) (H.ev rfl)) ?_; rintro e w9 ⟨⟨A3, q3, rfl, B3, hB3, hBe, ho3⟩, ⟨m9, hc9, hn9⟩, hon⟩; refine ⟨_, rfl, ?_⟩; have hBd3 : bdl < B3 := hBe ▸ hdl.lt; clear hBe; clear hv; have hd9 := ClAt.two hdl hcl (by omega) (by rw [hId]; omega) hap.symm hon; have hap9 := Apart2.next hap hdl hn9; replace hall := ClAt.down hcl hall ghcl hall.size hon; clear hap hcl hdl hn9 hon; have hap := hap9; have hcl := hc9; have hdl := hd9; clear hap9 hc9 hd9; refine kl H rfl fun a H => ?_
           refine kR 1 H rfl fun a H => ?_
           refine zA (zB (zD ?_))
           refine kR 3 H rfl fun a H => ?_
           refine kV (v := .pointer (some ⟨b, o + i * 59, none⟩)) H (r_idx (j := i) (q := o + i * 59) U22 s38 (H.ev rfl) (H.ev rfl) hlt rfl) rfl fun a H => ?_
           refine kV (v := .agg (acV x vb)) H (r_row (cs := acL x vb) (H.ev rfl) (range_up hrg hall) (by kernel_rfl) (by rw [acL_len hxo]; exact s38) rfl) rfl fun a H => ?_
           refine wl_call _ _ _ (input_l _ x _ (inputF x) hxo (BRow.up hvb hall) rfl) (r_call1 cf24 (H.ev rfl)) ?_; rintro e w9 ⟨⟨v9, rfl, hv⟩, hb⟩; refine ⟨_, rfl, ?_⟩; replace hcl := ClAt.up hcl hb; replace hdl := ClAt.up hdl hb; replace ho3 := Outs.up ho3 hb; replace hall := hall.tr hb; clear hb; refine kl H rfl fun a H => ?_
           refine wl_call _ _ _ (step_m _ _ _ c (stepC c (inputF x)) (stepO c (inputF x)) hdl (by rw [hId]; exact Nat.succ_le_of_lt hdl.lt) _ (inputF x) hv (input_len hxo hxb) rfl rfl) (r_call2 cf23 (H.ev rfl) (H.ev rfl)) ?_; rintro e w9 ⟨⟨A4, q4, rfl, B4, hB4, hBe, ho4⟩, ⟨m9, hc9, hn9⟩, hon⟩; refine ⟨_, rfl, ?_⟩; have hBd4 : bdl < B4 := hBe ▸ hdl.lt; clear hBe; replace ho3 := Outs.onlym ho3 hBd3 hdl.mp hon; clear hv; have hd9 := ClAt.two hcl hdl (by omega) (by rw [hIc]; omega) hap hon; have hap9 := (Apart2.next hap.symm hcl hn9).symm; replace hall := ClAt.down hdl hall ghdl hall.size hon; clear hap hdl hcl hn9 hon; have hap := hap9; have hdl := hc9; have hcl := hd9; clear hap9 hc9 hd9; refine kl H rfl fun a H => ?_
           refine kR 1 H rfl fun a H => ?_
           refine zA (n_block ?_)
           exact ⟨rfl, _, _, _, _, _, _, _, _, H.pick [1, 2, 7, 9, 10, 13, 14, 15], ho3, ho4, hcl, hdl, hap, hall⟩
      ·
       clear H hall hcl hdl hap
       rintro a w' ⟨x9, y9, B1, B2, M, m, md, c, H, hx9, hy9, hcl, hdl, hap, hall⟩
       refine zB (zC (zD ?_))
       refine kR 2 H rfl fun a H => ?_
       refine wl_call _ _ _ (same_any _ x9 y9 B1 B2 M hx9 hy9) (r_call2 cf26 (H.ev rfl) (H.ev rfl)) ?_; rintro e w9 ⟨rfl, hb⟩; refine ⟨_, rfl, ?_⟩; replace hcl := ClAt.up hcl hb; replace hdl := ClAt.up hdl hb; replace hx9 := Outs.up hx9 hb; replace hy9 := Outs.up hy9 hb; replace hall := hall.tr hb; clear hb; refine kl H rfl fun a H => ?_
       refine kV H (r_not (H.ev rfl) rfl) rfl fun a H => ?_
       refine kR 2 H rfl fun a H => ?_
       refine kG H rfl ?_; refine wl_call _ _ _ (state_l _ _ _ c c.state hcl rfl) (r_call1 cf27 (H.ev rfl)) ?_; rintro e w9 ⟨rfl, hb⟩; refine ⟨_, rfl, ?_⟩; replace hcl := ClAt.up hcl hb; replace hdl := ClAt.up hdl hb; replace hx9 := Outs.up hx9 hb; replace hy9 := Outs.up hy9 hb; replace hall := hall.tr hb; clear hb; refine kl H rfl fun a H => ?_
       refine kR 1 H rfl fun a H => ?_
       refine kG H rfl ?_; refine wl_call _ _ _ (state_l _ _ _ c c.state hdl rfl) (r_call1 cf27 (H.ev rfl)) ?_; rintro e w9 ⟨rfl, hb⟩; refine ⟨_, rfl, ?_⟩; replace hcl := ClAt.up hcl hb; replace hdl := ClAt.up hdl hb; replace hx9 := Outs.up hx9 hb; replace hy9 := Outs.up hy9 hb; replace hall := hall.tr hb; clear hb; refine kl H rfl fun a H => ?_
       refine kW H rfl (r_ne U3 (H.ev rfl) (H.ev rfl) (dec_f (by omega))) rfl fun a H => ?_
       refine kR 3 H rfl fun a H => ?_
       refine kG H rfl ?_; refine wl_call _ _ _ (waits_l _ _ _ c ((c.os.length : Nat) : Int) hcl rfl) (r_call1 cf31 (H.ev rfl)) ?_; rintro e w9 ⟨rfl, hb⟩; refine ⟨_, rfl, ?_⟩; replace hcl := ClAt.up hcl hb; replace hdl := ClAt.up hdl hb; replace hx9 := Outs.up hx9 hb; replace hy9 := Outs.up hy9 hb; replace hall := hall.tr hb; clear hb; refine kl H rfl fun a H => ?_
       refine kR 1 H rfl fun a H => ?_
       refine kG H rfl ?_; refine wl_call _ _ _ (waits_l _ _ _ c ((c.os.length : Nat) : Int) hdl rfl) (r_call1 cf31 (H.ev rfl)) ?_; rintro e w9 ⟨rfl, hb⟩; refine ⟨_, rfl, ?_⟩; replace hcl := ClAt.up hcl hb; replace hdl := ClAt.up hdl hb; replace hx9 := Outs.up hx9 hb; replace hy9 := Outs.up hy9 hb; replace hall := hall.tr hb; clear hb; refine kl H rfl fun a H => ?_
       refine kW H rfl (r_ne U3 (H.ev rfl) (H.ev rfl) (dec_f (by omega))) rfl fun a H => ?_
       refine kR 3 H rfl fun a H => ?_
       refine kG H rfl ?_; refine wl_call _ _ _ (last_l _ _ _ c c.code hcl rfl) (r_call1 cf33 (H.ev rfl)) ?_; rintro e w9 ⟨rfl, hb⟩; refine ⟨_, rfl, ?_⟩; replace hcl := ClAt.up hcl hb; replace hdl := ClAt.up hdl hb; replace hx9 := Outs.up hx9 hb; replace hy9 := Outs.up hy9 hb; replace hall := hall.tr hb; clear hb; refine kl H rfl fun a H => ?_
       refine kR 1 H rfl fun a H => ?_
       refine kG H rfl ?_; refine wl_call _ _ _ (last_l _ _ _ c c.code hdl rfl) (r_call1 cf33 (H.ev rfl)) ?_; rintro e w9 ⟨rfl, hb⟩; refine ⟨_, rfl, ?_⟩; replace hcl := ClAt.up hcl hb; replace hdl := ClAt.up hdl hb; replace hx9 := Outs.up hx9 hb; replace hy9 := Outs.up hy9 hb; replace hall := hall.tr hb; clear hb; refine kl H rfl fun a H => ?_
       refine kW H rfl (r_ne U46 (H.ev rfl) (H.ev rfl) (dec_f (by omega))) rfl fun a H => ?_
       refine kR 1 H rfl fun a H => ?_
       refine zA (zB (zG H rfl (zE (n_block (zB (zD ?_))))))
       refine kR 1 H rfl fun a H => ?_
       refine kV H (r_add (q := ((i + 1 : Nat) : Int)) U3 (H.ev rfl) evc (by omega) (by omega)) rfl fun a H => ?_
       refine kR 1 H rfl fun a H => ?_
       refine zA ?_
       refine zI ⟨⟨i + 1, _, _, _, H.pick [1, 2, 7, 9, 10, 13], by omega, hcl, hdl, hap, hall⟩, ?_⟩
       rw [H.ev (j := 13) rfl, H0.ev (j := 13) rfl]
       simp only [intOf]
       omega
     ·
      obtain rfl : i = L.length := by omega
      refine zC (zC (zD ?_))
      refine kR 2 H rfl fun a H => ?_
      refine kV H (r_len U22 (H.ev rfl)) rfl fun a H => ?_
      refine kV H (r_lt U3 (H.ev rfl) (H.ev rfl) (dec_f (by omega))) rfl fun a H => ?_
      refine zA (zB (zG H rfl (wp_exit (e_then (e_then ?_)))))
      refine e_here ?_
      refine zB (zC (zD ?_))
      refine kR 2 H rfl fun a H => ?_
      refine zA (zB (zF ?_))
      exact k_ret1 H rfl rfl ⟨rfl, hall⟩
    ·
     refine zB (zH H rfl (zC (zD ?_)))
     refine kR 2 H rfl fun a H => ?_
     refine zA (zB (zF (zJ ?_)))
     exact k_ret1 H rfl rfl ⟨rfl, hall⟩
set_option maxRecDepth 100000 in
theorem clientShut_lifted (os : Os) (started : os.Started) (H : Type) (enc : TypeId × Value → H) :
  ReturnsInHanded {} Tryz.checked os 8 .any (Rows.clientShutSpec.pre6 enc Tryz.prog Tryz.f8 Rows.clientShutRow.domain false) (Rows.clientShutSpec.post enc Tryz.prog Tryz.f8 false true false false) := by
 refine returnsInHanded_of_change (C := Tryz.checked) own started (by kernel_rfl) Tryz.func8
  (ChangeSpec.witness6 (enc := enc) (C := Tryz.checked) false ⟨#[], #[.int .i64 0, .slice none 0 0, .slice none 0 0], []⟩ 8 (by kernel_rfl) (by kernel_rfl) (by kernel_rfl) (by kernel_rfl)) ?_
 intro W base args ds gs before hval0 hW hcnd _
 have hval : ∀ (j : Nat) t v, Tryz.f8.params[j]? = some t → args[j]? = some v → Value.okWide Tryz.prog W .any base t v := hval0
 have hW' := hW
 obtain ⟨p, q, hA0, hV, rfl, hfz, hnd⟩ := hW
 have hA : DataW.TrodAll enc Tryz.prog W 0 (fun _ => true) true Tryz.f8.params.toList args.toList ds p := hA0
 rw [Tryz.params8] at hA hval
 obtain ⟨v0, vs0, d0, ds0, p0, q0, hargs, rfl, rfl, h0, r0⟩ := trodAll_cons hA
 obtain ⟨v1, vs1, d1, ds1, p1, q1, rfl, rfl, rfl, h1, r1⟩ := trodAll_cons r0
 obtain ⟨v2, vs2, d2, ds2, p2, q2, rfl, rfl, rfl, h2, r2⟩ := trodAll_cons r1
 obtain ⟨rfl, rfl, rfl⟩ := trodAll_nil r2
 obtain rfl : args = #[v0, v1, v2] := by cases args; simp_all
 obtain ⟨rfl, rfl⟩ := trodVars_none hV
 have k1 := h1
 have lt1 : ∀ x ∈ p1, x.block < W.heap.size := by obtain ⟨m, hm⟩ := k1; exact DataW.trod_lt m _ _ _ hm
 have k2 := h2
 have lt2 : ∀ x ∈ p2, x.block < W.heap.size := by obtain ⟨m, hm⟩ := k2; exact DataW.trod_lt m _ _ _ hm
 obtain ⟨u0, rfl, rfl, rfl, wu0⟩ := open_int U3 (hval 0 3 v0 rfl rfl) h0
 obtain ⟨L1, hL1⟩ := open_acts (hval 1 22 v1 rfl rfl) h1
 have hB2 : ∃ bs, BRow W v2 bs := open_bytes1 (hval 2 30 v2 rfl rfl) h2
 obtain ⟨bs2, hbs2⟩ := hB2
 clear hA0 hval0
 refine (shut_all W u0 v1 v2 L1 bs2 hL1 hbs2).mono fun e W' ⟨he, bel⟩ => ?_
 subst he
 exact ⟨_, rfl, _, _, _, [], _, [], hW', trodAll_mk1 (shut_bool U4 _), (trodAll_cons_mk (shut_int U3 wu0) (trodAll_cons_mk (Below.trod laidOut (by kernel_rfl) (of_decide_eq_true (by kernel_rfl)) k1 bel lt1) (trodAll_cons_mk (Below.trod laidOut (by kernel_rfl) (of_decide_eq_true (by kernel_rfl)) k2 bel lt2) trodAll_mk0))), rfl, bel.frame _, fun h => by cases h⟩
theorem clientShut_holds : Rows.ClientShutSaid :=
 OpenClaim.holds_of_wide 8 Tryz.f8 rfl rfl rfl rfl rfl rfl rfl ⟨rfl, rfl, rfl, rfl, rfl⟩ rfl rfl rfl rfl rfl (by kernel_rfl) Tryz.func8 (by kernel_rfl)
  (of_decide_eq_true (by kernel_rfl)) (by unfold Func.isWrapper; first | (rw [if_pos (by decide +kernel)]; kernel_rfl) | (rw [if_neg (by decide +kernel)]; exact ⟨rfl, rfl⟩))
  (fun os started H enc _ => clientShut_lifted os started H enc)
#print axioms clientShut_holds
end
end Go.Proofs.YtbnmpoonkjlkjaaGreat
