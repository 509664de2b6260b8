/- TimerOnce: the walk, and what it proves. -/
import Derived.Test.YtndpbciefijjcaaV
import Derived.Test.YtndpbciefijjcaaKk
import Derived.Test.YtndpbciefijjcaaKp
namespace Go.Proofs.Ytndpbciefijjcaa
open Go.ChangeShapes Go.WideShapes Go.ChangeAt Go.RowKit Go.Maps
set_option linter.unusedVariables false
set_option linter.unusedSimpArgs false

def SOn (W : World) (v : Value) (L : List Tm) (w : World) : Prop := Below W.heap.size W w ∧ TRow w v L
theorem SOn.up {W w w' : World} {v : Value} {L : List Tm} (h : SOn W v L w) (hb : Below w.heap.size w w') : SOn W v L w' := ⟨h.1.trans (hb.mono h.1.size), Row.up h.2 hb⟩
def OnI (W : World) (AV : Option Addr) (cV : Nat) (V : List Ac) (a : Act) (w : World) : Prop :=
  ∃ (k : Nat) (L : List Tm) (tv : Value), Kn a 238 [(0, tv), (1, .slice AV V.length cV), (5, .bool true), (6, .int .i64 (k : Nat))] ∧ k ≤ V.length ∧ TRow w tv L ∧ RightL L ∧ LWF L ∧ Below W.heap.size W w
def DuI (W : World) (V : List Ac) (b o cV k : Nat) (A : Option Addr) (c : Nat) (As : Option Addr) (cs : Nat) (Ai : Option Addr) (ci : Nat) (L : List Tm) (now : Int) (a : Act) (w : World) : Prop :=
  ∃ (m : Int) (j : Nat), Kn a 238 [(0, .slice A L.length c), (1, .slice (some ⟨b, o, none⟩) V.length cV), (5, .bool true), (6, .int .i64 (k : Nat)), (7, .int .i64 (L.length : Nat)), (20, .slice As (dueRest L now).length cs), (21, .slice Ai (dueIds L now).length ci), (22, .int .i64 m), (23, .int .i64 (j : Nat))] ∧
    j ≤ (dueIds L now).length ∧ LastOk L j m ∧ TRow w (.slice A L.length c) L ∧ TRow w (.slice As (dueRest L now).length cs) (dueRest L now) ∧ Holds w Ai (FV enc1 (dueIds L now)) ∧ Below W.heap.size W w
set_option maxHeartbeats 20000000 in
set_option maxRecDepth 100000 in
theorem once_walk (w : World) (v : Value) (L : List Tm) (AV : Option Addr) (cV : Nat) (V : List Ac) (h : TRow w v L) (hn : L.length ≤ 9223372036854775807) (hLW : LWF L) (hVn : V.length ≤ 9223372036854775807) (hVw0 : AWF V) (hhV0 : Holds w AV (FV encA V)) :
    Calls Try.prog 4 #[v, .slice AV V.length cV] w fun e w' => e = .returned (.bool true) ∧ Below w.heap.size w w' := by
  have hall := Below.refl w.heap.size w
  have hwf : Hid (∀ x ∈ L, (Lit.int .i64 x.1).wf = true) := Lib.hid fun x hx => (hLW x hx).1
  have hVw := Lib.hid hVw0
  have hhV := Lib.hid hhV0
  have HLW0 := Lib.hid hLW
  clear hVw0 hhV0 hLW
  by_cases h200 : 200 < V.length
  · skip
    refine K_enter 238 Try.func4 rfl rfl fun a H => ?_
    replace H := H.pick [0, 1]
    refine wp_seq ?_
    refine wp_region_lit ?_
    refine wl_v _ (r_assign evc) ?_; refine kl H rfl fun a H => ?_
    refine wpList_nil ?_
    refine c_next ?_
    refine wp_seq ?_
    refine wp_region_lit ?_
    refine wl_call _ _ _ (small_any _) (r_call0 cf7) ?_; rintro e w9 ⟨rfl, hb⟩; refine ⟨_, rfl, ?_⟩; replace h := Row.up h hb; replace hall := hall.trans (hb.mono hall.size); clear hb; refine kl H rfl fun a H => ?_
    refine wl_v _ (r_assign (H.ev rfl)) ?_; refine kl H rfl fun a H => ?_
    refine wpList_nil ?_
    refine c_next ?_
    refine wp_seq ?_
    refine wp_seq ?_
    refine wp_region_lit ?_
    refine wl_v _ (r_move (H.ev rfl)) ?_; refine kl H rfl fun a H => ?_
    refine wl_v _ (r_len Try.underlying23 (H.ev rfl)) ?_; refine kl H rfl fun a H => ?_
    refine wl_v _ (r_gt Try.underlying3 (H.ev rfl) evc (dec_t (by omega))) ?_; refine kl H rfl fun a H => ?_
    refine wl_v _ (r_move (H.ev rfl)) ?_; refine kl H rfl fun a H => ?_
    refine wl_s (kg_no rfl H rfl rfl rfl) ?_; refine kl H rfl fun a H => ?_
    refine wl_s (kg_no rfl H rfl rfl rfl) ?_; refine kl H rfl fun a H => ?_
    refine wl_s (kg_no rfl H rfl rfl rfl) ?_; refine kl H rfl fun a H => ?_
    refine wl_v _ (r_pick_t (H.ev rfl) evc) ?_; refine kl H rfl fun a H => ?_
    refine wpList_nil ?_
    refine c_next ?_
    refine c_cond_t H rfl ?_
    refine wp_seq ?_
    refine wp_region_lit ?_
    refine wl_v _ (r_move (H.ev rfl)) ?_; refine kl H rfl fun a H => ?_
    refine wl_v _ (r_assign (H.ev rfl)) ?_; refine kl H rfl fun a H => ?_
    refine wpList_nil ?_
    refine c_next ?_
    refine wp_ret ?_
    refine r_then ?_
    exact k_ret1 H rfl rfl ⟨rfl, hall⟩
  · skip
    cases hr : rightF L
    · skip
      have HR := Lib.hid hr
      clear hr
      refine K_enter 238 Try.func4 rfl rfl fun a H => ?_
      replace H := H.pick [0, 1]
      refine wp_seq ?_
      refine wp_region_lit ?_
      refine wl_v _ (r_assign evc) ?_; refine kl H rfl fun a H => ?_
      refine wpList_nil ?_
      refine c_next ?_
      refine wp_seq ?_
      refine wp_region_lit ?_
      refine wl_call _ _ _ (small_any _) (r_call0 cf7) ?_; rintro e w9 ⟨rfl, hb⟩; refine ⟨_, rfl, ?_⟩; replace h := Row.up h hb; replace hall := hall.trans (hb.mono hall.size); clear hb; refine kl H rfl fun a H => ?_
      refine wl_v _ (r_assign (H.ev rfl)) ?_; refine kl H rfl fun a H => ?_
      refine wpList_nil ?_
      refine c_next ?_
      refine wp_seq ?_
      refine wp_seq ?_
      refine wp_region_lit ?_
      refine wl_v _ (r_move (H.ev rfl)) ?_; refine kl H rfl fun a H => ?_
      refine wl_v _ (r_len Try.underlying23 (H.ev rfl)) ?_; refine kl H rfl fun a H => ?_
      refine wl_v _ (r_gt Try.underlying3 (H.ev rfl) evc (dec_f (by omega))) ?_; refine kl H rfl fun a H => ?_
      refine wl_v _ (r_move (H.ev rfl)) ?_; refine kl H rfl fun a H => ?_
      refine op_unguard _ _ (kg_yes rfl H rfl rfl rfl) ?_; refine wl_v _ (r_move (H.ev rfl)) ?_; refine kl H rfl fun a H => ?_
      refine op_unguard _ _ (kg_yes rfl H rfl rfl rfl) ?_; refine wl_call _ _ _ (right_any _ _ L h hn hwf.out) (r_call1 cf8 (H.ev rfl)) ?_; rintro e w9 ⟨rfl, hb⟩; refine ⟨_, rfl, ?_⟩; rw [HR.out]; replace h := Row.up h hb; replace hall := hall.trans (hb.mono hall.size); clear hb; refine kl H rfl fun a H => ?_
      refine op_unguard _ _ (kg_yes rfl H rfl rfl rfl) ?_; refine wl_v _ (r_not (H.ev rfl) rfl) ?_; refine kl H rfl fun a H => ?_
      refine wl_v _ (r_pick_f (H.ev rfl) (H.ev rfl)) ?_; refine kl H rfl fun a H => ?_
      refine wpList_nil ?_
      refine c_next ?_
      refine c_cond_t H rfl ?_
      refine wp_seq ?_
      refine wp_region_lit ?_
      refine wl_v _ (r_move (H.ev rfl)) ?_; refine kl H rfl fun a H => ?_
      refine wl_v _ (r_assign (H.ev rfl)) ?_; refine kl H rfl fun a H => ?_
      refine wpList_nil ?_
      refine c_next ?_
      refine wp_ret ?_
      refine r_then ?_
      exact k_ret1 H rfl rfl ⟨rfl, hall⟩
    · skip
      have hR := Lib.hid ((right_iff L).1 hr)
      have HR := Lib.hid hr
      clear hr
      refine K_enter 238 Try.func4 rfl rfl fun a H => ?_
      replace H := H.pick [0, 1]
      refine wp_seq ?_
      refine wp_region_lit ?_
      refine wl_v _ (r_assign evc) ?_; refine kl H rfl fun a H => ?_
      refine wpList_nil ?_
      refine c_next ?_
      refine wp_seq ?_
      refine wp_region_lit ?_
      refine wl_call _ _ _ (small_any _) (r_call0 cf7) ?_; rintro e w9 ⟨rfl, hb⟩; refine ⟨_, rfl, ?_⟩; replace h := Row.up h hb; replace hall := hall.trans (hb.mono hall.size); clear hb; refine kl H rfl fun a H => ?_
      refine wl_v _ (r_assign (H.ev rfl)) ?_; refine kl H rfl fun a H => ?_
      refine wpList_nil ?_
      refine c_next ?_
      refine wp_seq ?_
      refine wp_seq ?_
      refine wp_region_lit ?_
      refine wl_v _ (r_move (H.ev rfl)) ?_; refine kl H rfl fun a H => ?_
      refine wl_v _ (r_len Try.underlying23 (H.ev rfl)) ?_; refine kl H rfl fun a H => ?_
      refine wl_v _ (r_gt Try.underlying3 (H.ev rfl) evc (dec_f (by omega))) ?_; refine kl H rfl fun a H => ?_
      refine wl_v _ (r_move (H.ev rfl)) ?_; refine kl H rfl fun a H => ?_
      refine op_unguard _ _ (kg_yes rfl H rfl rfl rfl) ?_; refine wl_v _ (r_move (H.ev rfl)) ?_; refine kl H rfl fun a H => ?_
      refine op_unguard _ _ (kg_yes rfl H rfl rfl rfl) ?_; refine wl_call _ _ _ (right_any _ _ L h hn hwf.out) (r_call1 cf8 (H.ev rfl)) ?_; rintro e w9 ⟨rfl, hb⟩; refine ⟨_, rfl, ?_⟩; rw [HR.out]; replace h := Row.up h hb; replace hall := hall.trans (hb.mono hall.size); clear hb; refine kl H rfl fun a H => ?_
      refine op_unguard _ _ (kg_yes rfl H rfl rfl rfl) ?_; refine wl_v _ (r_not (H.ev rfl) rfl) ?_; refine kl H rfl fun a H => ?_
      refine wl_v _ (r_pick_f (H.ev rfl) (H.ev rfl)) ?_; refine kl H rfl fun a H => ?_
      refine wpList_nil ?_
      refine c_next ?_
      refine c_cond_f H rfl ?_
      refine wp_skip ?_
      refine c_next ?_
      refine wp_seq ?_
      refine wp_seq ?_
      refine wp_region_lit ?_
      refine wl_v _ (r_assign evc) ?_; refine kl H rfl fun a H => ?_
      refine wpList_nil ?_
      refine c_next ?_
      refine wp_block ?_
      refine wp_loop (OnI w AV cV V) (fun a _ => V.length - (intOf (a.eval (.tmp 6))).toNat) ⟨0, L, v, H.pick [0, 1, 5, 6], by omega, h, hR.out, HLW0.out, hall⟩ ?_
      clear hall h HLW0 hR HR hwf hn H
      rintro a w' ⟨k, L, tv, H, hk, h, hR, hL, hall⟩
      have H0 := H
      obtain ⟨A, c, rfl, e1, e2, e3, e4⟩ := h
      have h : TRow w' (.slice A L.length c) L := ⟨A, c, rfl, e1, e2, e3, e4⟩
      clear e1 e2 e3 e4
      by_cases hlt : k < V.length
      · skip
        obtain ⟨b, o, hA, hr⟩ := flat_some encA_len hhV.out (by omega) hlt
        subst hA
        have hyw := hVw.out V[k] (List.getElem_mem _)
        have hltI : (k : Int) < V.length := by omega
        generalize V[k] = y at *
        obtain ⟨d, id, at'⟩ := y
        have HRG : Hid (w.rangeAt b (o + k * 3) [.int .i64 d, .int .i64 id, .int .i64 at']) := Lib.hid hr
        have HYW := Lib.hid hyw
        have hl := hR.2.2
        have HRL := Lib.hid hR
        have HLW := Lib.hid hL
        clear hr hyw hR hL
        refine wp_seq ?_
        refine wp_seq ?_
        refine wp_region_lit ?_
        refine wl_v _ (r_move (H.ev rfl)) ?_; refine kl H rfl fun a H => ?_
        refine wl_v _ (r_move (H.ev rfl)) ?_; refine kl H rfl fun a H => ?_
        refine wl_v _ (r_len Try.underlying23 (H.ev rfl)) ?_; refine kl H rfl fun a H => ?_
        refine wl_v _ (r_lt Try.underlying3 (H.ev rfl) (H.ev rfl) (dec_t (by omega))) ?_; refine kl H rfl fun a H => ?_
        refine wpList_nil ?_
        refine c_next ?_
        refine c_cond_t H rfl ?_
        refine wp_skip ?_
        refine c_next ?_
        refine wp_seq ?_
        refine wp_block ?_
        refine wp_seq ?_
        refine wp_region_lit ?_
        refine wl_v _ (r_move (H.ev rfl)) ?_; refine kl H rfl fun a H => ?_
        refine wl_v _ (r_len Try.underlying22 (H.ev rfl)) ?_; refine kl H rfl fun a H => ?_
        refine wl_v _ (r_assign (H.ev rfl)) ?_; refine kl H rfl fun a H => ?_
        refine wpList_nil ?_
        refine c_next ?_
        refine wp_seq ?_
        refine wp_seq ?_
        refine wp_region_lit ?_
        refine wl_v _ (r_move (H.ev rfl)) ?_; refine kl H rfl fun a H => ?_
        refine wl_v _ (r_move (H.ev rfl)) ?_; refine kl H rfl fun a H => ?_
        refine wl_v _ (r_idx (j := k) (q := o + k * 3) Try.underlying23 s27 (H.ev rfl) (H.ev rfl) (by omega) rfl) ?_; refine kl H rfl fun a H => ?_
        refine wl_v _ (r_fld (q := o + k * 3) fld27_0 (H.ev rfl) rfl) ?_; refine kl H rfl fun a H => ?_
        refine wl_v _ (r_ld Try.underlying3 rfl (H.ev rfl) (range_cell (range_ups HRG.out hall) 0 rfl)) ?_; refine kl H rfl fun a H => ?_
        refine wpList_nil ?_
        refine c_next ?_
        refine wp_block ?_
        refine wp_seq ?_
        by_cases hd : d = 0
        · obtain rfl : d = 0 := hd
          refine wp_region_lit ?_
          refine wl_v _ (r_eq Try.underlying3 (H.ev rfl) evc (dec_t (by omega))) ?_; refine kl H rfl fun a H => ?_
          refine wl_v _ (r_assign (H.ev rfl)) ?_; refine kl H rfl fun a H => ?_
          refine wpList_nil ?_
          refine c_next ?_
          refine c_cond_t H rfl ?_
          refine wp_seq ?_
          obtain ⟨s1, s2, s3⟩ := set_same HRL.out id at'
          have hls := (HRL.out.set id at').2.2
          have HMO : Hid (Mono (clrF L id) (id, at')) := Lib.hid (mono_of (HRL.out.clr id).1 _)
          have hcl := clr_length (L := L) (id := id)
          obtain ⟨had, hhad⟩ : ∃ had, hasF L id = had := ⟨_, rfl⟩
          obtain ⟨ok, hok⟩ : ∃ ok, setOk L id = ok := ⟨_, rfl⟩
          rw [hhad] at hcl
          have hcase : (had = true ∧ ok = true) ∨ (had = false ∧ ok = true ∧ L.length < 64) ∨ (had = false ∧ ok = false ∧ 64 ≤ L.length) := by
            unfold setOk at hok
            cases had
            · simp at hcl
              rw [hcl] at hok
              by_cases h64 : L.length < 64
              · exact .inr (.inl ⟨rfl, by rw [← hok]; simp [h64], h64⟩)
              · exact .inr (.inr ⟨rfl, by rw [← hok]; simp [h64], by omega⟩)
            · simp at hcl
              have : 0 < L.length := by cases L with | nil => cases hhad | cons _ _ => simp
              exact .inl ⟨rfl, by rw [← hok]; simp; omega⟩
          have HHAD := Lib.hid hhad
          have HOK := Lib.hid hok
          have HS1 := Lib.hid (s1.trans hok)
          have HS2 : Hid (ok = true → atF (setF L id at') id = at') := Lib.hid (fun e => s2 (hok.trans e))
          clear s1 s2 s3 hcl hhad hok
          rcases hcase with ⟨rfl, rfl⟩ | ⟨rfl, rfl, h64⟩ | ⟨rfl, rfl, h64⟩
          · skip
            refine wp_region_lit ?_
            refine wl_v _ (r_move (H.ev rfl)) ?_; refine kl H rfl fun a H => ?_
            refine wl_v _ (r_move (H.ev rfl)) ?_; refine kl H rfl fun a H => ?_
            refine wl_v _ (r_move (H.ev rfl)) ?_; refine kl H rfl fun a H => ?_
            refine wl_v _ (r_idx (j := k) (q := o + k * 3) Try.underlying23 s27 (H.ev rfl) (H.ev rfl) (by omega) rfl) ?_; refine kl H rfl fun a H => ?_
            refine wl_v _ (r_fld (q := o + k * 3 + 1) fld27_1 (H.ev rfl) rfl) ?_; refine kl H rfl fun a H => ?_
            refine wl_v _ (r_ld Try.underlying3 rfl (H.ev rfl) (range_cell (range_ups HRG.out hall) 1 rfl)) ?_; refine kl H rfl fun a H => ?_
            refine wl_call _ _ _ (at_any _ _ L id h (by omega)) (r_call2 cf17 (H.ev rfl) (H.ev rfl)) ?_; rintro e w9 ⟨rfl, hb⟩; refine ⟨_, rfl, ?_⟩; rw [HHAD.out]; replace h := Row.up h hb; replace hall := hall.trans (hb.mono hall.size); clear hb; refine kl H rfl fun a H => ?_
            refine wl_v _ (r_move (H.ev rfl)) ?_; refine kl H rfl fun a H => ?_
            refine wl_v _ (r_extract (H.ev rfl) rfl) ?_; refine kl H rfl fun a H => ?_
            refine wl_v _ (r_extract (H.ev rfl) rfl) ?_; refine kl H rfl fun a H => ?_
            refine wl_v _ (r_assign (H.ev rfl)) ?_; refine kl H rfl fun a H => ?_
            refine wl_v _ (r_assign (H.ev rfl)) ?_; refine kl H rfl fun a H => ?_
            refine wpList_nil ?_
            refine c_next ?_
            refine wp_seq ?_
            have hS : SOn w (.slice A L.length c) L _ := ⟨hall.drew, h⟩
            refine region_pi (SOn w (.slice A L.length c) L) [(0, true), (1, true), (2, true), (3, true), (4, true), (5, true), (6, true), (7, true), (8, true), (9, true), (10, true), (11, false), (12, true), (13, true), (14, true), (15, true), (16, true)] (by kernel_rfl) (by kernel_rfl) rfl (by kernel_rfl) hS ?_
            clear hall h
            refine pi_f0 _ rfl (fun w' hS' => r_move (H.ev rfl)) ?_; refine kp H rfl fun a H => ?_
            refine pi_f0 _ rfl (fun w' hS' => r_move (H.ev rfl)) ?_; refine kp H rfl fun a H => ?_
            refine pi_f0 _ rfl (fun w' hS' => r_move (H.ev rfl)) ?_; refine kp H rfl fun a H => ?_
            refine pi_f0 _ rfl (fun w' hS' => r_idx (j := k) (q := o + k * 3) Try.underlying23 s27 (H.ev rfl) (H.ev rfl) (by omega) rfl) ?_; refine kp H rfl fun a H => ?_
            refine pi_f0 _ rfl (fun w' hS' => r_fld (q := o + k * 3 + 1) fld27_1 (H.ev rfl) rfl) ?_; refine kp H rfl fun a H => ?_
            refine pi_f0 _ rfl (fun w' hS' => r_ld Try.underlying3 rfl (H.ev rfl) (range_cell (range_ups HRG.out hS'.1) 1 rfl)) ?_; refine kp H rfl fun a H => ?_
            refine pi_f0 _ rfl (fun w' hS' => r_move (H.ev rfl)) ?_; refine kp H rfl fun a H => ?_
            refine pi_f0 _ rfl (fun w' hS' => r_move (H.ev rfl)) ?_; refine kp H rfl fun a H => ?_
            refine pi_f0 _ rfl (fun w' hS' => r_idx (j := k) (q := o + k * 3) Try.underlying23 s27 (H.ev rfl) (H.ev rfl) (by omega) rfl) ?_; refine kp H rfl fun a H => ?_
            refine pi_f0 _ rfl (fun w' hS' => r_fld (q := o + k * 3 + 2) fld27_2 (H.ev rfl) rfl) ?_; refine kp H rfl fun a H => ?_
            refine pi_f0 _ rfl (fun w' hS' => r_ld Try.underlying3 rfl (H.ev rfl) (range_cell (range_ups HRG.out hS'.1) 2 rfl)) ?_; refine kp H rfl fun a H => ?_
            refine pi_a0 rfl (fun K hK => ?_); refine wpo_call _ _ _ (set_any _ _ L id at' hS.2 (by omega) HMO.out) (r_call3 cf10 (H.ev rfl) (H.ev rfl) (H.ev rfl)) ?_; rintro e w9 ⟨⟨vs, rfl, hs⟩, hb9⟩; refine ⟨_, rfl, ?_⟩; rw [HOK.out]; replace hs := TOwn.row hs; replace hS := hS.up hb9; clear hb9; refine hK _ _ ⟨hS, ?_⟩; clear hK; clear K; refine kp H rfl fun a H => ?_
            refine pi_f0 _ rfl (fun w' hS' => r_move (H.ev rfl)) ?_; refine kp H rfl fun a H => ?_
            refine pi_f0 _ rfl (fun w' hS' => r_extract (H.ev rfl) rfl) ?_; refine kp H rfl fun a H => ?_
            refine pi_f0 _ rfl (fun w' hS' => r_extract (H.ev rfl) rfl) ?_; refine kp H rfl fun a H => ?_
            refine pi_f0 _ rfl (fun w' hS' => r_assign (H.ev rfl)) ?_; refine kp H rfl fun a H => ?_
            refine pi_f0 _ rfl (fun w' hS' => r_assign (H.ev rfl)) ?_; refine kp H rfl fun a H => ?_
            refine pi_nil (NoPanic.normal ?_)
            have hall := hS.1
            have h := hS.2
            clear hS
            obtain ⟨As, cs, rfl, e1, e2, e3, e4⟩ := hs
            have hs : TRow _ (.slice As (setF L id at').length cs) (setF L id at') := ⟨As, cs, rfl, e1, e2, e3, e4⟩
            clear e1 e2 e3 e4
            refine c_next ?_
            refine wp_seq ?_
            refine wp_region_lit ?_
            refine wl_v _ (r_move (H.ev rfl)) ?_; refine kl H rfl fun a H => ?_
            refine wl_v _ (r_move (H.ev rfl)) ?_; refine kl H rfl fun a H => ?_
            refine wl_v _ (r_move (H.ev rfl)) ?_; refine kl H rfl fun a H => ?_
            refine wl_v _ (r_idx (j := k) (q := o + k * 3) Try.underlying23 s27 (H.ev rfl) (H.ev rfl) (by omega) rfl) ?_; refine kl H rfl fun a H => ?_
            refine wl_v _ (r_fld (q := o + k * 3 + 1) fld27_1 (H.ev rfl) rfl) ?_; refine kl H rfl fun a H => ?_
            refine wl_v _ (r_ld Try.underlying3 rfl (H.ev rfl) (range_cell (range_ups HRG.out hall) 1 rfl)) ?_; refine kl H rfl fun a H => ?_
            refine wl_call _ _ _ (at_any _ _ (setF L id at') id hs (by omega)) (r_call2 cf17 (H.ev rfl) (H.ev rfl)) ?_; rintro e w9 ⟨rfl, hb⟩; refine ⟨_, rfl, ?_⟩; rw [HS1.out]; rw [HS2.out rfl]; replace h := Row.up h hb; replace hs := Row.up hs hb; replace hall := hall.trans (hb.mono hall.size); clear hb; refine kl H rfl fun a H => ?_
            refine wl_v _ (r_move (H.ev rfl)) ?_; refine kl H rfl fun a H => ?_
            refine wl_v _ (r_extract (H.ev rfl) rfl) ?_; refine kl H rfl fun a H => ?_
            refine wl_v _ (r_extract (H.ev rfl) rfl) ?_; refine kl H rfl fun a H => ?_
            refine wl_v _ (r_assign (H.ev rfl)) ?_; refine kl H rfl fun a H => ?_
            refine wl_v _ (r_assign (H.ev rfl)) ?_; refine kl H rfl fun a H => ?_
            refine wpList_nil ?_
            refine c_next ?_
            refine wp_seq ?_
            refine wp_seq ?_
            refine wp_region_lit ?_
            refine wl_v _ (r_move (H.ev rfl)) ?_; refine kl H rfl fun a H => ?_
            refine wl_v _ (r_move (H.ev rfl)) ?_; refine kl H rfl fun a H => ?_
            refine wl_v _ (r_move (H.ev rfl)) ?_; refine kl H rfl fun a H => ?_
            refine wl_s (kg_no rfl H rfl rfl rfl) ?_; refine kl H rfl fun a H => ?_
            refine wl_s (kg_no rfl H rfl rfl rfl) ?_; refine kl H rfl fun a H => ?_
            refine wl_v _ (r_pick_t (H.ev rfl) evc) ?_; refine kl H rfl fun a H => ?_
            refine wl_v _ (r_bne Try.underlying4 (H.ev rfl) (H.ev rfl) rfl) ?_; refine kl H rfl fun a H => ?_
            refine wl_v _ (r_move (H.ev rfl)) ?_; refine kl H rfl fun a H => ?_
            refine op_unguard _ _ (kg_yes rfl H rfl rfl rfl) ?_; refine wl_v _ (r_move (H.ev rfl)) ?_; refine kl H rfl fun a H => ?_
            refine op_unguard _ _ (kg_yes rfl H rfl rfl rfl) ?_; refine wl_v _ (r_move (H.ev rfl)) ?_; refine kl H rfl fun a H => ?_
            refine op_unguard _ _ (kg_yes rfl H rfl rfl rfl) ?_; refine wl_v _ (r_bne Try.underlying4 (H.ev rfl) (H.ev rfl) rfl) ?_; refine kl H rfl fun a H => ?_
            refine wl_v _ (r_pick_f (H.ev rfl) (H.ev rfl)) ?_; refine kl H rfl fun a H => ?_
            refine wl_v _ (r_move (H.ev rfl)) ?_; refine kl H rfl fun a H => ?_
            refine op_unguard _ _ (kg_yes rfl H rfl rfl rfl) ?_; refine wl_v _ (r_move (H.ev rfl)) ?_; refine kl H rfl fun a H => ?_
            refine op_unguard _ _ (kg_yes rfl H rfl rfl rfl) ?_; refine wl_v _ (r_move (H.ev rfl)) ?_; refine kl H rfl fun a H => ?_
            refine op_unguard _ _ (kg_yes rfl H rfl rfl rfl) ?_; refine wl_v _ (r_move (H.ev rfl)) ?_; refine kl H rfl fun a H => ?_
            refine op_unguard _ _ (kg_yes rfl H rfl rfl rfl) ?_; refine wl_v _ (r_move (H.ev rfl)) ?_; refine kl H rfl fun a H => ?_
            refine op_unguard _ _ (kg_yes rfl H rfl rfl rfl) ?_; refine wl_v _ (r_move (H.ev rfl)) ?_; refine kl H rfl fun a H => ?_
            refine op_unguard _ _ (kg_yes rfl H rfl rfl rfl) ?_; refine wl_v _ (r_idx (j := k) (q := o + k * 3) Try.underlying23 s27 (H.ev rfl) (H.ev rfl) (by omega) rfl) ?_; refine kl H rfl fun a H => ?_
            refine op_unguard _ _ (kg_yes rfl H rfl rfl rfl) ?_; refine wl_v _ (r_fld (q := o + k * 3 + 2) fld27_2 (H.ev rfl) rfl) ?_; refine kl H rfl fun a H => ?_
            refine op_unguard _ _ (kg_yes rfl H rfl rfl rfl) ?_; refine wl_v _ (r_ld Try.underlying3 rfl (H.ev rfl) (range_cell (range_ups HRG.out hall) 2 rfl)) ?_; refine kl H rfl fun a H => ?_
            refine op_unguard _ _ (kg_yes rfl H rfl rfl rfl) ?_; refine wl_v _ (r_ne Try.underlying3 (H.ev rfl) (H.ev rfl) (dec_f (by omega))) ?_; refine kl H rfl fun a H => ?_
            refine op_unguard _ _ (kg_yes rfl H rfl rfl rfl) ?_; refine wl_v _ (r_pick_t (H.ev rfl) (H.ev rfl)) ?_; refine kl H rfl fun a H => ?_
            refine wl_v _ (r_pick_f (H.ev rfl) (H.ev rfl)) ?_; refine kl H rfl fun a H => ?_
            refine wl_v _ (r_move (H.ev rfl)) ?_; refine kl H rfl fun a H => ?_
            refine op_unguard _ _ (kg_yes rfl H rfl rfl rfl) ?_; refine wl_v _ (r_move (H.ev rfl)) ?_; refine kl H rfl fun a H => ?_
            refine op_unguard _ _ (kg_yes rfl H rfl rfl rfl) ?_; refine wl_v _ (r_len Try.underlying22 (H.ev rfl)) ?_; refine kl H rfl fun a H => ?_
            refine op_unguard _ _ (kg_yes rfl H rfl rfl rfl) ?_; refine wl_v _ (r_gt Try.underlying3 (H.ev rfl) evc (dec_f (by omega))) ?_; refine kl H rfl fun a H => ?_
            refine wl_v _ (r_pick_f (H.ev rfl) (H.ev rfl)) ?_; refine kl H rfl fun a H => ?_
            refine wpList_nil ?_
            refine c_next ?_
            refine c_cond_f H rfl ?_
            refine wp_skip ?_
            refine c_next ?_
            clear h
            refine wp_region_lit ?_
            refine wl_v _ (r_move (H.ev rfl)) ?_; refine kl H rfl fun a H => ?_
            refine wl_v _ (r_assign (H.ev rfl)) ?_; refine kl H rfl fun a H => ?_
            refine wpList_nil ?_
            refine n_block ?_
            refine c_next ?_
            refine wp_seq ?_
            refine wp_region_lit ?_
            refine wl_v _ (r_move (H.ev rfl)) ?_; refine kl H rfl fun a H => ?_
            refine wl_call _ _ _ (right_any _ _ (setF L id at') hs (by omega) (fun x hx => (HLW.out.set HYW.out.2.1 HYW.out.2.2 x hx).1)) (r_call1 cf8 (H.ev rfl)) ?_; rintro e w9 ⟨rfl, hb⟩; refine ⟨_, rfl, ?_⟩; rw [(right_iff (setF L id at')).2 (HRL.out.set id at')]; replace hs := Row.up hs hb; replace hall := hall.trans (hb.mono hall.size); clear hb; refine kl H rfl fun a H => ?_
            refine wl_v _ (r_not (H.ev rfl) rfl) ?_; refine kl H rfl fun a H => ?_
            refine wpList_nil ?_
            refine c_next ?_
            refine c_cond_f H rfl ?_
            refine wp_skip ?_
            refine n_block ?_
            refine c_next ?_
            refine wp_region_lit ?_
            refine wl_v _ (r_move (H.ev rfl)) ?_; refine kl H rfl fun a H => ?_
            refine wl_v _ (r_add (q := ((k + 1 : Nat) : Int)) Try.underlying3 (H.ev rfl) evc (by omega) (by omega)) ?_; refine kl H rfl fun a H => ?_
            refine wl_v _ (r_assign (H.ev rfl)) ?_; refine kl H rfl fun a H => ?_
            refine wpList_nil ?_
            refine n_then ⟨⟨k + 1, (setF L id at'), _, H.pick [0, 1, 5, 6], by omega, hs, HRL.out.set id at', HLW.out.set HYW.out.2.1 HYW.out.2.2, hall⟩, ?_⟩
            rw [H.ev (j := 6) rfl, H0.ev (j := 6) rfl]
            simp only [intOf]
            omega
          · skip
            refine wp_region_lit ?_
            refine wl_v _ (r_move (H.ev rfl)) ?_; refine kl H rfl fun a H => ?_
            refine wl_v _ (r_move (H.ev rfl)) ?_; refine kl H rfl fun a H => ?_
            refine wl_v _ (r_move (H.ev rfl)) ?_; refine kl H rfl fun a H => ?_
            refine wl_v _ (r_idx (j := k) (q := o + k * 3) Try.underlying23 s27 (H.ev rfl) (H.ev rfl) (by omega) rfl) ?_; refine kl H rfl fun a H => ?_
            refine wl_v _ (r_fld (q := o + k * 3 + 1) fld27_1 (H.ev rfl) rfl) ?_; refine kl H rfl fun a H => ?_
            refine wl_v _ (r_ld Try.underlying3 rfl (H.ev rfl) (range_cell (range_ups HRG.out hall) 1 rfl)) ?_; refine kl H rfl fun a H => ?_
            refine wl_call _ _ _ (at_any _ _ L id h (by omega)) (r_call2 cf17 (H.ev rfl) (H.ev rfl)) ?_; rintro e w9 ⟨rfl, hb⟩; refine ⟨_, rfl, ?_⟩; rw [HHAD.out]; replace h := Row.up h hb; replace hall := hall.trans (hb.mono hall.size); clear hb; refine kl H rfl fun a H => ?_
            refine wl_v _ (r_move (H.ev rfl)) ?_; refine kl H rfl fun a H => ?_
            refine wl_v _ (r_extract (H.ev rfl) rfl) ?_; refine kl H rfl fun a H => ?_
            refine wl_v _ (r_extract (H.ev rfl) rfl) ?_; refine kl H rfl fun a H => ?_
            refine wl_v _ (r_assign (H.ev rfl)) ?_; refine kl H rfl fun a H => ?_
            refine wl_v _ (r_assign (H.ev rfl)) ?_; refine kl H rfl fun a H => ?_
            refine wpList_nil ?_
            refine c_next ?_
            refine wp_seq ?_
            have hS : SOn w (.slice A L.length c) L _ := ⟨hall.drew, h⟩
            refine region_pi (SOn w (.slice A L.length c) L) [(0, true), (1, true), (2, true), (3, true), (4, true), (5, true), (6, true), (7, true), (8, true), (9, true), (10, true), (11, false), (12, true), (13, true), (14, true), (15, true), (16, true)] (by kernel_rfl) (by kernel_rfl) rfl (by kernel_rfl) hS ?_
            clear hall h
            refine pi_f0 _ rfl (fun w' hS' => r_move (H.ev rfl)) ?_; refine kp H rfl fun a H => ?_
            refine pi_f0 _ rfl (fun w' hS' => r_move (H.ev rfl)) ?_; refine kp H rfl fun a H => ?_
            refine pi_f0 _ rfl (fun w' hS' => r_move (H.ev rfl)) ?_; refine kp H rfl fun a H => ?_
            refine pi_f0 _ rfl (fun w' hS' => r_idx (j := k) (q := o + k * 3) Try.underlying23 s27 (H.ev rfl) (H.ev rfl) (by omega) rfl) ?_; refine kp H rfl fun a H => ?_
            refine pi_f0 _ rfl (fun w' hS' => r_fld (q := o + k * 3 + 1) fld27_1 (H.ev rfl) rfl) ?_; refine kp H rfl fun a H => ?_
            refine pi_f0 _ rfl (fun w' hS' => r_ld Try.underlying3 rfl (H.ev rfl) (range_cell (range_ups HRG.out hS'.1) 1 rfl)) ?_; refine kp H rfl fun a H => ?_
            refine pi_f0 _ rfl (fun w' hS' => r_move (H.ev rfl)) ?_; refine kp H rfl fun a H => ?_
            refine pi_f0 _ rfl (fun w' hS' => r_move (H.ev rfl)) ?_; refine kp H rfl fun a H => ?_
            refine pi_f0 _ rfl (fun w' hS' => r_idx (j := k) (q := o + k * 3) Try.underlying23 s27 (H.ev rfl) (H.ev rfl) (by omega) rfl) ?_; refine kp H rfl fun a H => ?_
            refine pi_f0 _ rfl (fun w' hS' => r_fld (q := o + k * 3 + 2) fld27_2 (H.ev rfl) rfl) ?_; refine kp H rfl fun a H => ?_
            refine pi_f0 _ rfl (fun w' hS' => r_ld Try.underlying3 rfl (H.ev rfl) (range_cell (range_ups HRG.out hS'.1) 2 rfl)) ?_; refine kp H rfl fun a H => ?_
            refine pi_a0 rfl (fun K hK => ?_); refine wpo_call _ _ _ (set_any _ _ L id at' hS.2 (by omega) HMO.out) (r_call3 cf10 (H.ev rfl) (H.ev rfl) (H.ev rfl)) ?_; rintro e w9 ⟨⟨vs, rfl, hs⟩, hb9⟩; refine ⟨_, rfl, ?_⟩; rw [HOK.out]; replace hs := TOwn.row hs; replace hS := hS.up hb9; clear hb9; refine hK _ _ ⟨hS, ?_⟩; clear hK; clear K; refine kp H rfl fun a H => ?_
            refine pi_f0 _ rfl (fun w' hS' => r_move (H.ev rfl)) ?_; refine kp H rfl fun a H => ?_
            refine pi_f0 _ rfl (fun w' hS' => r_extract (H.ev rfl) rfl) ?_; refine kp H rfl fun a H => ?_
            refine pi_f0 _ rfl (fun w' hS' => r_extract (H.ev rfl) rfl) ?_; refine kp H rfl fun a H => ?_
            refine pi_f0 _ rfl (fun w' hS' => r_assign (H.ev rfl)) ?_; refine kp H rfl fun a H => ?_
            refine pi_f0 _ rfl (fun w' hS' => r_assign (H.ev rfl)) ?_; refine kp H rfl fun a H => ?_
            refine pi_nil (NoPanic.normal ?_)
            have hall := hS.1
            have h := hS.2
            clear hS
            obtain ⟨As, cs, rfl, e1, e2, e3, e4⟩ := hs
            have hs : TRow _ (.slice As (setF L id at').length cs) (setF L id at') := ⟨As, cs, rfl, e1, e2, e3, e4⟩
            clear e1 e2 e3 e4
            refine c_next ?_
            refine wp_seq ?_
            refine wp_region_lit ?_
            refine wl_v _ (r_move (H.ev rfl)) ?_; refine kl H rfl fun a H => ?_
            refine wl_v _ (r_move (H.ev rfl)) ?_; refine kl H rfl fun a H => ?_
            refine wl_v _ (r_move (H.ev rfl)) ?_; refine kl H rfl fun a H => ?_
            refine wl_v _ (r_idx (j := k) (q := o + k * 3) Try.underlying23 s27 (H.ev rfl) (H.ev rfl) (by omega) rfl) ?_; refine kl H rfl fun a H => ?_
            refine wl_v _ (r_fld (q := o + k * 3 + 1) fld27_1 (H.ev rfl) rfl) ?_; refine kl H rfl fun a H => ?_
            refine wl_v _ (r_ld Try.underlying3 rfl (H.ev rfl) (range_cell (range_ups HRG.out hall) 1 rfl)) ?_; refine kl H rfl fun a H => ?_
            refine wl_call _ _ _ (at_any _ _ (setF L id at') id hs (by omega)) (r_call2 cf17 (H.ev rfl) (H.ev rfl)) ?_; rintro e w9 ⟨rfl, hb⟩; refine ⟨_, rfl, ?_⟩; rw [HS1.out]; rw [HS2.out rfl]; replace h := Row.up h hb; replace hs := Row.up hs hb; replace hall := hall.trans (hb.mono hall.size); clear hb; refine kl H rfl fun a H => ?_
            refine wl_v _ (r_move (H.ev rfl)) ?_; refine kl H rfl fun a H => ?_
            refine wl_v _ (r_extract (H.ev rfl) rfl) ?_; refine kl H rfl fun a H => ?_
            refine wl_v _ (r_extract (H.ev rfl) rfl) ?_; refine kl H rfl fun a H => ?_
            refine wl_v _ (r_assign (H.ev rfl)) ?_; refine kl H rfl fun a H => ?_
            refine wl_v _ (r_assign (H.ev rfl)) ?_; refine kl H rfl fun a H => ?_
            refine wpList_nil ?_
            refine c_next ?_
            refine wp_seq ?_
            refine wp_seq ?_
            refine wp_region_lit ?_
            refine wl_v _ (r_move (H.ev rfl)) ?_; refine kl H rfl fun a H => ?_
            refine wl_v _ (r_move (H.ev rfl)) ?_; refine kl H rfl fun a H => ?_
            refine wl_v _ (r_move (H.ev rfl)) ?_; refine kl H rfl fun a H => ?_
            refine op_unguard _ _ (kg_yes rfl H rfl rfl rfl) ?_; refine wl_v _ (r_move (H.ev rfl)) ?_; refine kl H rfl fun a H => ?_
            refine op_unguard _ _ (kg_yes rfl H rfl rfl rfl) ?_; refine wl_v _ (r_lt Try.underlying3 (H.ev rfl) evc (dec_t (by omega))) ?_; refine kl H rfl fun a H => ?_
            refine wl_v _ (r_pick_f (H.ev rfl) (H.ev rfl)) ?_; refine kl H rfl fun a H => ?_
            refine wl_v _ (r_bne Try.underlying4 (H.ev rfl) (H.ev rfl) rfl) ?_; refine kl H rfl fun a H => ?_
            refine wl_v _ (r_move (H.ev rfl)) ?_; refine kl H rfl fun a H => ?_
            refine op_unguard _ _ (kg_yes rfl H rfl rfl rfl) ?_; refine wl_v _ (r_move (H.ev rfl)) ?_; refine kl H rfl fun a H => ?_
            refine op_unguard _ _ (kg_yes rfl H rfl rfl rfl) ?_; refine wl_v _ (r_move (H.ev rfl)) ?_; refine kl H rfl fun a H => ?_
            refine op_unguard _ _ (kg_yes rfl H rfl rfl rfl) ?_; refine wl_v _ (r_bne Try.underlying4 (H.ev rfl) (H.ev rfl) rfl) ?_; refine kl H rfl fun a H => ?_
            refine wl_v _ (r_pick_f (H.ev rfl) (H.ev rfl)) ?_; refine kl H rfl fun a H => ?_
            refine wl_v _ (r_move (H.ev rfl)) ?_; refine kl H rfl fun a H => ?_
            refine op_unguard _ _ (kg_yes rfl H rfl rfl rfl) ?_; refine wl_v _ (r_move (H.ev rfl)) ?_; refine kl H rfl fun a H => ?_
            refine op_unguard _ _ (kg_yes rfl H rfl rfl rfl) ?_; refine wl_v _ (r_move (H.ev rfl)) ?_; refine kl H rfl fun a H => ?_
            refine op_unguard _ _ (kg_yes rfl H rfl rfl rfl) ?_; refine wl_v _ (r_move (H.ev rfl)) ?_; refine kl H rfl fun a H => ?_
            refine op_unguard _ _ (kg_yes rfl H rfl rfl rfl) ?_; refine wl_v _ (r_move (H.ev rfl)) ?_; refine kl H rfl fun a H => ?_
            refine op_unguard _ _ (kg_yes rfl H rfl rfl rfl) ?_; refine wl_v _ (r_move (H.ev rfl)) ?_; refine kl H rfl fun a H => ?_
            refine op_unguard _ _ (kg_yes rfl H rfl rfl rfl) ?_; refine wl_v _ (r_idx (j := k) (q := o + k * 3) Try.underlying23 s27 (H.ev rfl) (H.ev rfl) (by omega) rfl) ?_; refine kl H rfl fun a H => ?_
            refine op_unguard _ _ (kg_yes rfl H rfl rfl rfl) ?_; refine wl_v _ (r_fld (q := o + k * 3 + 2) fld27_2 (H.ev rfl) rfl) ?_; refine kl H rfl fun a H => ?_
            refine op_unguard _ _ (kg_yes rfl H rfl rfl rfl) ?_; refine wl_v _ (r_ld Try.underlying3 rfl (H.ev rfl) (range_cell (range_ups HRG.out hall) 2 rfl)) ?_; refine kl H rfl fun a H => ?_
            refine op_unguard _ _ (kg_yes rfl H rfl rfl rfl) ?_; refine wl_v _ (r_ne Try.underlying3 (H.ev rfl) (H.ev rfl) (dec_f (by omega))) ?_; refine kl H rfl fun a H => ?_
            refine op_unguard _ _ (kg_yes rfl H rfl rfl rfl) ?_; refine wl_v _ (r_pick_t (H.ev rfl) (H.ev rfl)) ?_; refine kl H rfl fun a H => ?_
            refine wl_v _ (r_pick_f (H.ev rfl) (H.ev rfl)) ?_; refine kl H rfl fun a H => ?_
            refine wl_v _ (r_move (H.ev rfl)) ?_; refine kl H rfl fun a H => ?_
            refine op_unguard _ _ (kg_yes rfl H rfl rfl rfl) ?_; refine wl_v _ (r_move (H.ev rfl)) ?_; refine kl H rfl fun a H => ?_
            refine op_unguard _ _ (kg_yes rfl H rfl rfl rfl) ?_; refine wl_v _ (r_len Try.underlying22 (H.ev rfl)) ?_; refine kl H rfl fun a H => ?_
            refine op_unguard _ _ (kg_yes rfl H rfl rfl rfl) ?_; refine wl_v _ (r_gt Try.underlying3 (H.ev rfl) evc (dec_f (by omega))) ?_; refine kl H rfl fun a H => ?_
            refine wl_v _ (r_pick_f (H.ev rfl) (H.ev rfl)) ?_; refine kl H rfl fun a H => ?_
            refine wpList_nil ?_
            refine c_next ?_
            refine c_cond_f H rfl ?_
            refine wp_skip ?_
            refine c_next ?_
            clear h
            refine wp_region_lit ?_
            refine wl_v _ (r_move (H.ev rfl)) ?_; refine kl H rfl fun a H => ?_
            refine wl_v _ (r_assign (H.ev rfl)) ?_; refine kl H rfl fun a H => ?_
            refine wpList_nil ?_
            refine n_block ?_
            refine c_next ?_
            refine wp_seq ?_
            refine wp_region_lit ?_
            refine wl_v _ (r_move (H.ev rfl)) ?_; refine kl H rfl fun a H => ?_
            refine wl_call _ _ _ (right_any _ _ (setF L id at') hs (by omega) (fun x hx => (HLW.out.set HYW.out.2.1 HYW.out.2.2 x hx).1)) (r_call1 cf8 (H.ev rfl)) ?_; rintro e w9 ⟨rfl, hb⟩; refine ⟨_, rfl, ?_⟩; rw [(right_iff (setF L id at')).2 (HRL.out.set id at')]; replace hs := Row.up hs hb; replace hall := hall.trans (hb.mono hall.size); clear hb; refine kl H rfl fun a H => ?_
            refine wl_v _ (r_not (H.ev rfl) rfl) ?_; refine kl H rfl fun a H => ?_
            refine wpList_nil ?_
            refine c_next ?_
            refine c_cond_f H rfl ?_
            refine wp_skip ?_
            refine n_block ?_
            refine c_next ?_
            refine wp_region_lit ?_
            refine wl_v _ (r_move (H.ev rfl)) ?_; refine kl H rfl fun a H => ?_
            refine wl_v _ (r_add (q := ((k + 1 : Nat) : Int)) Try.underlying3 (H.ev rfl) evc (by omega) (by omega)) ?_; refine kl H rfl fun a H => ?_
            refine wl_v _ (r_assign (H.ev rfl)) ?_; refine kl H rfl fun a H => ?_
            refine wpList_nil ?_
            refine n_then ⟨⟨k + 1, (setF L id at'), _, H.pick [0, 1, 5, 6], by omega, hs, HRL.out.set id at', HLW.out.set HYW.out.2.1 HYW.out.2.2, hall⟩, ?_⟩
            rw [H.ev (j := 6) rfl, H0.ev (j := 6) rfl]
            simp only [intOf]
            omega
          · skip
            refine wp_region_lit ?_
            refine wl_v _ (r_move (H.ev rfl)) ?_; refine kl H rfl fun a H => ?_
            refine wl_v _ (r_move (H.ev rfl)) ?_; refine kl H rfl fun a H => ?_
            refine wl_v _ (r_move (H.ev rfl)) ?_; refine kl H rfl fun a H => ?_
            refine wl_v _ (r_idx (j := k) (q := o + k * 3) Try.underlying23 s27 (H.ev rfl) (H.ev rfl) (by omega) rfl) ?_; refine kl H rfl fun a H => ?_
            refine wl_v _ (r_fld (q := o + k * 3 + 1) fld27_1 (H.ev rfl) rfl) ?_; refine kl H rfl fun a H => ?_
            refine wl_v _ (r_ld Try.underlying3 rfl (H.ev rfl) (range_cell (range_ups HRG.out hall) 1 rfl)) ?_; refine kl H rfl fun a H => ?_
            refine wl_call _ _ _ (at_any _ _ L id h (by omega)) (r_call2 cf17 (H.ev rfl) (H.ev rfl)) ?_; rintro e w9 ⟨rfl, hb⟩; refine ⟨_, rfl, ?_⟩; rw [HHAD.out]; replace h := Row.up h hb; replace hall := hall.trans (hb.mono hall.size); clear hb; refine kl H rfl fun a H => ?_
            refine wl_v _ (r_move (H.ev rfl)) ?_; refine kl H rfl fun a H => ?_
            refine wl_v _ (r_extract (H.ev rfl) rfl) ?_; refine kl H rfl fun a H => ?_
            refine wl_v _ (r_extract (H.ev rfl) rfl) ?_; refine kl H rfl fun a H => ?_
            refine wl_v _ (r_assign (H.ev rfl)) ?_; refine kl H rfl fun a H => ?_
            refine wl_v _ (r_assign (H.ev rfl)) ?_; refine kl H rfl fun a H => ?_
            refine wpList_nil ?_
            refine c_next ?_
            refine wp_seq ?_
            have hS : SOn w (.slice A L.length c) L _ := ⟨hall.drew, h⟩
            refine region_pi (SOn w (.slice A L.length c) L) [(0, true), (1, true), (2, true), (3, true), (4, true), (5, true), (6, true), (7, true), (8, true), (9, true), (10, true), (11, false), (12, true), (13, true), (14, true), (15, true), (16, true)] (by kernel_rfl) (by kernel_rfl) rfl (by kernel_rfl) hS ?_
            clear hall h
            refine pi_f0 _ rfl (fun w' hS' => r_move (H.ev rfl)) ?_; refine kp H rfl fun a H => ?_
            refine pi_f0 _ rfl (fun w' hS' => r_move (H.ev rfl)) ?_; refine kp H rfl fun a H => ?_
            refine pi_f0 _ rfl (fun w' hS' => r_move (H.ev rfl)) ?_; refine kp H rfl fun a H => ?_
            refine pi_f0 _ rfl (fun w' hS' => r_idx (j := k) (q := o + k * 3) Try.underlying23 s27 (H.ev rfl) (H.ev rfl) (by omega) rfl) ?_; refine kp H rfl fun a H => ?_
            refine pi_f0 _ rfl (fun w' hS' => r_fld (q := o + k * 3 + 1) fld27_1 (H.ev rfl) rfl) ?_; refine kp H rfl fun a H => ?_
            refine pi_f0 _ rfl (fun w' hS' => r_ld Try.underlying3 rfl (H.ev rfl) (range_cell (range_ups HRG.out hS'.1) 1 rfl)) ?_; refine kp H rfl fun a H => ?_
            refine pi_f0 _ rfl (fun w' hS' => r_move (H.ev rfl)) ?_; refine kp H rfl fun a H => ?_
            refine pi_f0 _ rfl (fun w' hS' => r_move (H.ev rfl)) ?_; refine kp H rfl fun a H => ?_
            refine pi_f0 _ rfl (fun w' hS' => r_idx (j := k) (q := o + k * 3) Try.underlying23 s27 (H.ev rfl) (H.ev rfl) (by omega) rfl) ?_; refine kp H rfl fun a H => ?_
            refine pi_f0 _ rfl (fun w' hS' => r_fld (q := o + k * 3 + 2) fld27_2 (H.ev rfl) rfl) ?_; refine kp H rfl fun a H => ?_
            refine pi_f0 _ rfl (fun w' hS' => r_ld Try.underlying3 rfl (H.ev rfl) (range_cell (range_ups HRG.out hS'.1) 2 rfl)) ?_; refine kp H rfl fun a H => ?_
            refine pi_a0 rfl (fun K hK => ?_); refine wpo_call _ _ _ (set_any _ _ L id at' hS.2 (by omega) HMO.out) (r_call3 cf10 (H.ev rfl) (H.ev rfl) (H.ev rfl)) ?_; rintro e w9 ⟨⟨vs, rfl, hs⟩, hb9⟩; refine ⟨_, rfl, ?_⟩; rw [HOK.out]; replace hs := TOwn.row hs; replace hS := hS.up hb9; clear hb9; refine hK _ _ ⟨hS, ?_⟩; clear hK; clear K; refine kp H rfl fun a H => ?_
            refine pi_f0 _ rfl (fun w' hS' => r_move (H.ev rfl)) ?_; refine kp H rfl fun a H => ?_
            refine pi_f0 _ rfl (fun w' hS' => r_extract (H.ev rfl) rfl) ?_; refine kp H rfl fun a H => ?_
            refine pi_f0 _ rfl (fun w' hS' => r_extract (H.ev rfl) rfl) ?_; refine kp H rfl fun a H => ?_
            refine pi_f0 _ rfl (fun w' hS' => r_assign (H.ev rfl)) ?_; refine kp H rfl fun a H => ?_
            refine pi_f0 _ rfl (fun w' hS' => r_assign (H.ev rfl)) ?_; refine kp H rfl fun a H => ?_
            refine pi_nil (NoPanic.normal ?_)
            have hall := hS.1
            have h := hS.2
            clear hS
            obtain ⟨As, cs, rfl, e1, e2, e3, e4⟩ := hs
            have hs : TRow _ (.slice As (setF L id at').length cs) (setF L id at') := ⟨As, cs, rfl, e1, e2, e3, e4⟩
            clear e1 e2 e3 e4
            refine c_next ?_
            refine wp_seq ?_
            refine wp_region_lit ?_
            refine wl_v _ (r_move (H.ev rfl)) ?_; refine kl H rfl fun a H => ?_
            refine wl_v _ (r_move (H.ev rfl)) ?_; refine kl H rfl fun a H => ?_
            refine wl_v _ (r_move (H.ev rfl)) ?_; refine kl H rfl fun a H => ?_
            refine wl_v _ (r_idx (j := k) (q := o + k * 3) Try.underlying23 s27 (H.ev rfl) (H.ev rfl) (by omega) rfl) ?_; refine kl H rfl fun a H => ?_
            refine wl_v _ (r_fld (q := o + k * 3 + 1) fld27_1 (H.ev rfl) rfl) ?_; refine kl H rfl fun a H => ?_
            refine wl_v _ (r_ld Try.underlying3 rfl (H.ev rfl) (range_cell (range_ups HRG.out hall) 1 rfl)) ?_; refine kl H rfl fun a H => ?_
            refine wl_call _ _ _ (at_any _ _ (setF L id at') id hs (by omega)) (r_call2 cf17 (H.ev rfl) (H.ev rfl)) ?_; rintro e w9 ⟨rfl, hb⟩; refine ⟨_, rfl, ?_⟩; rw [HS1.out]; replace h := Row.up h hb; replace hs := Row.up hs hb; replace hall := hall.trans (hb.mono hall.size); clear hb; refine kl H rfl fun a H => ?_
            refine wl_v _ (r_move (H.ev rfl)) ?_; refine kl H rfl fun a H => ?_
            refine wl_v _ (r_extract (H.ev rfl) rfl) ?_; refine kl H rfl fun a H => ?_
            refine wl_v _ (r_extract (H.ev rfl) rfl) ?_; refine kl H rfl fun a H => ?_
            refine wl_v _ (r_assign (H.ev rfl)) ?_; refine kl H rfl fun a H => ?_
            refine wl_v _ (r_assign (H.ev rfl)) ?_; refine kl H rfl fun a H => ?_
            refine wpList_nil ?_
            refine c_next ?_
            refine wp_seq ?_
            refine wp_seq ?_
            refine wp_region_lit ?_
            refine wl_v _ (r_move (H.ev rfl)) ?_; refine kl H rfl fun a H => ?_
            refine wl_v _ (r_move (H.ev rfl)) ?_; refine kl H rfl fun a H => ?_
            refine wl_v _ (r_move (H.ev rfl)) ?_; refine kl H rfl fun a H => ?_
            refine op_unguard _ _ (kg_yes rfl H rfl rfl rfl) ?_; refine wl_v _ (r_move (H.ev rfl)) ?_; refine kl H rfl fun a H => ?_
            refine op_unguard _ _ (kg_yes rfl H rfl rfl rfl) ?_; refine wl_v _ (r_lt Try.underlying3 (H.ev rfl) evc (dec_f (by omega))) ?_; refine kl H rfl fun a H => ?_
            refine wl_v _ (r_pick_f (H.ev rfl) (H.ev rfl)) ?_; refine kl H rfl fun a H => ?_
            refine wl_v _ (r_bne Try.underlying4 (H.ev rfl) (H.ev rfl) rfl) ?_; refine kl H rfl fun a H => ?_
            refine wl_v _ (r_move (H.ev rfl)) ?_; refine kl H rfl fun a H => ?_
            refine op_unguard _ _ (kg_yes rfl H rfl rfl rfl) ?_; refine wl_v _ (r_move (H.ev rfl)) ?_; refine kl H rfl fun a H => ?_
            refine op_unguard _ _ (kg_yes rfl H rfl rfl rfl) ?_; refine wl_v _ (r_move (H.ev rfl)) ?_; refine kl H rfl fun a H => ?_
            refine op_unguard _ _ (kg_yes rfl H rfl rfl rfl) ?_; refine wl_v _ (r_bne Try.underlying4 (H.ev rfl) (H.ev rfl) rfl) ?_; refine kl H rfl fun a H => ?_
            refine wl_v _ (r_pick_f (H.ev rfl) (H.ev rfl)) ?_; refine kl H rfl fun a H => ?_
            refine wl_v _ (r_move (H.ev rfl)) ?_; refine kl H rfl fun a H => ?_
            refine op_unguard _ _ (kg_yes rfl H rfl rfl rfl) ?_; refine wl_v _ (r_move (H.ev rfl)) ?_; refine kl H rfl fun a H => ?_
            refine op_unguard _ _ (kg_yes rfl H rfl rfl rfl) ?_; refine wl_v _ (r_move (H.ev rfl)) ?_; refine kl H rfl fun a H => ?_
            refine wl_s (kg_no rfl H rfl rfl rfl) ?_; refine kl H rfl fun a H => ?_
            refine wl_s (kg_no rfl H rfl rfl rfl) ?_; refine kl H rfl fun a H => ?_
            refine wl_s (kg_no rfl H rfl rfl rfl) ?_; refine kl H rfl fun a H => ?_
            refine wl_s (kg_no rfl H rfl rfl rfl) ?_; refine kl H rfl fun a H => ?_
            refine wl_s (kg_no rfl H rfl rfl rfl) ?_; refine kl H rfl fun a H => ?_
            refine wl_s (kg_no rfl H rfl rfl rfl) ?_; refine kl H rfl fun a H => ?_
            refine wl_s (kg_no rfl H rfl rfl rfl) ?_; refine kl H rfl fun a H => ?_
            refine op_unguard _ _ (kg_yes rfl H rfl rfl rfl) ?_; refine wl_v _ (r_pick_f (H.ev rfl) evc) ?_; refine kl H rfl fun a H => ?_
            refine wl_v _ (r_pick_f (H.ev rfl) (H.ev rfl)) ?_; refine kl H rfl fun a H => ?_
            refine wl_v _ (r_move (H.ev rfl)) ?_; refine kl H rfl fun a H => ?_
            refine op_unguard _ _ (kg_yes rfl H rfl rfl rfl) ?_; refine wl_v _ (r_move (H.ev rfl)) ?_; refine kl H rfl fun a H => ?_
            refine op_unguard _ _ (kg_yes rfl H rfl rfl rfl) ?_; refine wl_v _ (r_len Try.underlying22 (H.ev rfl)) ?_; refine kl H rfl fun a H => ?_
            refine op_unguard _ _ (kg_yes rfl H rfl rfl rfl) ?_; refine wl_v _ (r_gt Try.underlying3 (H.ev rfl) evc (dec_f (by omega))) ?_; refine kl H rfl fun a H => ?_
            refine wl_v _ (r_pick_f (H.ev rfl) (H.ev rfl)) ?_; refine kl H rfl fun a H => ?_
            refine wpList_nil ?_
            refine c_next ?_
            refine c_cond_f H rfl ?_
            refine wp_skip ?_
            refine c_next ?_
            clear h
            refine wp_region_lit ?_
            refine wl_v _ (r_move (H.ev rfl)) ?_; refine kl H rfl fun a H => ?_
            refine wl_v _ (r_assign (H.ev rfl)) ?_; refine kl H rfl fun a H => ?_
            refine wpList_nil ?_
            refine n_block ?_
            refine c_next ?_
            refine wp_seq ?_
            refine wp_region_lit ?_
            refine wl_v _ (r_move (H.ev rfl)) ?_; refine kl H rfl fun a H => ?_
            refine wl_call _ _ _ (right_any _ _ (setF L id at') hs (by omega) (fun x hx => (HLW.out.set HYW.out.2.1 HYW.out.2.2 x hx).1)) (r_call1 cf8 (H.ev rfl)) ?_; rintro e w9 ⟨rfl, hb⟩; refine ⟨_, rfl, ?_⟩; rw [(right_iff (setF L id at')).2 (HRL.out.set id at')]; replace hs := Row.up hs hb; replace hall := hall.trans (hb.mono hall.size); clear hb; refine kl H rfl fun a H => ?_
            refine wl_v _ (r_not (H.ev rfl) rfl) ?_; refine kl H rfl fun a H => ?_
            refine wpList_nil ?_
            refine c_next ?_
            refine c_cond_f H rfl ?_
            refine wp_skip ?_
            refine n_block ?_
            refine c_next ?_
            refine wp_region_lit ?_
            refine wl_v _ (r_move (H.ev rfl)) ?_; refine kl H rfl fun a H => ?_
            refine wl_v _ (r_add (q := ((k + 1 : Nat) : Int)) Try.underlying3 (H.ev rfl) evc (by omega) (by omega)) ?_; refine kl H rfl fun a H => ?_
            refine wl_v _ (r_assign (H.ev rfl)) ?_; refine kl H rfl fun a H => ?_
            refine wpList_nil ?_
            refine n_then ⟨⟨k + 1, (setF L id at'), _, H.pick [0, 1, 5, 6], by omega, hs, HRL.out.set id at', HLW.out.set HYW.out.2.1 HYW.out.2.2, hall⟩, ?_⟩
            rw [H.ev (j := 6) rfl, H0.ev (j := 6) rfl]
            simp only [intOf]
            omega
        · skip
          by_cases hd1 : d = 1
          · obtain rfl : d = 1 := hd1
            refine wp_region_lit ?_
            refine wl_v _ (r_eq Try.underlying3 (H.ev rfl) evc (dec_f (by omega))) ?_; refine kl H rfl fun a H => ?_
            refine wl_v _ (r_assign (H.ev rfl)) ?_; refine kl H rfl fun a H => ?_
            refine wpList_nil ?_
            refine c_next ?_
            refine c_cond_f H rfl ?_
            refine wp_seq ?_
            refine wp_region_lit ?_
            refine wl_v _ (r_eq Try.underlying3 (H.ev rfl) evc (dec_t (by omega))) ?_; refine kl H rfl fun a H => ?_
            refine wl_v _ (r_assign (H.ev rfl)) ?_; refine kl H rfl fun a H => ?_
            refine wpList_nil ?_
            refine c_next ?_
            refine c_cond_t H rfl ?_
            refine wp_seq ?_
            have hcl := clr_length (L := L) (id := id)
            have hlc := (HRL.out.clr id).2.2
            obtain ⟨had, hhad⟩ : ∃ had, hasF L id = had := ⟨_, rfl⟩
            rw [hhad] at hcl
            have hpos : had = true → 1 ≤ L.length := by
              intro e
              subst e
              cases L with
              | nil => cases hhad
              | cons _ _ => simp
            have HHAD := Lib.hid hhad
            have HNO := Lib.hid (clr_has (id := id) HRL.out.2.1)
            clear hhad
            cases had
            · skip
              simp at hcl
              have q1 : (clrF L id).length ≤ L.length := by omega
              have q2 : L.length ≤ (clrF L id).length := by omega
              clear hcl hpos
              refine wp_region_lit ?_
              refine wl_v _ (r_move (H.ev rfl)) ?_; refine kl H rfl fun a H => ?_
              refine wl_v _ (r_move (H.ev rfl)) ?_; refine kl H rfl fun a H => ?_
              refine wl_v _ (r_move (H.ev rfl)) ?_; refine kl H rfl fun a H => ?_
              refine wl_v _ (r_idx (j := k) (q := o + k * 3) Try.underlying23 s27 (H.ev rfl) (H.ev rfl) (by omega) rfl) ?_; refine kl H rfl fun a H => ?_
              refine wl_v _ (r_fld (q := o + k * 3 + 1) fld27_1 (H.ev rfl) rfl) ?_; refine kl H rfl fun a H => ?_
              refine wl_v _ (r_ld Try.underlying3 rfl (H.ev rfl) (range_cell (range_ups HRG.out hall) 1 rfl)) ?_; refine kl H rfl fun a H => ?_
              refine wl_call _ _ _ (at_any _ _ L id h (by omega)) (r_call2 cf17 (H.ev rfl) (H.ev rfl)) ?_; rintro e w9 ⟨rfl, hb⟩; refine ⟨_, rfl, ?_⟩; rw [HHAD.out]; replace h := Row.up h hb; replace hall := hall.trans (hb.mono hall.size); clear hb; refine kl H rfl fun a H => ?_
              refine wl_v _ (r_move (H.ev rfl)) ?_; refine kl H rfl fun a H => ?_
              refine wl_v _ (r_extract (H.ev rfl) rfl) ?_; refine kl H rfl fun a H => ?_
              refine wl_v _ (r_extract (H.ev rfl) rfl) ?_; refine kl H rfl fun a H => ?_
              refine wl_v _ (r_assign (H.ev rfl)) ?_; refine kl H rfl fun a H => ?_
              refine wl_v _ (r_assign (H.ev rfl)) ?_; refine kl H rfl fun a H => ?_
              refine wpList_nil ?_
              refine c_next ?_
              refine wp_seq ?_
              refine wp_region_lit ?_
              refine wl_v _ (r_move (H.ev rfl)) ?_; refine kl H rfl fun a H => ?_
              refine wl_v _ (r_move (H.ev rfl)) ?_; refine kl H rfl fun a H => ?_
              refine wl_v _ (r_move (H.ev rfl)) ?_; refine kl H rfl fun a H => ?_
              refine wl_v _ (r_idx (j := k) (q := o + k * 3) Try.underlying23 s27 (H.ev rfl) (H.ev rfl) (by omega) rfl) ?_; refine kl H rfl fun a H => ?_
              refine wl_v _ (r_fld (q := o + k * 3 + 1) fld27_1 (H.ev rfl) rfl) ?_; refine kl H rfl fun a H => ?_
              refine wl_v _ (r_ld Try.underlying3 rfl (H.ev rfl) (range_cell (range_ups HRG.out hall) 1 rfl)) ?_; refine kl H rfl fun a H => ?_
              refine wl_call _ _ _ (clear_any _ _ L id h (by omega)) (r_call2 cf12 (H.ev rfl) (H.ev rfl)) ?_; rintro e w9 ⟨⟨vu, rfl, hu⟩, hb⟩; refine ⟨_, rfl, ?_⟩; rw [HHAD.out]; replace h := Row.up h hb; replace hall := hall.trans (hb.mono hall.size); clear hb; replace hu := TOwn.row hu; obtain ⟨As, cs, rfl, e1, e2, e3, e4⟩ := hu; have hu : TRow _ (.slice As (clrF L id).length cs) (clrF L id) := ⟨As, cs, rfl, e1, e2, e3, e4⟩; clear e1 e2 e3 e4; refine kl H rfl fun a H => ?_
              refine wl_v _ (r_move (H.ev rfl)) ?_; refine kl H rfl fun a H => ?_
              refine wl_v _ (r_extract (H.ev rfl) rfl) ?_; refine kl H rfl fun a H => ?_
              refine wl_v _ (r_extract (H.ev rfl) rfl) ?_; refine kl H rfl fun a H => ?_
              refine wl_v _ (r_assign (H.ev rfl)) ?_; refine kl H rfl fun a H => ?_
              refine wl_v _ (r_assign (H.ev rfl)) ?_; refine kl H rfl fun a H => ?_
              refine wpList_nil ?_
              refine c_next ?_
              refine wp_seq ?_
              refine wp_region_lit ?_
              refine wl_v _ (r_move (H.ev rfl)) ?_; refine kl H rfl fun a H => ?_
              refine wl_v _ (r_move (H.ev rfl)) ?_; refine kl H rfl fun a H => ?_
              refine wl_v _ (r_move (H.ev rfl)) ?_; refine kl H rfl fun a H => ?_
              refine wl_v _ (r_idx (j := k) (q := o + k * 3) Try.underlying23 s27 (H.ev rfl) (H.ev rfl) (by omega) rfl) ?_; refine kl H rfl fun a H => ?_
              refine wl_v _ (r_fld (q := o + k * 3 + 1) fld27_1 (H.ev rfl) rfl) ?_; refine kl H rfl fun a H => ?_
              refine wl_v _ (r_ld Try.underlying3 rfl (H.ev rfl) (range_cell (range_ups HRG.out hall) 1 rfl)) ?_; refine kl H rfl fun a H => ?_
              refine wl_call _ _ _ (at_any _ _ (clrF L id) id hu (by omega)) (r_call2 cf17 (H.ev rfl) (H.ev rfl)) ?_; rintro e w9 ⟨rfl, hb⟩; refine ⟨_, rfl, ?_⟩; rw [HNO.out]; replace h := Row.up h hb; replace hu := Row.up hu hb; replace hall := hall.trans (hb.mono hall.size); clear hb; refine kl H rfl fun a H => ?_
              refine wl_v _ (r_move (H.ev rfl)) ?_; refine kl H rfl fun a H => ?_
              refine wl_v _ (r_extract (H.ev rfl) rfl) ?_; refine kl H rfl fun a H => ?_
              refine wl_v _ (r_extract (H.ev rfl) rfl) ?_; refine kl H rfl fun a H => ?_
              refine wl_v _ (r_assign (H.ev rfl)) ?_; refine kl H rfl fun a H => ?_
              refine wl_v _ (r_assign (H.ev rfl)) ?_; refine kl H rfl fun a H => ?_
              refine wpList_nil ?_
              refine c_next ?_
              refine wp_seq ?_
              refine wp_seq ?_
              refine wp_region_lit ?_
              refine wl_v _ (r_move (H.ev rfl)) ?_; refine kl H rfl fun a H => ?_
              refine wl_v _ (r_move (H.ev rfl)) ?_; refine kl H rfl fun a H => ?_
              refine wl_v _ (r_bne Try.underlying4 (H.ev rfl) (H.ev rfl) rfl) ?_; refine kl H rfl fun a H => ?_
              refine wl_v _ (r_move (H.ev rfl)) ?_; refine kl H rfl fun a H => ?_
              refine op_unguard _ _ (kg_yes rfl H rfl rfl rfl) ?_; refine wl_v _ (r_move (H.ev rfl)) ?_; refine kl H rfl fun a H => ?_
              refine wl_v _ (r_pick_f (H.ev rfl) (H.ev rfl)) ?_; refine kl H rfl fun a H => ?_
              refine wl_v _ (r_move (H.ev rfl)) ?_; refine kl H rfl fun a H => ?_
              refine op_unguard _ _ (kg_yes rfl H rfl rfl rfl) ?_; refine wl_v _ (r_move (H.ev rfl)) ?_; refine kl H rfl fun a H => ?_
              refine op_unguard _ _ (kg_yes rfl H rfl rfl rfl) ?_; refine wl_v _ (r_move (H.ev rfl)) ?_; refine kl H rfl fun a H => ?_
              refine wl_s (kg_no rfl H rfl rfl rfl) ?_; refine kl H rfl fun a H => ?_
              refine wl_s (kg_no rfl H rfl rfl rfl) ?_; refine kl H rfl fun a H => ?_
              refine wl_s (kg_no rfl H rfl rfl rfl) ?_; refine kl H rfl fun a H => ?_
              refine wl_s (kg_no rfl H rfl rfl rfl) ?_; refine kl H rfl fun a H => ?_
              refine wl_s (kg_no rfl H rfl rfl rfl) ?_; refine kl H rfl fun a H => ?_
              refine op_unguard _ _ (kg_yes rfl H rfl rfl rfl) ?_; refine wl_v _ (r_pick_f (H.ev rfl) evc) ?_; refine kl H rfl fun a H => ?_
              refine wl_v _ (r_pick_f (H.ev rfl) (H.ev rfl)) ?_; refine kl H rfl fun a H => ?_
              refine wpList_nil ?_
              refine c_next ?_
              refine c_cond_f H rfl ?_
              refine wp_skip ?_
              refine c_next ?_
              clear h
              refine wp_region_lit ?_
              refine wl_v _ (r_move (H.ev rfl)) ?_; refine kl H rfl fun a H => ?_
              refine wl_v _ (r_assign (H.ev rfl)) ?_; refine kl H rfl fun a H => ?_
              refine wpList_nil ?_
              refine n_block ?_
              refine c_next ?_
              refine wp_seq ?_
              refine wp_region_lit ?_
              refine wl_v _ (r_move (H.ev rfl)) ?_; refine kl H rfl fun a H => ?_
              refine wl_call _ _ _ (right_any _ _ (clrF L id) hu (by omega) (fun x hx => (HLW.out.clr id x hx).1)) (r_call1 cf8 (H.ev rfl)) ?_; rintro e w9 ⟨rfl, hb⟩; refine ⟨_, rfl, ?_⟩; rw [(right_iff (clrF L id)).2 (HRL.out.clr id)]; replace hu := Row.up hu hb; replace hall := hall.trans (hb.mono hall.size); clear hb; refine kl H rfl fun a H => ?_
              refine wl_v _ (r_not (H.ev rfl) rfl) ?_; refine kl H rfl fun a H => ?_
              refine wpList_nil ?_
              refine c_next ?_
              refine c_cond_f H rfl ?_
              refine wp_skip ?_
              refine n_block ?_
              refine c_next ?_
              refine wp_region_lit ?_
              refine wl_v _ (r_move (H.ev rfl)) ?_; refine kl H rfl fun a H => ?_
              refine wl_v _ (r_add (q := ((k + 1 : Nat) : Int)) Try.underlying3 (H.ev rfl) evc (by omega) (by omega)) ?_; refine kl H rfl fun a H => ?_
              refine wl_v _ (r_assign (H.ev rfl)) ?_; refine kl H rfl fun a H => ?_
              refine wpList_nil ?_
              refine n_then ⟨⟨k + 1, (clrF L id), _, H.pick [0, 1, 5, 6], by omega, hu, HRL.out.clr id, HLW.out.clr id, hall⟩, ?_⟩
              rw [H.ev (j := 6) rfl, H0.ev (j := 6) rfl]
              simp only [intOf]
              omega
            · skip
              simp at hcl
              have q1 : (clrF L id).length ≤ L.length - 1 := by omega
              have q2 : L.length - 1 ≤ (clrF L id).length := by omega
              have q3 := hpos rfl
              clear hcl hpos
              refine wp_region_lit ?_
              refine wl_v _ (r_move (H.ev rfl)) ?_; refine kl H rfl fun a H => ?_
              refine wl_v _ (r_move (H.ev rfl)) ?_; refine kl H rfl fun a H => ?_
              refine wl_v _ (r_move (H.ev rfl)) ?_; refine kl H rfl fun a H => ?_
              refine wl_v _ (r_idx (j := k) (q := o + k * 3) Try.underlying23 s27 (H.ev rfl) (H.ev rfl) (by omega) rfl) ?_; refine kl H rfl fun a H => ?_
              refine wl_v _ (r_fld (q := o + k * 3 + 1) fld27_1 (H.ev rfl) rfl) ?_; refine kl H rfl fun a H => ?_
              refine wl_v _ (r_ld Try.underlying3 rfl (H.ev rfl) (range_cell (range_ups HRG.out hall) 1 rfl)) ?_; refine kl H rfl fun a H => ?_
              refine wl_call _ _ _ (at_any _ _ L id h (by omega)) (r_call2 cf17 (H.ev rfl) (H.ev rfl)) ?_; rintro e w9 ⟨rfl, hb⟩; refine ⟨_, rfl, ?_⟩; rw [HHAD.out]; replace h := Row.up h hb; replace hall := hall.trans (hb.mono hall.size); clear hb; refine kl H rfl fun a H => ?_
              refine wl_v _ (r_move (H.ev rfl)) ?_; refine kl H rfl fun a H => ?_
              refine wl_v _ (r_extract (H.ev rfl) rfl) ?_; refine kl H rfl fun a H => ?_
              refine wl_v _ (r_extract (H.ev rfl) rfl) ?_; refine kl H rfl fun a H => ?_
              refine wl_v _ (r_assign (H.ev rfl)) ?_; refine kl H rfl fun a H => ?_
              refine wl_v _ (r_assign (H.ev rfl)) ?_; refine kl H rfl fun a H => ?_
              refine wpList_nil ?_
              refine c_next ?_
              refine wp_seq ?_
              refine wp_region_lit ?_
              refine wl_v _ (r_move (H.ev rfl)) ?_; refine kl H rfl fun a H => ?_
              refine wl_v _ (r_move (H.ev rfl)) ?_; refine kl H rfl fun a H => ?_
              refine wl_v _ (r_move (H.ev rfl)) ?_; refine kl H rfl fun a H => ?_
              refine wl_v _ (r_idx (j := k) (q := o + k * 3) Try.underlying23 s27 (H.ev rfl) (H.ev rfl) (by omega) rfl) ?_; refine kl H rfl fun a H => ?_
              refine wl_v _ (r_fld (q := o + k * 3 + 1) fld27_1 (H.ev rfl) rfl) ?_; refine kl H rfl fun a H => ?_
              refine wl_v _ (r_ld Try.underlying3 rfl (H.ev rfl) (range_cell (range_ups HRG.out hall) 1 rfl)) ?_; refine kl H rfl fun a H => ?_
              refine wl_call _ _ _ (clear_any _ _ L id h (by omega)) (r_call2 cf12 (H.ev rfl) (H.ev rfl)) ?_; rintro e w9 ⟨⟨vu, rfl, hu⟩, hb⟩; refine ⟨_, rfl, ?_⟩; rw [HHAD.out]; replace h := Row.up h hb; replace hall := hall.trans (hb.mono hall.size); clear hb; replace hu := TOwn.row hu; obtain ⟨As, cs, rfl, e1, e2, e3, e4⟩ := hu; have hu : TRow _ (.slice As (clrF L id).length cs) (clrF L id) := ⟨As, cs, rfl, e1, e2, e3, e4⟩; clear e1 e2 e3 e4; refine kl H rfl fun a H => ?_
              refine wl_v _ (r_move (H.ev rfl)) ?_; refine kl H rfl fun a H => ?_
              refine wl_v _ (r_extract (H.ev rfl) rfl) ?_; refine kl H rfl fun a H => ?_
              refine wl_v _ (r_extract (H.ev rfl) rfl) ?_; refine kl H rfl fun a H => ?_
              refine wl_v _ (r_assign (H.ev rfl)) ?_; refine kl H rfl fun a H => ?_
              refine wl_v _ (r_assign (H.ev rfl)) ?_; refine kl H rfl fun a H => ?_
              refine wpList_nil ?_
              refine c_next ?_
              refine wp_seq ?_
              refine wp_region_lit ?_
              refine wl_v _ (r_move (H.ev rfl)) ?_; refine kl H rfl fun a H => ?_
              refine wl_v _ (r_move (H.ev rfl)) ?_; refine kl H rfl fun a H => ?_
              refine wl_v _ (r_move (H.ev rfl)) ?_; refine kl H rfl fun a H => ?_
              refine wl_v _ (r_idx (j := k) (q := o + k * 3) Try.underlying23 s27 (H.ev rfl) (H.ev rfl) (by omega) rfl) ?_; refine kl H rfl fun a H => ?_
              refine wl_v _ (r_fld (q := o + k * 3 + 1) fld27_1 (H.ev rfl) rfl) ?_; refine kl H rfl fun a H => ?_
              refine wl_v _ (r_ld Try.underlying3 rfl (H.ev rfl) (range_cell (range_ups HRG.out hall) 1 rfl)) ?_; refine kl H rfl fun a H => ?_
              refine wl_call _ _ _ (at_any _ _ (clrF L id) id hu (by omega)) (r_call2 cf17 (H.ev rfl) (H.ev rfl)) ?_; rintro e w9 ⟨rfl, hb⟩; refine ⟨_, rfl, ?_⟩; rw [HNO.out]; replace h := Row.up h hb; replace hu := Row.up hu hb; replace hall := hall.trans (hb.mono hall.size); clear hb; refine kl H rfl fun a H => ?_
              refine wl_v _ (r_move (H.ev rfl)) ?_; refine kl H rfl fun a H => ?_
              refine wl_v _ (r_extract (H.ev rfl) rfl) ?_; refine kl H rfl fun a H => ?_
              refine wl_v _ (r_extract (H.ev rfl) rfl) ?_; refine kl H rfl fun a H => ?_
              refine wl_v _ (r_assign (H.ev rfl)) ?_; refine kl H rfl fun a H => ?_
              refine wl_v _ (r_assign (H.ev rfl)) ?_; refine kl H rfl fun a H => ?_
              refine wpList_nil ?_
              refine c_next ?_
              refine wp_seq ?_
              refine wp_seq ?_
              refine wp_region_lit ?_
              refine wl_v _ (r_move (H.ev rfl)) ?_; refine kl H rfl fun a H => ?_
              refine wl_v _ (r_move (H.ev rfl)) ?_; refine kl H rfl fun a H => ?_
              refine wl_v _ (r_bne Try.underlying4 (H.ev rfl) (H.ev rfl) rfl) ?_; refine kl H rfl fun a H => ?_
              refine wl_v _ (r_move (H.ev rfl)) ?_; refine kl H rfl fun a H => ?_
              refine op_unguard _ _ (kg_yes rfl H rfl rfl rfl) ?_; refine wl_v _ (r_move (H.ev rfl)) ?_; refine kl H rfl fun a H => ?_
              refine wl_v _ (r_pick_f (H.ev rfl) (H.ev rfl)) ?_; refine kl H rfl fun a H => ?_
              refine wl_v _ (r_move (H.ev rfl)) ?_; refine kl H rfl fun a H => ?_
              refine op_unguard _ _ (kg_yes rfl H rfl rfl rfl) ?_; refine wl_v _ (r_move (H.ev rfl)) ?_; refine kl H rfl fun a H => ?_
              refine op_unguard _ _ (kg_yes rfl H rfl rfl rfl) ?_; refine wl_v _ (r_move (H.ev rfl)) ?_; refine kl H rfl fun a H => ?_
              refine op_unguard _ _ (kg_yes rfl H rfl rfl rfl) ?_; refine wl_v _ (r_move (H.ev rfl)) ?_; refine kl H rfl fun a H => ?_
              refine op_unguard _ _ (kg_yes rfl H rfl rfl rfl) ?_; refine wl_v _ (r_len Try.underlying22 (H.ev rfl)) ?_; refine kl H rfl fun a H => ?_
              refine op_unguard _ _ (kg_yes rfl H rfl rfl rfl) ?_; refine wl_v _ (r_move (H.ev rfl)) ?_; refine kl H rfl fun a H => ?_
              refine op_unguard _ _ (kg_yes rfl H rfl rfl rfl) ?_; refine wl_v _ (r_sub (q := (L.length : Int) - 1) Try.underlying3 (H.ev rfl) evc (by omega) (by omega)) ?_; refine kl H rfl fun a H => ?_
              refine op_unguard _ _ (kg_yes rfl H rfl rfl rfl) ?_; refine wl_v _ (r_ne Try.underlying3 (H.ev rfl) (H.ev rfl) (dec_f (by omega))) ?_; refine kl H rfl fun a H => ?_
              refine op_unguard _ _ (kg_yes rfl H rfl rfl rfl) ?_; refine wl_v _ (r_pick_t (H.ev rfl) (H.ev rfl)) ?_; refine kl H rfl fun a H => ?_
              refine wl_v _ (r_pick_f (H.ev rfl) (H.ev rfl)) ?_; refine kl H rfl fun a H => ?_
              refine wpList_nil ?_
              refine c_next ?_
              refine c_cond_f H rfl ?_
              refine wp_skip ?_
              refine c_next ?_
              clear h
              refine wp_region_lit ?_
              refine wl_v _ (r_move (H.ev rfl)) ?_; refine kl H rfl fun a H => ?_
              refine wl_v _ (r_assign (H.ev rfl)) ?_; refine kl H rfl fun a H => ?_
              refine wpList_nil ?_
              refine n_block ?_
              refine c_next ?_
              refine wp_seq ?_
              refine wp_region_lit ?_
              refine wl_v _ (r_move (H.ev rfl)) ?_; refine kl H rfl fun a H => ?_
              refine wl_call _ _ _ (right_any _ _ (clrF L id) hu (by omega) (fun x hx => (HLW.out.clr id x hx).1)) (r_call1 cf8 (H.ev rfl)) ?_; rintro e w9 ⟨rfl, hb⟩; refine ⟨_, rfl, ?_⟩; rw [(right_iff (clrF L id)).2 (HRL.out.clr id)]; replace hu := Row.up hu hb; replace hall := hall.trans (hb.mono hall.size); clear hb; refine kl H rfl fun a H => ?_
              refine wl_v _ (r_not (H.ev rfl) rfl) ?_; refine kl H rfl fun a H => ?_
              refine wpList_nil ?_
              refine c_next ?_
              refine c_cond_f H rfl ?_
              refine wp_skip ?_
              refine n_block ?_
              refine c_next ?_
              refine wp_region_lit ?_
              refine wl_v _ (r_move (H.ev rfl)) ?_; refine kl H rfl fun a H => ?_
              refine wl_v _ (r_add (q := ((k + 1 : Nat) : Int)) Try.underlying3 (H.ev rfl) evc (by omega) (by omega)) ?_; refine kl H rfl fun a H => ?_
              refine wl_v _ (r_assign (H.ev rfl)) ?_; refine kl H rfl fun a H => ?_
              refine wpList_nil ?_
              refine n_then ⟨⟨k + 1, (clrF L id), _, H.pick [0, 1, 5, 6], by omega, hu, HRL.out.clr id, HLW.out.clr id, hall⟩, ?_⟩
              rw [H.ev (j := 6) rfl, H0.ev (j := 6) rfl]
              simp only [intOf]
              omega
          · skip
            refine wp_region_lit ?_
            refine wl_v _ (r_eq Try.underlying3 (H.ev rfl) evc (dec_f (by omega))) ?_; refine kl H rfl fun a H => ?_
            refine wl_v _ (r_assign (H.ev rfl)) ?_; refine kl H rfl fun a H => ?_
            refine wpList_nil ?_
            refine c_next ?_
            refine c_cond_f H rfl ?_
            refine wp_seq ?_
            refine wp_region_lit ?_
            refine wl_v _ (r_eq Try.underlying3 (H.ev rfl) evc (dec_f (by omega))) ?_; refine kl H rfl fun a H => ?_
            refine wl_v _ (r_assign (H.ev rfl)) ?_; refine kl H rfl fun a H => ?_
            refine wpList_nil ?_
            refine c_next ?_
            refine c_cond_f H rfl ?_
            refine wp_seq ?_
            obtain ⟨is, his⟩ : ∃ is, (!(dueRest L at').isEmpty) = is := ⟨_, rfl⟩
            obtain ⟨nx, hnx⟩ : ∃ nx, nextF (dueRest L at') = nx := ⟨_, rfl⟩
            have hcs : is = true → at' < nx := by
              intro e
              rcases rest_first (L := L) (now := at') with e2 | ⟨y, M, e2, hy⟩
              · rw [← his, e2] at e; cases e
              · rw [← hnx, e2]; exact hy
            have HIS := Lib.hid his
            have HNX := Lib.hid hnx
            clear his hnx
            have hlen := due_len L at'
            have q1 : (dueRest L at').length + (dueIds L at').length ≤ L.length := by omega
            have q2 : L.length ≤ (dueRest L at').length + (dueIds L at').length := by omega
            have HFI := Lib.hid (last_first HLW.out)
            clear hlen
            refine wp_region_lit ?_
            refine wl_v _ (r_move (H.ev rfl)) ?_; refine kl H rfl fun a H => ?_
            refine wl_v _ (r_move (H.ev rfl)) ?_; refine kl H rfl fun a H => ?_
            refine wl_v _ (r_move (H.ev rfl)) ?_; refine kl H rfl fun a H => ?_
            refine wl_v _ (r_idx (j := k) (q := o + k * 3) Try.underlying23 s27 (H.ev rfl) (H.ev rfl) (by omega) rfl) ?_; refine kl H rfl fun a H => ?_
            refine wl_v _ (r_fld (q := o + k * 3 + 2) fld27_2 (H.ev rfl) rfl) ?_; refine kl H rfl fun a H => ?_
            refine wl_v _ (r_ld Try.underlying3 rfl (H.ev rfl) (range_cell (range_ups HRG.out hall) 2 rfl)) ?_; refine kl H rfl fun a H => ?_
            refine wl_call _ _ _ (due_any _ _ L at' h (by omega)) (r_call2 cf14 (H.ev rfl) (H.ev rfl)) ?_; rintro e w9 ⟨⟨vr, vi, rfl, hr, hi⟩, hb⟩; refine ⟨_, rfl, ?_⟩; replace h := Row.up h hb; replace hall := hall.trans (hb.mono hall.size); clear hb; replace hr := TOwn.row hr; replace hi := IOwn.row hi; obtain ⟨As, cs, rfl, e1, e2, e3, e4⟩ := hr; have hr : TRow _ (.slice As (dueRest L at').length cs) (dueRest L at') := ⟨As, cs, rfl, e1, e2, e3, e4⟩; clear e1 e2 e3 e4; obtain ⟨Ai, ci, rfl, e1, e2, e3, hi⟩ := hi; clear e1 e2 e3; refine kl H rfl fun a H => ?_
            refine wl_v _ (r_move (H.ev rfl)) ?_; refine kl H rfl fun a H => ?_
            refine wl_v _ (r_extract (H.ev rfl) rfl) ?_; refine kl H rfl fun a H => ?_
            refine wl_v _ (r_extract (H.ev rfl) rfl) ?_; refine kl H rfl fun a H => ?_
            refine wl_v _ (r_assign (H.ev rfl)) ?_; refine kl H rfl fun a H => ?_
            refine wl_v _ (r_assign (H.ev rfl)) ?_; refine kl H rfl fun a H => ?_
            refine wpList_nil ?_
            refine c_next ?_
            refine wp_seq ?_
            refine wp_region_lit ?_
            refine wl_v _ (r_assign evc) ?_; refine kl H rfl fun a H => ?_
            refine wpList_nil ?_
            refine c_next ?_
            refine wp_seq ?_
            refine wp_seq ?_
            refine wp_region_lit ?_
            refine wl_v _ (r_assign evc) ?_; refine kl H rfl fun a H => ?_
            refine wpList_nil ?_
            refine c_next ?_
            refine wp_block ?_
            refine wp_loop (DuI w V b o cV k A c As cs Ai ci L at') (fun a _ => (dueIds L at').length - (intOf (a.eval (.tmp 23))).toNat) ⟨-9223372036854775808, 0, H.pick [0, 1, 5, 6, 7, 20, 21, 22, 23], by omega, HFI.out, h, hr, hi, hall⟩ ?_
            clear hall h hr hi H
            rintro a w' ⟨m, j, H, hj, hlast, h, hr, hi, hall⟩
            have H1 := H
            by_cases hlj : j < (dueIds L at').length
            · skip
              obtain ⟨y, hy, hiy, hle⟩ := due_at hlj
              obtain ⟨bi, oi, hAi, hri⟩ := flat_some enc1_len hi (by omega) hlj
              subst hAi
              have ey : (dueIds L at')[j] = y.1 := by have := List.getElem?_eq_getElem hlj; rw [hiy] at this; injection this with this; exact this.symm
              rw [ey] at hri
              have ci1 := range_cell hri 0 (v := .int .i64 y.1) rfl
              simp only [Nat.mul_one, Nat.add_zero] at ci1
              have hmy := hlast j (Nat.le_refl _) y hy
              obtain ⟨t1, t2⟩ := at_known HRL.out.2.1 hy
              have HT1 := Lib.hid t1
              have HT2 := Lib.hid t2
              have HLN := Lib.hid (last_next HRL.out.1 hy)
              have hljI : (j : Int) < (dueIds L at').length := by omega
              clear hy hiy hri ey t1 t2 hlast
              refine wp_seq ?_
              refine wp_seq ?_
              refine wp_region_lit ?_
              refine wl_v _ (r_move (H.ev rfl)) ?_; refine kl H rfl fun a H => ?_
              refine wl_v _ (r_move (H.ev rfl)) ?_; refine kl H rfl fun a H => ?_
              refine wl_v _ (r_len Try.underlying31 (H.ev rfl)) ?_; refine kl H rfl fun a H => ?_
              refine wl_v _ (r_lt Try.underlying3 (H.ev rfl) (H.ev rfl) (dec_t (by omega))) ?_; refine kl H rfl fun a H => ?_
              refine wpList_nil ?_
              refine c_next ?_
              refine c_cond_t H rfl ?_
              refine wp_skip ?_
              refine c_next ?_
              refine wp_seq ?_
              refine wp_block ?_
              refine wp_seq ?_
              refine wp_region_lit ?_
              refine wl_v _ (r_move (H.ev rfl)) ?_; refine kl H rfl fun a H => ?_
              refine wl_v _ (r_move (H.ev rfl)) ?_; refine kl H rfl fun a H => ?_
              refine wl_v _ (r_move (H.ev rfl)) ?_; refine kl H rfl fun a H => ?_
              refine wl_v _ (r_idx (j := j) (q := oi + j) Try.underlying31 s3 (H.ev rfl) (H.ev rfl) (by omega) (by omega)) ?_; refine kl H rfl fun a H => ?_
              refine wl_v _ (r_ld Try.underlying3 rfl (H.ev rfl) (ci1)) ?_; refine kl H rfl fun a H => ?_
              refine wl_call _ _ _ (at_any _ _ L y.1 h (by omega)) (r_call2 cf17 (H.ev rfl) (H.ev rfl)) ?_; rintro e w9 ⟨rfl, hb⟩; refine ⟨_, rfl, ?_⟩; rw [HT1.out, HT2.out]; clear ci1; replace h := Row.up h hb; replace hr := Row.up hr hb; replace hi := Holds.up hi hb; replace hall := hall.trans (hb.mono hall.size); clear hb; refine kl H rfl fun a H => ?_
              refine wl_v _ (r_move (H.ev rfl)) ?_; refine kl H rfl fun a H => ?_
              refine wl_v _ (r_extract (H.ev rfl) rfl) ?_; refine kl H rfl fun a H => ?_
              refine wl_v _ (r_extract (H.ev rfl) rfl) ?_; refine kl H rfl fun a H => ?_
              refine wl_v _ (r_assign (H.ev rfl)) ?_; refine kl H rfl fun a H => ?_
              refine wl_v _ (r_assign (H.ev rfl)) ?_; refine kl H rfl fun a H => ?_
              refine wpList_nil ?_
              refine c_next ?_
              refine wp_seq ?_
              refine wp_seq ?_
              refine wp_region_lit ?_
              refine wl_v _ (r_move (H.ev rfl)) ?_; refine kl H rfl fun a H => ?_
              refine wl_v _ (r_not (H.ev rfl) rfl) ?_; refine kl H rfl fun a H => ?_
              refine wl_v _ (r_move (H.ev rfl)) ?_; refine kl H rfl fun a H => ?_
              refine op_unguard _ _ (kg_yes rfl H rfl rfl rfl) ?_; refine wl_v _ (r_move (H.ev rfl)) ?_; refine kl H rfl fun a H => ?_
              refine op_unguard _ _ (kg_yes rfl H rfl rfl rfl) ?_; refine wl_v _ (r_move (H.ev rfl)) ?_; refine kl H rfl fun a H => ?_
              refine op_unguard _ _ (kg_yes rfl H rfl rfl rfl) ?_; refine wl_v _ (r_move (H.ev rfl)) ?_; refine kl H rfl fun a H => ?_
              refine op_unguard _ _ (kg_yes rfl H rfl rfl rfl) ?_; refine wl_v _ (r_idx (j := k) (q := o + k * 3) Try.underlying23 s27 (H.ev rfl) (H.ev rfl) (by omega) rfl) ?_; refine kl H rfl fun a H => ?_
              refine op_unguard _ _ (kg_yes rfl H rfl rfl rfl) ?_; refine wl_v _ (r_fld (q := o + k * 3 + 2) fld27_2 (H.ev rfl) rfl) ?_; refine kl H rfl fun a H => ?_
              refine op_unguard _ _ (kg_yes rfl H rfl rfl rfl) ?_; refine wl_v _ (r_ld Try.underlying3 rfl (H.ev rfl) (range_cell (range_ups HRG.out hall) 2 rfl)) ?_; refine kl H rfl fun a H => ?_
              refine op_unguard _ _ (kg_yes rfl H rfl rfl rfl) ?_; refine wl_v _ (r_gt Try.underlying3 (H.ev rfl) (H.ev rfl) (dec_f (by omega))) ?_; refine kl H rfl fun a H => ?_
              refine wl_v _ (r_pick_f (H.ev rfl) (H.ev rfl)) ?_; refine kl H rfl fun a H => ?_
              refine wl_v _ (r_move (H.ev rfl)) ?_; refine kl H rfl fun a H => ?_
              refine op_unguard _ _ (kg_yes rfl H rfl rfl rfl) ?_; refine wl_v _ (r_move (H.ev rfl)) ?_; refine kl H rfl fun a H => ?_
              refine op_unguard _ _ (kg_yes rfl H rfl rfl rfl) ?_; refine wl_v _ (r_move (H.ev rfl)) ?_; refine kl H rfl fun a H => ?_
              refine op_unguard _ _ (kg_yes rfl H rfl rfl rfl) ?_; refine wl_v _ (r_lt Try.underlying3 (H.ev rfl) (H.ev rfl) (dec_f (by omega))) ?_; refine kl H rfl fun a H => ?_
              refine wl_v _ (r_pick_f (H.ev rfl) (H.ev rfl)) ?_; refine kl H rfl fun a H => ?_
              refine wpList_nil ?_
              refine c_next ?_
              refine c_cond_f H rfl ?_
              refine wp_skip ?_
              refine c_next ?_
              refine wp_region_lit ?_
              refine wl_v _ (r_move (H.ev rfl)) ?_; refine kl H rfl fun a H => ?_
              refine wl_v _ (r_assign (H.ev rfl)) ?_; refine kl H rfl fun a H => ?_
              refine wpList_nil ?_
              refine n_block ?_
              refine c_next ?_
              refine wp_region_lit ?_
              refine wl_v _ (r_move (H.ev rfl)) ?_; refine kl H rfl fun a H => ?_
              refine wl_v _ (r_add (q := ((j + 1 : Nat) : Int)) Try.underlying3 (H.ev rfl) evc (by omega) (by omega)) ?_; refine kl H rfl fun a H => ?_
              refine wl_v _ (r_assign (H.ev rfl)) ?_; refine kl H rfl fun a H => ?_
              refine wpList_nil ?_
              refine n_then ⟨⟨y.2, j + 1, H.pick [0, 1, 5, 6, 7, 20, 21, 22, 23], by omega, HLN.out, h, hr, hi, hall⟩, ?_⟩
              rw [H.ev (j := 23) rfl, H1.ev (j := 23) rfl]
              simp only [intOf]
              omega
            · skip
              obtain rfl : j = (dueIds L at').length := by omega
              clear hlast
              refine wp_seq ?_
              refine wp_seq ?_
              refine wp_region_lit ?_
              refine wl_v _ (r_move (H.ev rfl)) ?_; refine kl H rfl fun a H => ?_
              refine wl_v _ (r_move (H.ev rfl)) ?_; refine kl H rfl fun a H => ?_
              refine wl_v _ (r_len Try.underlying31 (H.ev rfl)) ?_; refine kl H rfl fun a H => ?_
              refine wl_v _ (r_lt Try.underlying3 (H.ev rfl) (H.ev rfl) (dec_f (by omega))) ?_; refine kl H rfl fun a H => ?_
              refine wpList_nil ?_
              refine c_next ?_
              refine c_cond_f H rfl ?_
              refine wp_exit ?_
              refine e_then ?_
              refine e_then ?_
              refine e_here ?_
              refine c_next ?_
              refine wp_seq ?_
              clear h hi
              cases is
              · skip
                clear hcs
                refine wp_region_lit ?_
                refine wl_v _ (r_move (H.ev rfl)) ?_; refine kl H rfl fun a H => ?_
                refine wl_call _ _ _ (next19_any _ _ (dueRest L at') hr (by omega)) (r_call1 cf19 (H.ev rfl)) ?_; rintro e w9 ⟨rfl, rfl⟩; refine ⟨_, rfl, ?_⟩; rw [HNX.out, HIS.out]; skip; refine kl H rfl fun a H => ?_
                refine wl_v _ (r_move (H.ev rfl)) ?_; refine kl H rfl fun a H => ?_
                refine wl_v _ (r_extract (H.ev rfl) rfl) ?_; refine kl H rfl fun a H => ?_
                refine wl_v _ (r_extract (H.ev rfl) rfl) ?_; refine kl H rfl fun a H => ?_
                refine wl_v _ (r_assign (H.ev rfl)) ?_; refine kl H rfl fun a H => ?_
                refine wl_v _ (r_assign (H.ev rfl)) ?_; refine kl H rfl fun a H => ?_
                refine wpList_nil ?_
                refine c_next ?_
                refine wp_seq ?_
                refine wp_seq ?_
                refine wp_region_lit ?_
                refine wl_v _ (r_move (H.ev rfl)) ?_; refine kl H rfl fun a H => ?_
                refine wl_v _ (r_move (H.ev rfl)) ?_; refine kl H rfl fun a H => ?_
                refine wl_s (kg_no rfl H rfl rfl rfl) ?_; refine kl H rfl fun a H => ?_
                refine wl_s (kg_no rfl H rfl rfl rfl) ?_; refine kl H rfl fun a H => ?_
                refine wl_s (kg_no rfl H rfl rfl rfl) ?_; refine kl H rfl fun a H => ?_
                refine wl_s (kg_no rfl H rfl rfl rfl) ?_; refine kl H rfl fun a H => ?_
                refine wl_s (kg_no rfl H rfl rfl rfl) ?_; refine kl H rfl fun a H => ?_
                refine wl_s (kg_no rfl H rfl rfl rfl) ?_; refine kl H rfl fun a H => ?_
                refine wl_s (kg_no rfl H rfl rfl rfl) ?_; refine kl H rfl fun a H => ?_
                refine wl_v _ (r_pick_f (H.ev rfl) evc) ?_; refine kl H rfl fun a H => ?_
                refine wl_v _ (r_move (H.ev rfl)) ?_; refine kl H rfl fun a H => ?_
                refine op_unguard _ _ (kg_yes rfl H rfl rfl rfl) ?_; refine wl_v _ (r_move (H.ev rfl)) ?_; refine kl H rfl fun a H => ?_
                refine op_unguard _ _ (kg_yes rfl H rfl rfl rfl) ?_; refine wl_v _ (r_len Try.underlying22 (H.ev rfl)) ?_; refine kl H rfl fun a H => ?_
                refine op_unguard _ _ (kg_yes rfl H rfl rfl rfl) ?_; refine wl_v _ (r_move (H.ev rfl)) ?_; refine kl H rfl fun a H => ?_
                refine op_unguard _ _ (kg_yes rfl H rfl rfl rfl) ?_; refine wl_v _ (r_len Try.underlying31 (H.ev rfl)) ?_; refine kl H rfl fun a H => ?_
                refine op_unguard _ _ (kg_yes rfl H rfl rfl rfl) ?_; refine wl_v _ (r_add (q := ((dueRest L at').length : Int) + (dueIds L at').length) Try.underlying3 (H.ev rfl) (H.ev rfl) (by omega) (by omega)) ?_; refine kl H rfl fun a H => ?_
                refine op_unguard _ _ (kg_yes rfl H rfl rfl rfl) ?_; refine wl_v _ (r_move (H.ev rfl)) ?_; refine kl H rfl fun a H => ?_
                refine op_unguard _ _ (kg_yes rfl H rfl rfl rfl) ?_; refine wl_v _ (r_ne Try.underlying3 (H.ev rfl) (H.ev rfl) (dec_f (by omega))) ?_; refine kl H rfl fun a H => ?_
                refine wl_v _ (r_pick_f (H.ev rfl) (H.ev rfl)) ?_; refine kl H rfl fun a H => ?_
                refine wpList_nil ?_
                refine c_next ?_
                refine c_cond_f H rfl ?_
                refine wp_skip ?_
                refine c_next ?_
                refine wp_region_lit ?_
                refine wl_v _ (r_move (H.ev rfl)) ?_; refine kl H rfl fun a H => ?_
                refine wl_v _ (r_assign (H.ev rfl)) ?_; refine kl H rfl fun a H => ?_
                refine wpList_nil ?_
                refine n_block ?_
                refine c_next ?_
                refine wp_seq ?_
                refine wp_region_lit ?_
                refine wl_v _ (r_move (H.ev rfl)) ?_; refine kl H rfl fun a H => ?_
                refine wl_call _ _ _ (right_any _ _ (dueRest L at') hr (by omega) (fun x hx => (HLW.out.rest at' x hx).1)) (r_call1 cf8 (H.ev rfl)) ?_; rintro e w9 ⟨rfl, hb⟩; refine ⟨_, rfl, ?_⟩; rw [(right_iff (dueRest L at')).2 (HRL.out.rest at')]; replace hr := Row.up hr hb; replace hall := hall.trans (hb.mono hall.size); clear hb; refine kl H rfl fun a H => ?_
                refine wl_v _ (r_not (H.ev rfl) rfl) ?_; refine kl H rfl fun a H => ?_
                refine wpList_nil ?_
                refine c_next ?_
                refine c_cond_f H rfl ?_
                refine wp_skip ?_
                refine n_block ?_
                refine c_next ?_
                refine wp_region_lit ?_
                refine wl_v _ (r_move (H.ev rfl)) ?_; refine kl H rfl fun a H => ?_
                refine wl_v _ (r_add (q := ((k + 1 : Nat) : Int)) Try.underlying3 (H.ev rfl) evc (by omega) (by omega)) ?_; refine kl H rfl fun a H => ?_
                refine wl_v _ (r_assign (H.ev rfl)) ?_; refine kl H rfl fun a H => ?_
                refine wpList_nil ?_
                refine n_then ⟨⟨k + 1, (dueRest L at'), _, H.pick [0, 1, 5, 6], by omega, hr, HRL.out.rest at', HLW.out.rest at', hall⟩, ?_⟩
                rw [H.ev (j := 6) rfl, H0.ev (j := 6) rfl]
                simp only [intOf]
                omega
              · skip
                have hnx := hcs rfl
                clear hcs
                refine wp_region_lit ?_
                refine wl_v _ (r_move (H.ev rfl)) ?_; refine kl H rfl fun a H => ?_
                refine wl_call _ _ _ (next19_any _ _ (dueRest L at') hr (by omega)) (r_call1 cf19 (H.ev rfl)) ?_; rintro e w9 ⟨rfl, rfl⟩; refine ⟨_, rfl, ?_⟩; rw [HNX.out, HIS.out]; skip; refine kl H rfl fun a H => ?_
                refine wl_v _ (r_move (H.ev rfl)) ?_; refine kl H rfl fun a H => ?_
                refine wl_v _ (r_extract (H.ev rfl) rfl) ?_; refine kl H rfl fun a H => ?_
                refine wl_v _ (r_extract (H.ev rfl) rfl) ?_; refine kl H rfl fun a H => ?_
                refine wl_v _ (r_assign (H.ev rfl)) ?_; refine kl H rfl fun a H => ?_
                refine wl_v _ (r_assign (H.ev rfl)) ?_; refine kl H rfl fun a H => ?_
                refine wpList_nil ?_
                refine c_next ?_
                refine wp_seq ?_
                refine wp_seq ?_
                refine wp_region_lit ?_
                refine wl_v _ (r_move (H.ev rfl)) ?_; refine kl H rfl fun a H => ?_
                refine wl_v _ (r_move (H.ev rfl)) ?_; refine kl H rfl fun a H => ?_
                refine op_unguard _ _ (kg_yes rfl H rfl rfl rfl) ?_; refine wl_v _ (r_move (H.ev rfl)) ?_; refine kl H rfl fun a H => ?_
                refine op_unguard _ _ (kg_yes rfl H rfl rfl rfl) ?_; refine wl_v _ (r_move (H.ev rfl)) ?_; refine kl H rfl fun a H => ?_
                refine op_unguard _ _ (kg_yes rfl H rfl rfl rfl) ?_; refine wl_v _ (r_move (H.ev rfl)) ?_; refine kl H rfl fun a H => ?_
                refine op_unguard _ _ (kg_yes rfl H rfl rfl rfl) ?_; refine wl_v _ (r_idx (j := k) (q := o + k * 3) Try.underlying23 s27 (H.ev rfl) (H.ev rfl) (by omega) rfl) ?_; refine kl H rfl fun a H => ?_
                refine op_unguard _ _ (kg_yes rfl H rfl rfl rfl) ?_; refine wl_v _ (r_fld (q := o + k * 3 + 2) fld27_2 (H.ev rfl) rfl) ?_; refine kl H rfl fun a H => ?_
                refine op_unguard _ _ (kg_yes rfl H rfl rfl rfl) ?_; refine wl_v _ (r_ld Try.underlying3 rfl (H.ev rfl) (range_cell (range_ups HRG.out hall) 2 rfl)) ?_; refine kl H rfl fun a H => ?_
                refine op_unguard _ _ (kg_yes rfl H rfl rfl rfl) ?_; refine wl_v _ (r_le Try.underlying3 (H.ev rfl) (H.ev rfl) (dec_f (by omega))) ?_; refine kl H rfl fun a H => ?_
                refine wl_v _ (r_pick_t (H.ev rfl) (H.ev rfl)) ?_; refine kl H rfl fun a H => ?_
                refine wl_v _ (r_move (H.ev rfl)) ?_; refine kl H rfl fun a H => ?_
                refine op_unguard _ _ (kg_yes rfl H rfl rfl rfl) ?_; refine wl_v _ (r_move (H.ev rfl)) ?_; refine kl H rfl fun a H => ?_
                refine op_unguard _ _ (kg_yes rfl H rfl rfl rfl) ?_; refine wl_v _ (r_len Try.underlying22 (H.ev rfl)) ?_; refine kl H rfl fun a H => ?_
                refine op_unguard _ _ (kg_yes rfl H rfl rfl rfl) ?_; refine wl_v _ (r_move (H.ev rfl)) ?_; refine kl H rfl fun a H => ?_
                refine op_unguard _ _ (kg_yes rfl H rfl rfl rfl) ?_; refine wl_v _ (r_len Try.underlying31 (H.ev rfl)) ?_; refine kl H rfl fun a H => ?_
                refine op_unguard _ _ (kg_yes rfl H rfl rfl rfl) ?_; refine wl_v _ (r_add (q := ((dueRest L at').length : Int) + (dueIds L at').length) Try.underlying3 (H.ev rfl) (H.ev rfl) (by omega) (by omega)) ?_; refine kl H rfl fun a H => ?_
                refine op_unguard _ _ (kg_yes rfl H rfl rfl rfl) ?_; refine wl_v _ (r_move (H.ev rfl)) ?_; refine kl H rfl fun a H => ?_
                refine op_unguard _ _ (kg_yes rfl H rfl rfl rfl) ?_; refine wl_v _ (r_ne Try.underlying3 (H.ev rfl) (H.ev rfl) (dec_f (by omega))) ?_; refine kl H rfl fun a H => ?_
                refine wl_v _ (r_pick_f (H.ev rfl) (H.ev rfl)) ?_; refine kl H rfl fun a H => ?_
                refine wpList_nil ?_
                refine c_next ?_
                refine c_cond_f H rfl ?_
                refine wp_skip ?_
                refine c_next ?_
                refine wp_region_lit ?_
                refine wl_v _ (r_move (H.ev rfl)) ?_; refine kl H rfl fun a H => ?_
                refine wl_v _ (r_assign (H.ev rfl)) ?_; refine kl H rfl fun a H => ?_
                refine wpList_nil ?_
                refine n_block ?_
                refine c_next ?_
                refine wp_seq ?_
                refine wp_region_lit ?_
                refine wl_v _ (r_move (H.ev rfl)) ?_; refine kl H rfl fun a H => ?_
                refine wl_call _ _ _ (right_any _ _ (dueRest L at') hr (by omega) (fun x hx => (HLW.out.rest at' x hx).1)) (r_call1 cf8 (H.ev rfl)) ?_; rintro e w9 ⟨rfl, hb⟩; refine ⟨_, rfl, ?_⟩; rw [(right_iff (dueRest L at')).2 (HRL.out.rest at')]; replace hr := Row.up hr hb; replace hall := hall.trans (hb.mono hall.size); clear hb; refine kl H rfl fun a H => ?_
                refine wl_v _ (r_not (H.ev rfl) rfl) ?_; refine kl H rfl fun a H => ?_
                refine wpList_nil ?_
                refine c_next ?_
                refine c_cond_f H rfl ?_
                refine wp_skip ?_
                refine n_block ?_
                refine c_next ?_
                refine wp_region_lit ?_
                refine wl_v _ (r_move (H.ev rfl)) ?_; refine kl H rfl fun a H => ?_
                refine wl_v _ (r_add (q := ((k + 1 : Nat) : Int)) Try.underlying3 (H.ev rfl) evc (by omega) (by omega)) ?_; refine kl H rfl fun a H => ?_
                refine wl_v _ (r_assign (H.ev rfl)) ?_; refine kl H rfl fun a H => ?_
                refine wpList_nil ?_
                refine n_then ⟨⟨k + 1, (dueRest L at'), _, H.pick [0, 1, 5, 6], by omega, hr, HRL.out.rest at', HLW.out.rest at', hall⟩, ?_⟩
                rw [H.ev (j := 6) rfl, H0.ev (j := 6) rfl]
                simp only [intOf]
                omega
      · skip
        obtain rfl : k = V.length := by omega
        clear hR hL h
        refine wp_seq ?_
        refine wp_seq ?_
        refine wp_region_lit ?_
        refine wl_v _ (r_move (H.ev rfl)) ?_; refine kl H rfl fun a H => ?_
        refine wl_v _ (r_move (H.ev rfl)) ?_; refine kl H rfl fun a H => ?_
        refine wl_v _ (r_len Try.underlying23 (H.ev rfl)) ?_; refine kl H rfl fun a H => ?_
        refine wl_v _ (r_lt Try.underlying3 (H.ev rfl) (H.ev rfl) (dec_f (by omega))) ?_; refine kl H rfl fun a H => ?_
        refine wpList_nil ?_
        refine c_next ?_
        refine c_cond_f H rfl ?_
        refine wp_exit ?_
        refine e_then ?_
        refine e_then ?_
        refine e_here ?_
        refine c_next ?_
        refine wp_seq ?_
        refine wp_region_lit ?_
        refine wl_v _ (r_move (H.ev rfl)) ?_; refine kl H rfl fun a H => ?_
        refine wl_v _ (r_assign (H.ev rfl)) ?_; refine kl H rfl fun a H => ?_
        refine wpList_nil ?_
        refine c_next ?_
        refine wp_ret ?_
        exact k_ret1 H rfl rfl ⟨rfl, hall⟩
end Go.Proofs.Ytndpbciefijjcaa
