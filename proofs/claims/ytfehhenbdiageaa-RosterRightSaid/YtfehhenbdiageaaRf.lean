/- Roster: RosterRight, proved: what is right stays right, an error changes nothing, and what is done changes one standing alone. -/
import Derived.Test.YtfehhenbdiageaaUk
namespace Go.Proofs.Ytfehhenbdiageaa
open Go.ChangeShapes Go.WideShapes Go.ChangeAt Go.RowKit Go.Maps
set_option linter.unusedVariables false
set_option linter.unusedSimpArgs false

theorem right_wf {L : List Tm} (hR : RightL L) : ∀ x ∈ L, (Lit.int .i64 x.1).wf = true := by
  intro x hx
  have h := hR.2.1 x hx
  unfold okB userB at h
  simp at h
  have h1 : IntKind.i64.min = -9223372036854775808 := by decide
  have h2 : IntKind.i64.max = 9223372036854775807 := by decide
  simp only [Lit.wf, h1, h2, Bool.and_eq_true, decide_eq_true_eq]
  omega
def SRi (W : World) (bx : Nat) (op who peer : Int) (v : Value) (L : List Tm) (v8 : Value) (M : List Tm) (w : World) : Prop := Below W.heap.size W w ∧ Block w bx 27 #[.int .i64 op, .int .i64 who, .int .i64 peer] ∧ TRow w v L ∧ TRow w v8 M
theorem SRi.up {W w w' : World} {bx : Nat} {op who peer : Int} {v : Value} {L : List Tm} {v8 : Value} {M : List Tm} (h : SRi W bx op who peer v L v8 M w) (hb : Below w.heap.size w w') : SRi W bx op who peer v L v8 M w' := ⟨h.1.trans (hb.mono h.1.size), h.2.1.ups hb, Row.up h.2.2.1 hb, Row.up h.2.2.2 hb⟩
def RtO (W : World) (AV : Option Addr) (cV : Nat) (V : List Tm) (a : Act) (w : World) : Prop :=
  ∃ (k : Nat) (L : List Tm) (v : Value), Kn a 121 [(0, v), (1, .slice AV V.length cV), (5, .bool true), (6, .int .i64 (k : Nat))] ∧ k ≤ V.length ∧ TRow w v L ∧ RightL L ∧ Below W.heap.size W w
def RtX (W : World) (b o cV : Nat) (V : List Tm) (k : Nat) (v : Value) (L : List Tm) (v8 : Value) (M : List Tm) (e er x z tq : Int) (a : Act) (w : World) : Prop :=
  ∃ i : Nat, Kn a 121 [(0, v), (1, .slice (some ⟨b, o, none⟩) V.length cV), (5, .bool true), (6, .int .i64 (k : Nat)), (8, v8), (9, .int .i64 e), (10, .int .i64 x), (11, .int .i64 z), (12, .int .i64 tq), (13, .int .i64 er), (14, .int .i64 (i : Nat))] ∧ i ≤ 17 ∧ TRow w v L ∧ TRow w v8 M ∧ Below W.heap.size W w
def RtY (W : World) (b o cV : Nat) (V : List Tm) (k : Nat) (v : Value) (L : List Tm) (v8 : Value) (M : List Tm) (e er x z tq : Int) (i : Nat) (a : Act) (w : World) : Prop :=
  ∃ j : Nat, Kn a 121 [(0, v), (1, .slice (some ⟨b, o, none⟩) V.length cV), (5, .bool true), (6, .int .i64 (k : Nat)), (8, v8), (9, .int .i64 e), (10, .int .i64 x), (11, .int .i64 z), (12, .int .i64 tq), (13, .int .i64 er), (14, .int .i64 (i : Nat)), (15, .int .i64 (j : Nat))] ∧ j ≤ 17 ∧ TRow w v L ∧ TRow w v8 M ∧ Below W.heap.size W w
set_option maxHeartbeats 8000000 in
theorem right_walk (w : World) (v : Value) (L : List Tm) (AV : Option Addr) (cV : Nat) (V : List Tm) (h : TRow w v L) (hn : L.length ≤ 9223372036854775807) (hLW : LWF L) (hVn : V.length ≤ 9223372036854775807) (hhV : Holds w AV (FV encT V)) :
    Calls Try.prog 4 #[v, .slice AV V.length cV] w fun e w' => e = .returned (.bool true) ∧ Below w.heap.size w w' := by
  have hall := Below.refl w.heap.size w
  replace hhV := Lib.hid hhV
  have hwf : Hid (∀ x ∈ L, (Lit.int .i64 x.1).wf = true) := Lib.hid fun x hx => (hLW x hx).1
  cases hr : rightF L
  · skip
    refine K_enter 121 Try.func4 rfl rfl fun a H => ?_
    replace H := H.pick [0, 1]
    refine wp_seq ?_
    refine wp_region_lit ?_
    refine wl_v _ (r_assign evc) ?_; refine kl H rfl fun a H => ?_
    refine wpList_nil ?_
    refine c_next ?_
    refine wp_seq ?_
    refine wp_region_lit ?_
    refine wl_call _ _ _ (small_any _) (r_call0 cf10) ?_; rintro e w9 ⟨rfl, hb⟩; refine ⟨_, rfl, ?_⟩; replace h := Row.up h hb; replace hall := hall.trans (hb.mono hall.size); clear hb; refine kl H rfl fun a H => ?_
    refine wl_v _ (r_assign (H.ev rfl)) ?_; refine kl H rfl fun a H => ?_
    refine wpList_nil ?_
    refine c_next ?_
    refine wp_seq ?_
    refine wp_seq ?_
    refine wp_region_lit ?_
    refine wl_v _ (r_move (H.ev rfl)) ?_; refine kl H rfl fun a H => ?_
    refine wl_v _ (r_len Try.underlying23 (H.ev rfl)) ?_; refine kl H rfl fun a H => ?_
    by_cases c0 : ((V.length : Nat) : Int) > 100
    · skip
      refine wl_v _ (r_gt Try.underlying3 (H.ev rfl) evc (dec_t (c0))) ?_; refine kl H rfl fun a H => ?_
      refine wl_v _ (r_move (H.ev rfl)) ?_; refine kl H rfl fun a H => ?_
      refine wl_s (kg_no rfl H rfl rfl rfl) ?_; refine kl H rfl fun a H => ?_
      refine wl_s (kg_no rfl H rfl rfl rfl) ?_; refine kl H rfl fun a H => ?_
      refine wl_s (kg_no rfl H rfl rfl rfl) ?_; refine kl H rfl fun a H => ?_
      refine wl_v _ (r_pick_t (H.ev rfl) evc) ?_; refine kl H rfl fun a H => ?_
      refine wpList_nil ?_
      refine c_next ?_
      refine c_cond_t H rfl ?_
      refine wp_seq ?_
      refine wp_region_lit ?_
      refine wl_v _ (r_move (H.ev rfl)) ?_; refine kl H rfl fun a H => ?_
      refine wl_v _ (r_assign (H.ev rfl)) ?_; refine kl H rfl fun a H => ?_
      refine wpList_nil ?_
      refine c_next ?_
      refine wp_ret ?_
      refine r_then ?_
      exact k_ret1 H rfl rfl ⟨rfl, hall⟩
    · skip
      refine wl_v _ (r_gt Try.underlying3 (H.ev rfl) evc (dec_f (c0))) ?_; refine kl H rfl fun a H => ?_
      refine wl_v _ (r_move (H.ev rfl)) ?_; refine kl H rfl fun a H => ?_
      refine op_unguard _ _ (kg_yes rfl H rfl rfl rfl) ?_; refine wl_v _ (r_move (H.ev rfl)) ?_; refine kl H rfl fun a H => ?_
      refine op_unguard _ _ (kg_yes rfl H rfl rfl rfl) ?_; refine wl_call _ _ _ (right_any _ _ L h hn hwf.out) (r_call1 cf11 (H.ev rfl)) ?_; rintro e w9 ⟨rfl, hb⟩; refine ⟨_, rfl, ?_⟩; rw [hr]; replace h := Row.up h hb; replace hall := hall.trans (hb.mono hall.size); clear hb; refine kl H rfl fun a H => ?_
      refine op_unguard _ _ (kg_yes rfl H rfl rfl rfl) ?_; refine wl_v _ (r_not (H.ev rfl) rfl) ?_; refine kl H rfl fun a H => ?_
      refine wl_v _ (r_pick_f (H.ev rfl) (H.ev rfl)) ?_; refine kl H rfl fun a H => ?_
      refine wpList_nil ?_
      refine c_next ?_
      refine c_cond_t H rfl ?_
      refine wp_seq ?_
      refine wp_region_lit ?_
      refine wl_v _ (r_move (H.ev rfl)) ?_; refine kl H rfl fun a H => ?_
      refine wl_v _ (r_assign (H.ev rfl)) ?_; refine kl H rfl fun a H => ?_
      refine wpList_nil ?_
      refine c_next ?_
      refine wp_ret ?_
      refine r_then ?_
      exact k_ret1 H rfl rfl ⟨rfl, hall⟩
  · skip
    have HR0 := Lib.hid ((right_iff L).1 hr)
    refine K_enter 121 Try.func4 rfl rfl fun a H => ?_
    replace H := H.pick [0, 1]
    refine wp_seq ?_
    refine wp_region_lit ?_
    refine wl_v _ (r_assign evc) ?_; refine kl H rfl fun a H => ?_
    refine wpList_nil ?_
    refine c_next ?_
    refine wp_seq ?_
    refine wp_region_lit ?_
    refine wl_call _ _ _ (small_any _) (r_call0 cf10) ?_; rintro e w9 ⟨rfl, hb⟩; refine ⟨_, rfl, ?_⟩; replace h := Row.up h hb; replace hall := hall.trans (hb.mono hall.size); clear hb; refine kl H rfl fun a H => ?_
    refine wl_v _ (r_assign (H.ev rfl)) ?_; refine kl H rfl fun a H => ?_
    refine wpList_nil ?_
    refine c_next ?_
    refine wp_seq ?_
    refine wp_seq ?_
    refine wp_region_lit ?_
    refine wl_v _ (r_move (H.ev rfl)) ?_; refine kl H rfl fun a H => ?_
    refine wl_v _ (r_len Try.underlying23 (H.ev rfl)) ?_; refine kl H rfl fun a H => ?_
    by_cases c1 : ((V.length : Nat) : Int) > 100
    · skip
      refine wl_v _ (r_gt Try.underlying3 (H.ev rfl) evc (dec_t (c1))) ?_; refine kl H rfl fun a H => ?_
      refine wl_v _ (r_move (H.ev rfl)) ?_; refine kl H rfl fun a H => ?_
      refine wl_s (kg_no rfl H rfl rfl rfl) ?_; refine kl H rfl fun a H => ?_
      refine wl_s (kg_no rfl H rfl rfl rfl) ?_; refine kl H rfl fun a H => ?_
      refine wl_s (kg_no rfl H rfl rfl rfl) ?_; refine kl H rfl fun a H => ?_
      refine wl_v _ (r_pick_t (H.ev rfl) evc) ?_; refine kl H rfl fun a H => ?_
      refine wpList_nil ?_
      refine c_next ?_
      refine c_cond_t H rfl ?_
      refine wp_seq ?_
      refine wp_region_lit ?_
      refine wl_v _ (r_move (H.ev rfl)) ?_; refine kl H rfl fun a H => ?_
      refine wl_v _ (r_assign (H.ev rfl)) ?_; refine kl H rfl fun a H => ?_
      refine wpList_nil ?_
      refine c_next ?_
      refine wp_ret ?_
      refine r_then ?_
      exact k_ret1 H rfl rfl ⟨rfl, hall⟩
    · skip
      refine wl_v _ (r_gt Try.underlying3 (H.ev rfl) evc (dec_f (c1))) ?_; refine kl H rfl fun a H => ?_
      refine wl_v _ (r_move (H.ev rfl)) ?_; refine kl H rfl fun a H => ?_
      refine op_unguard _ _ (kg_yes rfl H rfl rfl rfl) ?_; refine wl_v _ (r_move (H.ev rfl)) ?_; refine kl H rfl fun a H => ?_
      refine op_unguard _ _ (kg_yes rfl H rfl rfl rfl) ?_; refine wl_call _ _ _ (right_any _ _ L h hn hwf.out) (r_call1 cf11 (H.ev rfl)) ?_; rintro e w9 ⟨rfl, hb⟩; refine ⟨_, rfl, ?_⟩; rw [hr]; replace h := Row.up h hb; replace hall := hall.trans (hb.mono hall.size); clear hb; refine kl H rfl fun a H => ?_
      refine op_unguard _ _ (kg_yes rfl H rfl rfl rfl) ?_; refine wl_v _ (r_not (H.ev rfl) rfl) ?_; refine kl H rfl fun a H => ?_
      refine wl_v _ (r_pick_f (H.ev rfl) (H.ev rfl)) ?_; refine kl H rfl fun a H => ?_
      refine wpList_nil ?_
      refine c_next ?_
      refine c_cond_f H rfl ?_
      refine wp_skip ?_
      refine c_next ?_
      refine wp_seq ?_
      refine wp_seq ?_
      refine wp_region_lit ?_
      refine wl_v _ (r_assign evc) ?_; refine kl H rfl fun a H => ?_
      refine wpList_nil ?_
      refine c_next ?_
      refine wp_block ?_
      refine wp_loop (RtO w AV cV V) (fun a _ => V.length - (intOf (a.eval (.tmp 6))).toNat) ⟨0, L, v, H.pick [0, 1, 5, 6], by omega, h, HR0.out, hall⟩ ?_
      clear hall h hr hwf hn HR0 H
      rintro a w' ⟨k, L, v, H, hk, h, hR, hall⟩
      have H0 := H
      by_cases hlt : k < V.length
      · skip
        obtain ⟨b, o, hA, hr⟩ := flat_some encT_len hhV.out (by omega) hlt
        subst hA
        generalize V[k] = y at *
        obtain ⟨op, who, peer⟩ := y
        have HRG : Hid (w.rangeAt b (o + k * 3) [.int .i64 op, .int .i64 who, .int .i64 peer]) := Lib.hid hr
        have hl := hR.2.2.2
        have HR := Lib.hid hR
        clear hr hR
        refine wp_seq ?_
        refine wp_seq ?_
        refine wp_region_lit ?_
        refine wl_v _ (r_move (H.ev rfl)) ?_; refine kl H rfl fun a H => ?_
        refine wl_v _ (r_move (H.ev rfl)) ?_; refine kl H rfl fun a H => ?_
        refine wl_v _ (r_len Try.underlying23 (H.ev rfl)) ?_; refine kl H rfl fun a H => ?_
        refine wl_v _ (r_lt Try.underlying3 (H.ev rfl) (H.ev rfl) (dec_t (by omega))) ?_; refine kl H rfl fun a H => ?_
        refine wpList_nil ?_
        refine c_next ?_
        refine c_cond_t H rfl ?_
        refine wp_skip ?_
        refine c_next ?_
        refine wp_seq ?_
        refine wp_block ?_
        refine wp_seq ?_
        refine wp_region_lit ?_
        refine wl_v _ (r_move (H.ev rfl)) ?_; refine kl H rfl fun a H => ?_
        refine wl_v _ (r_move (H.ev rfl)) ?_; refine kl H rfl fun a H => ?_
        refine wl_v _ (r_idx (j := k) (q := o + k * 3) Try.underlying23 s27 (H.ev rfl) (H.ev rfl) (by omega) rfl) ?_; refine kl H rfl fun a H => ?_
        refine wl_v _ (r_row (cs := [.int .i64 op, .int .i64 who, .int .i64 peer]) (H.ev rfl) (range_ups HRG.out hall) (by kernel_rfl) s27 rfl) ?_; refine kl H rfl fun a H => ?_
        refine op_new 27 7 (.tmp 36) #[.int .i64 op, .int .i64 who, .int .i64 peer] _ z27 s27 rfl (ints_one [op, who, peer]) (fun p => (H.put 7 p rfl).ev rfl) (fun p => (H.put 7 p rfl).ev rfl) fun w0 b0 hge hb k0 => ?_; have g0 := Nat.le_trans hall.size hge; replace h := Row.up h hb; replace hall := hall.trans (hb.mono hall.size); clear hb; clear hge; refine kl H rfl fun a H => ?_
        refine wpList_nil ?_
        refine c_next ?_
        refine wp_seq ?_
        obtain ⟨M, hM⟩ : ∃ M, (doF L op who peer).1 = M := ⟨_, rfl⟩
        obtain ⟨mi, hmi⟩ : ∃ mi, mineB op = mi := ⟨_, rfl⟩
        have HMI := Lib.hid hmi
        have HM := Lib.hid hM
        have hRM : RightL M := by rw [← hM]; exact right_do HR.out _ _ _
        have hMl := hRM.2.2.2
        have HRM := Lib.hid hRM
        clear hM hmi hRM
        cases mi
        · skip
          obtain ⟨s, hs⟩ : ∃ s, stF L peer who = s := ⟨_, rfl⟩
          obtain ⟨tq, hto⟩ : ∃ tq, (stepF s op).1 = tq := ⟨_, rfl⟩
          obtain ⟨er, her⟩ : ∃ er, (stepF s op).2 = er := ⟨_, rfl⟩
          have HS := Lib.hid hs
          have HTO := Lib.hid hto
          have HER := Lib.hid her
          have hdc := do_cases HR.out op who peer
          have ex : wchF op who peer = peer := by unfold wchF; rw [HMI.out]; rfl
          have ez : tgtF op who peer = who := by unfold tgtF; rw [HMI.out]; rfl
          rw [ex, ez, hs, hto, her, HM.out] at hdc
          clear hs hto her ex ez
          rcases hdc with ⟨he, hml⟩ | ⟨hb, hs0, hf, hd⟩
          · skip
            obtain ⟨e, hee⟩ : ∃ e, (doF L op who peer).2 = e := ⟨_, rfl⟩
            rw [hee] at he
            have HE := Lib.hid hee
            have HML := Lib.hid hml
            clear hee hml
            refine wp_region_lit ?_
            refine wl_v _ (r_move (H.ev rfl)) ?_; refine kl H rfl fun a H => ?_
            refine wl_v _ (r_fld (q := 0) fld27_0 (H.ev rfl) rfl) ?_; refine kl H rfl fun a H => ?_
            refine wl_v _ (r_ld Try.underlying3 rfl (H.ev rfl) ((Block.cell k0 0).trans rfl)) ?_; refine kl H rfl fun a H => ?_
            refine wl_v _ (r_fld (q := 1) fld27_1 (H.ev rfl) rfl) ?_; refine kl H rfl fun a H => ?_
            refine wl_v _ (r_ld Try.underlying3 rfl (H.ev rfl) ((Block.cell k0 1).trans rfl)) ?_; refine kl H rfl fun a H => ?_
            refine wl_v _ (r_fld (q := 2) fld27_2 (H.ev rfl) rfl) ?_; refine kl H rfl fun a H => ?_
            refine wl_v _ (r_ld Try.underlying3 rfl (H.ev rfl) ((Block.cell k0 2).trans rfl)) ?_; refine kl H rfl fun a H => ?_
            refine wl_call _ _ _ (do_any _ _ L op who peer h (by omega) HR.out) (r_call4 cf13 (H.ev rfl) (H.ev rfl) (H.ev rfl) (H.ev rfl)) ?_; rintro e w9 ⟨⟨v8, rfl, hown⟩, hb⟩; refine ⟨_, rfl, ?_⟩; rw [HE.out]; replace h := Row.up h hb; replace k0 := Block.ups k0 hb; replace hall := hall.trans (hb.mono hall.size); clear hb; rw [HM.out] at hown; have r8 := TOwn.row hown; clear hown; refine kl H rfl fun a H => ?_
            refine wl_v _ (r_move (H.ev rfl)) ?_; refine kl H rfl fun a H => ?_
            refine wl_v _ (r_extract (v := v8) (H.ev rfl) rfl) ?_; refine kl H rfl fun a H => ?_
            refine wl_v _ (r_extract (v := .int .i64 e) (H.ev rfl) rfl) ?_; refine kl H rfl fun a H => ?_
            refine wl_v _ (r_assign (H.ev rfl)) ?_; refine kl H rfl fun a H => ?_
            refine wl_v _ (r_assign (H.ev rfl)) ?_; refine kl H rfl fun a H => ?_
            refine wpList_nil ?_
            refine c_next ?_
            refine wp_seq ?_
            refine wp_seq ?_
            refine wp_region_lit ?_
            refine wl_v _ (r_move (H.ev rfl)) ?_; refine kl H rfl fun a H => ?_
            refine wl_call _ _ _ (right_any _ _ M r8 (by omega) (right_wf HRM.out)) (r_call1 cf11 (H.ev rfl)) ?_; rintro e w9 ⟨rfl, hb⟩; refine ⟨_, rfl, ?_⟩; rw [(right_iff M).2 HRM.out]; replace h := Row.up h hb; replace k0 := Block.ups k0 hb; replace r8 := Row.up r8 hb; replace hall := hall.trans (hb.mono hall.size); clear hb; refine kl H rfl fun a H => ?_
            refine wl_v _ (r_not (H.ev rfl) rfl) ?_; refine kl H rfl fun a H => ?_
            refine wl_v _ (r_move (H.ev rfl)) ?_; refine kl H rfl fun a H => ?_
            refine op_unguard _ _ (kg_yes rfl H rfl rfl rfl) ?_; refine wl_v _ (r_move (H.ev rfl)) ?_; refine kl H rfl fun a H => ?_
            refine op_unguard _ _ (kg_yes rfl H rfl rfl rfl) ?_; refine wl_v _ (r_ne Try.underlying28 (H.ev rfl) evc (dec_t (he))) ?_; refine kl H rfl fun a H => ?_
            refine op_unguard _ _ (kg_yes rfl H rfl rfl rfl) ?_; refine wl_v _ (r_move (H.ev rfl)) ?_; refine kl H rfl fun a H => ?_
            refine op_unguard _ _ (kg_yes rfl H rfl rfl rfl) ?_; refine wl_v _ (r_move (H.ev rfl)) ?_; refine kl H rfl fun a H => ?_
            refine op_unguard _ _ (kg_yes rfl H rfl rfl rfl) ?_; refine wl_v _ (r_move (H.ev rfl)) ?_; refine kl H rfl fun a H => ?_
            refine op_unguard _ _ (kg_yes rfl H rfl rfl rfl) ?_; refine wl_call _ _ _ (same15_any _ _ _ M L r8 h (by omega) (by omega)) (r_call2 cf15 (H.ev rfl) (H.ev rfl)) ?_; rintro e w9 ⟨rfl, hb⟩; refine ⟨_, rfl, ?_⟩; rw [decide_eq_true HML.out]; replace h := Row.up h hb; replace k0 := Block.ups k0 hb; replace r8 := Row.up r8 hb; replace hall := hall.trans (hb.mono hall.size); clear hb; refine kl H rfl fun a H => ?_
            refine op_unguard _ _ (kg_yes rfl H rfl rfl rfl) ?_; refine wl_v _ (r_not (H.ev rfl) rfl) ?_; refine kl H rfl fun a H => ?_
            refine op_unguard _ _ (kg_yes rfl H rfl rfl rfl) ?_; refine wl_v _ (r_pick_t (H.ev rfl) (H.ev rfl)) ?_; refine kl H rfl fun a H => ?_
            refine wl_v _ (r_pick_f (H.ev rfl) (H.ev rfl)) ?_; refine kl H rfl fun a H => ?_
            refine wpList_nil ?_
            refine c_next ?_
            refine c_cond_f H rfl ?_
            refine wp_skip ?_
            refine c_next ?_
            refine wp_seq ?_
            refine wp_region_lit ?_
            refine wl_v _ (r_fld (q := 2) fld27_2 (H.ev rfl) rfl) ?_; refine kl H rfl fun a H => ?_
            refine wl_v _ (r_ld Try.underlying3 rfl (H.ev rfl) ((Block.cell k0 2).trans rfl)) ?_; refine kl H rfl fun a H => ?_
            refine wl_v _ (r_assign (H.ev rfl)) ?_; refine kl H rfl fun a H => ?_
            refine wpList_nil ?_
            refine c_next ?_
            refine wp_seq ?_
            refine wp_region_lit ?_
            refine wl_v _ (r_fld (q := 1) fld27_1 (H.ev rfl) rfl) ?_; refine kl H rfl fun a H => ?_
            refine wl_v _ (r_ld Try.underlying3 rfl (H.ev rfl) ((Block.cell k0 1).trans rfl)) ?_; refine kl H rfl fun a H => ?_
            refine wl_v _ (r_assign (H.ev rfl)) ?_; refine kl H rfl fun a H => ?_
            refine wpList_nil ?_
            refine c_next ?_
            refine wp_seq ?_
            refine wp_seq ?_
            refine wp_region_lit ?_
            refine wl_v _ (r_fld (q := 0) fld27_0 (H.ev rfl) rfl) ?_; refine kl H rfl fun a H => ?_
            refine wl_v _ (r_ld Try.underlying3 rfl (H.ev rfl) ((Block.cell k0 0).trans rfl)) ?_; refine kl H rfl fun a H => ?_
            refine wl_call _ _ _ (mine_any _ _) (r_call1 cf23 (H.ev rfl)) ?_; rintro e w9 ⟨rfl, rfl⟩; refine ⟨_, rfl, ?_⟩; rw [HMI.out]; skip; refine kl H rfl fun a H => ?_
            refine wpList_nil ?_
            refine c_next ?_
            refine c_cond_f H rfl ?_
            refine wp_skip ?_
            refine c_next ?_
            refine wp_seq ?_
            have hS : SRi w b0 op who peer v L v8 M _ := ⟨hall.drew, k0, h, r8⟩
            refine region_pi (SRi w b0 op who peer v L v8 M) [(0, true), (1, true), (2, true), (4, true), (5, true), (3, false), (6, false), (7, true), (8, true), (9, true), (10, true), (11, true)] (by kernel_rfl) (by kernel_rfl) rfl (by kernel_rfl) hS ?_
            clear hall k0 h r8
            refine pi_f0 _ rfl (fun w' hS' => r_move (H.ev rfl)) ?_; refine kp H rfl fun a H => ?_
            refine pi_f0 _ rfl (fun w' hS' => r_move (H.ev rfl)) ?_; refine kp H rfl fun a H => ?_
            refine pi_f0 _ rfl (fun w' hS' => r_move (H.ev rfl)) ?_; refine kp H rfl fun a H => ?_
            refine pi_f0 _ rfl (fun w' hS' => r_fld (q := 0) fld27_0 (H.ev rfl) rfl) ?_; refine kp H rfl fun a H => ?_
            refine pi_f0 _ rfl (fun w' hS' => r_ld Try.underlying3 rfl (H.ev rfl) ((Block.cell (hS'.2.1) 0).trans rfl)) ?_; refine kp H rfl fun a H => ?_
            refine pi_a0 rfl (fun K hK => ?_); refine wpo_call _ _ _ (state_any _ _ L peer who hS.2.2.1 (by omega) HR.out.1) (r_call3 cf16 (H.ev rfl) (H.ev rfl) (H.ev rfl)) ?_; rintro e w9 ⟨rfl, hb9⟩; refine ⟨_, rfl, ?_⟩; rw [HS.out]; replace hS := hS.up hb9; clear hb9; refine hK _ _ ⟨hS, ?_⟩; clear hK; clear K; refine kp H rfl fun a H => ?_
            refine pi_a0 rfl (fun K hK => ?_); refine wpo_call _ _ _ (step_any s op _) (r_call2 cf24 (H.ev rfl) (H.ev rfl)) ?_; rintro e w9 ⟨rfl, hb9⟩; refine ⟨_, rfl, ?_⟩; rw [HTO.out, HER.out]; replace hS := hS.up hb9; clear hb9; refine hK _ _ ⟨hS, ?_⟩; clear hK; clear K; refine kp H rfl fun a H => ?_
            refine pi_f0 _ rfl (fun w' hS' => r_move (H.ev rfl)) ?_; refine kp H rfl fun a H => ?_
            refine pi_f0 _ rfl (fun w' hS' => r_extract (v := .int .i64 tq) (H.ev rfl) rfl) ?_; refine kp H rfl fun a H => ?_
            refine pi_f0 _ rfl (fun w' hS' => r_extract (v := .int .i64 er) (H.ev rfl) rfl) ?_; refine kp H rfl fun a H => ?_
            refine pi_f0 _ rfl (fun w' hS' => r_assign (H.ev rfl)) ?_; refine kp H rfl fun a H => ?_
            refine pi_f0 _ rfl (fun w' hS' => r_assign (H.ev rfl)) ?_; refine kp H rfl fun a H => ?_
            refine pi_nil (NoPanic.normal ?_)
            have hall := hS.1
            have h := hS.2.2.1
            have r8 := hS.2.2.2
            clear hS
            refine c_next ?_
            refine wp_seq ?_
            refine wp_seq ?_
            refine wp_region_lit ?_
            refine wl_v _ (r_assign evc) ?_; refine kl H rfl fun a H => ?_
            refine wpList_nil ?_
            refine c_next ?_
            refine wp_block ?_
            refine wp_loop (RtX w b o cV V k v L v8 M e er peer who tq) (fun a _ => 17 - (intOf (a.eval (.tmp 14))).toNat) ⟨1, H.pick [0, 1, 5, 6, 8, 9, 10, 11, 12, 13, 14], by omega, h, r8, hall⟩ ?_
            clear H hall h r8
            rintro a w' ⟨i, H, hi, h, r8, hall⟩
            have H1 := H
            by_cases hi16 : ((i : Nat) : Int) ≤ 16
            · skip
              refine wp_seq ?_
              refine wp_seq ?_
              refine wp_region_lit ?_
              refine wl_v _ (r_move (H.ev rfl)) ?_; refine kl H rfl fun a H => ?_
              refine wl_v _ (r_le Try.underlying3 (H.ev rfl) evc (dec_t (hi16))) ?_; refine kl H rfl fun a H => ?_
              refine wl_v _ (r_move (H.ev rfl)) ?_; refine kl H rfl fun a H => ?_
              refine op_unguard _ _ (kg_yes rfl H rfl rfl rfl) ?_; refine wl_v _ (r_move (H.ev rfl)) ?_; refine kl H rfl fun a H => ?_
              refine op_unguard _ _ (kg_yes rfl H rfl rfl rfl) ?_; refine wl_v _ (r_eq Try.underlying28 (H.ev rfl) evc (dec_f (by omega))) ?_; refine kl H rfl fun a H => ?_
              refine wl_v _ (r_pick_t (H.ev rfl) (H.ev rfl)) ?_; refine kl H rfl fun a H => ?_
              refine wpList_nil ?_
              refine c_next ?_
              refine c_cond_f H rfl ?_
              refine wp_exit ?_
              refine e_then ?_
              refine e_then ?_
              refine e_here ?_
              refine c_next ?_
              refine wp_seq ?_
              refine wp_seq ?_
              refine wp_region_lit ?_
              refine wl_v _ (r_move (H.ev rfl)) ?_; refine kl H rfl fun a H => ?_
              refine wl_v _ (r_eq Try.underlying28 (H.ev rfl) evc (dec_f (by omega))) ?_; refine kl H rfl fun a H => ?_
              refine wl_v _ (r_move (H.ev rfl)) ?_; refine kl H rfl fun a H => ?_
              refine wl_s (kg_no rfl H rfl rfl rfl) ?_; refine kl H rfl fun a H => ?_
              refine wl_s (kg_no rfl H rfl rfl rfl) ?_; refine kl H rfl fun a H => ?_
              refine wl_v _ (r_pick_f (H.ev rfl) evc) ?_; refine kl H rfl fun a H => ?_
              refine wpList_nil ?_
              refine c_next ?_
              refine c_cond_f H rfl ?_
              refine wp_skip ?_
              refine c_next ?_
              refine wp_region_lit ?_
              refine wl_v _ (r_move (H.ev rfl)) ?_; refine kl H rfl fun a H => ?_
              refine wl_v _ (r_assign (H.ev rfl)) ?_; refine kl H rfl fun a H => ?_
              refine wpList_nil ?_
              refine n_block ?_
              refine c_next ?_
              refine wp_region_lit ?_
              refine wl_v _ (r_move (H.ev rfl)) ?_; refine kl H rfl fun a H => ?_
              refine wl_v _ (r_add (q := ((k + 1 : Nat) : Int)) Try.underlying3 (H.ev rfl) evc (by omega) (by omega)) ?_; refine kl H rfl fun a H => ?_
              refine wl_v _ (r_assign (H.ev rfl)) ?_; refine kl H rfl fun a H => ?_
              refine wpList_nil ?_
              refine n_then ⟨⟨k + 1, M, v8, H.pick [0, 1, 5, 6], by omega, r8, HRM.out, hall⟩, ?_⟩
              rw [H.ev (j := 6) rfl, H0.ev (j := 6) rfl]
              simp only [intOf]
              omega
            · skip
              refine wp_seq ?_
              refine wp_seq ?_
              refine wp_region_lit ?_
              refine wl_v _ (r_move (H.ev rfl)) ?_; refine kl H rfl fun a H => ?_
              refine wl_v _ (r_le Try.underlying3 (H.ev rfl) evc (dec_f (hi16))) ?_; refine kl H rfl fun a H => ?_
              refine wl_v _ (r_move (H.ev rfl)) ?_; refine kl H rfl fun a H => ?_
              refine wl_s (kg_no rfl H rfl rfl rfl) ?_; refine kl H rfl fun a H => ?_
              refine wl_s (kg_no rfl H rfl rfl rfl) ?_; refine kl H rfl fun a H => ?_
              refine wl_v _ (r_pick_f (H.ev rfl) evc) ?_; refine kl H rfl fun a H => ?_
              refine wpList_nil ?_
              refine c_next ?_
              refine c_cond_f H rfl ?_
              refine wp_exit ?_
              refine e_then ?_
              refine e_then ?_
              refine e_here ?_
              refine c_next ?_
              refine wp_seq ?_
              refine wp_seq ?_
              refine wp_region_lit ?_
              refine wl_v _ (r_move (H.ev rfl)) ?_; refine kl H rfl fun a H => ?_
              refine wl_v _ (r_eq Try.underlying28 (H.ev rfl) evc (dec_f (by omega))) ?_; refine kl H rfl fun a H => ?_
              refine wl_v _ (r_move (H.ev rfl)) ?_; refine kl H rfl fun a H => ?_
              refine wl_s (kg_no rfl H rfl rfl rfl) ?_; refine kl H rfl fun a H => ?_
              refine wl_s (kg_no rfl H rfl rfl rfl) ?_; refine kl H rfl fun a H => ?_
              refine wl_v _ (r_pick_f (H.ev rfl) evc) ?_; refine kl H rfl fun a H => ?_
              refine wpList_nil ?_
              refine c_next ?_
              refine c_cond_f H rfl ?_
              refine wp_skip ?_
              refine c_next ?_
              refine wp_region_lit ?_
              refine wl_v _ (r_move (H.ev rfl)) ?_; refine kl H rfl fun a H => ?_
              refine wl_v _ (r_assign (H.ev rfl)) ?_; refine kl H rfl fun a H => ?_
              refine wpList_nil ?_
              refine n_block ?_
              refine c_next ?_
              refine wp_region_lit ?_
              refine wl_v _ (r_move (H.ev rfl)) ?_; refine kl H rfl fun a H => ?_
              refine wl_v _ (r_add (q := ((k + 1 : Nat) : Int)) Try.underlying3 (H.ev rfl) evc (by omega) (by omega)) ?_; refine kl H rfl fun a H => ?_
              refine wl_v _ (r_assign (H.ev rfl)) ?_; refine kl H rfl fun a H => ?_
              refine wpList_nil ?_
              refine n_then ⟨⟨k + 1, M, v8, H.pick [0, 1, 5, 6], by omega, r8, HRM.out, hall⟩, ?_⟩
              rw [H.ev (j := 6) rfl, H0.ev (j := 6) rfl]
              simp only [intOf]
              omega
          · skip
            subst hs0
            have HE : Hid ((doF L op who peer).2 = 0) := Lib.hid (by rw [hd])
            have hmp : M = putF L peer who tq := by rw [← HM.out, hd]
            have HST : Hid (∀ u v', (u = peer ∧ v' = who → stF M u v' = tq) ∧ (¬ (u = peer ∧ v' = who) → stF M u v' = stF L u v')) := Lib.hid (fun u v' => ⟨fun e => by rw [e.1, e.2, hmp]; exact st_same _ _ _ _, fun e => by rw [hmp]; exact st_other HR.out _ e⟩)
            clear hb hf hd hmp
            refine wp_region_lit ?_
            refine wl_v _ (r_move (H.ev rfl)) ?_; refine kl H rfl fun a H => ?_
            refine wl_v _ (r_fld (q := 0) fld27_0 (H.ev rfl) rfl) ?_; refine kl H rfl fun a H => ?_
            refine wl_v _ (r_ld Try.underlying3 rfl (H.ev rfl) ((Block.cell k0 0).trans rfl)) ?_; refine kl H rfl fun a H => ?_
            refine wl_v _ (r_fld (q := 1) fld27_1 (H.ev rfl) rfl) ?_; refine kl H rfl fun a H => ?_
            refine wl_v _ (r_ld Try.underlying3 rfl (H.ev rfl) ((Block.cell k0 1).trans rfl)) ?_; refine kl H rfl fun a H => ?_
            refine wl_v _ (r_fld (q := 2) fld27_2 (H.ev rfl) rfl) ?_; refine kl H rfl fun a H => ?_
            refine wl_v _ (r_ld Try.underlying3 rfl (H.ev rfl) ((Block.cell k0 2).trans rfl)) ?_; refine kl H rfl fun a H => ?_
            refine wl_call _ _ _ (do_any _ _ L op who peer h (by omega) HR.out) (r_call4 cf13 (H.ev rfl) (H.ev rfl) (H.ev rfl) (H.ev rfl)) ?_; rintro e w9 ⟨⟨v8, rfl, hown⟩, hb⟩; refine ⟨_, rfl, ?_⟩; rw [HE.out]; replace h := Row.up h hb; replace k0 := Block.ups k0 hb; replace hall := hall.trans (hb.mono hall.size); clear hb; rw [HM.out] at hown; have r8 := TOwn.row hown; clear hown; refine kl H rfl fun a H => ?_
            refine wl_v _ (r_move (H.ev rfl)) ?_; refine kl H rfl fun a H => ?_
            refine wl_v _ (r_extract (v := v8) (H.ev rfl) rfl) ?_; refine kl H rfl fun a H => ?_
            refine wl_v _ (r_extract (v := .int .i64 0) (H.ev rfl) rfl) ?_; refine kl H rfl fun a H => ?_
            refine wl_v _ (r_assign (H.ev rfl)) ?_; refine kl H rfl fun a H => ?_
            refine wl_v _ (r_assign (H.ev rfl)) ?_; refine kl H rfl fun a H => ?_
            refine wpList_nil ?_
            refine c_next ?_
            refine wp_seq ?_
            refine wp_seq ?_
            refine wp_region_lit ?_
            refine wl_v _ (r_move (H.ev rfl)) ?_; refine kl H rfl fun a H => ?_
            refine wl_call _ _ _ (right_any _ _ M r8 (by omega) (right_wf HRM.out)) (r_call1 cf11 (H.ev rfl)) ?_; rintro e w9 ⟨rfl, hb⟩; refine ⟨_, rfl, ?_⟩; rw [(right_iff M).2 HRM.out]; replace h := Row.up h hb; replace k0 := Block.ups k0 hb; replace r8 := Row.up r8 hb; replace hall := hall.trans (hb.mono hall.size); clear hb; refine kl H rfl fun a H => ?_
            refine wl_v _ (r_not (H.ev rfl) rfl) ?_; refine kl H rfl fun a H => ?_
            refine wl_v _ (r_move (H.ev rfl)) ?_; refine kl H rfl fun a H => ?_
            refine op_unguard _ _ (kg_yes rfl H rfl rfl rfl) ?_; refine wl_v _ (r_move (H.ev rfl)) ?_; refine kl H rfl fun a H => ?_
            refine op_unguard _ _ (kg_yes rfl H rfl rfl rfl) ?_; refine wl_v _ (r_ne Try.underlying28 (H.ev rfl) evc (dec_f (by omega))) ?_; refine kl H rfl fun a H => ?_
            refine op_unguard _ _ (kg_yes rfl H rfl rfl rfl) ?_; refine wl_v _ (r_move (H.ev rfl)) ?_; refine kl H rfl fun a H => ?_
            refine wl_s (kg_no rfl H rfl rfl rfl) ?_; refine kl H rfl fun a H => ?_
            refine wl_s (kg_no rfl H rfl rfl rfl) ?_; refine kl H rfl fun a H => ?_
            refine wl_s (kg_no rfl H rfl rfl rfl) ?_; refine kl H rfl fun a H => ?_
            refine wl_s (kg_no rfl H rfl rfl rfl) ?_; refine kl H rfl fun a H => ?_
            refine op_unguard _ _ (kg_yes rfl H rfl rfl rfl) ?_; refine wl_v _ (r_pick_f (H.ev rfl) evc) ?_; refine kl H rfl fun a H => ?_
            refine wl_v _ (r_pick_f (H.ev rfl) (H.ev rfl)) ?_; refine kl H rfl fun a H => ?_
            refine wpList_nil ?_
            refine c_next ?_
            refine c_cond_f H rfl ?_
            refine wp_skip ?_
            refine c_next ?_
            refine wp_seq ?_
            refine wp_region_lit ?_
            refine wl_v _ (r_fld (q := 2) fld27_2 (H.ev rfl) rfl) ?_; refine kl H rfl fun a H => ?_
            refine wl_v _ (r_ld Try.underlying3 rfl (H.ev rfl) ((Block.cell k0 2).trans rfl)) ?_; refine kl H rfl fun a H => ?_
            refine wl_v _ (r_assign (H.ev rfl)) ?_; refine kl H rfl fun a H => ?_
            refine wpList_nil ?_
            refine c_next ?_
            refine wp_seq ?_
            refine wp_region_lit ?_
            refine wl_v _ (r_fld (q := 1) fld27_1 (H.ev rfl) rfl) ?_; refine kl H rfl fun a H => ?_
            refine wl_v _ (r_ld Try.underlying3 rfl (H.ev rfl) ((Block.cell k0 1).trans rfl)) ?_; refine kl H rfl fun a H => ?_
            refine wl_v _ (r_assign (H.ev rfl)) ?_; refine kl H rfl fun a H => ?_
            refine wpList_nil ?_
            refine c_next ?_
            refine wp_seq ?_
            refine wp_seq ?_
            refine wp_region_lit ?_
            refine wl_v _ (r_fld (q := 0) fld27_0 (H.ev rfl) rfl) ?_; refine kl H rfl fun a H => ?_
            refine wl_v _ (r_ld Try.underlying3 rfl (H.ev rfl) ((Block.cell k0 0).trans rfl)) ?_; refine kl H rfl fun a H => ?_
            refine wl_call _ _ _ (mine_any _ _) (r_call1 cf23 (H.ev rfl)) ?_; rintro e w9 ⟨rfl, rfl⟩; refine ⟨_, rfl, ?_⟩; rw [HMI.out]; skip; refine kl H rfl fun a H => ?_
            refine wpList_nil ?_
            refine c_next ?_
            refine c_cond_f H rfl ?_
            refine wp_skip ?_
            refine c_next ?_
            refine wp_seq ?_
            have hS : SRi w b0 op who peer v L v8 M _ := ⟨hall.drew, k0, h, r8⟩
            refine region_pi (SRi w b0 op who peer v L v8 M) [(0, true), (1, true), (2, true), (4, true), (5, true), (3, false), (6, false), (7, true), (8, true), (9, true), (10, true), (11, true)] (by kernel_rfl) (by kernel_rfl) rfl (by kernel_rfl) hS ?_
            clear hall k0 h r8
            refine pi_f0 _ rfl (fun w' hS' => r_move (H.ev rfl)) ?_; refine kp H rfl fun a H => ?_
            refine pi_f0 _ rfl (fun w' hS' => r_move (H.ev rfl)) ?_; refine kp H rfl fun a H => ?_
            refine pi_f0 _ rfl (fun w' hS' => r_move (H.ev rfl)) ?_; refine kp H rfl fun a H => ?_
            refine pi_f0 _ rfl (fun w' hS' => r_fld (q := 0) fld27_0 (H.ev rfl) rfl) ?_; refine kp H rfl fun a H => ?_
            refine pi_f0 _ rfl (fun w' hS' => r_ld Try.underlying3 rfl (H.ev rfl) ((Block.cell (hS'.2.1) 0).trans rfl)) ?_; refine kp H rfl fun a H => ?_
            refine pi_a0 rfl (fun K hK => ?_); refine wpo_call _ _ _ (state_any _ _ L peer who hS.2.2.1 (by omega) HR.out.1) (r_call3 cf16 (H.ev rfl) (H.ev rfl) (H.ev rfl)) ?_; rintro e w9 ⟨rfl, hb9⟩; refine ⟨_, rfl, ?_⟩; rw [HS.out]; replace hS := hS.up hb9; clear hb9; refine hK _ _ ⟨hS, ?_⟩; clear hK; clear K; refine kp H rfl fun a H => ?_
            refine pi_a0 rfl (fun K hK => ?_); refine wpo_call _ _ _ (step_any s op _) (r_call2 cf24 (H.ev rfl) (H.ev rfl)) ?_; rintro e w9 ⟨rfl, hb9⟩; refine ⟨_, rfl, ?_⟩; rw [HTO.out, HER.out]; replace hS := hS.up hb9; clear hb9; refine hK _ _ ⟨hS, ?_⟩; clear hK; clear K; refine kp H rfl fun a H => ?_
            refine pi_f0 _ rfl (fun w' hS' => r_move (H.ev rfl)) ?_; refine kp H rfl fun a H => ?_
            refine pi_f0 _ rfl (fun w' hS' => r_extract (v := .int .i64 tq) (H.ev rfl) rfl) ?_; refine kp H rfl fun a H => ?_
            refine pi_f0 _ rfl (fun w' hS' => r_extract (v := .int .i64 0) (H.ev rfl) rfl) ?_; refine kp H rfl fun a H => ?_
            refine pi_f0 _ rfl (fun w' hS' => r_assign (H.ev rfl)) ?_; refine kp H rfl fun a H => ?_
            refine pi_f0 _ rfl (fun w' hS' => r_assign (H.ev rfl)) ?_; refine kp H rfl fun a H => ?_
            refine pi_nil (NoPanic.normal ?_)
            have hall := hS.1
            have h := hS.2.2.1
            have r8 := hS.2.2.2
            clear hS
            refine c_next ?_
            refine wp_seq ?_
            refine wp_seq ?_
            refine wp_region_lit ?_
            refine wl_v _ (r_assign evc) ?_; refine kl H rfl fun a H => ?_
            refine wpList_nil ?_
            refine c_next ?_
            refine wp_block ?_
            refine wp_loop (RtX w b o cV V k v L v8 M 0 0 peer who tq) (fun a _ => 17 - (intOf (a.eval (.tmp 14))).toNat) ⟨1, H.pick [0, 1, 5, 6, 8, 9, 10, 11, 12, 13, 14], by omega, h, r8, hall⟩ ?_
            clear H hall h r8
            rintro a w' ⟨i, H, hi, h, r8, hall⟩
            have H1 := H
            by_cases hi16 : ((i : Nat) : Int) ≤ 16
            · skip
              refine wp_seq ?_
              refine wp_seq ?_
              refine wp_region_lit ?_
              refine wl_v _ (r_move (H.ev rfl)) ?_; refine kl H rfl fun a H => ?_
              refine wl_v _ (r_le Try.underlying3 (H.ev rfl) evc (dec_t (hi16))) ?_; refine kl H rfl fun a H => ?_
              refine wl_v _ (r_move (H.ev rfl)) ?_; refine kl H rfl fun a H => ?_
              refine op_unguard _ _ (kg_yes rfl H rfl rfl rfl) ?_; refine wl_v _ (r_move (H.ev rfl)) ?_; refine kl H rfl fun a H => ?_
              refine op_unguard _ _ (kg_yes rfl H rfl rfl rfl) ?_; refine wl_v _ (r_eq Try.underlying28 (H.ev rfl) evc (dec_t (by omega))) ?_; refine kl H rfl fun a H => ?_
              refine wl_v _ (r_pick_t (H.ev rfl) (H.ev rfl)) ?_; refine kl H rfl fun a H => ?_
              refine wpList_nil ?_
              refine c_next ?_
              refine c_cond_t H rfl ?_
              refine wp_skip ?_
              refine c_next ?_
              refine wp_seq ?_
              refine wp_block ?_
              refine wp_seq ?_
              refine wp_region_lit ?_
              refine wl_v _ (r_assign evc) ?_; refine kl H rfl fun a H => ?_
              refine wpList_nil ?_
              refine c_next ?_
              refine wp_block ?_
              refine wp_loop (RtY w b o cV V k v L v8 M 0 0 peer who tq i) (fun a _ => 17 - (intOf (a.eval (.tmp 15))).toNat) ⟨1, H.pick [0, 1, 5, 6, 8, 9, 10, 11, 12, 13, 14, 15], by omega, h, r8, hall⟩ ?_
              clear H hall h r8
              rintro a w' ⟨j, H, hj, h, r8, hall⟩
              have H2 := H
              by_cases hj16 : ((j : Nat) : Int) ≤ 16
              · skip
                obtain ⟨q, hq⟩ : ∃ q, stF L ((i : Nat) : Int) ((j : Nat) : Int) = q := ⟨_, rfl⟩
                have HQ := Lib.hid hq
                clear hq
                refine wp_seq ?_
                refine wp_seq ?_
                refine wp_region_lit ?_
                refine wl_v _ (r_move (H.ev rfl)) ?_; refine kl H rfl fun a H => ?_
                refine wl_v _ (r_le Try.underlying3 (H.ev rfl) evc (dec_t (hj16))) ?_; refine kl H rfl fun a H => ?_
                refine wpList_nil ?_
                refine c_next ?_
                refine c_cond_t H rfl ?_
                refine wp_skip ?_
                refine c_next ?_
                refine wp_seq ?_
                refine wp_block ?_
                refine wp_seq ?_
                refine wp_region_lit ?_
                refine wl_v _ (r_move (H.ev rfl)) ?_; refine kl H rfl fun a H => ?_
                refine wl_v _ (r_move (H.ev rfl)) ?_; refine kl H rfl fun a H => ?_
                refine wl_v _ (r_move (H.ev rfl)) ?_; refine kl H rfl fun a H => ?_
                refine wl_call _ _ _ (state_any _ _ L (i : Nat) (j : Nat) h (by omega) HR.out.1) (r_call3 cf16 (H.ev rfl) (H.ev rfl) (H.ev rfl)) ?_; rintro e w9 ⟨rfl, hb⟩; refine ⟨_, rfl, ?_⟩; rw [HQ.out]; replace h := Row.up h hb; replace r8 := Row.up r8 hb; replace hall := hall.trans (hb.mono hall.size); clear hb; refine kl H rfl fun a H => ?_
                refine wl_v _ (r_assign (H.ev rfl)) ?_; refine kl H rfl fun a H => ?_
                refine wpList_nil ?_
                refine c_next ?_
                refine wp_seq ?_
                refine wp_seq ?_
                refine wp_region_lit ?_
                refine wl_v _ (r_move (H.ev rfl)) ?_; refine kl H rfl fun a H => ?_
                refine wl_v _ (r_move (H.ev rfl)) ?_; refine kl H rfl fun a H => ?_
                by_cases c2 : ((i : Nat) : Int) = peer
                · skip
                  refine wl_v _ (r_eq Try.underlying3 (H.ev rfl) (H.ev rfl) (dec_t (c2))) ?_; refine kl H rfl fun a H => ?_
                  refine wl_v _ (r_move (H.ev rfl)) ?_; refine kl H rfl fun a H => ?_
                  refine op_unguard _ _ (kg_yes rfl H rfl rfl rfl) ?_; refine wl_v _ (r_move (H.ev rfl)) ?_; refine kl H rfl fun a H => ?_
                  refine op_unguard _ _ (kg_yes rfl H rfl rfl rfl) ?_; refine wl_v _ (r_move (H.ev rfl)) ?_; refine kl H rfl fun a H => ?_
                  by_cases c3 : ((j : Nat) : Int) = who
                  · skip
                    refine op_unguard _ _ (kg_yes rfl H rfl rfl rfl) ?_; refine wl_v _ (r_eq Try.underlying3 (H.ev rfl) (H.ev rfl) (dec_t (c3))) ?_; refine kl H rfl fun a H => ?_
                    refine wl_v _ (r_pick_t (H.ev rfl) (H.ev rfl)) ?_; refine kl H rfl fun a H => ?_
                    refine wpList_nil ?_
                    refine c_next ?_
                    refine c_cond_t H rfl ?_
                    refine wp_region_lit ?_
                    refine wl_v _ (r_move (H.ev rfl)) ?_; refine kl H rfl fun a H => ?_
                    refine wl_v _ (r_assign (H.ev rfl)) ?_; refine kl H rfl fun a H => ?_
                    refine wpList_nil ?_
                    refine c_next ?_
                    refine wp_seq ?_
                    refine wp_region_lit ?_
                    refine wl_v _ (r_move (H.ev rfl)) ?_; refine kl H rfl fun a H => ?_
                    refine wl_v _ (r_move (H.ev rfl)) ?_; refine kl H rfl fun a H => ?_
                    refine wl_v _ (r_move (H.ev rfl)) ?_; refine kl H rfl fun a H => ?_
                    refine wl_call _ _ _ (state_any _ _ M (i : Nat) (j : Nat) r8 (by omega) HRM.out.1) (r_call3 cf16 (H.ev rfl) (H.ev rfl) (H.ev rfl)) ?_; rintro e w9 ⟨rfl, hb⟩; refine ⟨_, rfl, ?_⟩; rw [(HST.out _ _).1 ⟨by omega, by omega⟩]; replace h := Row.up h hb; replace r8 := Row.up r8 hb; replace hall := hall.trans (hb.mono hall.size); clear hb; refine kl H rfl fun a H => ?_
                    refine wl_v _ (r_move (H.ev rfl)) ?_; refine kl H rfl fun a H => ?_
                    refine wl_v _ (r_ne Try.underlying3 (H.ev rfl) (H.ev rfl) (dec_f (by omega))) ?_; refine kl H rfl fun a H => ?_
                    refine wpList_nil ?_
                    refine c_next ?_
                    refine c_cond_f H rfl ?_
                    refine wp_skip ?_
                    refine n_block ?_
                    refine c_next ?_
                    refine wp_region_lit ?_
                    refine wl_v _ (r_move (H.ev rfl)) ?_; refine kl H rfl fun a H => ?_
                    refine wl_v _ (r_add (q := ((j + 1 : Nat) : Int)) Try.underlying3 (H.ev rfl) evc (by omega) (by omega)) ?_; refine kl H rfl fun a H => ?_
                    refine wl_v _ (r_assign (H.ev rfl)) ?_; refine kl H rfl fun a H => ?_
                    refine wpList_nil ?_
                    refine n_then ⟨⟨j + 1, H.pick [0, 1, 5, 6, 8, 9, 10, 11, 12, 13, 14, 15], by omega, h, r8, hall⟩, ?_⟩
                    rw [H.ev (j := 15) rfl, H2.ev (j := 15) rfl]
                    simp only [intOf]
                    omega
                  · skip
                    refine op_unguard _ _ (kg_yes rfl H rfl rfl rfl) ?_; refine wl_v _ (r_eq Try.underlying3 (H.ev rfl) (H.ev rfl) (dec_f (c3))) ?_; refine kl H rfl fun a H => ?_
                    refine wl_v _ (r_pick_t (H.ev rfl) (H.ev rfl)) ?_; refine kl H rfl fun a H => ?_
                    refine wpList_nil ?_
                    refine c_next ?_
                    refine c_cond_f H rfl ?_
                    refine wp_skip ?_
                    refine c_next ?_
                    refine wp_seq ?_
                    refine wp_region_lit ?_
                    refine wl_v _ (r_move (H.ev rfl)) ?_; refine kl H rfl fun a H => ?_
                    refine wl_v _ (r_move (H.ev rfl)) ?_; refine kl H rfl fun a H => ?_
                    refine wl_v _ (r_move (H.ev rfl)) ?_; refine kl H rfl fun a H => ?_
                    refine wl_call _ _ _ (state_any _ _ M (i : Nat) (j : Nat) r8 (by omega) HRM.out.1) (r_call3 cf16 (H.ev rfl) (H.ev rfl) (H.ev rfl)) ?_; rintro e w9 ⟨rfl, hb⟩; refine ⟨_, rfl, ?_⟩; rw [(HST.out _ _).2 (by omega), HQ.out]; replace h := Row.up h hb; replace r8 := Row.up r8 hb; replace hall := hall.trans (hb.mono hall.size); clear hb; refine kl H rfl fun a H => ?_
                    refine wl_v _ (r_move (H.ev rfl)) ?_; refine kl H rfl fun a H => ?_
                    refine wl_v _ (r_ne Try.underlying3 (H.ev rfl) (H.ev rfl) (dec_f (by omega))) ?_; refine kl H rfl fun a H => ?_
                    refine wpList_nil ?_
                    refine c_next ?_
                    refine c_cond_f H rfl ?_
                    refine wp_skip ?_
                    refine n_block ?_
                    refine c_next ?_
                    refine wp_region_lit ?_
                    refine wl_v _ (r_move (H.ev rfl)) ?_; refine kl H rfl fun a H => ?_
                    refine wl_v _ (r_add (q := ((j + 1 : Nat) : Int)) Try.underlying3 (H.ev rfl) evc (by omega) (by omega)) ?_; refine kl H rfl fun a H => ?_
                    refine wl_v _ (r_assign (H.ev rfl)) ?_; refine kl H rfl fun a H => ?_
                    refine wpList_nil ?_
                    refine n_then ⟨⟨j + 1, H.pick [0, 1, 5, 6, 8, 9, 10, 11, 12, 13, 14, 15], by omega, h, r8, hall⟩, ?_⟩
                    rw [H.ev (j := 15) rfl, H2.ev (j := 15) rfl]
                    simp only [intOf]
                    omega
                · skip
                  refine wl_v _ (r_eq Try.underlying3 (H.ev rfl) (H.ev rfl) (dec_f (c2))) ?_; refine kl H rfl fun a H => ?_
                  refine wl_v _ (r_move (H.ev rfl)) ?_; refine kl H rfl fun a H => ?_
                  refine wl_s (kg_no rfl H rfl rfl rfl) ?_; refine kl H rfl fun a H => ?_
                  refine wl_s (kg_no rfl H rfl rfl rfl) ?_; refine kl H rfl fun a H => ?_
                  refine wl_s (kg_no rfl H rfl rfl rfl) ?_; refine kl H rfl fun a H => ?_
                  refine wl_v _ (r_pick_f (H.ev rfl) evc) ?_; refine kl H rfl fun a H => ?_
                  refine wpList_nil ?_
                  refine c_next ?_
                  refine c_cond_f H rfl ?_
                  refine wp_skip ?_
                  refine c_next ?_
                  refine wp_seq ?_
                  refine wp_region_lit ?_
                  refine wl_v _ (r_move (H.ev rfl)) ?_; refine kl H rfl fun a H => ?_
                  refine wl_v _ (r_move (H.ev rfl)) ?_; refine kl H rfl fun a H => ?_
                  refine wl_v _ (r_move (H.ev rfl)) ?_; refine kl H rfl fun a H => ?_
                  refine wl_call _ _ _ (state_any _ _ M (i : Nat) (j : Nat) r8 (by omega) HRM.out.1) (r_call3 cf16 (H.ev rfl) (H.ev rfl) (H.ev rfl)) ?_; rintro e w9 ⟨rfl, hb⟩; refine ⟨_, rfl, ?_⟩; rw [(HST.out _ _).2 (by omega), HQ.out]; replace h := Row.up h hb; replace r8 := Row.up r8 hb; replace hall := hall.trans (hb.mono hall.size); clear hb; refine kl H rfl fun a H => ?_
                  refine wl_v _ (r_move (H.ev rfl)) ?_; refine kl H rfl fun a H => ?_
                  refine wl_v _ (r_ne Try.underlying3 (H.ev rfl) (H.ev rfl) (dec_f (by omega))) ?_; refine kl H rfl fun a H => ?_
                  refine wpList_nil ?_
                  refine c_next ?_
                  refine c_cond_f H rfl ?_
                  refine wp_skip ?_
                  refine n_block ?_
                  refine c_next ?_
                  refine wp_region_lit ?_
                  refine wl_v _ (r_move (H.ev rfl)) ?_; refine kl H rfl fun a H => ?_
                  refine wl_v _ (r_add (q := ((j + 1 : Nat) : Int)) Try.underlying3 (H.ev rfl) evc (by omega) (by omega)) ?_; refine kl H rfl fun a H => ?_
                  refine wl_v _ (r_assign (H.ev rfl)) ?_; refine kl H rfl fun a H => ?_
                  refine wpList_nil ?_
                  refine n_then ⟨⟨j + 1, H.pick [0, 1, 5, 6, 8, 9, 10, 11, 12, 13, 14, 15], by omega, h, r8, hall⟩, ?_⟩
                  rw [H.ev (j := 15) rfl, H2.ev (j := 15) rfl]
                  simp only [intOf]
                  omega
              · skip
                refine wp_seq ?_
                refine wp_seq ?_
                refine wp_region_lit ?_
                refine wl_v _ (r_move (H.ev rfl)) ?_; refine kl H rfl fun a H => ?_
                refine wl_v _ (r_le Try.underlying3 (H.ev rfl) evc (dec_f (hj16))) ?_; refine kl H rfl fun a H => ?_
                refine wpList_nil ?_
                refine c_next ?_
                refine c_cond_f H rfl ?_
                refine wp_exit ?_
                refine e_then ?_
                refine e_then ?_
                refine e_here ?_
                refine n_block ?_
                refine c_next ?_
                refine wp_region_lit ?_
                refine wl_v _ (r_move (H.ev rfl)) ?_; refine kl H rfl fun a H => ?_
                refine wl_v _ (r_add (q := ((i + 1 : Nat) : Int)) Try.underlying3 (H.ev rfl) evc (by omega) (by omega)) ?_; refine kl H rfl fun a H => ?_
                refine wl_v _ (r_assign (H.ev rfl)) ?_; refine kl H rfl fun a H => ?_
                refine wpList_nil ?_
                refine n_then ⟨⟨i + 1, H.pick [0, 1, 5, 6, 8, 9, 10, 11, 12, 13, 14], by omega, h, r8, hall⟩, ?_⟩
                rw [H.ev (j := 14) rfl, H1.ev (j := 14) rfl]
                simp only [intOf]
                omega
            · skip
              refine wp_seq ?_
              refine wp_seq ?_
              refine wp_region_lit ?_
              refine wl_v _ (r_move (H.ev rfl)) ?_; refine kl H rfl fun a H => ?_
              refine wl_v _ (r_le Try.underlying3 (H.ev rfl) evc (dec_f (hi16))) ?_; refine kl H rfl fun a H => ?_
              refine wl_v _ (r_move (H.ev rfl)) ?_; refine kl H rfl fun a H => ?_
              refine wl_s (kg_no rfl H rfl rfl rfl) ?_; refine kl H rfl fun a H => ?_
              refine wl_s (kg_no rfl H rfl rfl rfl) ?_; refine kl H rfl fun a H => ?_
              refine wl_v _ (r_pick_f (H.ev rfl) evc) ?_; refine kl H rfl fun a H => ?_
              refine wpList_nil ?_
              refine c_next ?_
              refine c_cond_f H rfl ?_
              refine wp_exit ?_
              refine e_then ?_
              refine e_then ?_
              refine e_here ?_
              refine c_next ?_
              refine wp_seq ?_
              refine wp_seq ?_
              refine wp_region_lit ?_
              refine wl_v _ (r_move (H.ev rfl)) ?_; refine kl H rfl fun a H => ?_
              refine wl_v _ (r_eq Try.underlying28 (H.ev rfl) evc (dec_t (by omega))) ?_; refine kl H rfl fun a H => ?_
              refine wl_v _ (r_move (H.ev rfl)) ?_; refine kl H rfl fun a H => ?_
              refine op_unguard _ _ (kg_yes rfl H rfl rfl rfl) ?_; refine wl_v _ (r_move (H.ev rfl)) ?_; refine kl H rfl fun a H => ?_
              refine op_unguard _ _ (kg_yes rfl H rfl rfl rfl) ?_; refine wl_v _ (r_ne Try.underlying28 (H.ev rfl) evc (dec_f (by omega))) ?_; refine kl H rfl fun a H => ?_
              refine wl_v _ (r_pick_t (H.ev rfl) (H.ev rfl)) ?_; refine kl H rfl fun a H => ?_
              refine wpList_nil ?_
              refine c_next ?_
              refine c_cond_f H rfl ?_
              refine wp_skip ?_
              refine c_next ?_
              refine wp_region_lit ?_
              refine wl_v _ (r_move (H.ev rfl)) ?_; refine kl H rfl fun a H => ?_
              refine wl_v _ (r_assign (H.ev rfl)) ?_; refine kl H rfl fun a H => ?_
              refine wpList_nil ?_
              refine n_block ?_
              refine c_next ?_
              refine wp_region_lit ?_
              refine wl_v _ (r_move (H.ev rfl)) ?_; refine kl H rfl fun a H => ?_
              refine wl_v _ (r_add (q := ((k + 1 : Nat) : Int)) Try.underlying3 (H.ev rfl) evc (by omega) (by omega)) ?_; refine kl H rfl fun a H => ?_
              refine wl_v _ (r_assign (H.ev rfl)) ?_; refine kl H rfl fun a H => ?_
              refine wpList_nil ?_
              refine n_then ⟨⟨k + 1, M, v8, H.pick [0, 1, 5, 6], by omega, r8, HRM.out, hall⟩, ?_⟩
              rw [H.ev (j := 6) rfl, H0.ev (j := 6) rfl]
              simp only [intOf]
              omega
        · skip
          obtain ⟨s, hs⟩ : ∃ s, stF L who peer = s := ⟨_, rfl⟩
          obtain ⟨tq, hto⟩ : ∃ tq, (stepF s op).1 = tq := ⟨_, rfl⟩
          obtain ⟨er, her⟩ : ∃ er, (stepF s op).2 = er := ⟨_, rfl⟩
          have HS := Lib.hid hs
          have HTO := Lib.hid hto
          have HER := Lib.hid her
          have hdc := do_cases HR.out op who peer
          have ex : wchF op who peer = who := by unfold wchF; rw [HMI.out]; rfl
          have ez : tgtF op who peer = peer := by unfold tgtF; rw [HMI.out]; rfl
          rw [ex, ez, hs, hto, her, HM.out] at hdc
          clear hs hto her ex ez
          rcases hdc with ⟨he, hml⟩ | ⟨hb, hs0, hf, hd⟩
          · skip
            obtain ⟨e, hee⟩ : ∃ e, (doF L op who peer).2 = e := ⟨_, rfl⟩
            rw [hee] at he
            have HE := Lib.hid hee
            have HML := Lib.hid hml
            clear hee hml
            refine wp_region_lit ?_
            refine wl_v _ (r_move (H.ev rfl)) ?_; refine kl H rfl fun a H => ?_
            refine wl_v _ (r_fld (q := 0) fld27_0 (H.ev rfl) rfl) ?_; refine kl H rfl fun a H => ?_
            refine wl_v _ (r_ld Try.underlying3 rfl (H.ev rfl) ((Block.cell k0 0).trans rfl)) ?_; refine kl H rfl fun a H => ?_
            refine wl_v _ (r_fld (q := 1) fld27_1 (H.ev rfl) rfl) ?_; refine kl H rfl fun a H => ?_
            refine wl_v _ (r_ld Try.underlying3 rfl (H.ev rfl) ((Block.cell k0 1).trans rfl)) ?_; refine kl H rfl fun a H => ?_
            refine wl_v _ (r_fld (q := 2) fld27_2 (H.ev rfl) rfl) ?_; refine kl H rfl fun a H => ?_
            refine wl_v _ (r_ld Try.underlying3 rfl (H.ev rfl) ((Block.cell k0 2).trans rfl)) ?_; refine kl H rfl fun a H => ?_
            refine wl_call _ _ _ (do_any _ _ L op who peer h (by omega) HR.out) (r_call4 cf13 (H.ev rfl) (H.ev rfl) (H.ev rfl) (H.ev rfl)) ?_; rintro e w9 ⟨⟨v8, rfl, hown⟩, hb⟩; refine ⟨_, rfl, ?_⟩; rw [HE.out]; replace h := Row.up h hb; replace k0 := Block.ups k0 hb; replace hall := hall.trans (hb.mono hall.size); clear hb; rw [HM.out] at hown; have r8 := TOwn.row hown; clear hown; refine kl H rfl fun a H => ?_
            refine wl_v _ (r_move (H.ev rfl)) ?_; refine kl H rfl fun a H => ?_
            refine wl_v _ (r_extract (v := v8) (H.ev rfl) rfl) ?_; refine kl H rfl fun a H => ?_
            refine wl_v _ (r_extract (v := .int .i64 e) (H.ev rfl) rfl) ?_; refine kl H rfl fun a H => ?_
            refine wl_v _ (r_assign (H.ev rfl)) ?_; refine kl H rfl fun a H => ?_
            refine wl_v _ (r_assign (H.ev rfl)) ?_; refine kl H rfl fun a H => ?_
            refine wpList_nil ?_
            refine c_next ?_
            refine wp_seq ?_
            refine wp_seq ?_
            refine wp_region_lit ?_
            refine wl_v _ (r_move (H.ev rfl)) ?_; refine kl H rfl fun a H => ?_
            refine wl_call _ _ _ (right_any _ _ M r8 (by omega) (right_wf HRM.out)) (r_call1 cf11 (H.ev rfl)) ?_; rintro e w9 ⟨rfl, hb⟩; refine ⟨_, rfl, ?_⟩; rw [(right_iff M).2 HRM.out]; replace h := Row.up h hb; replace k0 := Block.ups k0 hb; replace r8 := Row.up r8 hb; replace hall := hall.trans (hb.mono hall.size); clear hb; refine kl H rfl fun a H => ?_
            refine wl_v _ (r_not (H.ev rfl) rfl) ?_; refine kl H rfl fun a H => ?_
            refine wl_v _ (r_move (H.ev rfl)) ?_; refine kl H rfl fun a H => ?_
            refine op_unguard _ _ (kg_yes rfl H rfl rfl rfl) ?_; refine wl_v _ (r_move (H.ev rfl)) ?_; refine kl H rfl fun a H => ?_
            refine op_unguard _ _ (kg_yes rfl H rfl rfl rfl) ?_; refine wl_v _ (r_ne Try.underlying28 (H.ev rfl) evc (dec_t (he))) ?_; refine kl H rfl fun a H => ?_
            refine op_unguard _ _ (kg_yes rfl H rfl rfl rfl) ?_; refine wl_v _ (r_move (H.ev rfl)) ?_; refine kl H rfl fun a H => ?_
            refine op_unguard _ _ (kg_yes rfl H rfl rfl rfl) ?_; refine wl_v _ (r_move (H.ev rfl)) ?_; refine kl H rfl fun a H => ?_
            refine op_unguard _ _ (kg_yes rfl H rfl rfl rfl) ?_; refine wl_v _ (r_move (H.ev rfl)) ?_; refine kl H rfl fun a H => ?_
            refine op_unguard _ _ (kg_yes rfl H rfl rfl rfl) ?_; refine wl_call _ _ _ (same15_any _ _ _ M L r8 h (by omega) (by omega)) (r_call2 cf15 (H.ev rfl) (H.ev rfl)) ?_; rintro e w9 ⟨rfl, hb⟩; refine ⟨_, rfl, ?_⟩; rw [decide_eq_true HML.out]; replace h := Row.up h hb; replace k0 := Block.ups k0 hb; replace r8 := Row.up r8 hb; replace hall := hall.trans (hb.mono hall.size); clear hb; refine kl H rfl fun a H => ?_
            refine op_unguard _ _ (kg_yes rfl H rfl rfl rfl) ?_; refine wl_v _ (r_not (H.ev rfl) rfl) ?_; refine kl H rfl fun a H => ?_
            refine op_unguard _ _ (kg_yes rfl H rfl rfl rfl) ?_; refine wl_v _ (r_pick_t (H.ev rfl) (H.ev rfl)) ?_; refine kl H rfl fun a H => ?_
            refine wl_v _ (r_pick_f (H.ev rfl) (H.ev rfl)) ?_; refine kl H rfl fun a H => ?_
            refine wpList_nil ?_
            refine c_next ?_
            refine c_cond_f H rfl ?_
            refine wp_skip ?_
            refine c_next ?_
            refine wp_seq ?_
            refine wp_region_lit ?_
            refine wl_v _ (r_fld (q := 2) fld27_2 (H.ev rfl) rfl) ?_; refine kl H rfl fun a H => ?_
            refine wl_v _ (r_ld Try.underlying3 rfl (H.ev rfl) ((Block.cell k0 2).trans rfl)) ?_; refine kl H rfl fun a H => ?_
            refine wl_v _ (r_assign (H.ev rfl)) ?_; refine kl H rfl fun a H => ?_
            refine wpList_nil ?_
            refine c_next ?_
            refine wp_seq ?_
            refine wp_region_lit ?_
            refine wl_v _ (r_fld (q := 1) fld27_1 (H.ev rfl) rfl) ?_; refine kl H rfl fun a H => ?_
            refine wl_v _ (r_ld Try.underlying3 rfl (H.ev rfl) ((Block.cell k0 1).trans rfl)) ?_; refine kl H rfl fun a H => ?_
            refine wl_v _ (r_assign (H.ev rfl)) ?_; refine kl H rfl fun a H => ?_
            refine wpList_nil ?_
            refine c_next ?_
            refine wp_seq ?_
            refine wp_seq ?_
            refine wp_region_lit ?_
            refine wl_v _ (r_fld (q := 0) fld27_0 (H.ev rfl) rfl) ?_; refine kl H rfl fun a H => ?_
            refine wl_v _ (r_ld Try.underlying3 rfl (H.ev rfl) ((Block.cell k0 0).trans rfl)) ?_; refine kl H rfl fun a H => ?_
            refine wl_call _ _ _ (mine_any _ _) (r_call1 cf23 (H.ev rfl)) ?_; rintro e w9 ⟨rfl, rfl⟩; refine ⟨_, rfl, ?_⟩; rw [HMI.out]; skip; refine kl H rfl fun a H => ?_
            refine wpList_nil ?_
            refine c_next ?_
            refine c_cond_t H rfl ?_
            refine wp_seq ?_
            refine wp_region_lit ?_
            refine wl_v _ (r_fld (q := 1) fld27_1 (H.ev rfl) rfl) ?_; refine kl H rfl fun a H => ?_
            refine wl_v _ (r_ld Try.underlying3 rfl (H.ev rfl) ((Block.cell k0 1).trans rfl)) ?_; refine kl H rfl fun a H => ?_
            refine wl_v _ (r_assign (H.ev rfl)) ?_; refine kl H rfl fun a H => ?_
            refine wpList_nil ?_
            refine c_next ?_
            refine wp_region_lit ?_
            refine wl_v _ (r_fld (q := 2) fld27_2 (H.ev rfl) rfl) ?_; refine kl H rfl fun a H => ?_
            refine wl_v _ (r_ld Try.underlying3 rfl (H.ev rfl) ((Block.cell k0 2).trans rfl)) ?_; refine kl H rfl fun a H => ?_
            refine wl_v _ (r_assign (H.ev rfl)) ?_; refine kl H rfl fun a H => ?_
            refine wpList_nil ?_
            refine c_next ?_
            refine wp_seq ?_
            have hS : SRi w b0 op who peer v L v8 M _ := ⟨hall.drew, k0, h, r8⟩
            refine region_pi (SRi w b0 op who peer v L v8 M) [(0, true), (1, true), (2, true), (4, true), (5, true), (3, false), (6, false), (7, true), (8, true), (9, true), (10, true), (11, true)] (by kernel_rfl) (by kernel_rfl) rfl (by kernel_rfl) hS ?_
            clear hall k0 h r8
            refine pi_f0 _ rfl (fun w' hS' => r_move (H.ev rfl)) ?_; refine kp H rfl fun a H => ?_
            refine pi_f0 _ rfl (fun w' hS' => r_move (H.ev rfl)) ?_; refine kp H rfl fun a H => ?_
            refine pi_f0 _ rfl (fun w' hS' => r_move (H.ev rfl)) ?_; refine kp H rfl fun a H => ?_
            refine pi_f0 _ rfl (fun w' hS' => r_fld (q := 0) fld27_0 (H.ev rfl) rfl) ?_; refine kp H rfl fun a H => ?_
            refine pi_f0 _ rfl (fun w' hS' => r_ld Try.underlying3 rfl (H.ev rfl) ((Block.cell (hS'.2.1) 0).trans rfl)) ?_; refine kp H rfl fun a H => ?_
            refine pi_a0 rfl (fun K hK => ?_); refine wpo_call _ _ _ (state_any _ _ L who peer hS.2.2.1 (by omega) HR.out.1) (r_call3 cf16 (H.ev rfl) (H.ev rfl) (H.ev rfl)) ?_; rintro e w9 ⟨rfl, hb9⟩; refine ⟨_, rfl, ?_⟩; rw [HS.out]; replace hS := hS.up hb9; clear hb9; refine hK _ _ ⟨hS, ?_⟩; clear hK; clear K; refine kp H rfl fun a H => ?_
            refine pi_a0 rfl (fun K hK => ?_); refine wpo_call _ _ _ (step_any s op _) (r_call2 cf24 (H.ev rfl) (H.ev rfl)) ?_; rintro e w9 ⟨rfl, hb9⟩; refine ⟨_, rfl, ?_⟩; rw [HTO.out, HER.out]; replace hS := hS.up hb9; clear hb9; refine hK _ _ ⟨hS, ?_⟩; clear hK; clear K; refine kp H rfl fun a H => ?_
            refine pi_f0 _ rfl (fun w' hS' => r_move (H.ev rfl)) ?_; refine kp H rfl fun a H => ?_
            refine pi_f0 _ rfl (fun w' hS' => r_extract (v := .int .i64 tq) (H.ev rfl) rfl) ?_; refine kp H rfl fun a H => ?_
            refine pi_f0 _ rfl (fun w' hS' => r_extract (v := .int .i64 er) (H.ev rfl) rfl) ?_; refine kp H rfl fun a H => ?_
            refine pi_f0 _ rfl (fun w' hS' => r_assign (H.ev rfl)) ?_; refine kp H rfl fun a H => ?_
            refine pi_f0 _ rfl (fun w' hS' => r_assign (H.ev rfl)) ?_; refine kp H rfl fun a H => ?_
            refine pi_nil (NoPanic.normal ?_)
            have hall := hS.1
            have h := hS.2.2.1
            have r8 := hS.2.2.2
            clear hS
            refine c_next ?_
            refine wp_seq ?_
            refine wp_seq ?_
            refine wp_region_lit ?_
            refine wl_v _ (r_assign evc) ?_; refine kl H rfl fun a H => ?_
            refine wpList_nil ?_
            refine c_next ?_
            refine wp_block ?_
            refine wp_loop (RtX w b o cV V k v L v8 M e er who peer tq) (fun a _ => 17 - (intOf (a.eval (.tmp 14))).toNat) ⟨1, H.pick [0, 1, 5, 6, 8, 9, 10, 11, 12, 13, 14], by omega, h, r8, hall⟩ ?_
            clear H hall h r8
            rintro a w' ⟨i, H, hi, h, r8, hall⟩
            have H1 := H
            by_cases hi16 : ((i : Nat) : Int) ≤ 16
            · skip
              refine wp_seq ?_
              refine wp_seq ?_
              refine wp_region_lit ?_
              refine wl_v _ (r_move (H.ev rfl)) ?_; refine kl H rfl fun a H => ?_
              refine wl_v _ (r_le Try.underlying3 (H.ev rfl) evc (dec_t (hi16))) ?_; refine kl H rfl fun a H => ?_
              refine wl_v _ (r_move (H.ev rfl)) ?_; refine kl H rfl fun a H => ?_
              refine op_unguard _ _ (kg_yes rfl H rfl rfl rfl) ?_; refine wl_v _ (r_move (H.ev rfl)) ?_; refine kl H rfl fun a H => ?_
              refine op_unguard _ _ (kg_yes rfl H rfl rfl rfl) ?_; refine wl_v _ (r_eq Try.underlying28 (H.ev rfl) evc (dec_f (by omega))) ?_; refine kl H rfl fun a H => ?_
              refine wl_v _ (r_pick_t (H.ev rfl) (H.ev rfl)) ?_; refine kl H rfl fun a H => ?_
              refine wpList_nil ?_
              refine c_next ?_
              refine c_cond_f H rfl ?_
              refine wp_exit ?_
              refine e_then ?_
              refine e_then ?_
              refine e_here ?_
              refine c_next ?_
              refine wp_seq ?_
              refine wp_seq ?_
              refine wp_region_lit ?_
              refine wl_v _ (r_move (H.ev rfl)) ?_; refine kl H rfl fun a H => ?_
              refine wl_v _ (r_eq Try.underlying28 (H.ev rfl) evc (dec_f (by omega))) ?_; refine kl H rfl fun a H => ?_
              refine wl_v _ (r_move (H.ev rfl)) ?_; refine kl H rfl fun a H => ?_
              refine wl_s (kg_no rfl H rfl rfl rfl) ?_; refine kl H rfl fun a H => ?_
              refine wl_s (kg_no rfl H rfl rfl rfl) ?_; refine kl H rfl fun a H => ?_
              refine wl_v _ (r_pick_f (H.ev rfl) evc) ?_; refine kl H rfl fun a H => ?_
              refine wpList_nil ?_
              refine c_next ?_
              refine c_cond_f H rfl ?_
              refine wp_skip ?_
              refine c_next ?_
              refine wp_region_lit ?_
              refine wl_v _ (r_move (H.ev rfl)) ?_; refine kl H rfl fun a H => ?_
              refine wl_v _ (r_assign (H.ev rfl)) ?_; refine kl H rfl fun a H => ?_
              refine wpList_nil ?_
              refine n_block ?_
              refine c_next ?_
              refine wp_region_lit ?_
              refine wl_v _ (r_move (H.ev rfl)) ?_; refine kl H rfl fun a H => ?_
              refine wl_v _ (r_add (q := ((k + 1 : Nat) : Int)) Try.underlying3 (H.ev rfl) evc (by omega) (by omega)) ?_; refine kl H rfl fun a H => ?_
              refine wl_v _ (r_assign (H.ev rfl)) ?_; refine kl H rfl fun a H => ?_
              refine wpList_nil ?_
              refine n_then ⟨⟨k + 1, M, v8, H.pick [0, 1, 5, 6], by omega, r8, HRM.out, hall⟩, ?_⟩
              rw [H.ev (j := 6) rfl, H0.ev (j := 6) rfl]
              simp only [intOf]
              omega
            · skip
              refine wp_seq ?_
              refine wp_seq ?_
              refine wp_region_lit ?_
              refine wl_v _ (r_move (H.ev rfl)) ?_; refine kl H rfl fun a H => ?_
              refine wl_v _ (r_le Try.underlying3 (H.ev rfl) evc (dec_f (hi16))) ?_; refine kl H rfl fun a H => ?_
              refine wl_v _ (r_move (H.ev rfl)) ?_; refine kl H rfl fun a H => ?_
              refine wl_s (kg_no rfl H rfl rfl rfl) ?_; refine kl H rfl fun a H => ?_
              refine wl_s (kg_no rfl H rfl rfl rfl) ?_; refine kl H rfl fun a H => ?_
              refine wl_v _ (r_pick_f (H.ev rfl) evc) ?_; refine kl H rfl fun a H => ?_
              refine wpList_nil ?_
              refine c_next ?_
              refine c_cond_f H rfl ?_
              refine wp_exit ?_
              refine e_then ?_
              refine e_then ?_
              refine e_here ?_
              refine c_next ?_
              refine wp_seq ?_
              refine wp_seq ?_
              refine wp_region_lit ?_
              refine wl_v _ (r_move (H.ev rfl)) ?_; refine kl H rfl fun a H => ?_
              refine wl_v _ (r_eq Try.underlying28 (H.ev rfl) evc (dec_f (by omega))) ?_; refine kl H rfl fun a H => ?_
              refine wl_v _ (r_move (H.ev rfl)) ?_; refine kl H rfl fun a H => ?_
              refine wl_s (kg_no rfl H rfl rfl rfl) ?_; refine kl H rfl fun a H => ?_
              refine wl_s (kg_no rfl H rfl rfl rfl) ?_; refine kl H rfl fun a H => ?_
              refine wl_v _ (r_pick_f (H.ev rfl) evc) ?_; refine kl H rfl fun a H => ?_
              refine wpList_nil ?_
              refine c_next ?_
              refine c_cond_f H rfl ?_
              refine wp_skip ?_
              refine c_next ?_
              refine wp_region_lit ?_
              refine wl_v _ (r_move (H.ev rfl)) ?_; refine kl H rfl fun a H => ?_
              refine wl_v _ (r_assign (H.ev rfl)) ?_; refine kl H rfl fun a H => ?_
              refine wpList_nil ?_
              refine n_block ?_
              refine c_next ?_
              refine wp_region_lit ?_
              refine wl_v _ (r_move (H.ev rfl)) ?_; refine kl H rfl fun a H => ?_
              refine wl_v _ (r_add (q := ((k + 1 : Nat) : Int)) Try.underlying3 (H.ev rfl) evc (by omega) (by omega)) ?_; refine kl H rfl fun a H => ?_
              refine wl_v _ (r_assign (H.ev rfl)) ?_; refine kl H rfl fun a H => ?_
              refine wpList_nil ?_
              refine n_then ⟨⟨k + 1, M, v8, H.pick [0, 1, 5, 6], by omega, r8, HRM.out, hall⟩, ?_⟩
              rw [H.ev (j := 6) rfl, H0.ev (j := 6) rfl]
              simp only [intOf]
              omega
          · skip
            subst hs0
            have HE : Hid ((doF L op who peer).2 = 0) := Lib.hid (by rw [hd])
            have hmp : M = putF L who peer tq := by rw [← HM.out, hd]
            have HST : Hid (∀ u v', (u = who ∧ v' = peer → stF M u v' = tq) ∧ (¬ (u = who ∧ v' = peer) → stF M u v' = stF L u v')) := Lib.hid (fun u v' => ⟨fun e => by rw [e.1, e.2, hmp]; exact st_same _ _ _ _, fun e => by rw [hmp]; exact st_other HR.out _ e⟩)
            clear hb hf hd hmp
            refine wp_region_lit ?_
            refine wl_v _ (r_move (H.ev rfl)) ?_; refine kl H rfl fun a H => ?_
            refine wl_v _ (r_fld (q := 0) fld27_0 (H.ev rfl) rfl) ?_; refine kl H rfl fun a H => ?_
            refine wl_v _ (r_ld Try.underlying3 rfl (H.ev rfl) ((Block.cell k0 0).trans rfl)) ?_; refine kl H rfl fun a H => ?_
            refine wl_v _ (r_fld (q := 1) fld27_1 (H.ev rfl) rfl) ?_; refine kl H rfl fun a H => ?_
            refine wl_v _ (r_ld Try.underlying3 rfl (H.ev rfl) ((Block.cell k0 1).trans rfl)) ?_; refine kl H rfl fun a H => ?_
            refine wl_v _ (r_fld (q := 2) fld27_2 (H.ev rfl) rfl) ?_; refine kl H rfl fun a H => ?_
            refine wl_v _ (r_ld Try.underlying3 rfl (H.ev rfl) ((Block.cell k0 2).trans rfl)) ?_; refine kl H rfl fun a H => ?_
            refine wl_call _ _ _ (do_any _ _ L op who peer h (by omega) HR.out) (r_call4 cf13 (H.ev rfl) (H.ev rfl) (H.ev rfl) (H.ev rfl)) ?_; rintro e w9 ⟨⟨v8, rfl, hown⟩, hb⟩; refine ⟨_, rfl, ?_⟩; rw [HE.out]; replace h := Row.up h hb; replace k0 := Block.ups k0 hb; replace hall := hall.trans (hb.mono hall.size); clear hb; rw [HM.out] at hown; have r8 := TOwn.row hown; clear hown; refine kl H rfl fun a H => ?_
            refine wl_v _ (r_move (H.ev rfl)) ?_; refine kl H rfl fun a H => ?_
            refine wl_v _ (r_extract (v := v8) (H.ev rfl) rfl) ?_; refine kl H rfl fun a H => ?_
            refine wl_v _ (r_extract (v := .int .i64 0) (H.ev rfl) rfl) ?_; refine kl H rfl fun a H => ?_
            refine wl_v _ (r_assign (H.ev rfl)) ?_; refine kl H rfl fun a H => ?_
            refine wl_v _ (r_assign (H.ev rfl)) ?_; refine kl H rfl fun a H => ?_
            refine wpList_nil ?_
            refine c_next ?_
            refine wp_seq ?_
            refine wp_seq ?_
            refine wp_region_lit ?_
            refine wl_v _ (r_move (H.ev rfl)) ?_; refine kl H rfl fun a H => ?_
            refine wl_call _ _ _ (right_any _ _ M r8 (by omega) (right_wf HRM.out)) (r_call1 cf11 (H.ev rfl)) ?_; rintro e w9 ⟨rfl, hb⟩; refine ⟨_, rfl, ?_⟩; rw [(right_iff M).2 HRM.out]; replace h := Row.up h hb; replace k0 := Block.ups k0 hb; replace r8 := Row.up r8 hb; replace hall := hall.trans (hb.mono hall.size); clear hb; refine kl H rfl fun a H => ?_
            refine wl_v _ (r_not (H.ev rfl) rfl) ?_; refine kl H rfl fun a H => ?_
            refine wl_v _ (r_move (H.ev rfl)) ?_; refine kl H rfl fun a H => ?_
            refine op_unguard _ _ (kg_yes rfl H rfl rfl rfl) ?_; refine wl_v _ (r_move (H.ev rfl)) ?_; refine kl H rfl fun a H => ?_
            refine op_unguard _ _ (kg_yes rfl H rfl rfl rfl) ?_; refine wl_v _ (r_ne Try.underlying28 (H.ev rfl) evc (dec_f (by omega))) ?_; refine kl H rfl fun a H => ?_
            refine op_unguard _ _ (kg_yes rfl H rfl rfl rfl) ?_; refine wl_v _ (r_move (H.ev rfl)) ?_; refine kl H rfl fun a H => ?_
            refine wl_s (kg_no rfl H rfl rfl rfl) ?_; refine kl H rfl fun a H => ?_
            refine wl_s (kg_no rfl H rfl rfl rfl) ?_; refine kl H rfl fun a H => ?_
            refine wl_s (kg_no rfl H rfl rfl rfl) ?_; refine kl H rfl fun a H => ?_
            refine wl_s (kg_no rfl H rfl rfl rfl) ?_; refine kl H rfl fun a H => ?_
            refine op_unguard _ _ (kg_yes rfl H rfl rfl rfl) ?_; refine wl_v _ (r_pick_f (H.ev rfl) evc) ?_; refine kl H rfl fun a H => ?_
            refine wl_v _ (r_pick_f (H.ev rfl) (H.ev rfl)) ?_; refine kl H rfl fun a H => ?_
            refine wpList_nil ?_
            refine c_next ?_
            refine c_cond_f H rfl ?_
            refine wp_skip ?_
            refine c_next ?_
            refine wp_seq ?_
            refine wp_region_lit ?_
            refine wl_v _ (r_fld (q := 2) fld27_2 (H.ev rfl) rfl) ?_; refine kl H rfl fun a H => ?_
            refine wl_v _ (r_ld Try.underlying3 rfl (H.ev rfl) ((Block.cell k0 2).trans rfl)) ?_; refine kl H rfl fun a H => ?_
            refine wl_v _ (r_assign (H.ev rfl)) ?_; refine kl H rfl fun a H => ?_
            refine wpList_nil ?_
            refine c_next ?_
            refine wp_seq ?_
            refine wp_region_lit ?_
            refine wl_v _ (r_fld (q := 1) fld27_1 (H.ev rfl) rfl) ?_; refine kl H rfl fun a H => ?_
            refine wl_v _ (r_ld Try.underlying3 rfl (H.ev rfl) ((Block.cell k0 1).trans rfl)) ?_; refine kl H rfl fun a H => ?_
            refine wl_v _ (r_assign (H.ev rfl)) ?_; refine kl H rfl fun a H => ?_
            refine wpList_nil ?_
            refine c_next ?_
            refine wp_seq ?_
            refine wp_seq ?_
            refine wp_region_lit ?_
            refine wl_v _ (r_fld (q := 0) fld27_0 (H.ev rfl) rfl) ?_; refine kl H rfl fun a H => ?_
            refine wl_v _ (r_ld Try.underlying3 rfl (H.ev rfl) ((Block.cell k0 0).trans rfl)) ?_; refine kl H rfl fun a H => ?_
            refine wl_call _ _ _ (mine_any _ _) (r_call1 cf23 (H.ev rfl)) ?_; rintro e w9 ⟨rfl, rfl⟩; refine ⟨_, rfl, ?_⟩; rw [HMI.out]; skip; refine kl H rfl fun a H => ?_
            refine wpList_nil ?_
            refine c_next ?_
            refine c_cond_t H rfl ?_
            refine wp_seq ?_
            refine wp_region_lit ?_
            refine wl_v _ (r_fld (q := 1) fld27_1 (H.ev rfl) rfl) ?_; refine kl H rfl fun a H => ?_
            refine wl_v _ (r_ld Try.underlying3 rfl (H.ev rfl) ((Block.cell k0 1).trans rfl)) ?_; refine kl H rfl fun a H => ?_
            refine wl_v _ (r_assign (H.ev rfl)) ?_; refine kl H rfl fun a H => ?_
            refine wpList_nil ?_
            refine c_next ?_
            refine wp_region_lit ?_
            refine wl_v _ (r_fld (q := 2) fld27_2 (H.ev rfl) rfl) ?_; refine kl H rfl fun a H => ?_
            refine wl_v _ (r_ld Try.underlying3 rfl (H.ev rfl) ((Block.cell k0 2).trans rfl)) ?_; refine kl H rfl fun a H => ?_
            refine wl_v _ (r_assign (H.ev rfl)) ?_; refine kl H rfl fun a H => ?_
            refine wpList_nil ?_
            refine c_next ?_
            refine wp_seq ?_
            have hS : SRi w b0 op who peer v L v8 M _ := ⟨hall.drew, k0, h, r8⟩
            refine region_pi (SRi w b0 op who peer v L v8 M) [(0, true), (1, true), (2, true), (4, true), (5, true), (3, false), (6, false), (7, true), (8, true), (9, true), (10, true), (11, true)] (by kernel_rfl) (by kernel_rfl) rfl (by kernel_rfl) hS ?_
            clear hall k0 h r8
            refine pi_f0 _ rfl (fun w' hS' => r_move (H.ev rfl)) ?_; refine kp H rfl fun a H => ?_
            refine pi_f0 _ rfl (fun w' hS' => r_move (H.ev rfl)) ?_; refine kp H rfl fun a H => ?_
            refine pi_f0 _ rfl (fun w' hS' => r_move (H.ev rfl)) ?_; refine kp H rfl fun a H => ?_
            refine pi_f0 _ rfl (fun w' hS' => r_fld (q := 0) fld27_0 (H.ev rfl) rfl) ?_; refine kp H rfl fun a H => ?_
            refine pi_f0 _ rfl (fun w' hS' => r_ld Try.underlying3 rfl (H.ev rfl) ((Block.cell (hS'.2.1) 0).trans rfl)) ?_; refine kp H rfl fun a H => ?_
            refine pi_a0 rfl (fun K hK => ?_); refine wpo_call _ _ _ (state_any _ _ L who peer hS.2.2.1 (by omega) HR.out.1) (r_call3 cf16 (H.ev rfl) (H.ev rfl) (H.ev rfl)) ?_; rintro e w9 ⟨rfl, hb9⟩; refine ⟨_, rfl, ?_⟩; rw [HS.out]; replace hS := hS.up hb9; clear hb9; refine hK _ _ ⟨hS, ?_⟩; clear hK; clear K; refine kp H rfl fun a H => ?_
            refine pi_a0 rfl (fun K hK => ?_); refine wpo_call _ _ _ (step_any s op _) (r_call2 cf24 (H.ev rfl) (H.ev rfl)) ?_; rintro e w9 ⟨rfl, hb9⟩; refine ⟨_, rfl, ?_⟩; rw [HTO.out, HER.out]; replace hS := hS.up hb9; clear hb9; refine hK _ _ ⟨hS, ?_⟩; clear hK; clear K; refine kp H rfl fun a H => ?_
            refine pi_f0 _ rfl (fun w' hS' => r_move (H.ev rfl)) ?_; refine kp H rfl fun a H => ?_
            refine pi_f0 _ rfl (fun w' hS' => r_extract (v := .int .i64 tq) (H.ev rfl) rfl) ?_; refine kp H rfl fun a H => ?_
            refine pi_f0 _ rfl (fun w' hS' => r_extract (v := .int .i64 0) (H.ev rfl) rfl) ?_; refine kp H rfl fun a H => ?_
            refine pi_f0 _ rfl (fun w' hS' => r_assign (H.ev rfl)) ?_; refine kp H rfl fun a H => ?_
            refine pi_f0 _ rfl (fun w' hS' => r_assign (H.ev rfl)) ?_; refine kp H rfl fun a H => ?_
            refine pi_nil (NoPanic.normal ?_)
            have hall := hS.1
            have h := hS.2.2.1
            have r8 := hS.2.2.2
            clear hS
            refine c_next ?_
            refine wp_seq ?_
            refine wp_seq ?_
            refine wp_region_lit ?_
            refine wl_v _ (r_assign evc) ?_; refine kl H rfl fun a H => ?_
            refine wpList_nil ?_
            refine c_next ?_
            refine wp_block ?_
            refine wp_loop (RtX w b o cV V k v L v8 M 0 0 who peer tq) (fun a _ => 17 - (intOf (a.eval (.tmp 14))).toNat) ⟨1, H.pick [0, 1, 5, 6, 8, 9, 10, 11, 12, 13, 14], by omega, h, r8, hall⟩ ?_
            clear H hall h r8
            rintro a w' ⟨i, H, hi, h, r8, hall⟩
            have H1 := H
            by_cases hi16 : ((i : Nat) : Int) ≤ 16
            · skip
              refine wp_seq ?_
              refine wp_seq ?_
              refine wp_region_lit ?_
              refine wl_v _ (r_move (H.ev rfl)) ?_; refine kl H rfl fun a H => ?_
              refine wl_v _ (r_le Try.underlying3 (H.ev rfl) evc (dec_t (hi16))) ?_; refine kl H rfl fun a H => ?_
              refine wl_v _ (r_move (H.ev rfl)) ?_; refine kl H rfl fun a H => ?_
              refine op_unguard _ _ (kg_yes rfl H rfl rfl rfl) ?_; refine wl_v _ (r_move (H.ev rfl)) ?_; refine kl H rfl fun a H => ?_
              refine op_unguard _ _ (kg_yes rfl H rfl rfl rfl) ?_; refine wl_v _ (r_eq Try.underlying28 (H.ev rfl) evc (dec_t (by omega))) ?_; refine kl H rfl fun a H => ?_
              refine wl_v _ (r_pick_t (H.ev rfl) (H.ev rfl)) ?_; refine kl H rfl fun a H => ?_
              refine wpList_nil ?_
              refine c_next ?_
              refine c_cond_t H rfl ?_
              refine wp_skip ?_
              refine c_next ?_
              refine wp_seq ?_
              refine wp_block ?_
              refine wp_seq ?_
              refine wp_region_lit ?_
              refine wl_v _ (r_assign evc) ?_; refine kl H rfl fun a H => ?_
              refine wpList_nil ?_
              refine c_next ?_
              refine wp_block ?_
              refine wp_loop (RtY w b o cV V k v L v8 M 0 0 who peer tq i) (fun a _ => 17 - (intOf (a.eval (.tmp 15))).toNat) ⟨1, H.pick [0, 1, 5, 6, 8, 9, 10, 11, 12, 13, 14, 15], by omega, h, r8, hall⟩ ?_
              clear H hall h r8
              rintro a w' ⟨j, H, hj, h, r8, hall⟩
              have H2 := H
              by_cases hj16 : ((j : Nat) : Int) ≤ 16
              · skip
                obtain ⟨q, hq⟩ : ∃ q, stF L ((i : Nat) : Int) ((j : Nat) : Int) = q := ⟨_, rfl⟩
                have HQ := Lib.hid hq
                clear hq
                refine wp_seq ?_
                refine wp_seq ?_
                refine wp_region_lit ?_
                refine wl_v _ (r_move (H.ev rfl)) ?_; refine kl H rfl fun a H => ?_
                refine wl_v _ (r_le Try.underlying3 (H.ev rfl) evc (dec_t (hj16))) ?_; refine kl H rfl fun a H => ?_
                refine wpList_nil ?_
                refine c_next ?_
                refine c_cond_t H rfl ?_
                refine wp_skip ?_
                refine c_next ?_
                refine wp_seq ?_
                refine wp_block ?_
                refine wp_seq ?_
                refine wp_region_lit ?_
                refine wl_v _ (r_move (H.ev rfl)) ?_; refine kl H rfl fun a H => ?_
                refine wl_v _ (r_move (H.ev rfl)) ?_; refine kl H rfl fun a H => ?_
                refine wl_v _ (r_move (H.ev rfl)) ?_; refine kl H rfl fun a H => ?_
                refine wl_call _ _ _ (state_any _ _ L (i : Nat) (j : Nat) h (by omega) HR.out.1) (r_call3 cf16 (H.ev rfl) (H.ev rfl) (H.ev rfl)) ?_; rintro e w9 ⟨rfl, hb⟩; refine ⟨_, rfl, ?_⟩; rw [HQ.out]; replace h := Row.up h hb; replace r8 := Row.up r8 hb; replace hall := hall.trans (hb.mono hall.size); clear hb; refine kl H rfl fun a H => ?_
                refine wl_v _ (r_assign (H.ev rfl)) ?_; refine kl H rfl fun a H => ?_
                refine wpList_nil ?_
                refine c_next ?_
                refine wp_seq ?_
                refine wp_seq ?_
                refine wp_region_lit ?_
                refine wl_v _ (r_move (H.ev rfl)) ?_; refine kl H rfl fun a H => ?_
                refine wl_v _ (r_move (H.ev rfl)) ?_; refine kl H rfl fun a H => ?_
                by_cases c4 : ((i : Nat) : Int) = who
                · skip
                  refine wl_v _ (r_eq Try.underlying3 (H.ev rfl) (H.ev rfl) (dec_t (c4))) ?_; refine kl H rfl fun a H => ?_
                  refine wl_v _ (r_move (H.ev rfl)) ?_; refine kl H rfl fun a H => ?_
                  refine op_unguard _ _ (kg_yes rfl H rfl rfl rfl) ?_; refine wl_v _ (r_move (H.ev rfl)) ?_; refine kl H rfl fun a H => ?_
                  refine op_unguard _ _ (kg_yes rfl H rfl rfl rfl) ?_; refine wl_v _ (r_move (H.ev rfl)) ?_; refine kl H rfl fun a H => ?_
                  by_cases c5 : ((j : Nat) : Int) = peer
                  · skip
                    refine op_unguard _ _ (kg_yes rfl H rfl rfl rfl) ?_; refine wl_v _ (r_eq Try.underlying3 (H.ev rfl) (H.ev rfl) (dec_t (c5))) ?_; refine kl H rfl fun a H => ?_
                    refine wl_v _ (r_pick_t (H.ev rfl) (H.ev rfl)) ?_; refine kl H rfl fun a H => ?_
                    refine wpList_nil ?_
                    refine c_next ?_
                    refine c_cond_t H rfl ?_
                    refine wp_region_lit ?_
                    refine wl_v _ (r_move (H.ev rfl)) ?_; refine kl H rfl fun a H => ?_
                    refine wl_v _ (r_assign (H.ev rfl)) ?_; refine kl H rfl fun a H => ?_
                    refine wpList_nil ?_
                    refine c_next ?_
                    refine wp_seq ?_
                    refine wp_region_lit ?_
                    refine wl_v _ (r_move (H.ev rfl)) ?_; refine kl H rfl fun a H => ?_
                    refine wl_v _ (r_move (H.ev rfl)) ?_; refine kl H rfl fun a H => ?_
                    refine wl_v _ (r_move (H.ev rfl)) ?_; refine kl H rfl fun a H => ?_
                    refine wl_call _ _ _ (state_any _ _ M (i : Nat) (j : Nat) r8 (by omega) HRM.out.1) (r_call3 cf16 (H.ev rfl) (H.ev rfl) (H.ev rfl)) ?_; rintro e w9 ⟨rfl, hb⟩; refine ⟨_, rfl, ?_⟩; rw [(HST.out _ _).1 ⟨by omega, by omega⟩]; replace h := Row.up h hb; replace r8 := Row.up r8 hb; replace hall := hall.trans (hb.mono hall.size); clear hb; refine kl H rfl fun a H => ?_
                    refine wl_v _ (r_move (H.ev rfl)) ?_; refine kl H rfl fun a H => ?_
                    refine wl_v _ (r_ne Try.underlying3 (H.ev rfl) (H.ev rfl) (dec_f (by omega))) ?_; refine kl H rfl fun a H => ?_
                    refine wpList_nil ?_
                    refine c_next ?_
                    refine c_cond_f H rfl ?_
                    refine wp_skip ?_
                    refine n_block ?_
                    refine c_next ?_
                    refine wp_region_lit ?_
                    refine wl_v _ (r_move (H.ev rfl)) ?_; refine kl H rfl fun a H => ?_
                    refine wl_v _ (r_add (q := ((j + 1 : Nat) : Int)) Try.underlying3 (H.ev rfl) evc (by omega) (by omega)) ?_; refine kl H rfl fun a H => ?_
                    refine wl_v _ (r_assign (H.ev rfl)) ?_; refine kl H rfl fun a H => ?_
                    refine wpList_nil ?_
                    refine n_then ⟨⟨j + 1, H.pick [0, 1, 5, 6, 8, 9, 10, 11, 12, 13, 14, 15], by omega, h, r8, hall⟩, ?_⟩
                    rw [H.ev (j := 15) rfl, H2.ev (j := 15) rfl]
                    simp only [intOf]
                    omega
                  · skip
                    refine op_unguard _ _ (kg_yes rfl H rfl rfl rfl) ?_; refine wl_v _ (r_eq Try.underlying3 (H.ev rfl) (H.ev rfl) (dec_f (c5))) ?_; refine kl H rfl fun a H => ?_
                    refine wl_v _ (r_pick_t (H.ev rfl) (H.ev rfl)) ?_; refine kl H rfl fun a H => ?_
                    refine wpList_nil ?_
                    refine c_next ?_
                    refine c_cond_f H rfl ?_
                    refine wp_skip ?_
                    refine c_next ?_
                    refine wp_seq ?_
                    refine wp_region_lit ?_
                    refine wl_v _ (r_move (H.ev rfl)) ?_; refine kl H rfl fun a H => ?_
                    refine wl_v _ (r_move (H.ev rfl)) ?_; refine kl H rfl fun a H => ?_
                    refine wl_v _ (r_move (H.ev rfl)) ?_; refine kl H rfl fun a H => ?_
                    refine wl_call _ _ _ (state_any _ _ M (i : Nat) (j : Nat) r8 (by omega) HRM.out.1) (r_call3 cf16 (H.ev rfl) (H.ev rfl) (H.ev rfl)) ?_; rintro e w9 ⟨rfl, hb⟩; refine ⟨_, rfl, ?_⟩; rw [(HST.out _ _).2 (by omega), HQ.out]; replace h := Row.up h hb; replace r8 := Row.up r8 hb; replace hall := hall.trans (hb.mono hall.size); clear hb; refine kl H rfl fun a H => ?_
                    refine wl_v _ (r_move (H.ev rfl)) ?_; refine kl H rfl fun a H => ?_
                    refine wl_v _ (r_ne Try.underlying3 (H.ev rfl) (H.ev rfl) (dec_f (by omega))) ?_; refine kl H rfl fun a H => ?_
                    refine wpList_nil ?_
                    refine c_next ?_
                    refine c_cond_f H rfl ?_
                    refine wp_skip ?_
                    refine n_block ?_
                    refine c_next ?_
                    refine wp_region_lit ?_
                    refine wl_v _ (r_move (H.ev rfl)) ?_; refine kl H rfl fun a H => ?_
                    refine wl_v _ (r_add (q := ((j + 1 : Nat) : Int)) Try.underlying3 (H.ev rfl) evc (by omega) (by omega)) ?_; refine kl H rfl fun a H => ?_
                    refine wl_v _ (r_assign (H.ev rfl)) ?_; refine kl H rfl fun a H => ?_
                    refine wpList_nil ?_
                    refine n_then ⟨⟨j + 1, H.pick [0, 1, 5, 6, 8, 9, 10, 11, 12, 13, 14, 15], by omega, h, r8, hall⟩, ?_⟩
                    rw [H.ev (j := 15) rfl, H2.ev (j := 15) rfl]
                    simp only [intOf]
                    omega
                · skip
                  refine wl_v _ (r_eq Try.underlying3 (H.ev rfl) (H.ev rfl) (dec_f (c4))) ?_; refine kl H rfl fun a H => ?_
                  refine wl_v _ (r_move (H.ev rfl)) ?_; refine kl H rfl fun a H => ?_
                  refine wl_s (kg_no rfl H rfl rfl rfl) ?_; refine kl H rfl fun a H => ?_
                  refine wl_s (kg_no rfl H rfl rfl rfl) ?_; refine kl H rfl fun a H => ?_
                  refine wl_s (kg_no rfl H rfl rfl rfl) ?_; refine kl H rfl fun a H => ?_
                  refine wl_v _ (r_pick_f (H.ev rfl) evc) ?_; refine kl H rfl fun a H => ?_
                  refine wpList_nil ?_
                  refine c_next ?_
                  refine c_cond_f H rfl ?_
                  refine wp_skip ?_
                  refine c_next ?_
                  refine wp_seq ?_
                  refine wp_region_lit ?_
                  refine wl_v _ (r_move (H.ev rfl)) ?_; refine kl H rfl fun a H => ?_
                  refine wl_v _ (r_move (H.ev rfl)) ?_; refine kl H rfl fun a H => ?_
                  refine wl_v _ (r_move (H.ev rfl)) ?_; refine kl H rfl fun a H => ?_
                  refine wl_call _ _ _ (state_any _ _ M (i : Nat) (j : Nat) r8 (by omega) HRM.out.1) (r_call3 cf16 (H.ev rfl) (H.ev rfl) (H.ev rfl)) ?_; rintro e w9 ⟨rfl, hb⟩; refine ⟨_, rfl, ?_⟩; rw [(HST.out _ _).2 (by omega), HQ.out]; replace h := Row.up h hb; replace r8 := Row.up r8 hb; replace hall := hall.trans (hb.mono hall.size); clear hb; refine kl H rfl fun a H => ?_
                  refine wl_v _ (r_move (H.ev rfl)) ?_; refine kl H rfl fun a H => ?_
                  refine wl_v _ (r_ne Try.underlying3 (H.ev rfl) (H.ev rfl) (dec_f (by omega))) ?_; refine kl H rfl fun a H => ?_
                  refine wpList_nil ?_
                  refine c_next ?_
                  refine c_cond_f H rfl ?_
                  refine wp_skip ?_
                  refine n_block ?_
                  refine c_next ?_
                  refine wp_region_lit ?_
                  refine wl_v _ (r_move (H.ev rfl)) ?_; refine kl H rfl fun a H => ?_
                  refine wl_v _ (r_add (q := ((j + 1 : Nat) : Int)) Try.underlying3 (H.ev rfl) evc (by omega) (by omega)) ?_; refine kl H rfl fun a H => ?_
                  refine wl_v _ (r_assign (H.ev rfl)) ?_; refine kl H rfl fun a H => ?_
                  refine wpList_nil ?_
                  refine n_then ⟨⟨j + 1, H.pick [0, 1, 5, 6, 8, 9, 10, 11, 12, 13, 14, 15], by omega, h, r8, hall⟩, ?_⟩
                  rw [H.ev (j := 15) rfl, H2.ev (j := 15) rfl]
                  simp only [intOf]
                  omega
              · skip
                refine wp_seq ?_
                refine wp_seq ?_
                refine wp_region_lit ?_
                refine wl_v _ (r_move (H.ev rfl)) ?_; refine kl H rfl fun a H => ?_
                refine wl_v _ (r_le Try.underlying3 (H.ev rfl) evc (dec_f (hj16))) ?_; refine kl H rfl fun a H => ?_
                refine wpList_nil ?_
                refine c_next ?_
                refine c_cond_f H rfl ?_
                refine wp_exit ?_
                refine e_then ?_
                refine e_then ?_
                refine e_here ?_
                refine n_block ?_
                refine c_next ?_
                refine wp_region_lit ?_
                refine wl_v _ (r_move (H.ev rfl)) ?_; refine kl H rfl fun a H => ?_
                refine wl_v _ (r_add (q := ((i + 1 : Nat) : Int)) Try.underlying3 (H.ev rfl) evc (by omega) (by omega)) ?_; refine kl H rfl fun a H => ?_
                refine wl_v _ (r_assign (H.ev rfl)) ?_; refine kl H rfl fun a H => ?_
                refine wpList_nil ?_
                refine n_then ⟨⟨i + 1, H.pick [0, 1, 5, 6, 8, 9, 10, 11, 12, 13, 14], by omega, h, r8, hall⟩, ?_⟩
                rw [H.ev (j := 14) rfl, H1.ev (j := 14) rfl]
                simp only [intOf]
                omega
            · skip
              refine wp_seq ?_
              refine wp_seq ?_
              refine wp_region_lit ?_
              refine wl_v _ (r_move (H.ev rfl)) ?_; refine kl H rfl fun a H => ?_
              refine wl_v _ (r_le Try.underlying3 (H.ev rfl) evc (dec_f (hi16))) ?_; refine kl H rfl fun a H => ?_
              refine wl_v _ (r_move (H.ev rfl)) ?_; refine kl H rfl fun a H => ?_
              refine wl_s (kg_no rfl H rfl rfl rfl) ?_; refine kl H rfl fun a H => ?_
              refine wl_s (kg_no rfl H rfl rfl rfl) ?_; refine kl H rfl fun a H => ?_
              refine wl_v _ (r_pick_f (H.ev rfl) evc) ?_; refine kl H rfl fun a H => ?_
              refine wpList_nil ?_
              refine c_next ?_
              refine c_cond_f H rfl ?_
              refine wp_exit ?_
              refine e_then ?_
              refine e_then ?_
              refine e_here ?_
              refine c_next ?_
              refine wp_seq ?_
              refine wp_seq ?_
              refine wp_region_lit ?_
              refine wl_v _ (r_move (H.ev rfl)) ?_; refine kl H rfl fun a H => ?_
              refine wl_v _ (r_eq Try.underlying28 (H.ev rfl) evc (dec_t (by omega))) ?_; refine kl H rfl fun a H => ?_
              refine wl_v _ (r_move (H.ev rfl)) ?_; refine kl H rfl fun a H => ?_
              refine op_unguard _ _ (kg_yes rfl H rfl rfl rfl) ?_; refine wl_v _ (r_move (H.ev rfl)) ?_; refine kl H rfl fun a H => ?_
              refine op_unguard _ _ (kg_yes rfl H rfl rfl rfl) ?_; refine wl_v _ (r_ne Try.underlying28 (H.ev rfl) evc (dec_f (by omega))) ?_; refine kl H rfl fun a H => ?_
              refine wl_v _ (r_pick_t (H.ev rfl) (H.ev rfl)) ?_; refine kl H rfl fun a H => ?_
              refine wpList_nil ?_
              refine c_next ?_
              refine c_cond_f H rfl ?_
              refine wp_skip ?_
              refine c_next ?_
              refine wp_region_lit ?_
              refine wl_v _ (r_move (H.ev rfl)) ?_; refine kl H rfl fun a H => ?_
              refine wl_v _ (r_assign (H.ev rfl)) ?_; refine kl H rfl fun a H => ?_
              refine wpList_nil ?_
              refine n_block ?_
              refine c_next ?_
              refine wp_region_lit ?_
              refine wl_v _ (r_move (H.ev rfl)) ?_; refine kl H rfl fun a H => ?_
              refine wl_v _ (r_add (q := ((k + 1 : Nat) : Int)) Try.underlying3 (H.ev rfl) evc (by omega) (by omega)) ?_; refine kl H rfl fun a H => ?_
              refine wl_v _ (r_assign (H.ev rfl)) ?_; refine kl H rfl fun a H => ?_
              refine wpList_nil ?_
              refine n_then ⟨⟨k + 1, M, v8, H.pick [0, 1, 5, 6], by omega, r8, HRM.out, hall⟩, ?_⟩
              rw [H.ev (j := 6) rfl, H0.ev (j := 6) rfl]
              simp only [intOf]
              omega
      · skip
        obtain rfl : k = V.length := by omega
        refine wp_seq ?_
        refine wp_seq ?_
        refine wp_region_lit ?_
        refine wl_v _ (r_move (H.ev rfl)) ?_; refine kl H rfl fun a H => ?_
        refine wl_v _ (r_move (H.ev rfl)) ?_; refine kl H rfl fun a H => ?_
        refine wl_v _ (r_len Try.underlying23 (H.ev rfl)) ?_; refine kl H rfl fun a H => ?_
        refine wl_v _ (r_lt Try.underlying3 (H.ev rfl) (H.ev rfl) (dec_f (by omega))) ?_; refine kl H rfl fun a H => ?_
        refine wpList_nil ?_
        refine c_next ?_
        refine c_cond_f H rfl ?_
        refine wp_exit ?_
        refine e_then ?_
        refine e_then ?_
        refine e_here ?_
        refine c_next ?_
        refine wp_seq ?_
        refine wp_region_lit ?_
        refine wl_v _ (r_move (H.ev rfl)) ?_; refine kl H rfl fun a H => ?_
        refine wl_v _ (r_assign (H.ev rfl)) ?_; refine kl H rfl fun a H => ?_
        refine wpList_nil ?_
        refine c_next ?_
        refine wp_ret ?_
        exact k_ret1 H rfl rfl ⟨rfl, hall⟩
theorem right_all (w : World) (A : Option Addr) (n c : Nat) (B : List Int) (AV : Option Addr) (nV cV : Nat) (BV : List Int) (hB : B.length = n * 3) (hw : WF B) (hnc : n ≤ c) (hc : c ≤ maxLen) (hh : Holds w A (B.map (Value.int .i64))) (hz : A = none → c = 0) (hn : n ≤ 9223372036854775807)
    (hBV : BV.length = nV * 3) (hwV : WF BV) (hhV : Holds w AV (BV.map (Value.int .i64))) (hnV : nV ≤ 9223372036854775807) :
    Calls Try.prog 4 #[.slice A n c, .slice AV nV cV] w fun e w' => e = .returned (.bool true) ∧ Below w.heap.size w w' := by
  obtain ⟨L, h, rfl, hwf⟩ := row_in hB hw hnc hc hh hz
  obtain ⟨V, rfl, hVw, hV⟩ := acts_in hBV hwV hhV
  exact right_walk w _ L AV cV V h hn hwf hnV hV
theorem rosterRight_it0 : intTy Try.prog 3 37 = true := by kernel_rfl
theorem rosterRight_c0 : Try.prog.cellsOf 37 = 3 := by kernel_rfl
theorem rosterRight_it1 : intTy Try.prog 3 27 = true := by kernel_rfl
theorem rosterRight_c1 : Try.prog.cellsOf 27 = 3 := by kernel_rfl
set_option maxRecDepth 100000 in
theorem rosterRight_lifted (os : Os) (started : os.Started) (H : Type) (enc : TypeId × Value → H) :
    ReturnsInHanded {} Try.checked os 4 .any (Rows.rosterRightSpec.pre6 enc Try.prog Try.f4 Rows.rosterRightRow.domain false) (Rows.rosterRightSpec.post enc Try.prog Try.f4 false true false false) := by
  refine returnsInHanded_of_change (C := Try.checked) own started (by kernel_rfl) Try.func4
    (ChangeSpec.witness6 (enc := enc) (C := Try.checked) false ⟨#[], #[.slice none 0 0, .slice none 0 0], []⟩ 8 (by kernel_rfl) (by kernel_rfl) (by kernel_rfl) (by kernel_rfl)) ?_
  intro W base args ds gs before hval0 hW hcnd _
  have hval : ∀ (j : Nat) t v, Try.f4.params[j]? = some t → args[j]? = some v → Value.okWide Try.prog W .any base t v := hval0
  have hW' := hW
  obtain ⟨p, q, hA0, hV, rfl, hfz, hnd⟩ := hW
  have hA : DataW.TrodAll enc Try.prog W 0 (fun _ => true) true Try.f4.params.toList args.toList ds p := hA0
  rw [Try.params4] at hA hval
  obtain ⟨v0, vs0, d0, ds0, p0, q0, hargs, rfl, rfl, h0, r0⟩ := trodAll_cons hA
  obtain ⟨v1, vs1, d1, ds1, p1, q1, rfl, rfl, rfl, h1, r1⟩ := trodAll_cons r0
  obtain ⟨rfl, rfl, rfl⟩ := trodAll_nil r1
  obtain rfl : args = #[v0, v1] := by cases args; simp_all
  obtain ⟨rfl, rfl⟩ := trodVars_none hV
  have k0 := h0
  have lt0 : ∀ x ∈ p0, x.block < W.heap.size := by obtain ⟨m, hm⟩ := k0; exact DataW.trod_lt m _ _ _ hm
  have k1 := h1
  have lt1 : ∀ x ∈ p1, x.block < W.heap.size := by obtain ⟨m, hm⟩ := k1; exact DataW.trod_lt m _ _ _ hm
  obtain ⟨A0, n0, c0, L0, rfl, hn0, hw0, hnc0, hcm0, hh0, hz0⟩ := open_slice_ints 3 3 Try.underlying22 rosterRight_it0 rosterRight_c0 (by omega) (hval 0 22 v0 rfl rfl) h0
  have hb0 : n0 ≤ 9223372036854775807 := by unfold maxLen at hcm0; omega
  obtain ⟨A1, n1, c1, L1, rfl, hn1, hw1, hnc1, hcm1, hh1, hz1⟩ := open_slice_ints 3 3 Try.underlying23 rosterRight_it1 rosterRight_c1 (by omega) (hval 1 23 v1 rfl rfl) h1
  have hb1 : n1 ≤ 9223372036854775807 := by unfold maxLen at hcm1; omega
  clear hA0 hval0
  refine (right_all W A0 n0 c0 L0 A1 n1 c1 L1 hn0 hw0 hnc0 hcm0 hh0 hz0 (by omega) hn1 hw1 hh1 (by omega)).mono fun e W' ⟨he, bel⟩ => ?_
  subst he
  exact ⟨_, rfl, _, _, _, [], _, [], hW', trodAll_mk1 (shut_bool Try.underlying4 _), (trodAll_cons_mk (Below.trod laidOut (by kernel_rfl) (of_decide_eq_true (by kernel_rfl)) k0 bel lt0) (trodAll_cons_mk (Below.trod laidOut (by kernel_rfl) (of_decide_eq_true (by kernel_rfl)) k1 bel lt1) trodAll_mk0)), rfl, bel.frame _, fun h => by cases h⟩

theorem rosterRight_holds : Rows.RosterRightSaid :=
  OpenClaim.holds_of_wide 4 Try.f4 rfl rfl rfl rfl rfl rfl rfl ⟨rfl, rfl, rfl, rfl, rfl⟩ rfl rfl rfl rfl rfl (by kernel_rfl) Try.func4 (by kernel_rfl)
    (of_decide_eq_true (by kernel_rfl)) (by unfold Func.isWrapper; first | (rw [if_pos (by decide +kernel)]; kernel_rfl) | (rw [if_neg (by decide +kernel)]; exact ⟨rfl, rfl⟩))
    (fun os started H enc _ => rosterRight_lifted os started H enc)
#print axioms rosterRight_holds
end Go.Proofs.Ytfehhenbdiageaa
