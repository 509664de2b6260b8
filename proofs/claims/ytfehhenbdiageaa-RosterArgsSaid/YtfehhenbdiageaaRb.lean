/- Roster: RosterArgs, proved: what is no op, no user, or about oneself, is told so first. -/
import Derived.Test.YtfehhenbdiageaaUk
namespace Go.Proofs.Ytfehhenbdiageaa
open Go.ChangeShapes Go.WideShapes Go.ChangeAt Go.RowKit Go.Maps
set_option linter.unusedVariables false
set_option linter.unusedSimpArgs false

theorem do_code {L : List Tm} {op who peer s : Int} {mi : Bool} (hR : RightL L) (hb : ¬ badP op who peer) (hm : mineB op = mi) (hs : stF L (if mi = true then who else peer) (if mi = true then peer else who) = s) :
    ((stepF s op).2 = 8 ∧ (doF L op who peer).2 = 8) ∨ ((stepF s op).2 = 0 ∧ (doF L op who peer).2 = 0) ∨ ((stepF s op).2 = 0 ∧ (doF L op who peer).2 = 7 ∧ s = 0) := by
  have hr := st_range hR (if mi = true then who else peer) (if mi = true then peer else who)
  rw [hs] at hr
  have hop : 1 ≤ op ∧ op ≤ 7 := by unfold badP at hb; omega
  rw [do_eq hb hm hs rfl rfl rfl]
  have hg : ¬ (s < 0 ∨ 4 < s ∨ op < 1 ∨ 7 < op) := by omega
  by_cases ht : toI s op = -1
  · left
    have e : stepF s op = (0, 8) := stepF_no hg ht
    rw [e]
    simp
  · right
    have e : stepF s op = (toI s op, 0) := stepF_yes hg rfl ht
    rw [e]
    by_cases hf : s = 0 ∧ fullB L (if mi = true then who else peer) = true
    · right
      rw [if_neg (by simp), if_pos hf]
      exact ⟨rfl, rfl, hf.1⟩
    · left
      rw [if_neg (by simp), if_neg hf]
      exact ⟨rfl, rfl⟩
set_option maxHeartbeats 8000000 in
theorem args_walk (w : World) (v : Value) (L : List Tm) (op who peer : Int) (h : TRow w v L) (hn : L.length ≤ 9223372036854775807) (hLW : LWF L) :
    Calls Try.prog 9 #[v, .agg #[.int .i64 op, .int .i64 who, .int .i64 peer]] w fun e w' => e = .returned (.bool true) ∧ Below w.heap.size w w' := by
  have hall := Below.refl w.heap.size w
  have hwf : Hid (∀ x ∈ L, (Lit.int .i64 x.1).wf = true) := Lib.hid fun x hx => (hLW x hx).1
  cases hr : rightF L
  · skip
    refine K_enter 121 Try.func9 rfl rfl fun a H => ?_
    replace H := H.pick [0, 1]
    refine wp_seq ?_
    refine wp_region_lit ?_
    refine op_box 27 _ #[.int .i64 op, .int .i64 who, .int .i64 peer] (H.ev rfl) fun w0 b0 hge hb k0 => ?_; have g0 := Nat.le_trans hall.size hge; replace h := Row.up h hb; replace hall := hall.trans (hb.mono hall.size); clear hb; clear hge; refine kl H rfl fun a H => ?_
    refine wl_v _ (r_assign evc) ?_; refine kl H rfl fun a H => ?_
    refine wpList_nil ?_
    refine c_next ?_
    refine wp_seq ?_
    refine wp_region_lit ?_
    refine wl_call _ _ _ (small_any _) (r_call0 cf10) ?_; rintro e w9 ⟨rfl, hb⟩; refine ⟨_, rfl, ?_⟩; replace h := Row.up h hb; replace k0 := Block.ups k0 hb; replace hall := hall.trans (hb.mono hall.size); clear hb; refine kl H rfl fun a H => ?_
    refine wl_v _ (r_assign (H.ev rfl)) ?_; refine kl H rfl fun a H => ?_
    refine wpList_nil ?_
    refine c_next ?_
    refine wp_seq ?_
    refine wp_seq ?_
    refine wp_region_lit ?_
    refine wl_v _ (r_move (H.ev rfl)) ?_; refine kl H rfl fun a H => ?_
    refine wl_call _ _ _ (right_any _ _ L h hn hwf.out) (r_call1 cf11 (H.ev rfl)) ?_; rintro e w9 ⟨rfl, hb⟩; refine ⟨_, rfl, ?_⟩; rw [hr]; replace h := Row.up h hb; replace k0 := Block.ups k0 hb; replace hall := hall.trans (hb.mono hall.size); clear hb; refine kl H rfl fun a H => ?_
    refine wl_v _ (r_not (H.ev rfl) rfl) ?_; refine kl H rfl fun a H => ?_
    refine wpList_nil ?_
    refine c_next ?_
    refine c_cond_t H rfl ?_
    refine wp_seq ?_
    refine wp_region_lit ?_
    refine wl_v _ (r_move (H.ev rfl)) ?_; refine kl H rfl fun a H => ?_
    refine wl_v _ (r_assign (H.ev rfl)) ?_; refine kl H rfl fun a H => ?_
    refine wpList_nil ?_
    refine c_next ?_
    refine wp_ret ?_
    refine r_then ?_
    exact k_ret1 H rfl rfl ⟨rfl, hall⟩
  · skip
    have hR := (right_iff L).1 hr
    have hl := hR.2.2.2
    have HR := Lib.hid hR
    clear hR
    refine K_enter 121 Try.func9 rfl rfl fun a H => ?_
    replace H := H.pick [0, 1]
    refine wp_seq ?_
    refine wp_region_lit ?_
    refine op_box 27 _ #[.int .i64 op, .int .i64 who, .int .i64 peer] (H.ev rfl) fun w1 b1 hge hb k1 => ?_; have g1 := Nat.le_trans hall.size hge; replace h := Row.up h hb; replace hall := hall.trans (hb.mono hall.size); clear hb; clear hge; refine kl H rfl fun a H => ?_
    refine wl_v _ (r_assign evc) ?_; refine kl H rfl fun a H => ?_
    refine wpList_nil ?_
    refine c_next ?_
    refine wp_seq ?_
    refine wp_region_lit ?_
    refine wl_call _ _ _ (small_any _) (r_call0 cf10) ?_; rintro e w9 ⟨rfl, hb⟩; refine ⟨_, rfl, ?_⟩; replace h := Row.up h hb; replace k1 := Block.ups k1 hb; replace hall := hall.trans (hb.mono hall.size); clear hb; refine kl H rfl fun a H => ?_
    refine wl_v _ (r_assign (H.ev rfl)) ?_; refine kl H rfl fun a H => ?_
    refine wpList_nil ?_
    refine c_next ?_
    refine wp_seq ?_
    refine wp_seq ?_
    refine wp_region_lit ?_
    refine wl_v _ (r_move (H.ev rfl)) ?_; refine kl H rfl fun a H => ?_
    refine wl_call _ _ _ (right_any _ _ L h hn hwf.out) (r_call1 cf11 (H.ev rfl)) ?_; rintro e w9 ⟨rfl, hb⟩; refine ⟨_, rfl, ?_⟩; rw [hr]; replace h := Row.up h hb; replace k1 := Block.ups k1 hb; replace hall := hall.trans (hb.mono hall.size); clear hb; refine kl H rfl fun a H => ?_
    refine wl_v _ (r_not (H.ev rfl) rfl) ?_; refine kl H rfl fun a H => ?_
    refine wpList_nil ?_
    refine c_next ?_
    refine c_cond_f H rfl ?_
    refine wp_skip ?_
    refine c_next ?_
    refine wp_seq ?_
    refine wp_region_lit ?_
    refine wl_v _ (r_fld (q := 0) fld27_0 (H.ev rfl) rfl) ?_; refine kl H rfl fun a H => ?_
    refine wl_v _ (r_ld Try.underlying3 rfl (H.ev rfl) ((Block.cell k1 0).trans rfl)) ?_; refine kl H rfl fun a H => ?_
    by_cases c0 : op < 1
    · skip
      refine wl_v _ (r_lt Try.underlying3 (H.ev rfl) evc (dec_t (c0))) ?_; refine kl H rfl fun a H => ?_
      refine wl_v _ (r_move (H.ev rfl)) ?_; refine kl H rfl fun a H => ?_
      refine wl_s (kg_no rfl H rfl rfl rfl) ?_; refine kl H rfl fun a H => ?_
      refine wl_s (kg_no rfl H rfl rfl rfl) ?_; refine kl H rfl fun a H => ?_
      refine wl_s (kg_no rfl H rfl rfl rfl) ?_; refine kl H rfl fun a H => ?_
      refine wl_v _ (r_pick_t (H.ev rfl) evc) ?_; refine kl H rfl fun a H => ?_
      refine wl_v _ (r_move (H.ev rfl)) ?_; refine kl H rfl fun a H => ?_
      refine wl_s (kg_no rfl H rfl rfl rfl) ?_; refine kl H rfl fun a H => ?_
      refine wl_s (kg_no rfl H rfl rfl rfl) ?_; refine kl H rfl fun a H => ?_
      refine wl_s (kg_no rfl H rfl rfl rfl) ?_; refine kl H rfl fun a H => ?_
      refine wl_v _ (r_pick_t (H.ev rfl) evc) ?_; refine kl H rfl fun a H => ?_
      refine wl_v _ (r_move (H.ev rfl)) ?_; refine kl H rfl fun a H => ?_
      refine wl_s (kg_no rfl H rfl rfl rfl) ?_; refine kl H rfl fun a H => ?_
      refine wl_s (kg_no rfl H rfl rfl rfl) ?_; refine kl H rfl fun a H => ?_
      refine wl_s (kg_no rfl H rfl rfl rfl) ?_; refine kl H rfl fun a H => ?_
      refine wl_v _ (r_pick_t (H.ev rfl) evc) ?_; refine kl H rfl fun a H => ?_
      refine wl_v _ (r_move (H.ev rfl)) ?_; refine kl H rfl fun a H => ?_
      refine wl_s (kg_no rfl H rfl rfl rfl) ?_; refine kl H rfl fun a H => ?_
      refine wl_s (kg_no rfl H rfl rfl rfl) ?_; refine kl H rfl fun a H => ?_
      refine wl_s (kg_no rfl H rfl rfl rfl) ?_; refine kl H rfl fun a H => ?_
      refine wl_v _ (r_pick_t (H.ev rfl) evc) ?_; refine kl H rfl fun a H => ?_
      refine wl_v _ (r_move (H.ev rfl)) ?_; refine kl H rfl fun a H => ?_
      refine wl_s (kg_no rfl H rfl rfl rfl) ?_; refine kl H rfl fun a H => ?_
      refine wl_s (kg_no rfl H rfl rfl rfl) ?_; refine kl H rfl fun a H => ?_
      refine wl_s (kg_no rfl H rfl rfl rfl) ?_; refine kl H rfl fun a H => ?_
      refine wl_v _ (r_pick_t (H.ev rfl) evc) ?_; refine kl H rfl fun a H => ?_
      refine wl_v _ (r_move (H.ev rfl)) ?_; refine kl H rfl fun a H => ?_
      refine wl_s (kg_no rfl H rfl rfl rfl) ?_; refine kl H rfl fun a H => ?_
      refine wl_s (kg_no rfl H rfl rfl rfl) ?_; refine kl H rfl fun a H => ?_
      refine wl_s (kg_no rfl H rfl rfl rfl) ?_; refine kl H rfl fun a H => ?_
      refine wl_s (kg_no rfl H rfl rfl rfl) ?_; refine kl H rfl fun a H => ?_
      refine wl_s (kg_no rfl H rfl rfl rfl) ?_; refine kl H rfl fun a H => ?_
      refine wl_v _ (r_pick_t (H.ev rfl) evc) ?_; refine kl H rfl fun a H => ?_
      refine wl_v _ (r_assign (H.ev rfl)) ?_; refine kl H rfl fun a H => ?_
      refine wpList_nil ?_
      refine c_next ?_
      refine wp_seq ?_
      have HE : Hid ((doF L op who peer).2 = 1) := Lib.hid (by rw [do_bad]; unfold badP userB; simp only [decide_eq_false_iff_not]; omega)
      refine wp_region_lit ?_
      refine wl_v _ (r_move (H.ev rfl)) ?_; refine kl H rfl fun a H => ?_
      refine wl_v _ (r_fld (q := 0) fld27_0 (H.ev rfl) rfl) ?_; refine kl H rfl fun a H => ?_
      refine wl_v _ (r_ld Try.underlying3 rfl (H.ev rfl) ((Block.cell k1 0).trans rfl)) ?_; refine kl H rfl fun a H => ?_
      refine wl_v _ (r_fld (q := 1) fld27_1 (H.ev rfl) rfl) ?_; refine kl H rfl fun a H => ?_
      refine wl_v _ (r_ld Try.underlying3 rfl (H.ev rfl) ((Block.cell k1 1).trans rfl)) ?_; refine kl H rfl fun a H => ?_
      refine wl_v _ (r_fld (q := 2) fld27_2 (H.ev rfl) rfl) ?_; refine kl H rfl fun a H => ?_
      refine wl_v _ (r_ld Try.underlying3 rfl (H.ev rfl) ((Block.cell k1 2).trans rfl)) ?_; refine kl H rfl fun a H => ?_
      refine wl_call _ _ _ (do_any _ _ L op who peer h (by omega) HR.out) (r_call4 cf13 (H.ev rfl) (H.ev rfl) (H.ev rfl) (H.ev rfl)) ?_; rintro e w9 ⟨⟨v8, rfl, hown⟩, hb⟩; refine ⟨_, rfl, ?_⟩; rw [HE.out]; replace h := Row.up h hb; replace k1 := Block.ups k1 hb; replace hall := hall.trans (hb.mono hall.size); clear hb; have r8 := TOwn.row hown; clear hown; refine kl H rfl fun a H => ?_
      refine wl_v _ (r_move (H.ev rfl)) ?_; refine kl H rfl fun a H => ?_
      refine wl_v _ (r_extract (v := v8) (H.ev rfl) rfl) ?_; refine kl H rfl fun a H => ?_
      refine wl_v _ (r_extract (v := .int .i64 1) (H.ev rfl) rfl) ?_; refine kl H rfl fun a H => ?_
      refine wl_v _ (r_assign (H.ev rfl)) ?_; refine kl H rfl fun a H => ?_
      refine wl_v _ (r_assign (H.ev rfl)) ?_; refine kl H rfl fun a H => ?_
      refine wpList_nil ?_
      refine c_next ?_
      refine wp_seq ?_
      refine wp_seq ?_
      refine wp_region_lit ?_
      refine wl_v _ (r_move (H.ev rfl)) ?_; refine kl H rfl fun a H => ?_
      refine wpList_nil ?_
      refine c_next ?_
      refine c_cond_t H rfl ?_
      refine wp_seq ?_
      refine wp_region_lit ?_
      refine wl_v _ (r_move (H.ev rfl)) ?_; refine kl H rfl fun a H => ?_
      refine wl_v _ (r_move (H.ev rfl)) ?_; refine kl H rfl fun a H => ?_
      refine op_unguard _ _ (kg_yes rfl H rfl rfl rfl) ?_; refine wl_v _ (r_move (H.ev rfl)) ?_; refine kl H rfl fun a H => ?_
      refine op_unguard _ _ (kg_yes rfl H rfl rfl rfl) ?_; refine wl_v _ (r_eq Try.underlying28 (H.ev rfl) evc (dec_t (by omega))) ?_; refine kl H rfl fun a H => ?_
      refine wl_v _ (r_pick_t (H.ev rfl) (H.ev rfl)) ?_; refine kl H rfl fun a H => ?_
      refine wl_v _ (r_assign (H.ev rfl)) ?_; refine kl H rfl fun a H => ?_
      refine wpList_nil ?_
      refine c_next ?_
      refine wp_ret ?_
      refine r_then ?_
      exact k_ret1 H rfl rfl ⟨rfl, hall⟩
    · skip
      refine wl_v _ (r_lt Try.underlying3 (H.ev rfl) evc (dec_f (c0))) ?_; refine kl H rfl fun a H => ?_
      refine wl_v _ (r_move (H.ev rfl)) ?_; refine kl H rfl fun a H => ?_
      refine op_unguard _ _ (kg_yes rfl H rfl rfl rfl) ?_; refine wl_v _ (r_fld (q := 0) fld27_0 (H.ev rfl) rfl) ?_; refine kl H rfl fun a H => ?_
      refine op_unguard _ _ (kg_yes rfl H rfl rfl rfl) ?_; refine wl_v _ (r_ld Try.underlying3 rfl (H.ev rfl) ((Block.cell k1 0).trans rfl)) ?_; refine kl H rfl fun a H => ?_
      by_cases c1 : op > 7
      · skip
        refine op_unguard _ _ (kg_yes rfl H rfl rfl rfl) ?_; refine wl_v _ (r_gt Try.underlying3 (H.ev rfl) evc (dec_t (c1))) ?_; refine kl H rfl fun a H => ?_
        refine wl_v _ (r_pick_f (H.ev rfl) (H.ev rfl)) ?_; refine kl H rfl fun a H => ?_
        refine wl_v _ (r_move (H.ev rfl)) ?_; refine kl H rfl fun a H => ?_
        refine wl_s (kg_no rfl H rfl rfl rfl) ?_; refine kl H rfl fun a H => ?_
        refine wl_s (kg_no rfl H rfl rfl rfl) ?_; refine kl H rfl fun a H => ?_
        refine wl_s (kg_no rfl H rfl rfl rfl) ?_; refine kl H rfl fun a H => ?_
        refine wl_v _ (r_pick_t (H.ev rfl) evc) ?_; refine kl H rfl fun a H => ?_
        refine wl_v _ (r_move (H.ev rfl)) ?_; refine kl H rfl fun a H => ?_
        refine wl_s (kg_no rfl H rfl rfl rfl) ?_; refine kl H rfl fun a H => ?_
        refine wl_s (kg_no rfl H rfl rfl rfl) ?_; refine kl H rfl fun a H => ?_
        refine wl_s (kg_no rfl H rfl rfl rfl) ?_; refine kl H rfl fun a H => ?_
        refine wl_v _ (r_pick_t (H.ev rfl) evc) ?_; refine kl H rfl fun a H => ?_
        refine wl_v _ (r_move (H.ev rfl)) ?_; refine kl H rfl fun a H => ?_
        refine wl_s (kg_no rfl H rfl rfl rfl) ?_; refine kl H rfl fun a H => ?_
        refine wl_s (kg_no rfl H rfl rfl rfl) ?_; refine kl H rfl fun a H => ?_
        refine wl_s (kg_no rfl H rfl rfl rfl) ?_; refine kl H rfl fun a H => ?_
        refine wl_v _ (r_pick_t (H.ev rfl) evc) ?_; refine kl H rfl fun a H => ?_
        refine wl_v _ (r_move (H.ev rfl)) ?_; refine kl H rfl fun a H => ?_
        refine wl_s (kg_no rfl H rfl rfl rfl) ?_; refine kl H rfl fun a H => ?_
        refine wl_s (kg_no rfl H rfl rfl rfl) ?_; refine kl H rfl fun a H => ?_
        refine wl_s (kg_no rfl H rfl rfl rfl) ?_; refine kl H rfl fun a H => ?_
        refine wl_v _ (r_pick_t (H.ev rfl) evc) ?_; refine kl H rfl fun a H => ?_
        refine wl_v _ (r_move (H.ev rfl)) ?_; refine kl H rfl fun a H => ?_
        refine wl_s (kg_no rfl H rfl rfl rfl) ?_; refine kl H rfl fun a H => ?_
        refine wl_s (kg_no rfl H rfl rfl rfl) ?_; refine kl H rfl fun a H => ?_
        refine wl_s (kg_no rfl H rfl rfl rfl) ?_; refine kl H rfl fun a H => ?_
        refine wl_s (kg_no rfl H rfl rfl rfl) ?_; refine kl H rfl fun a H => ?_
        refine wl_s (kg_no rfl H rfl rfl rfl) ?_; refine kl H rfl fun a H => ?_
        refine wl_v _ (r_pick_t (H.ev rfl) evc) ?_; refine kl H rfl fun a H => ?_
        refine wl_v _ (r_assign (H.ev rfl)) ?_; refine kl H rfl fun a H => ?_
        refine wpList_nil ?_
        refine c_next ?_
        refine wp_seq ?_
        have HE : Hid ((doF L op who peer).2 = 1) := Lib.hid (by rw [do_bad]; unfold badP userB; simp only [decide_eq_false_iff_not]; omega)
        refine wp_region_lit ?_
        refine wl_v _ (r_move (H.ev rfl)) ?_; refine kl H rfl fun a H => ?_
        refine wl_v _ (r_fld (q := 0) fld27_0 (H.ev rfl) rfl) ?_; refine kl H rfl fun a H => ?_
        refine wl_v _ (r_ld Try.underlying3 rfl (H.ev rfl) ((Block.cell k1 0).trans rfl)) ?_; refine kl H rfl fun a H => ?_
        refine wl_v _ (r_fld (q := 1) fld27_1 (H.ev rfl) rfl) ?_; refine kl H rfl fun a H => ?_
        refine wl_v _ (r_ld Try.underlying3 rfl (H.ev rfl) ((Block.cell k1 1).trans rfl)) ?_; refine kl H rfl fun a H => ?_
        refine wl_v _ (r_fld (q := 2) fld27_2 (H.ev rfl) rfl) ?_; refine kl H rfl fun a H => ?_
        refine wl_v _ (r_ld Try.underlying3 rfl (H.ev rfl) ((Block.cell k1 2).trans rfl)) ?_; refine kl H rfl fun a H => ?_
        refine wl_call _ _ _ (do_any _ _ L op who peer h (by omega) HR.out) (r_call4 cf13 (H.ev rfl) (H.ev rfl) (H.ev rfl) (H.ev rfl)) ?_; rintro e w9 ⟨⟨v8, rfl, hown⟩, hb⟩; refine ⟨_, rfl, ?_⟩; rw [HE.out]; replace h := Row.up h hb; replace k1 := Block.ups k1 hb; replace hall := hall.trans (hb.mono hall.size); clear hb; have r8 := TOwn.row hown; clear hown; refine kl H rfl fun a H => ?_
        refine wl_v _ (r_move (H.ev rfl)) ?_; refine kl H rfl fun a H => ?_
        refine wl_v _ (r_extract (v := v8) (H.ev rfl) rfl) ?_; refine kl H rfl fun a H => ?_
        refine wl_v _ (r_extract (v := .int .i64 1) (H.ev rfl) rfl) ?_; refine kl H rfl fun a H => ?_
        refine wl_v _ (r_assign (H.ev rfl)) ?_; refine kl H rfl fun a H => ?_
        refine wl_v _ (r_assign (H.ev rfl)) ?_; refine kl H rfl fun a H => ?_
        refine wpList_nil ?_
        refine c_next ?_
        refine wp_seq ?_
        refine wp_seq ?_
        refine wp_region_lit ?_
        refine wl_v _ (r_move (H.ev rfl)) ?_; refine kl H rfl fun a H => ?_
        refine wpList_nil ?_
        refine c_next ?_
        refine c_cond_t H rfl ?_
        refine wp_seq ?_
        refine wp_region_lit ?_
        refine wl_v _ (r_move (H.ev rfl)) ?_; refine kl H rfl fun a H => ?_
        refine wl_v _ (r_move (H.ev rfl)) ?_; refine kl H rfl fun a H => ?_
        refine op_unguard _ _ (kg_yes rfl H rfl rfl rfl) ?_; refine wl_v _ (r_move (H.ev rfl)) ?_; refine kl H rfl fun a H => ?_
        refine op_unguard _ _ (kg_yes rfl H rfl rfl rfl) ?_; refine wl_v _ (r_eq Try.underlying28 (H.ev rfl) evc (dec_t (by omega))) ?_; refine kl H rfl fun a H => ?_
        refine wl_v _ (r_pick_t (H.ev rfl) (H.ev rfl)) ?_; refine kl H rfl fun a H => ?_
        refine wl_v _ (r_assign (H.ev rfl)) ?_; refine kl H rfl fun a H => ?_
        refine wpList_nil ?_
        refine c_next ?_
        refine wp_ret ?_
        refine r_then ?_
        exact k_ret1 H rfl rfl ⟨rfl, hall⟩
      · skip
        refine op_unguard _ _ (kg_yes rfl H rfl rfl rfl) ?_; refine wl_v _ (r_gt Try.underlying3 (H.ev rfl) evc (dec_f (c1))) ?_; refine kl H rfl fun a H => ?_
        refine wl_v _ (r_pick_f (H.ev rfl) (H.ev rfl)) ?_; refine kl H rfl fun a H => ?_
        refine wl_v _ (r_move (H.ev rfl)) ?_; refine kl H rfl fun a H => ?_
        refine op_unguard _ _ (kg_yes rfl H rfl rfl rfl) ?_; refine wl_v _ (r_fld (q := 1) fld27_1 (H.ev rfl) rfl) ?_; refine kl H rfl fun a H => ?_
        refine op_unguard _ _ (kg_yes rfl H rfl rfl rfl) ?_; refine wl_v _ (r_ld Try.underlying3 rfl (H.ev rfl) ((Block.cell k1 1).trans rfl)) ?_; refine kl H rfl fun a H => ?_
        by_cases c2 : who < 1
        · skip
          refine op_unguard _ _ (kg_yes rfl H rfl rfl rfl) ?_; refine wl_v _ (r_lt Try.underlying3 (H.ev rfl) evc (dec_t (c2))) ?_; refine kl H rfl fun a H => ?_
          refine wl_v _ (r_pick_f (H.ev rfl) (H.ev rfl)) ?_; refine kl H rfl fun a H => ?_
          refine wl_v _ (r_move (H.ev rfl)) ?_; refine kl H rfl fun a H => ?_
          refine wl_s (kg_no rfl H rfl rfl rfl) ?_; refine kl H rfl fun a H => ?_
          refine wl_s (kg_no rfl H rfl rfl rfl) ?_; refine kl H rfl fun a H => ?_
          refine wl_s (kg_no rfl H rfl rfl rfl) ?_; refine kl H rfl fun a H => ?_
          refine wl_v _ (r_pick_t (H.ev rfl) evc) ?_; refine kl H rfl fun a H => ?_
          refine wl_v _ (r_move (H.ev rfl)) ?_; refine kl H rfl fun a H => ?_
          refine wl_s (kg_no rfl H rfl rfl rfl) ?_; refine kl H rfl fun a H => ?_
          refine wl_s (kg_no rfl H rfl rfl rfl) ?_; refine kl H rfl fun a H => ?_
          refine wl_s (kg_no rfl H rfl rfl rfl) ?_; refine kl H rfl fun a H => ?_
          refine wl_v _ (r_pick_t (H.ev rfl) evc) ?_; refine kl H rfl fun a H => ?_
          refine wl_v _ (r_move (H.ev rfl)) ?_; refine kl H rfl fun a H => ?_
          refine wl_s (kg_no rfl H rfl rfl rfl) ?_; refine kl H rfl fun a H => ?_
          refine wl_s (kg_no rfl H rfl rfl rfl) ?_; refine kl H rfl fun a H => ?_
          refine wl_s (kg_no rfl H rfl rfl rfl) ?_; refine kl H rfl fun a H => ?_
          refine wl_v _ (r_pick_t (H.ev rfl) evc) ?_; refine kl H rfl fun a H => ?_
          refine wl_v _ (r_move (H.ev rfl)) ?_; refine kl H rfl fun a H => ?_
          refine wl_s (kg_no rfl H rfl rfl rfl) ?_; refine kl H rfl fun a H => ?_
          refine wl_s (kg_no rfl H rfl rfl rfl) ?_; refine kl H rfl fun a H => ?_
          refine wl_s (kg_no rfl H rfl rfl rfl) ?_; refine kl H rfl fun a H => ?_
          refine wl_s (kg_no rfl H rfl rfl rfl) ?_; refine kl H rfl fun a H => ?_
          refine wl_s (kg_no rfl H rfl rfl rfl) ?_; refine kl H rfl fun a H => ?_
          refine wl_v _ (r_pick_t (H.ev rfl) evc) ?_; refine kl H rfl fun a H => ?_
          refine wl_v _ (r_assign (H.ev rfl)) ?_; refine kl H rfl fun a H => ?_
          refine wpList_nil ?_
          refine c_next ?_
          refine wp_seq ?_
          have HE : Hid ((doF L op who peer).2 = 1) := Lib.hid (by rw [do_bad]; unfold badP userB; simp only [decide_eq_false_iff_not]; omega)
          refine wp_region_lit ?_
          refine wl_v _ (r_move (H.ev rfl)) ?_; refine kl H rfl fun a H => ?_
          refine wl_v _ (r_fld (q := 0) fld27_0 (H.ev rfl) rfl) ?_; refine kl H rfl fun a H => ?_
          refine wl_v _ (r_ld Try.underlying3 rfl (H.ev rfl) ((Block.cell k1 0).trans rfl)) ?_; refine kl H rfl fun a H => ?_
          refine wl_v _ (r_fld (q := 1) fld27_1 (H.ev rfl) rfl) ?_; refine kl H rfl fun a H => ?_
          refine wl_v _ (r_ld Try.underlying3 rfl (H.ev rfl) ((Block.cell k1 1).trans rfl)) ?_; refine kl H rfl fun a H => ?_
          refine wl_v _ (r_fld (q := 2) fld27_2 (H.ev rfl) rfl) ?_; refine kl H rfl fun a H => ?_
          refine wl_v _ (r_ld Try.underlying3 rfl (H.ev rfl) ((Block.cell k1 2).trans rfl)) ?_; refine kl H rfl fun a H => ?_
          refine wl_call _ _ _ (do_any _ _ L op who peer h (by omega) HR.out) (r_call4 cf13 (H.ev rfl) (H.ev rfl) (H.ev rfl) (H.ev rfl)) ?_; rintro e w9 ⟨⟨v8, rfl, hown⟩, hb⟩; refine ⟨_, rfl, ?_⟩; rw [HE.out]; replace h := Row.up h hb; replace k1 := Block.ups k1 hb; replace hall := hall.trans (hb.mono hall.size); clear hb; have r8 := TOwn.row hown; clear hown; refine kl H rfl fun a H => ?_
          refine wl_v _ (r_move (H.ev rfl)) ?_; refine kl H rfl fun a H => ?_
          refine wl_v _ (r_extract (v := v8) (H.ev rfl) rfl) ?_; refine kl H rfl fun a H => ?_
          refine wl_v _ (r_extract (v := .int .i64 1) (H.ev rfl) rfl) ?_; refine kl H rfl fun a H => ?_
          refine wl_v _ (r_assign (H.ev rfl)) ?_; refine kl H rfl fun a H => ?_
          refine wl_v _ (r_assign (H.ev rfl)) ?_; refine kl H rfl fun a H => ?_
          refine wpList_nil ?_
          refine c_next ?_
          refine wp_seq ?_
          refine wp_seq ?_
          refine wp_region_lit ?_
          refine wl_v _ (r_move (H.ev rfl)) ?_; refine kl H rfl fun a H => ?_
          refine wpList_nil ?_
          refine c_next ?_
          refine c_cond_t H rfl ?_
          refine wp_seq ?_
          refine wp_region_lit ?_
          refine wl_v _ (r_move (H.ev rfl)) ?_; refine kl H rfl fun a H => ?_
          refine wl_v _ (r_move (H.ev rfl)) ?_; refine kl H rfl fun a H => ?_
          refine op_unguard _ _ (kg_yes rfl H rfl rfl rfl) ?_; refine wl_v _ (r_move (H.ev rfl)) ?_; refine kl H rfl fun a H => ?_
          refine op_unguard _ _ (kg_yes rfl H rfl rfl rfl) ?_; refine wl_v _ (r_eq Try.underlying28 (H.ev rfl) evc (dec_t (by omega))) ?_; refine kl H rfl fun a H => ?_
          refine wl_v _ (r_pick_t (H.ev rfl) (H.ev rfl)) ?_; refine kl H rfl fun a H => ?_
          refine wl_v _ (r_assign (H.ev rfl)) ?_; refine kl H rfl fun a H => ?_
          refine wpList_nil ?_
          refine c_next ?_
          refine wp_ret ?_
          refine r_then ?_
          exact k_ret1 H rfl rfl ⟨rfl, hall⟩
        · skip
          refine op_unguard _ _ (kg_yes rfl H rfl rfl rfl) ?_; refine wl_v _ (r_lt Try.underlying3 (H.ev rfl) evc (dec_f (c2))) ?_; refine kl H rfl fun a H => ?_
          refine wl_v _ (r_pick_f (H.ev rfl) (H.ev rfl)) ?_; refine kl H rfl fun a H => ?_
          refine wl_v _ (r_move (H.ev rfl)) ?_; refine kl H rfl fun a H => ?_
          refine op_unguard _ _ (kg_yes rfl H rfl rfl rfl) ?_; refine wl_v _ (r_fld (q := 1) fld27_1 (H.ev rfl) rfl) ?_; refine kl H rfl fun a H => ?_
          refine op_unguard _ _ (kg_yes rfl H rfl rfl rfl) ?_; refine wl_v _ (r_ld Try.underlying3 rfl (H.ev rfl) ((Block.cell k1 1).trans rfl)) ?_; refine kl H rfl fun a H => ?_
          by_cases c3 : who > 16
          · skip
            refine op_unguard _ _ (kg_yes rfl H rfl rfl rfl) ?_; refine wl_v _ (r_gt Try.underlying3 (H.ev rfl) evc (dec_t (c3))) ?_; refine kl H rfl fun a H => ?_
            refine wl_v _ (r_pick_f (H.ev rfl) (H.ev rfl)) ?_; refine kl H rfl fun a H => ?_
            refine wl_v _ (r_move (H.ev rfl)) ?_; refine kl H rfl fun a H => ?_
            refine wl_s (kg_no rfl H rfl rfl rfl) ?_; refine kl H rfl fun a H => ?_
            refine wl_s (kg_no rfl H rfl rfl rfl) ?_; refine kl H rfl fun a H => ?_
            refine wl_s (kg_no rfl H rfl rfl rfl) ?_; refine kl H rfl fun a H => ?_
            refine wl_v _ (r_pick_t (H.ev rfl) evc) ?_; refine kl H rfl fun a H => ?_
            refine wl_v _ (r_move (H.ev rfl)) ?_; refine kl H rfl fun a H => ?_
            refine wl_s (kg_no rfl H rfl rfl rfl) ?_; refine kl H rfl fun a H => ?_
            refine wl_s (kg_no rfl H rfl rfl rfl) ?_; refine kl H rfl fun a H => ?_
            refine wl_s (kg_no rfl H rfl rfl rfl) ?_; refine kl H rfl fun a H => ?_
            refine wl_v _ (r_pick_t (H.ev rfl) evc) ?_; refine kl H rfl fun a H => ?_
            refine wl_v _ (r_move (H.ev rfl)) ?_; refine kl H rfl fun a H => ?_
            refine wl_s (kg_no rfl H rfl rfl rfl) ?_; refine kl H rfl fun a H => ?_
            refine wl_s (kg_no rfl H rfl rfl rfl) ?_; refine kl H rfl fun a H => ?_
            refine wl_s (kg_no rfl H rfl rfl rfl) ?_; refine kl H rfl fun a H => ?_
            refine wl_s (kg_no rfl H rfl rfl rfl) ?_; refine kl H rfl fun a H => ?_
            refine wl_s (kg_no rfl H rfl rfl rfl) ?_; refine kl H rfl fun a H => ?_
            refine wl_v _ (r_pick_t (H.ev rfl) evc) ?_; refine kl H rfl fun a H => ?_
            refine wl_v _ (r_assign (H.ev rfl)) ?_; refine kl H rfl fun a H => ?_
            refine wpList_nil ?_
            refine c_next ?_
            refine wp_seq ?_
            have HE : Hid ((doF L op who peer).2 = 1) := Lib.hid (by rw [do_bad]; unfold badP userB; simp only [decide_eq_false_iff_not]; omega)
            refine wp_region_lit ?_
            refine wl_v _ (r_move (H.ev rfl)) ?_; refine kl H rfl fun a H => ?_
            refine wl_v _ (r_fld (q := 0) fld27_0 (H.ev rfl) rfl) ?_; refine kl H rfl fun a H => ?_
            refine wl_v _ (r_ld Try.underlying3 rfl (H.ev rfl) ((Block.cell k1 0).trans rfl)) ?_; refine kl H rfl fun a H => ?_
            refine wl_v _ (r_fld (q := 1) fld27_1 (H.ev rfl) rfl) ?_; refine kl H rfl fun a H => ?_
            refine wl_v _ (r_ld Try.underlying3 rfl (H.ev rfl) ((Block.cell k1 1).trans rfl)) ?_; refine kl H rfl fun a H => ?_
            refine wl_v _ (r_fld (q := 2) fld27_2 (H.ev rfl) rfl) ?_; refine kl H rfl fun a H => ?_
            refine wl_v _ (r_ld Try.underlying3 rfl (H.ev rfl) ((Block.cell k1 2).trans rfl)) ?_; refine kl H rfl fun a H => ?_
            refine wl_call _ _ _ (do_any _ _ L op who peer h (by omega) HR.out) (r_call4 cf13 (H.ev rfl) (H.ev rfl) (H.ev rfl) (H.ev rfl)) ?_; rintro e w9 ⟨⟨v8, rfl, hown⟩, hb⟩; refine ⟨_, rfl, ?_⟩; rw [HE.out]; replace h := Row.up h hb; replace k1 := Block.ups k1 hb; replace hall := hall.trans (hb.mono hall.size); clear hb; have r8 := TOwn.row hown; clear hown; refine kl H rfl fun a H => ?_
            refine wl_v _ (r_move (H.ev rfl)) ?_; refine kl H rfl fun a H => ?_
            refine wl_v _ (r_extract (v := v8) (H.ev rfl) rfl) ?_; refine kl H rfl fun a H => ?_
            refine wl_v _ (r_extract (v := .int .i64 1) (H.ev rfl) rfl) ?_; refine kl H rfl fun a H => ?_
            refine wl_v _ (r_assign (H.ev rfl)) ?_; refine kl H rfl fun a H => ?_
            refine wl_v _ (r_assign (H.ev rfl)) ?_; refine kl H rfl fun a H => ?_
            refine wpList_nil ?_
            refine c_next ?_
            refine wp_seq ?_
            refine wp_seq ?_
            refine wp_region_lit ?_
            refine wl_v _ (r_move (H.ev rfl)) ?_; refine kl H rfl fun a H => ?_
            refine wpList_nil ?_
            refine c_next ?_
            refine c_cond_t H rfl ?_
            refine wp_seq ?_
            refine wp_region_lit ?_
            refine wl_v _ (r_move (H.ev rfl)) ?_; refine kl H rfl fun a H => ?_
            refine wl_v _ (r_move (H.ev rfl)) ?_; refine kl H rfl fun a H => ?_
            refine op_unguard _ _ (kg_yes rfl H rfl rfl rfl) ?_; refine wl_v _ (r_move (H.ev rfl)) ?_; refine kl H rfl fun a H => ?_
            refine op_unguard _ _ (kg_yes rfl H rfl rfl rfl) ?_; refine wl_v _ (r_eq Try.underlying28 (H.ev rfl) evc (dec_t (by omega))) ?_; refine kl H rfl fun a H => ?_
            refine wl_v _ (r_pick_t (H.ev rfl) (H.ev rfl)) ?_; refine kl H rfl fun a H => ?_
            refine wl_v _ (r_assign (H.ev rfl)) ?_; refine kl H rfl fun a H => ?_
            refine wpList_nil ?_
            refine c_next ?_
            refine wp_ret ?_
            refine r_then ?_
            exact k_ret1 H rfl rfl ⟨rfl, hall⟩
          · skip
            refine op_unguard _ _ (kg_yes rfl H rfl rfl rfl) ?_; refine wl_v _ (r_gt Try.underlying3 (H.ev rfl) evc (dec_f (c3))) ?_; refine kl H rfl fun a H => ?_
            refine wl_v _ (r_pick_f (H.ev rfl) (H.ev rfl)) ?_; refine kl H rfl fun a H => ?_
            refine wl_v _ (r_move (H.ev rfl)) ?_; refine kl H rfl fun a H => ?_
            refine op_unguard _ _ (kg_yes rfl H rfl rfl rfl) ?_; refine wl_v _ (r_fld (q := 2) fld27_2 (H.ev rfl) rfl) ?_; refine kl H rfl fun a H => ?_
            refine op_unguard _ _ (kg_yes rfl H rfl rfl rfl) ?_; refine wl_v _ (r_ld Try.underlying3 rfl (H.ev rfl) ((Block.cell k1 2).trans rfl)) ?_; refine kl H rfl fun a H => ?_
            by_cases c4 : peer < 1
            · skip
              refine op_unguard _ _ (kg_yes rfl H rfl rfl rfl) ?_; refine wl_v _ (r_lt Try.underlying3 (H.ev rfl) evc (dec_t (c4))) ?_; refine kl H rfl fun a H => ?_
              refine wl_v _ (r_pick_f (H.ev rfl) (H.ev rfl)) ?_; refine kl H rfl fun a H => ?_
              refine wl_v _ (r_move (H.ev rfl)) ?_; refine kl H rfl fun a H => ?_
              refine wl_s (kg_no rfl H rfl rfl rfl) ?_; refine kl H rfl fun a H => ?_
              refine wl_s (kg_no rfl H rfl rfl rfl) ?_; refine kl H rfl fun a H => ?_
              refine wl_s (kg_no rfl H rfl rfl rfl) ?_; refine kl H rfl fun a H => ?_
              refine wl_v _ (r_pick_t (H.ev rfl) evc) ?_; refine kl H rfl fun a H => ?_
              refine wl_v _ (r_move (H.ev rfl)) ?_; refine kl H rfl fun a H => ?_
              refine wl_s (kg_no rfl H rfl rfl rfl) ?_; refine kl H rfl fun a H => ?_
              refine wl_s (kg_no rfl H rfl rfl rfl) ?_; refine kl H rfl fun a H => ?_
              refine wl_s (kg_no rfl H rfl rfl rfl) ?_; refine kl H rfl fun a H => ?_
              refine wl_s (kg_no rfl H rfl rfl rfl) ?_; refine kl H rfl fun a H => ?_
              refine wl_s (kg_no rfl H rfl rfl rfl) ?_; refine kl H rfl fun a H => ?_
              refine wl_v _ (r_pick_t (H.ev rfl) evc) ?_; refine kl H rfl fun a H => ?_
              refine wl_v _ (r_assign (H.ev rfl)) ?_; refine kl H rfl fun a H => ?_
              refine wpList_nil ?_
              refine c_next ?_
              refine wp_seq ?_
              have HE : Hid ((doF L op who peer).2 = 1) := Lib.hid (by rw [do_bad]; unfold badP userB; simp only [decide_eq_false_iff_not]; omega)
              refine wp_region_lit ?_
              refine wl_v _ (r_move (H.ev rfl)) ?_; refine kl H rfl fun a H => ?_
              refine wl_v _ (r_fld (q := 0) fld27_0 (H.ev rfl) rfl) ?_; refine kl H rfl fun a H => ?_
              refine wl_v _ (r_ld Try.underlying3 rfl (H.ev rfl) ((Block.cell k1 0).trans rfl)) ?_; refine kl H rfl fun a H => ?_
              refine wl_v _ (r_fld (q := 1) fld27_1 (H.ev rfl) rfl) ?_; refine kl H rfl fun a H => ?_
              refine wl_v _ (r_ld Try.underlying3 rfl (H.ev rfl) ((Block.cell k1 1).trans rfl)) ?_; refine kl H rfl fun a H => ?_
              refine wl_v _ (r_fld (q := 2) fld27_2 (H.ev rfl) rfl) ?_; refine kl H rfl fun a H => ?_
              refine wl_v _ (r_ld Try.underlying3 rfl (H.ev rfl) ((Block.cell k1 2).trans rfl)) ?_; refine kl H rfl fun a H => ?_
              refine wl_call _ _ _ (do_any _ _ L op who peer h (by omega) HR.out) (r_call4 cf13 (H.ev rfl) (H.ev rfl) (H.ev rfl) (H.ev rfl)) ?_; rintro e w9 ⟨⟨v8, rfl, hown⟩, hb⟩; refine ⟨_, rfl, ?_⟩; rw [HE.out]; replace h := Row.up h hb; replace k1 := Block.ups k1 hb; replace hall := hall.trans (hb.mono hall.size); clear hb; have r8 := TOwn.row hown; clear hown; refine kl H rfl fun a H => ?_
              refine wl_v _ (r_move (H.ev rfl)) ?_; refine kl H rfl fun a H => ?_
              refine wl_v _ (r_extract (v := v8) (H.ev rfl) rfl) ?_; refine kl H rfl fun a H => ?_
              refine wl_v _ (r_extract (v := .int .i64 1) (H.ev rfl) rfl) ?_; refine kl H rfl fun a H => ?_
              refine wl_v _ (r_assign (H.ev rfl)) ?_; refine kl H rfl fun a H => ?_
              refine wl_v _ (r_assign (H.ev rfl)) ?_; refine kl H rfl fun a H => ?_
              refine wpList_nil ?_
              refine c_next ?_
              refine wp_seq ?_
              refine wp_seq ?_
              refine wp_region_lit ?_
              refine wl_v _ (r_move (H.ev rfl)) ?_; refine kl H rfl fun a H => ?_
              refine wpList_nil ?_
              refine c_next ?_
              refine c_cond_t H rfl ?_
              refine wp_seq ?_
              refine wp_region_lit ?_
              refine wl_v _ (r_move (H.ev rfl)) ?_; refine kl H rfl fun a H => ?_
              refine wl_v _ (r_move (H.ev rfl)) ?_; refine kl H rfl fun a H => ?_
              refine op_unguard _ _ (kg_yes rfl H rfl rfl rfl) ?_; refine wl_v _ (r_move (H.ev rfl)) ?_; refine kl H rfl fun a H => ?_
              refine op_unguard _ _ (kg_yes rfl H rfl rfl rfl) ?_; refine wl_v _ (r_eq Try.underlying28 (H.ev rfl) evc (dec_t (by omega))) ?_; refine kl H rfl fun a H => ?_
              refine wl_v _ (r_pick_t (H.ev rfl) (H.ev rfl)) ?_; refine kl H rfl fun a H => ?_
              refine wl_v _ (r_assign (H.ev rfl)) ?_; refine kl H rfl fun a H => ?_
              refine wpList_nil ?_
              refine c_next ?_
              refine wp_ret ?_
              refine r_then ?_
              exact k_ret1 H rfl rfl ⟨rfl, hall⟩
            · skip
              refine op_unguard _ _ (kg_yes rfl H rfl rfl rfl) ?_; refine wl_v _ (r_lt Try.underlying3 (H.ev rfl) evc (dec_f (c4))) ?_; refine kl H rfl fun a H => ?_
              refine wl_v _ (r_pick_f (H.ev rfl) (H.ev rfl)) ?_; refine kl H rfl fun a H => ?_
              refine wl_v _ (r_move (H.ev rfl)) ?_; refine kl H rfl fun a H => ?_
              refine op_unguard _ _ (kg_yes rfl H rfl rfl rfl) ?_; refine wl_v _ (r_fld (q := 2) fld27_2 (H.ev rfl) rfl) ?_; refine kl H rfl fun a H => ?_
              refine op_unguard _ _ (kg_yes rfl H rfl rfl rfl) ?_; refine wl_v _ (r_ld Try.underlying3 rfl (H.ev rfl) ((Block.cell k1 2).trans rfl)) ?_; refine kl H rfl fun a H => ?_
              by_cases c5 : peer > 16
              · skip
                refine op_unguard _ _ (kg_yes rfl H rfl rfl rfl) ?_; refine wl_v _ (r_gt Try.underlying3 (H.ev rfl) evc (dec_t (c5))) ?_; refine kl H rfl fun a H => ?_
                refine wl_v _ (r_pick_f (H.ev rfl) (H.ev rfl)) ?_; refine kl H rfl fun a H => ?_
                refine wl_v _ (r_move (H.ev rfl)) ?_; refine kl H rfl fun a H => ?_
                refine wl_s (kg_no rfl H rfl rfl rfl) ?_; refine kl H rfl fun a H => ?_
                refine wl_s (kg_no rfl H rfl rfl rfl) ?_; refine kl H rfl fun a H => ?_
                refine wl_s (kg_no rfl H rfl rfl rfl) ?_; refine kl H rfl fun a H => ?_
                refine wl_s (kg_no rfl H rfl rfl rfl) ?_; refine kl H rfl fun a H => ?_
                refine wl_s (kg_no rfl H rfl rfl rfl) ?_; refine kl H rfl fun a H => ?_
                refine wl_v _ (r_pick_t (H.ev rfl) evc) ?_; refine kl H rfl fun a H => ?_
                refine wl_v _ (r_assign (H.ev rfl)) ?_; refine kl H rfl fun a H => ?_
                refine wpList_nil ?_
                refine c_next ?_
                refine wp_seq ?_
                have HE : Hid ((doF L op who peer).2 = 1) := Lib.hid (by rw [do_bad]; unfold badP userB; simp only [decide_eq_false_iff_not]; omega)
                refine wp_region_lit ?_
                refine wl_v _ (r_move (H.ev rfl)) ?_; refine kl H rfl fun a H => ?_
                refine wl_v _ (r_fld (q := 0) fld27_0 (H.ev rfl) rfl) ?_; refine kl H rfl fun a H => ?_
                refine wl_v _ (r_ld Try.underlying3 rfl (H.ev rfl) ((Block.cell k1 0).trans rfl)) ?_; refine kl H rfl fun a H => ?_
                refine wl_v _ (r_fld (q := 1) fld27_1 (H.ev rfl) rfl) ?_; refine kl H rfl fun a H => ?_
                refine wl_v _ (r_ld Try.underlying3 rfl (H.ev rfl) ((Block.cell k1 1).trans rfl)) ?_; refine kl H rfl fun a H => ?_
                refine wl_v _ (r_fld (q := 2) fld27_2 (H.ev rfl) rfl) ?_; refine kl H rfl fun a H => ?_
                refine wl_v _ (r_ld Try.underlying3 rfl (H.ev rfl) ((Block.cell k1 2).trans rfl)) ?_; refine kl H rfl fun a H => ?_
                refine wl_call _ _ _ (do_any _ _ L op who peer h (by omega) HR.out) (r_call4 cf13 (H.ev rfl) (H.ev rfl) (H.ev rfl) (H.ev rfl)) ?_; rintro e w9 ⟨⟨v8, rfl, hown⟩, hb⟩; refine ⟨_, rfl, ?_⟩; rw [HE.out]; replace h := Row.up h hb; replace k1 := Block.ups k1 hb; replace hall := hall.trans (hb.mono hall.size); clear hb; have r8 := TOwn.row hown; clear hown; refine kl H rfl fun a H => ?_
                refine wl_v _ (r_move (H.ev rfl)) ?_; refine kl H rfl fun a H => ?_
                refine wl_v _ (r_extract (v := v8) (H.ev rfl) rfl) ?_; refine kl H rfl fun a H => ?_
                refine wl_v _ (r_extract (v := .int .i64 1) (H.ev rfl) rfl) ?_; refine kl H rfl fun a H => ?_
                refine wl_v _ (r_assign (H.ev rfl)) ?_; refine kl H rfl fun a H => ?_
                refine wl_v _ (r_assign (H.ev rfl)) ?_; refine kl H rfl fun a H => ?_
                refine wpList_nil ?_
                refine c_next ?_
                refine wp_seq ?_
                refine wp_seq ?_
                refine wp_region_lit ?_
                refine wl_v _ (r_move (H.ev rfl)) ?_; refine kl H rfl fun a H => ?_
                refine wpList_nil ?_
                refine c_next ?_
                refine c_cond_t H rfl ?_
                refine wp_seq ?_
                refine wp_region_lit ?_
                refine wl_v _ (r_move (H.ev rfl)) ?_; refine kl H rfl fun a H => ?_
                refine wl_v _ (r_move (H.ev rfl)) ?_; refine kl H rfl fun a H => ?_
                refine op_unguard _ _ (kg_yes rfl H rfl rfl rfl) ?_; refine wl_v _ (r_move (H.ev rfl)) ?_; refine kl H rfl fun a H => ?_
                refine op_unguard _ _ (kg_yes rfl H rfl rfl rfl) ?_; refine wl_v _ (r_eq Try.underlying28 (H.ev rfl) evc (dec_t (by omega))) ?_; refine kl H rfl fun a H => ?_
                refine wl_v _ (r_pick_t (H.ev rfl) (H.ev rfl)) ?_; refine kl H rfl fun a H => ?_
                refine wl_v _ (r_assign (H.ev rfl)) ?_; refine kl H rfl fun a H => ?_
                refine wpList_nil ?_
                refine c_next ?_
                refine wp_ret ?_
                refine r_then ?_
                exact k_ret1 H rfl rfl ⟨rfl, hall⟩
              · skip
                refine op_unguard _ _ (kg_yes rfl H rfl rfl rfl) ?_; refine wl_v _ (r_gt Try.underlying3 (H.ev rfl) evc (dec_f (c5))) ?_; refine kl H rfl fun a H => ?_
                refine wl_v _ (r_pick_f (H.ev rfl) (H.ev rfl)) ?_; refine kl H rfl fun a H => ?_
                refine wl_v _ (r_move (H.ev rfl)) ?_; refine kl H rfl fun a H => ?_
                refine op_unguard _ _ (kg_yes rfl H rfl rfl rfl) ?_; refine wl_v _ (r_fld (q := 1) fld27_1 (H.ev rfl) rfl) ?_; refine kl H rfl fun a H => ?_
                refine op_unguard _ _ (kg_yes rfl H rfl rfl rfl) ?_; refine wl_v _ (r_ld Try.underlying3 rfl (H.ev rfl) ((Block.cell k1 1).trans rfl)) ?_; refine kl H rfl fun a H => ?_
                refine op_unguard _ _ (kg_yes rfl H rfl rfl rfl) ?_; refine wl_v _ (r_fld (q := 2) fld27_2 (H.ev rfl) rfl) ?_; refine kl H rfl fun a H => ?_
                refine op_unguard _ _ (kg_yes rfl H rfl rfl rfl) ?_; refine wl_v _ (r_ld Try.underlying3 rfl (H.ev rfl) ((Block.cell k1 2).trans rfl)) ?_; refine kl H rfl fun a H => ?_
                by_cases c6 : who = peer
                · skip
                  refine op_unguard _ _ (kg_yes rfl H rfl rfl rfl) ?_; refine wl_v _ (r_eq Try.underlying3 (H.ev rfl) (H.ev rfl) (dec_t (c6))) ?_; refine kl H rfl fun a H => ?_
                  refine wl_v _ (r_pick_f (H.ev rfl) (H.ev rfl)) ?_; refine kl H rfl fun a H => ?_
                  refine wl_v _ (r_assign (H.ev rfl)) ?_; refine kl H rfl fun a H => ?_
                  refine wpList_nil ?_
                  refine c_next ?_
                  refine wp_seq ?_
                  have HE : Hid ((doF L op who peer).2 = 1) := Lib.hid (by rw [do_bad]; unfold badP userB; simp only [decide_eq_false_iff_not]; omega)
                  refine wp_region_lit ?_
                  refine wl_v _ (r_move (H.ev rfl)) ?_; refine kl H rfl fun a H => ?_
                  refine wl_v _ (r_fld (q := 0) fld27_0 (H.ev rfl) rfl) ?_; refine kl H rfl fun a H => ?_
                  refine wl_v _ (r_ld Try.underlying3 rfl (H.ev rfl) ((Block.cell k1 0).trans rfl)) ?_; refine kl H rfl fun a H => ?_
                  refine wl_v _ (r_fld (q := 1) fld27_1 (H.ev rfl) rfl) ?_; refine kl H rfl fun a H => ?_
                  refine wl_v _ (r_ld Try.underlying3 rfl (H.ev rfl) ((Block.cell k1 1).trans rfl)) ?_; refine kl H rfl fun a H => ?_
                  refine wl_v _ (r_fld (q := 2) fld27_2 (H.ev rfl) rfl) ?_; refine kl H rfl fun a H => ?_
                  refine wl_v _ (r_ld Try.underlying3 rfl (H.ev rfl) ((Block.cell k1 2).trans rfl)) ?_; refine kl H rfl fun a H => ?_
                  refine wl_call _ _ _ (do_any _ _ L op who peer h (by omega) HR.out) (r_call4 cf13 (H.ev rfl) (H.ev rfl) (H.ev rfl) (H.ev rfl)) ?_; rintro e w9 ⟨⟨v8, rfl, hown⟩, hb⟩; refine ⟨_, rfl, ?_⟩; rw [HE.out]; replace h := Row.up h hb; replace k1 := Block.ups k1 hb; replace hall := hall.trans (hb.mono hall.size); clear hb; have r8 := TOwn.row hown; clear hown; refine kl H rfl fun a H => ?_
                  refine wl_v _ (r_move (H.ev rfl)) ?_; refine kl H rfl fun a H => ?_
                  refine wl_v _ (r_extract (v := v8) (H.ev rfl) rfl) ?_; refine kl H rfl fun a H => ?_
                  refine wl_v _ (r_extract (v := .int .i64 1) (H.ev rfl) rfl) ?_; refine kl H rfl fun a H => ?_
                  refine wl_v _ (r_assign (H.ev rfl)) ?_; refine kl H rfl fun a H => ?_
                  refine wl_v _ (r_assign (H.ev rfl)) ?_; refine kl H rfl fun a H => ?_
                  refine wpList_nil ?_
                  refine c_next ?_
                  refine wp_seq ?_
                  refine wp_seq ?_
                  refine wp_region_lit ?_
                  refine wl_v _ (r_move (H.ev rfl)) ?_; refine kl H rfl fun a H => ?_
                  refine wpList_nil ?_
                  refine c_next ?_
                  refine c_cond_t H rfl ?_
                  refine wp_seq ?_
                  refine wp_region_lit ?_
                  refine wl_v _ (r_move (H.ev rfl)) ?_; refine kl H rfl fun a H => ?_
                  refine wl_v _ (r_move (H.ev rfl)) ?_; refine kl H rfl fun a H => ?_
                  refine op_unguard _ _ (kg_yes rfl H rfl rfl rfl) ?_; refine wl_v _ (r_move (H.ev rfl)) ?_; refine kl H rfl fun a H => ?_
                  refine op_unguard _ _ (kg_yes rfl H rfl rfl rfl) ?_; refine wl_v _ (r_eq Try.underlying28 (H.ev rfl) evc (dec_t (by omega))) ?_; refine kl H rfl fun a H => ?_
                  refine wl_v _ (r_pick_t (H.ev rfl) (H.ev rfl)) ?_; refine kl H rfl fun a H => ?_
                  refine wl_v _ (r_assign (H.ev rfl)) ?_; refine kl H rfl fun a H => ?_
                  refine wpList_nil ?_
                  refine c_next ?_
                  refine wp_ret ?_
                  refine r_then ?_
                  exact k_ret1 H rfl rfl ⟨rfl, hall⟩
                · skip
                  refine op_unguard _ _ (kg_yes rfl H rfl rfl rfl) ?_; refine wl_v _ (r_eq Try.underlying3 (H.ev rfl) (H.ev rfl) (dec_f (c6))) ?_; refine kl H rfl fun a H => ?_
                  refine wl_v _ (r_pick_f (H.ev rfl) (H.ev rfl)) ?_; refine kl H rfl fun a H => ?_
                  refine wl_v _ (r_assign (H.ev rfl)) ?_; refine kl H rfl fun a H => ?_
                  refine wpList_nil ?_
                  refine c_next ?_
                  refine wp_seq ?_
                  have HG : Hid (¬ badP op who peer) := Lib.hid (by unfold badP userB; simp only [decide_eq_false_iff_not]; omega)
                  obtain ⟨mi, hmi⟩ : ∃ mi, mineB op = mi := ⟨_, rfl⟩
                  have HMI := Lib.hid hmi
                  obtain ⟨s, hs⟩ : ∃ s, stF L (if mi = true then who else peer) (if mi = true then peer else who) = s := ⟨_, rfl⟩
                  have hc := do_code HR.out HG.out hmi hs
                  have HS := Lib.hid hs
                  clear hmi hs
                  rcases hc with ⟨hf, he⟩ | ⟨hf, he⟩ | ⟨hf, he, hs0⟩
                  · skip
                    have HF := Lib.hid hf
                    have HE := Lib.hid he
                    clear hf he
                    cases mi
                    · skip
                      refine wp_region_lit ?_
                      refine wl_v _ (r_move (H.ev rfl)) ?_; refine kl H rfl fun a H => ?_
                      refine wl_v _ (r_fld (q := 0) fld27_0 (H.ev rfl) rfl) ?_; refine kl H rfl fun a H => ?_
                      refine wl_v _ (r_ld Try.underlying3 rfl (H.ev rfl) ((Block.cell k1 0).trans rfl)) ?_; refine kl H rfl fun a H => ?_
                      refine wl_v _ (r_fld (q := 1) fld27_1 (H.ev rfl) rfl) ?_; refine kl H rfl fun a H => ?_
                      refine wl_v _ (r_ld Try.underlying3 rfl (H.ev rfl) ((Block.cell k1 1).trans rfl)) ?_; refine kl H rfl fun a H => ?_
                      refine wl_v _ (r_fld (q := 2) fld27_2 (H.ev rfl) rfl) ?_; refine kl H rfl fun a H => ?_
                      refine wl_v _ (r_ld Try.underlying3 rfl (H.ev rfl) ((Block.cell k1 2).trans rfl)) ?_; refine kl H rfl fun a H => ?_
                      refine wl_call _ _ _ (do_any _ _ L op who peer h (by omega) HR.out) (r_call4 cf13 (H.ev rfl) (H.ev rfl) (H.ev rfl) (H.ev rfl)) ?_; rintro e w9 ⟨⟨v8, rfl, hown⟩, hb⟩; refine ⟨_, rfl, ?_⟩; rw [HE.out]; replace h := Row.up h hb; replace k1 := Block.ups k1 hb; replace hall := hall.trans (hb.mono hall.size); clear hb; have r8 := TOwn.row hown; clear hown; refine kl H rfl fun a H => ?_
                      refine wl_v _ (r_move (H.ev rfl)) ?_; refine kl H rfl fun a H => ?_
                      refine wl_v _ (r_extract (v := v8) (H.ev rfl) rfl) ?_; refine kl H rfl fun a H => ?_
                      refine wl_v _ (r_extract (v := .int .i64 8) (H.ev rfl) rfl) ?_; refine kl H rfl fun a H => ?_
                      refine wl_v _ (r_assign (H.ev rfl)) ?_; refine kl H rfl fun a H => ?_
                      refine wl_v _ (r_assign (H.ev rfl)) ?_; refine kl H rfl fun a H => ?_
                      refine wpList_nil ?_
                      refine c_next ?_
                      refine wp_seq ?_
                      refine wp_seq ?_
                      refine wp_region_lit ?_
                      refine wl_v _ (r_move (H.ev rfl)) ?_; refine kl H rfl fun a H => ?_
                      refine wpList_nil ?_
                      refine c_next ?_
                      refine c_cond_f H rfl ?_
                      refine wp_skip ?_
                      refine c_next ?_
                      refine wp_seq ?_
                      refine wp_region_lit ?_
                      refine wl_v _ (r_move (H.ev rfl)) ?_; refine kl H rfl fun a H => ?_
                      refine wl_v _ (r_fld (q := 2) fld27_2 (H.ev rfl) rfl) ?_; refine kl H rfl fun a H => ?_
                      refine wl_v _ (r_ld Try.underlying3 rfl (H.ev rfl) ((Block.cell k1 2).trans rfl)) ?_; refine kl H rfl fun a H => ?_
                      refine wl_v _ (r_fld (q := 1) fld27_1 (H.ev rfl) rfl) ?_; refine kl H rfl fun a H => ?_
                      refine wl_v _ (r_ld Try.underlying3 rfl (H.ev rfl) ((Block.cell k1 1).trans rfl)) ?_; refine kl H rfl fun a H => ?_
                      refine wl_call _ _ _ (state_any _ _ L peer who h (by omega) HR.out.1) (r_call3 cf16 (H.ev rfl) (H.ev rfl) (H.ev rfl)) ?_; rintro e w9 ⟨rfl, hb⟩; refine ⟨_, rfl, ?_⟩; rw [show stF L peer who = s from HS.out]; replace h := Row.up h hb; replace k1 := Block.ups k1 hb; replace r8 := Row.up r8 hb; replace hall := hall.trans (hb.mono hall.size); clear hb; refine kl H rfl fun a H => ?_
                      refine wl_v _ (r_assign (H.ev rfl)) ?_; refine kl H rfl fun a H => ?_
                      refine wpList_nil ?_
                      refine c_next ?_
                      refine wp_seq ?_
                      refine wp_seq ?_
                      refine wp_region_lit ?_
                      refine wl_v _ (r_fld (q := 0) fld27_0 (H.ev rfl) rfl) ?_; refine kl H rfl fun a H => ?_
                      refine wl_v _ (r_ld Try.underlying3 rfl (H.ev rfl) ((Block.cell k1 0).trans rfl)) ?_; refine kl H rfl fun a H => ?_
                      refine wl_call _ _ _ (mine_any _ _) (r_call1 cf23 (H.ev rfl)) ?_; rintro e w9 ⟨rfl, rfl⟩; refine ⟨_, rfl, ?_⟩; rw [HMI.out]; skip; refine kl H rfl fun a H => ?_
                      refine wpList_nil ?_
                      refine c_next ?_
                      refine c_cond_f H rfl ?_
                      refine wp_skip ?_
                      refine c_next ?_
                      refine wp_seq ?_
                      refine wp_region_lit ?_
                      refine wl_v _ (r_move (H.ev rfl)) ?_; refine kl H rfl fun a H => ?_
                      refine wl_v _ (r_fld (q := 0) fld27_0 (H.ev rfl) rfl) ?_; refine kl H rfl fun a H => ?_
                      refine wl_v _ (r_ld Try.underlying3 rfl (H.ev rfl) ((Block.cell k1 0).trans rfl)) ?_; refine kl H rfl fun a H => ?_
                      refine wl_call _ _ _ (step_any s op _) (r_call2 cf24 (H.ev rfl) (H.ev rfl)) ?_; rintro e w9 ⟨rfl, hb⟩; refine ⟨_, rfl, ?_⟩; rw [HF.out]; replace h := Row.up h hb; replace k1 := Block.ups k1 hb; replace r8 := Row.up r8 hb; replace hall := hall.trans (hb.mono hall.size); clear hb; refine kl H rfl fun a H => ?_
                      refine wl_v _ (r_move (H.ev rfl)) ?_; refine kl H rfl fun a H => ?_
                      refine wl_v _ (r_extract (v := .int .i64 (stepF s op).1) (H.ev rfl) rfl) ?_; refine kl H rfl fun a H => ?_
                      refine wl_v _ (r_extract (v := .int .i64 8) (H.ev rfl) rfl) ?_; refine kl H rfl fun a H => ?_
                      refine wl_v _ (r_assign (H.ev rfl)) ?_; refine kl H rfl fun a H => ?_
                      refine wl_v _ (r_assign (H.ev rfl)) ?_; refine kl H rfl fun a H => ?_
                      refine wpList_nil ?_
                      refine c_next ?_
                      refine wp_seq ?_
                      refine wp_region_lit ?_
                      refine wl_v _ (r_move (H.ev rfl)) ?_; refine kl H rfl fun a H => ?_
                      refine wl_v _ (r_move (H.ev rfl)) ?_; refine kl H rfl fun a H => ?_
                      refine op_unguard _ _ (kg_yes rfl H rfl rfl rfl) ?_; refine wl_v _ (r_move (H.ev rfl)) ?_; refine kl H rfl fun a H => ?_
                      refine op_unguard _ _ (kg_yes rfl H rfl rfl rfl) ?_; refine wl_v _ (r_ne Try.underlying28 (H.ev rfl) evc (dec_t (by omega))) ?_; refine kl H rfl fun a H => ?_
                      refine wl_v _ (r_pick_t (H.ev rfl) (H.ev rfl)) ?_; refine kl H rfl fun a H => ?_
                      refine wl_v _ (r_move (H.ev rfl)) ?_; refine kl H rfl fun a H => ?_
                      refine op_unguard _ _ (kg_yes rfl H rfl rfl rfl) ?_; refine wl_v _ (r_move (H.ev rfl)) ?_; refine kl H rfl fun a H => ?_
                      refine op_unguard _ _ (kg_yes rfl H rfl rfl rfl) ?_; refine wl_v _ (r_eq Try.underlying28 (H.ev rfl) evc (dec_f (by omega))) ?_; refine kl H rfl fun a H => ?_
                      refine op_unguard _ _ (kg_yes rfl H rfl rfl rfl) ?_; refine wl_v _ (r_move (H.ev rfl)) ?_; refine kl H rfl fun a H => ?_
                      refine op_unguard _ _ (kg_yes rfl H rfl rfl rfl) ?_; refine wl_v _ (r_move (H.ev rfl)) ?_; refine kl H rfl fun a H => ?_
                      refine op_unguard _ _ (kg_yes rfl H rfl rfl rfl) ?_; refine wl_v _ (r_move (H.ev rfl)) ?_; refine kl H rfl fun a H => ?_
                      refine op_unguard _ _ (kg_yes rfl H rfl rfl rfl) ?_; refine wl_v _ (r_eq Try.underlying28 (H.ev rfl) (H.ev rfl) (dec_t (by omega))) ?_; refine kl H rfl fun a H => ?_
                      refine op_unguard _ _ (kg_yes rfl H rfl rfl rfl) ?_; refine wl_v _ (r_pick_f (H.ev rfl) (H.ev rfl)) ?_; refine kl H rfl fun a H => ?_
                      refine wl_v _ (r_pick_t (H.ev rfl) (H.ev rfl)) ?_; refine kl H rfl fun a H => ?_
                      refine wl_v _ (r_move (H.ev rfl)) ?_; refine kl H rfl fun a H => ?_
                      refine op_unguard _ _ (kg_yes rfl H rfl rfl rfl) ?_; refine wl_v _ (r_move (H.ev rfl)) ?_; refine kl H rfl fun a H => ?_
                      refine op_unguard _ _ (kg_yes rfl H rfl rfl rfl) ?_; refine wl_v _ (r_ne Try.underlying28 (H.ev rfl) evc (dec_t (by omega))) ?_; refine kl H rfl fun a H => ?_
                      refine op_unguard _ _ (kg_yes rfl H rfl rfl rfl) ?_; refine wl_v _ (r_move (H.ev rfl)) ?_; refine kl H rfl fun a H => ?_
                      refine wl_s (kg_no rfl H rfl rfl rfl) ?_; refine kl H rfl fun a H => ?_
                      refine wl_s (kg_no rfl H rfl rfl rfl) ?_; refine kl H rfl fun a H => ?_
                      refine op_unguard _ _ (kg_yes rfl H rfl rfl rfl) ?_; refine wl_v _ (r_pick_t (H.ev rfl) evc) ?_; refine kl H rfl fun a H => ?_
                      refine op_unguard _ _ (kg_yes rfl H rfl rfl rfl) ?_; refine wl_v _ (r_move (H.ev rfl)) ?_; refine kl H rfl fun a H => ?_
                      refine wl_s (kg_no rfl H rfl rfl rfl) ?_; refine kl H rfl fun a H => ?_
                      refine wl_s (kg_no rfl H rfl rfl rfl) ?_; refine kl H rfl fun a H => ?_
                      refine wl_s (kg_no rfl H rfl rfl rfl) ?_; refine kl H rfl fun a H => ?_
                      refine wl_s (kg_un rfl H rfl rfl rfl) ?_; refine kl H rfl fun a H => ?_
                      refine wl_s (kg_un rfl H rfl rfl rfl) ?_; refine kl H rfl fun a H => ?_
                      refine wl_s (kg_no rfl H rfl rfl rfl) ?_; refine kl H rfl fun a H => ?_
                      refine op_unguard _ _ (kg_yes rfl H rfl rfl rfl) ?_; refine wl_v _ (r_pick_t (H.ev rfl) evc) ?_; refine kl H rfl fun a H => ?_
                      refine wl_v _ (r_pick_t (H.ev rfl) (H.ev rfl)) ?_; refine kl H rfl fun a H => ?_
                      refine wl_v _ (r_assign (H.ev rfl)) ?_; refine kl H rfl fun a H => ?_
                      refine wpList_nil ?_
                      refine c_next ?_
                      refine wp_ret ?_
                      exact k_ret1 H rfl rfl ⟨rfl, hall⟩
                    · skip
                      refine wp_region_lit ?_
                      refine wl_v _ (r_move (H.ev rfl)) ?_; refine kl H rfl fun a H => ?_
                      refine wl_v _ (r_fld (q := 0) fld27_0 (H.ev rfl) rfl) ?_; refine kl H rfl fun a H => ?_
                      refine wl_v _ (r_ld Try.underlying3 rfl (H.ev rfl) ((Block.cell k1 0).trans rfl)) ?_; refine kl H rfl fun a H => ?_
                      refine wl_v _ (r_fld (q := 1) fld27_1 (H.ev rfl) rfl) ?_; refine kl H rfl fun a H => ?_
                      refine wl_v _ (r_ld Try.underlying3 rfl (H.ev rfl) ((Block.cell k1 1).trans rfl)) ?_; refine kl H rfl fun a H => ?_
                      refine wl_v _ (r_fld (q := 2) fld27_2 (H.ev rfl) rfl) ?_; refine kl H rfl fun a H => ?_
                      refine wl_v _ (r_ld Try.underlying3 rfl (H.ev rfl) ((Block.cell k1 2).trans rfl)) ?_; refine kl H rfl fun a H => ?_
                      refine wl_call _ _ _ (do_any _ _ L op who peer h (by omega) HR.out) (r_call4 cf13 (H.ev rfl) (H.ev rfl) (H.ev rfl) (H.ev rfl)) ?_; rintro e w9 ⟨⟨v8, rfl, hown⟩, hb⟩; refine ⟨_, rfl, ?_⟩; rw [HE.out]; replace h := Row.up h hb; replace k1 := Block.ups k1 hb; replace hall := hall.trans (hb.mono hall.size); clear hb; have r8 := TOwn.row hown; clear hown; refine kl H rfl fun a H => ?_
                      refine wl_v _ (r_move (H.ev rfl)) ?_; refine kl H rfl fun a H => ?_
                      refine wl_v _ (r_extract (v := v8) (H.ev rfl) rfl) ?_; refine kl H rfl fun a H => ?_
                      refine wl_v _ (r_extract (v := .int .i64 8) (H.ev rfl) rfl) ?_; refine kl H rfl fun a H => ?_
                      refine wl_v _ (r_assign (H.ev rfl)) ?_; refine kl H rfl fun a H => ?_
                      refine wl_v _ (r_assign (H.ev rfl)) ?_; refine kl H rfl fun a H => ?_
                      refine wpList_nil ?_
                      refine c_next ?_
                      refine wp_seq ?_
                      refine wp_seq ?_
                      refine wp_region_lit ?_
                      refine wl_v _ (r_move (H.ev rfl)) ?_; refine kl H rfl fun a H => ?_
                      refine wpList_nil ?_
                      refine c_next ?_
                      refine c_cond_f H rfl ?_
                      refine wp_skip ?_
                      refine c_next ?_
                      refine wp_seq ?_
                      refine wp_region_lit ?_
                      refine wl_v _ (r_move (H.ev rfl)) ?_; refine kl H rfl fun a H => ?_
                      refine wl_v _ (r_fld (q := 2) fld27_2 (H.ev rfl) rfl) ?_; refine kl H rfl fun a H => ?_
                      refine wl_v _ (r_ld Try.underlying3 rfl (H.ev rfl) ((Block.cell k1 2).trans rfl)) ?_; refine kl H rfl fun a H => ?_
                      refine wl_v _ (r_fld (q := 1) fld27_1 (H.ev rfl) rfl) ?_; refine kl H rfl fun a H => ?_
                      refine wl_v _ (r_ld Try.underlying3 rfl (H.ev rfl) ((Block.cell k1 1).trans rfl)) ?_; refine kl H rfl fun a H => ?_
                      refine wl_call _ _ _ (state_any _ _ L peer who h (by omega) HR.out.1) (r_call3 cf16 (H.ev rfl) (H.ev rfl) (H.ev rfl)) ?_; rintro e w9 ⟨rfl, hb⟩; refine ⟨_, rfl, ?_⟩; replace h := Row.up h hb; replace k1 := Block.ups k1 hb; replace r8 := Row.up r8 hb; replace hall := hall.trans (hb.mono hall.size); clear hb; refine kl H rfl fun a H => ?_
                      refine wl_v _ (r_assign (H.ev rfl)) ?_; refine kl H rfl fun a H => ?_
                      refine wpList_nil ?_
                      refine c_next ?_
                      refine wp_seq ?_
                      refine wp_seq ?_
                      refine wp_region_lit ?_
                      refine wl_v _ (r_fld (q := 0) fld27_0 (H.ev rfl) rfl) ?_; refine kl H rfl fun a H => ?_
                      refine wl_v _ (r_ld Try.underlying3 rfl (H.ev rfl) ((Block.cell k1 0).trans rfl)) ?_; refine kl H rfl fun a H => ?_
                      refine wl_call _ _ _ (mine_any _ _) (r_call1 cf23 (H.ev rfl)) ?_; rintro e w9 ⟨rfl, rfl⟩; refine ⟨_, rfl, ?_⟩; rw [HMI.out]; skip; refine kl H rfl fun a H => ?_
                      refine wpList_nil ?_
                      refine c_next ?_
                      refine c_cond_t H rfl ?_
                      refine wp_region_lit ?_
                      refine wl_v _ (r_move (H.ev rfl)) ?_; refine kl H rfl fun a H => ?_
                      refine wl_v _ (r_fld (q := 1) fld27_1 (H.ev rfl) rfl) ?_; refine kl H rfl fun a H => ?_
                      refine wl_v _ (r_ld Try.underlying3 rfl (H.ev rfl) ((Block.cell k1 1).trans rfl)) ?_; refine kl H rfl fun a H => ?_
                      refine wl_v _ (r_fld (q := 2) fld27_2 (H.ev rfl) rfl) ?_; refine kl H rfl fun a H => ?_
                      refine wl_v _ (r_ld Try.underlying3 rfl (H.ev rfl) ((Block.cell k1 2).trans rfl)) ?_; refine kl H rfl fun a H => ?_
                      refine wl_call _ _ _ (state_any _ _ L who peer h (by omega) HR.out.1) (r_call3 cf16 (H.ev rfl) (H.ev rfl) (H.ev rfl)) ?_; rintro e w9 ⟨rfl, hb⟩; refine ⟨_, rfl, ?_⟩; rw [show stF L who peer = s from HS.out]; replace h := Row.up h hb; replace k1 := Block.ups k1 hb; replace r8 := Row.up r8 hb; replace hall := hall.trans (hb.mono hall.size); clear hb; refine kl H rfl fun a H => ?_
                      refine wl_v _ (r_assign (H.ev rfl)) ?_; refine kl H rfl fun a H => ?_
                      refine wpList_nil ?_
                      refine c_next ?_
                      refine wp_seq ?_
                      refine wp_region_lit ?_
                      refine wl_v _ (r_move (H.ev rfl)) ?_; refine kl H rfl fun a H => ?_
                      refine wl_v _ (r_fld (q := 0) fld27_0 (H.ev rfl) rfl) ?_; refine kl H rfl fun a H => ?_
                      refine wl_v _ (r_ld Try.underlying3 rfl (H.ev rfl) ((Block.cell k1 0).trans rfl)) ?_; refine kl H rfl fun a H => ?_
                      refine wl_call _ _ _ (step_any s op _) (r_call2 cf24 (H.ev rfl) (H.ev rfl)) ?_; rintro e w9 ⟨rfl, hb⟩; refine ⟨_, rfl, ?_⟩; rw [HF.out]; replace h := Row.up h hb; replace k1 := Block.ups k1 hb; replace r8 := Row.up r8 hb; replace hall := hall.trans (hb.mono hall.size); clear hb; refine kl H rfl fun a H => ?_
                      refine wl_v _ (r_move (H.ev rfl)) ?_; refine kl H rfl fun a H => ?_
                      refine wl_v _ (r_extract (v := .int .i64 (stepF s op).1) (H.ev rfl) rfl) ?_; refine kl H rfl fun a H => ?_
                      refine wl_v _ (r_extract (v := .int .i64 8) (H.ev rfl) rfl) ?_; refine kl H rfl fun a H => ?_
                      refine wl_v _ (r_assign (H.ev rfl)) ?_; refine kl H rfl fun a H => ?_
                      refine wl_v _ (r_assign (H.ev rfl)) ?_; refine kl H rfl fun a H => ?_
                      refine wpList_nil ?_
                      refine c_next ?_
                      refine wp_seq ?_
                      refine wp_region_lit ?_
                      refine wl_v _ (r_move (H.ev rfl)) ?_; refine kl H rfl fun a H => ?_
                      refine wl_v _ (r_move (H.ev rfl)) ?_; refine kl H rfl fun a H => ?_
                      refine op_unguard _ _ (kg_yes rfl H rfl rfl rfl) ?_; refine wl_v _ (r_move (H.ev rfl)) ?_; refine kl H rfl fun a H => ?_
                      refine op_unguard _ _ (kg_yes rfl H rfl rfl rfl) ?_; refine wl_v _ (r_ne Try.underlying28 (H.ev rfl) evc (dec_t (by omega))) ?_; refine kl H rfl fun a H => ?_
                      refine wl_v _ (r_pick_t (H.ev rfl) (H.ev rfl)) ?_; refine kl H rfl fun a H => ?_
                      refine wl_v _ (r_move (H.ev rfl)) ?_; refine kl H rfl fun a H => ?_
                      refine op_unguard _ _ (kg_yes rfl H rfl rfl rfl) ?_; refine wl_v _ (r_move (H.ev rfl)) ?_; refine kl H rfl fun a H => ?_
                      refine op_unguard _ _ (kg_yes rfl H rfl rfl rfl) ?_; refine wl_v _ (r_eq Try.underlying28 (H.ev rfl) evc (dec_f (by omega))) ?_; refine kl H rfl fun a H => ?_
                      refine op_unguard _ _ (kg_yes rfl H rfl rfl rfl) ?_; refine wl_v _ (r_move (H.ev rfl)) ?_; refine kl H rfl fun a H => ?_
                      refine op_unguard _ _ (kg_yes rfl H rfl rfl rfl) ?_; refine wl_v _ (r_move (H.ev rfl)) ?_; refine kl H rfl fun a H => ?_
                      refine op_unguard _ _ (kg_yes rfl H rfl rfl rfl) ?_; refine wl_v _ (r_move (H.ev rfl)) ?_; refine kl H rfl fun a H => ?_
                      refine op_unguard _ _ (kg_yes rfl H rfl rfl rfl) ?_; refine wl_v _ (r_eq Try.underlying28 (H.ev rfl) (H.ev rfl) (dec_t (by omega))) ?_; refine kl H rfl fun a H => ?_
                      refine op_unguard _ _ (kg_yes rfl H rfl rfl rfl) ?_; refine wl_v _ (r_pick_f (H.ev rfl) (H.ev rfl)) ?_; refine kl H rfl fun a H => ?_
                      refine wl_v _ (r_pick_t (H.ev rfl) (H.ev rfl)) ?_; refine kl H rfl fun a H => ?_
                      refine wl_v _ (r_move (H.ev rfl)) ?_; refine kl H rfl fun a H => ?_
                      refine op_unguard _ _ (kg_yes rfl H rfl rfl rfl) ?_; refine wl_v _ (r_move (H.ev rfl)) ?_; refine kl H rfl fun a H => ?_
                      refine op_unguard _ _ (kg_yes rfl H rfl rfl rfl) ?_; refine wl_v _ (r_ne Try.underlying28 (H.ev rfl) evc (dec_t (by omega))) ?_; refine kl H rfl fun a H => ?_
                      refine op_unguard _ _ (kg_yes rfl H rfl rfl rfl) ?_; refine wl_v _ (r_move (H.ev rfl)) ?_; refine kl H rfl fun a H => ?_
                      refine wl_s (kg_no rfl H rfl rfl rfl) ?_; refine kl H rfl fun a H => ?_
                      refine wl_s (kg_no rfl H rfl rfl rfl) ?_; refine kl H rfl fun a H => ?_
                      refine op_unguard _ _ (kg_yes rfl H rfl rfl rfl) ?_; refine wl_v _ (r_pick_t (H.ev rfl) evc) ?_; refine kl H rfl fun a H => ?_
                      refine op_unguard _ _ (kg_yes rfl H rfl rfl rfl) ?_; refine wl_v _ (r_move (H.ev rfl)) ?_; refine kl H rfl fun a H => ?_
                      refine wl_s (kg_no rfl H rfl rfl rfl) ?_; refine kl H rfl fun a H => ?_
                      refine wl_s (kg_no rfl H rfl rfl rfl) ?_; refine kl H rfl fun a H => ?_
                      refine wl_s (kg_no rfl H rfl rfl rfl) ?_; refine kl H rfl fun a H => ?_
                      refine wl_s (kg_un rfl H rfl rfl rfl) ?_; refine kl H rfl fun a H => ?_
                      refine wl_s (kg_un rfl H rfl rfl rfl) ?_; refine kl H rfl fun a H => ?_
                      refine wl_s (kg_no rfl H rfl rfl rfl) ?_; refine kl H rfl fun a H => ?_
                      refine op_unguard _ _ (kg_yes rfl H rfl rfl rfl) ?_; refine wl_v _ (r_pick_t (H.ev rfl) evc) ?_; refine kl H rfl fun a H => ?_
                      refine wl_v _ (r_pick_t (H.ev rfl) (H.ev rfl)) ?_; refine kl H rfl fun a H => ?_
                      refine wl_v _ (r_assign (H.ev rfl)) ?_; refine kl H rfl fun a H => ?_
                      refine wpList_nil ?_
                      refine c_next ?_
                      refine wp_ret ?_
                      exact k_ret1 H rfl rfl ⟨rfl, hall⟩
                  · skip
                    have HF := Lib.hid hf
                    have HE := Lib.hid he
                    clear hf he
                    cases mi
                    · skip
                      refine wp_region_lit ?_
                      refine wl_v _ (r_move (H.ev rfl)) ?_; refine kl H rfl fun a H => ?_
                      refine wl_v _ (r_fld (q := 0) fld27_0 (H.ev rfl) rfl) ?_; refine kl H rfl fun a H => ?_
                      refine wl_v _ (r_ld Try.underlying3 rfl (H.ev rfl) ((Block.cell k1 0).trans rfl)) ?_; refine kl H rfl fun a H => ?_
                      refine wl_v _ (r_fld (q := 1) fld27_1 (H.ev rfl) rfl) ?_; refine kl H rfl fun a H => ?_
                      refine wl_v _ (r_ld Try.underlying3 rfl (H.ev rfl) ((Block.cell k1 1).trans rfl)) ?_; refine kl H rfl fun a H => ?_
                      refine wl_v _ (r_fld (q := 2) fld27_2 (H.ev rfl) rfl) ?_; refine kl H rfl fun a H => ?_
                      refine wl_v _ (r_ld Try.underlying3 rfl (H.ev rfl) ((Block.cell k1 2).trans rfl)) ?_; refine kl H rfl fun a H => ?_
                      refine wl_call _ _ _ (do_any _ _ L op who peer h (by omega) HR.out) (r_call4 cf13 (H.ev rfl) (H.ev rfl) (H.ev rfl) (H.ev rfl)) ?_; rintro e w9 ⟨⟨v8, rfl, hown⟩, hb⟩; refine ⟨_, rfl, ?_⟩; rw [HE.out]; replace h := Row.up h hb; replace k1 := Block.ups k1 hb; replace hall := hall.trans (hb.mono hall.size); clear hb; have r8 := TOwn.row hown; clear hown; refine kl H rfl fun a H => ?_
                      refine wl_v _ (r_move (H.ev rfl)) ?_; refine kl H rfl fun a H => ?_
                      refine wl_v _ (r_extract (v := v8) (H.ev rfl) rfl) ?_; refine kl H rfl fun a H => ?_
                      refine wl_v _ (r_extract (v := .int .i64 0) (H.ev rfl) rfl) ?_; refine kl H rfl fun a H => ?_
                      refine wl_v _ (r_assign (H.ev rfl)) ?_; refine kl H rfl fun a H => ?_
                      refine wl_v _ (r_assign (H.ev rfl)) ?_; refine kl H rfl fun a H => ?_
                      refine wpList_nil ?_
                      refine c_next ?_
                      refine wp_seq ?_
                      refine wp_seq ?_
                      refine wp_region_lit ?_
                      refine wl_v _ (r_move (H.ev rfl)) ?_; refine kl H rfl fun a H => ?_
                      refine wpList_nil ?_
                      refine c_next ?_
                      refine c_cond_f H rfl ?_
                      refine wp_skip ?_
                      refine c_next ?_
                      refine wp_seq ?_
                      refine wp_region_lit ?_
                      refine wl_v _ (r_move (H.ev rfl)) ?_; refine kl H rfl fun a H => ?_
                      refine wl_v _ (r_fld (q := 2) fld27_2 (H.ev rfl) rfl) ?_; refine kl H rfl fun a H => ?_
                      refine wl_v _ (r_ld Try.underlying3 rfl (H.ev rfl) ((Block.cell k1 2).trans rfl)) ?_; refine kl H rfl fun a H => ?_
                      refine wl_v _ (r_fld (q := 1) fld27_1 (H.ev rfl) rfl) ?_; refine kl H rfl fun a H => ?_
                      refine wl_v _ (r_ld Try.underlying3 rfl (H.ev rfl) ((Block.cell k1 1).trans rfl)) ?_; refine kl H rfl fun a H => ?_
                      refine wl_call _ _ _ (state_any _ _ L peer who h (by omega) HR.out.1) (r_call3 cf16 (H.ev rfl) (H.ev rfl) (H.ev rfl)) ?_; rintro e w9 ⟨rfl, hb⟩; refine ⟨_, rfl, ?_⟩; rw [show stF L peer who = s from HS.out]; replace h := Row.up h hb; replace k1 := Block.ups k1 hb; replace r8 := Row.up r8 hb; replace hall := hall.trans (hb.mono hall.size); clear hb; refine kl H rfl fun a H => ?_
                      refine wl_v _ (r_assign (H.ev rfl)) ?_; refine kl H rfl fun a H => ?_
                      refine wpList_nil ?_
                      refine c_next ?_
                      refine wp_seq ?_
                      refine wp_seq ?_
                      refine wp_region_lit ?_
                      refine wl_v _ (r_fld (q := 0) fld27_0 (H.ev rfl) rfl) ?_; refine kl H rfl fun a H => ?_
                      refine wl_v _ (r_ld Try.underlying3 rfl (H.ev rfl) ((Block.cell k1 0).trans rfl)) ?_; refine kl H rfl fun a H => ?_
                      refine wl_call _ _ _ (mine_any _ _) (r_call1 cf23 (H.ev rfl)) ?_; rintro e w9 ⟨rfl, rfl⟩; refine ⟨_, rfl, ?_⟩; rw [HMI.out]; skip; refine kl H rfl fun a H => ?_
                      refine wpList_nil ?_
                      refine c_next ?_
                      refine c_cond_f H rfl ?_
                      refine wp_skip ?_
                      refine c_next ?_
                      refine wp_seq ?_
                      refine wp_region_lit ?_
                      refine wl_v _ (r_move (H.ev rfl)) ?_; refine kl H rfl fun a H => ?_
                      refine wl_v _ (r_fld (q := 0) fld27_0 (H.ev rfl) rfl) ?_; refine kl H rfl fun a H => ?_
                      refine wl_v _ (r_ld Try.underlying3 rfl (H.ev rfl) ((Block.cell k1 0).trans rfl)) ?_; refine kl H rfl fun a H => ?_
                      refine wl_call _ _ _ (step_any s op _) (r_call2 cf24 (H.ev rfl) (H.ev rfl)) ?_; rintro e w9 ⟨rfl, hb⟩; refine ⟨_, rfl, ?_⟩; rw [HF.out]; replace h := Row.up h hb; replace k1 := Block.ups k1 hb; replace r8 := Row.up r8 hb; replace hall := hall.trans (hb.mono hall.size); clear hb; refine kl H rfl fun a H => ?_
                      refine wl_v _ (r_move (H.ev rfl)) ?_; refine kl H rfl fun a H => ?_
                      refine wl_v _ (r_extract (v := .int .i64 (stepF s op).1) (H.ev rfl) rfl) ?_; refine kl H rfl fun a H => ?_
                      refine wl_v _ (r_extract (v := .int .i64 0) (H.ev rfl) rfl) ?_; refine kl H rfl fun a H => ?_
                      refine wl_v _ (r_assign (H.ev rfl)) ?_; refine kl H rfl fun a H => ?_
                      refine wl_v _ (r_assign (H.ev rfl)) ?_; refine kl H rfl fun a H => ?_
                      refine wpList_nil ?_
                      refine c_next ?_
                      refine wp_seq ?_
                      refine wp_region_lit ?_
                      refine wl_v _ (r_move (H.ev rfl)) ?_; refine kl H rfl fun a H => ?_
                      refine wl_v _ (r_move (H.ev rfl)) ?_; refine kl H rfl fun a H => ?_
                      refine op_unguard _ _ (kg_yes rfl H rfl rfl rfl) ?_; refine wl_v _ (r_move (H.ev rfl)) ?_; refine kl H rfl fun a H => ?_
                      refine op_unguard _ _ (kg_yes rfl H rfl rfl rfl) ?_; refine wl_v _ (r_ne Try.underlying28 (H.ev rfl) evc (dec_t (by omega))) ?_; refine kl H rfl fun a H => ?_
                      refine wl_v _ (r_pick_t (H.ev rfl) (H.ev rfl)) ?_; refine kl H rfl fun a H => ?_
                      refine wl_v _ (r_move (H.ev rfl)) ?_; refine kl H rfl fun a H => ?_
                      refine op_unguard _ _ (kg_yes rfl H rfl rfl rfl) ?_; refine wl_v _ (r_move (H.ev rfl)) ?_; refine kl H rfl fun a H => ?_
                      refine op_unguard _ _ (kg_yes rfl H rfl rfl rfl) ?_; refine wl_v _ (r_eq Try.underlying28 (H.ev rfl) evc (dec_t (by omega))) ?_; refine kl H rfl fun a H => ?_
                      refine op_unguard _ _ (kg_yes rfl H rfl rfl rfl) ?_; refine wl_v _ (r_move (H.ev rfl)) ?_; refine kl H rfl fun a H => ?_
                      refine wl_s (kg_no rfl H rfl rfl rfl) ?_; refine kl H rfl fun a H => ?_
                      refine wl_s (kg_no rfl H rfl rfl rfl) ?_; refine kl H rfl fun a H => ?_
                      refine wl_s (kg_no rfl H rfl rfl rfl) ?_; refine kl H rfl fun a H => ?_
                      refine op_unguard _ _ (kg_yes rfl H rfl rfl rfl) ?_; refine wl_v _ (r_pick_t (H.ev rfl) evc) ?_; refine kl H rfl fun a H => ?_
                      refine wl_v _ (r_pick_t (H.ev rfl) (H.ev rfl)) ?_; refine kl H rfl fun a H => ?_
                      refine wl_v _ (r_move (H.ev rfl)) ?_; refine kl H rfl fun a H => ?_
                      refine op_unguard _ _ (kg_yes rfl H rfl rfl rfl) ?_; refine wl_v _ (r_move (H.ev rfl)) ?_; refine kl H rfl fun a H => ?_
                      refine op_unguard _ _ (kg_yes rfl H rfl rfl rfl) ?_; refine wl_v _ (r_ne Try.underlying28 (H.ev rfl) evc (dec_f (by omega))) ?_; refine kl H rfl fun a H => ?_
                      refine op_unguard _ _ (kg_yes rfl H rfl rfl rfl) ?_; refine wl_v _ (r_move (H.ev rfl)) ?_; refine kl H rfl fun a H => ?_
                      refine op_unguard _ _ (kg_yes rfl H rfl rfl rfl) ?_; refine wl_v _ (r_move (H.ev rfl)) ?_; refine kl H rfl fun a H => ?_
                      refine op_unguard _ _ (kg_yes rfl H rfl rfl rfl) ?_; refine wl_v _ (r_eq Try.underlying28 (H.ev rfl) evc (dec_t (by omega))) ?_; refine kl H rfl fun a H => ?_
                      refine op_unguard _ _ (kg_yes rfl H rfl rfl rfl) ?_; refine wl_v _ (r_pick_f (H.ev rfl) (H.ev rfl)) ?_; refine kl H rfl fun a H => ?_
                      refine op_unguard _ _ (kg_yes rfl H rfl rfl rfl) ?_; refine wl_v _ (r_move (H.ev rfl)) ?_; refine kl H rfl fun a H => ?_
                      refine wl_s (kg_no rfl H rfl rfl rfl) ?_; refine kl H rfl fun a H => ?_
                      refine wl_s (kg_no rfl H rfl rfl rfl) ?_; refine kl H rfl fun a H => ?_
                      refine wl_s (kg_no rfl H rfl rfl rfl) ?_; refine kl H rfl fun a H => ?_
                      refine wl_s (kg_un rfl H rfl rfl rfl) ?_; refine kl H rfl fun a H => ?_
                      refine wl_s (kg_un rfl H rfl rfl rfl) ?_; refine kl H rfl fun a H => ?_
                      refine wl_s (kg_no rfl H rfl rfl rfl) ?_; refine kl H rfl fun a H => ?_
                      refine op_unguard _ _ (kg_yes rfl H rfl rfl rfl) ?_; refine wl_v _ (r_pick_t (H.ev rfl) evc) ?_; refine kl H rfl fun a H => ?_
                      refine wl_v _ (r_pick_t (H.ev rfl) (H.ev rfl)) ?_; refine kl H rfl fun a H => ?_
                      refine wl_v _ (r_assign (H.ev rfl)) ?_; refine kl H rfl fun a H => ?_
                      refine wpList_nil ?_
                      refine c_next ?_
                      refine wp_ret ?_
                      exact k_ret1 H rfl rfl ⟨rfl, hall⟩
                    · skip
                      refine wp_region_lit ?_
                      refine wl_v _ (r_move (H.ev rfl)) ?_; refine kl H rfl fun a H => ?_
                      refine wl_v _ (r_fld (q := 0) fld27_0 (H.ev rfl) rfl) ?_; refine kl H rfl fun a H => ?_
                      refine wl_v _ (r_ld Try.underlying3 rfl (H.ev rfl) ((Block.cell k1 0).trans rfl)) ?_; refine kl H rfl fun a H => ?_
                      refine wl_v _ (r_fld (q := 1) fld27_1 (H.ev rfl) rfl) ?_; refine kl H rfl fun a H => ?_
                      refine wl_v _ (r_ld Try.underlying3 rfl (H.ev rfl) ((Block.cell k1 1).trans rfl)) ?_; refine kl H rfl fun a H => ?_
                      refine wl_v _ (r_fld (q := 2) fld27_2 (H.ev rfl) rfl) ?_; refine kl H rfl fun a H => ?_
                      refine wl_v _ (r_ld Try.underlying3 rfl (H.ev rfl) ((Block.cell k1 2).trans rfl)) ?_; refine kl H rfl fun a H => ?_
                      refine wl_call _ _ _ (do_any _ _ L op who peer h (by omega) HR.out) (r_call4 cf13 (H.ev rfl) (H.ev rfl) (H.ev rfl) (H.ev rfl)) ?_; rintro e w9 ⟨⟨v8, rfl, hown⟩, hb⟩; refine ⟨_, rfl, ?_⟩; rw [HE.out]; replace h := Row.up h hb; replace k1 := Block.ups k1 hb; replace hall := hall.trans (hb.mono hall.size); clear hb; have r8 := TOwn.row hown; clear hown; refine kl H rfl fun a H => ?_
                      refine wl_v _ (r_move (H.ev rfl)) ?_; refine kl H rfl fun a H => ?_
                      refine wl_v _ (r_extract (v := v8) (H.ev rfl) rfl) ?_; refine kl H rfl fun a H => ?_
                      refine wl_v _ (r_extract (v := .int .i64 0) (H.ev rfl) rfl) ?_; refine kl H rfl fun a H => ?_
                      refine wl_v _ (r_assign (H.ev rfl)) ?_; refine kl H rfl fun a H => ?_
                      refine wl_v _ (r_assign (H.ev rfl)) ?_; refine kl H rfl fun a H => ?_
                      refine wpList_nil ?_
                      refine c_next ?_
                      refine wp_seq ?_
                      refine wp_seq ?_
                      refine wp_region_lit ?_
                      refine wl_v _ (r_move (H.ev rfl)) ?_; refine kl H rfl fun a H => ?_
                      refine wpList_nil ?_
                      refine c_next ?_
                      refine c_cond_f H rfl ?_
                      refine wp_skip ?_
                      refine c_next ?_
                      refine wp_seq ?_
                      refine wp_region_lit ?_
                      refine wl_v _ (r_move (H.ev rfl)) ?_; refine kl H rfl fun a H => ?_
                      refine wl_v _ (r_fld (q := 2) fld27_2 (H.ev rfl) rfl) ?_; refine kl H rfl fun a H => ?_
                      refine wl_v _ (r_ld Try.underlying3 rfl (H.ev rfl) ((Block.cell k1 2).trans rfl)) ?_; refine kl H rfl fun a H => ?_
                      refine wl_v _ (r_fld (q := 1) fld27_1 (H.ev rfl) rfl) ?_; refine kl H rfl fun a H => ?_
                      refine wl_v _ (r_ld Try.underlying3 rfl (H.ev rfl) ((Block.cell k1 1).trans rfl)) ?_; refine kl H rfl fun a H => ?_
                      refine wl_call _ _ _ (state_any _ _ L peer who h (by omega) HR.out.1) (r_call3 cf16 (H.ev rfl) (H.ev rfl) (H.ev rfl)) ?_; rintro e w9 ⟨rfl, hb⟩; refine ⟨_, rfl, ?_⟩; replace h := Row.up h hb; replace k1 := Block.ups k1 hb; replace r8 := Row.up r8 hb; replace hall := hall.trans (hb.mono hall.size); clear hb; refine kl H rfl fun a H => ?_
                      refine wl_v _ (r_assign (H.ev rfl)) ?_; refine kl H rfl fun a H => ?_
                      refine wpList_nil ?_
                      refine c_next ?_
                      refine wp_seq ?_
                      refine wp_seq ?_
                      refine wp_region_lit ?_
                      refine wl_v _ (r_fld (q := 0) fld27_0 (H.ev rfl) rfl) ?_; refine kl H rfl fun a H => ?_
                      refine wl_v _ (r_ld Try.underlying3 rfl (H.ev rfl) ((Block.cell k1 0).trans rfl)) ?_; refine kl H rfl fun a H => ?_
                      refine wl_call _ _ _ (mine_any _ _) (r_call1 cf23 (H.ev rfl)) ?_; rintro e w9 ⟨rfl, rfl⟩; refine ⟨_, rfl, ?_⟩; rw [HMI.out]; skip; refine kl H rfl fun a H => ?_
                      refine wpList_nil ?_
                      refine c_next ?_
                      refine c_cond_t H rfl ?_
                      refine wp_region_lit ?_
                      refine wl_v _ (r_move (H.ev rfl)) ?_; refine kl H rfl fun a H => ?_
                      refine wl_v _ (r_fld (q := 1) fld27_1 (H.ev rfl) rfl) ?_; refine kl H rfl fun a H => ?_
                      refine wl_v _ (r_ld Try.underlying3 rfl (H.ev rfl) ((Block.cell k1 1).trans rfl)) ?_; refine kl H rfl fun a H => ?_
                      refine wl_v _ (r_fld (q := 2) fld27_2 (H.ev rfl) rfl) ?_; refine kl H rfl fun a H => ?_
                      refine wl_v _ (r_ld Try.underlying3 rfl (H.ev rfl) ((Block.cell k1 2).trans rfl)) ?_; refine kl H rfl fun a H => ?_
                      refine wl_call _ _ _ (state_any _ _ L who peer h (by omega) HR.out.1) (r_call3 cf16 (H.ev rfl) (H.ev rfl) (H.ev rfl)) ?_; rintro e w9 ⟨rfl, hb⟩; refine ⟨_, rfl, ?_⟩; rw [show stF L who peer = s from HS.out]; replace h := Row.up h hb; replace k1 := Block.ups k1 hb; replace r8 := Row.up r8 hb; replace hall := hall.trans (hb.mono hall.size); clear hb; refine kl H rfl fun a H => ?_
                      refine wl_v _ (r_assign (H.ev rfl)) ?_; refine kl H rfl fun a H => ?_
                      refine wpList_nil ?_
                      refine c_next ?_
                      refine wp_seq ?_
                      refine wp_region_lit ?_
                      refine wl_v _ (r_move (H.ev rfl)) ?_; refine kl H rfl fun a H => ?_
                      refine wl_v _ (r_fld (q := 0) fld27_0 (H.ev rfl) rfl) ?_; refine kl H rfl fun a H => ?_
                      refine wl_v _ (r_ld Try.underlying3 rfl (H.ev rfl) ((Block.cell k1 0).trans rfl)) ?_; refine kl H rfl fun a H => ?_
                      refine wl_call _ _ _ (step_any s op _) (r_call2 cf24 (H.ev rfl) (H.ev rfl)) ?_; rintro e w9 ⟨rfl, hb⟩; refine ⟨_, rfl, ?_⟩; rw [HF.out]; replace h := Row.up h hb; replace k1 := Block.ups k1 hb; replace r8 := Row.up r8 hb; replace hall := hall.trans (hb.mono hall.size); clear hb; refine kl H rfl fun a H => ?_
                      refine wl_v _ (r_move (H.ev rfl)) ?_; refine kl H rfl fun a H => ?_
                      refine wl_v _ (r_extract (v := .int .i64 (stepF s op).1) (H.ev rfl) rfl) ?_; refine kl H rfl fun a H => ?_
                      refine wl_v _ (r_extract (v := .int .i64 0) (H.ev rfl) rfl) ?_; refine kl H rfl fun a H => ?_
                      refine wl_v _ (r_assign (H.ev rfl)) ?_; refine kl H rfl fun a H => ?_
                      refine wl_v _ (r_assign (H.ev rfl)) ?_; refine kl H rfl fun a H => ?_
                      refine wpList_nil ?_
                      refine c_next ?_
                      refine wp_seq ?_
                      refine wp_region_lit ?_
                      refine wl_v _ (r_move (H.ev rfl)) ?_; refine kl H rfl fun a H => ?_
                      refine wl_v _ (r_move (H.ev rfl)) ?_; refine kl H rfl fun a H => ?_
                      refine op_unguard _ _ (kg_yes rfl H rfl rfl rfl) ?_; refine wl_v _ (r_move (H.ev rfl)) ?_; refine kl H rfl fun a H => ?_
                      refine op_unguard _ _ (kg_yes rfl H rfl rfl rfl) ?_; refine wl_v _ (r_ne Try.underlying28 (H.ev rfl) evc (dec_t (by omega))) ?_; refine kl H rfl fun a H => ?_
                      refine wl_v _ (r_pick_t (H.ev rfl) (H.ev rfl)) ?_; refine kl H rfl fun a H => ?_
                      refine wl_v _ (r_move (H.ev rfl)) ?_; refine kl H rfl fun a H => ?_
                      refine op_unguard _ _ (kg_yes rfl H rfl rfl rfl) ?_; refine wl_v _ (r_move (H.ev rfl)) ?_; refine kl H rfl fun a H => ?_
                      refine op_unguard _ _ (kg_yes rfl H rfl rfl rfl) ?_; refine wl_v _ (r_eq Try.underlying28 (H.ev rfl) evc (dec_t (by omega))) ?_; refine kl H rfl fun a H => ?_
                      refine op_unguard _ _ (kg_yes rfl H rfl rfl rfl) ?_; refine wl_v _ (r_move (H.ev rfl)) ?_; refine kl H rfl fun a H => ?_
                      refine wl_s (kg_no rfl H rfl rfl rfl) ?_; refine kl H rfl fun a H => ?_
                      refine wl_s (kg_no rfl H rfl rfl rfl) ?_; refine kl H rfl fun a H => ?_
                      refine wl_s (kg_no rfl H rfl rfl rfl) ?_; refine kl H rfl fun a H => ?_
                      refine op_unguard _ _ (kg_yes rfl H rfl rfl rfl) ?_; refine wl_v _ (r_pick_t (H.ev rfl) evc) ?_; refine kl H rfl fun a H => ?_
                      refine wl_v _ (r_pick_t (H.ev rfl) (H.ev rfl)) ?_; refine kl H rfl fun a H => ?_
                      refine wl_v _ (r_move (H.ev rfl)) ?_; refine kl H rfl fun a H => ?_
                      refine op_unguard _ _ (kg_yes rfl H rfl rfl rfl) ?_; refine wl_v _ (r_move (H.ev rfl)) ?_; refine kl H rfl fun a H => ?_
                      refine op_unguard _ _ (kg_yes rfl H rfl rfl rfl) ?_; refine wl_v _ (r_ne Try.underlying28 (H.ev rfl) evc (dec_f (by omega))) ?_; refine kl H rfl fun a H => ?_
                      refine op_unguard _ _ (kg_yes rfl H rfl rfl rfl) ?_; refine wl_v _ (r_move (H.ev rfl)) ?_; refine kl H rfl fun a H => ?_
                      refine op_unguard _ _ (kg_yes rfl H rfl rfl rfl) ?_; refine wl_v _ (r_move (H.ev rfl)) ?_; refine kl H rfl fun a H => ?_
                      refine op_unguard _ _ (kg_yes rfl H rfl rfl rfl) ?_; refine wl_v _ (r_eq Try.underlying28 (H.ev rfl) evc (dec_t (by omega))) ?_; refine kl H rfl fun a H => ?_
                      refine op_unguard _ _ (kg_yes rfl H rfl rfl rfl) ?_; refine wl_v _ (r_pick_f (H.ev rfl) (H.ev rfl)) ?_; refine kl H rfl fun a H => ?_
                      refine op_unguard _ _ (kg_yes rfl H rfl rfl rfl) ?_; refine wl_v _ (r_move (H.ev rfl)) ?_; refine kl H rfl fun a H => ?_
                      refine wl_s (kg_no rfl H rfl rfl rfl) ?_; refine kl H rfl fun a H => ?_
                      refine wl_s (kg_no rfl H rfl rfl rfl) ?_; refine kl H rfl fun a H => ?_
                      refine wl_s (kg_no rfl H rfl rfl rfl) ?_; refine kl H rfl fun a H => ?_
                      refine wl_s (kg_un rfl H rfl rfl rfl) ?_; refine kl H rfl fun a H => ?_
                      refine wl_s (kg_un rfl H rfl rfl rfl) ?_; refine kl H rfl fun a H => ?_
                      refine wl_s (kg_no rfl H rfl rfl rfl) ?_; refine kl H rfl fun a H => ?_
                      refine op_unguard _ _ (kg_yes rfl H rfl rfl rfl) ?_; refine wl_v _ (r_pick_t (H.ev rfl) evc) ?_; refine kl H rfl fun a H => ?_
                      refine wl_v _ (r_pick_t (H.ev rfl) (H.ev rfl)) ?_; refine kl H rfl fun a H => ?_
                      refine wl_v _ (r_assign (H.ev rfl)) ?_; refine kl H rfl fun a H => ?_
                      refine wpList_nil ?_
                      refine c_next ?_
                      refine wp_ret ?_
                      exact k_ret1 H rfl rfl ⟨rfl, hall⟩
                  · skip
                    have HF := Lib.hid hf
                    have HE := Lib.hid he
                    clear hf he
                    cases mi
                    · skip
                      refine wp_region_lit ?_
                      refine wl_v _ (r_move (H.ev rfl)) ?_; refine kl H rfl fun a H => ?_
                      refine wl_v _ (r_fld (q := 0) fld27_0 (H.ev rfl) rfl) ?_; refine kl H rfl fun a H => ?_
                      refine wl_v _ (r_ld Try.underlying3 rfl (H.ev rfl) ((Block.cell k1 0).trans rfl)) ?_; refine kl H rfl fun a H => ?_
                      refine wl_v _ (r_fld (q := 1) fld27_1 (H.ev rfl) rfl) ?_; refine kl H rfl fun a H => ?_
                      refine wl_v _ (r_ld Try.underlying3 rfl (H.ev rfl) ((Block.cell k1 1).trans rfl)) ?_; refine kl H rfl fun a H => ?_
                      refine wl_v _ (r_fld (q := 2) fld27_2 (H.ev rfl) rfl) ?_; refine kl H rfl fun a H => ?_
                      refine wl_v _ (r_ld Try.underlying3 rfl (H.ev rfl) ((Block.cell k1 2).trans rfl)) ?_; refine kl H rfl fun a H => ?_
                      refine wl_call _ _ _ (do_any _ _ L op who peer h (by omega) HR.out) (r_call4 cf13 (H.ev rfl) (H.ev rfl) (H.ev rfl) (H.ev rfl)) ?_; rintro e w9 ⟨⟨v8, rfl, hown⟩, hb⟩; refine ⟨_, rfl, ?_⟩; rw [HE.out]; replace h := Row.up h hb; replace k1 := Block.ups k1 hb; replace hall := hall.trans (hb.mono hall.size); clear hb; have r8 := TOwn.row hown; clear hown; refine kl H rfl fun a H => ?_
                      refine wl_v _ (r_move (H.ev rfl)) ?_; refine kl H rfl fun a H => ?_
                      refine wl_v _ (r_extract (v := v8) (H.ev rfl) rfl) ?_; refine kl H rfl fun a H => ?_
                      refine wl_v _ (r_extract (v := .int .i64 7) (H.ev rfl) rfl) ?_; refine kl H rfl fun a H => ?_
                      refine wl_v _ (r_assign (H.ev rfl)) ?_; refine kl H rfl fun a H => ?_
                      refine wl_v _ (r_assign (H.ev rfl)) ?_; refine kl H rfl fun a H => ?_
                      refine wpList_nil ?_
                      refine c_next ?_
                      refine wp_seq ?_
                      refine wp_seq ?_
                      refine wp_region_lit ?_
                      refine wl_v _ (r_move (H.ev rfl)) ?_; refine kl H rfl fun a H => ?_
                      refine wpList_nil ?_
                      refine c_next ?_
                      refine c_cond_f H rfl ?_
                      refine wp_skip ?_
                      refine c_next ?_
                      refine wp_seq ?_
                      refine wp_region_lit ?_
                      refine wl_v _ (r_move (H.ev rfl)) ?_; refine kl H rfl fun a H => ?_
                      refine wl_v _ (r_fld (q := 2) fld27_2 (H.ev rfl) rfl) ?_; refine kl H rfl fun a H => ?_
                      refine wl_v _ (r_ld Try.underlying3 rfl (H.ev rfl) ((Block.cell k1 2).trans rfl)) ?_; refine kl H rfl fun a H => ?_
                      refine wl_v _ (r_fld (q := 1) fld27_1 (H.ev rfl) rfl) ?_; refine kl H rfl fun a H => ?_
                      refine wl_v _ (r_ld Try.underlying3 rfl (H.ev rfl) ((Block.cell k1 1).trans rfl)) ?_; refine kl H rfl fun a H => ?_
                      refine wl_call _ _ _ (state_any _ _ L peer who h (by omega) HR.out.1) (r_call3 cf16 (H.ev rfl) (H.ev rfl) (H.ev rfl)) ?_; rintro e w9 ⟨rfl, hb⟩; refine ⟨_, rfl, ?_⟩; rw [show stF L peer who = s from HS.out]; replace h := Row.up h hb; replace k1 := Block.ups k1 hb; replace r8 := Row.up r8 hb; replace hall := hall.trans (hb.mono hall.size); clear hb; refine kl H rfl fun a H => ?_
                      refine wl_v _ (r_assign (H.ev rfl)) ?_; refine kl H rfl fun a H => ?_
                      refine wpList_nil ?_
                      refine c_next ?_
                      refine wp_seq ?_
                      refine wp_seq ?_
                      refine wp_region_lit ?_
                      refine wl_v _ (r_fld (q := 0) fld27_0 (H.ev rfl) rfl) ?_; refine kl H rfl fun a H => ?_
                      refine wl_v _ (r_ld Try.underlying3 rfl (H.ev rfl) ((Block.cell k1 0).trans rfl)) ?_; refine kl H rfl fun a H => ?_
                      refine wl_call _ _ _ (mine_any _ _) (r_call1 cf23 (H.ev rfl)) ?_; rintro e w9 ⟨rfl, rfl⟩; refine ⟨_, rfl, ?_⟩; rw [HMI.out]; skip; refine kl H rfl fun a H => ?_
                      refine wpList_nil ?_
                      refine c_next ?_
                      refine c_cond_f H rfl ?_
                      refine wp_skip ?_
                      refine c_next ?_
                      refine wp_seq ?_
                      refine wp_region_lit ?_
                      refine wl_v _ (r_move (H.ev rfl)) ?_; refine kl H rfl fun a H => ?_
                      refine wl_v _ (r_fld (q := 0) fld27_0 (H.ev rfl) rfl) ?_; refine kl H rfl fun a H => ?_
                      refine wl_v _ (r_ld Try.underlying3 rfl (H.ev rfl) ((Block.cell k1 0).trans rfl)) ?_; refine kl H rfl fun a H => ?_
                      refine wl_call _ _ _ (step_any s op _) (r_call2 cf24 (H.ev rfl) (H.ev rfl)) ?_; rintro e w9 ⟨rfl, hb⟩; refine ⟨_, rfl, ?_⟩; rw [HF.out]; replace h := Row.up h hb; replace k1 := Block.ups k1 hb; replace r8 := Row.up r8 hb; replace hall := hall.trans (hb.mono hall.size); clear hb; refine kl H rfl fun a H => ?_
                      refine wl_v _ (r_move (H.ev rfl)) ?_; refine kl H rfl fun a H => ?_
                      refine wl_v _ (r_extract (v := .int .i64 (stepF s op).1) (H.ev rfl) rfl) ?_; refine kl H rfl fun a H => ?_
                      refine wl_v _ (r_extract (v := .int .i64 0) (H.ev rfl) rfl) ?_; refine kl H rfl fun a H => ?_
                      refine wl_v _ (r_assign (H.ev rfl)) ?_; refine kl H rfl fun a H => ?_
                      refine wl_v _ (r_assign (H.ev rfl)) ?_; refine kl H rfl fun a H => ?_
                      refine wpList_nil ?_
                      refine c_next ?_
                      refine wp_seq ?_
                      refine wp_region_lit ?_
                      refine wl_v _ (r_move (H.ev rfl)) ?_; refine kl H rfl fun a H => ?_
                      refine wl_v _ (r_move (H.ev rfl)) ?_; refine kl H rfl fun a H => ?_
                      refine op_unguard _ _ (kg_yes rfl H rfl rfl rfl) ?_; refine wl_v _ (r_move (H.ev rfl)) ?_; refine kl H rfl fun a H => ?_
                      refine op_unguard _ _ (kg_yes rfl H rfl rfl rfl) ?_; refine wl_v _ (r_ne Try.underlying28 (H.ev rfl) evc (dec_t (by omega))) ?_; refine kl H rfl fun a H => ?_
                      refine wl_v _ (r_pick_t (H.ev rfl) (H.ev rfl)) ?_; refine kl H rfl fun a H => ?_
                      refine wl_v _ (r_move (H.ev rfl)) ?_; refine kl H rfl fun a H => ?_
                      refine op_unguard _ _ (kg_yes rfl H rfl rfl rfl) ?_; refine wl_v _ (r_move (H.ev rfl)) ?_; refine kl H rfl fun a H => ?_
                      refine op_unguard _ _ (kg_yes rfl H rfl rfl rfl) ?_; refine wl_v _ (r_eq Try.underlying28 (H.ev rfl) evc (dec_t (by omega))) ?_; refine kl H rfl fun a H => ?_
                      refine op_unguard _ _ (kg_yes rfl H rfl rfl rfl) ?_; refine wl_v _ (r_move (H.ev rfl)) ?_; refine kl H rfl fun a H => ?_
                      refine wl_s (kg_no rfl H rfl rfl rfl) ?_; refine kl H rfl fun a H => ?_
                      refine wl_s (kg_no rfl H rfl rfl rfl) ?_; refine kl H rfl fun a H => ?_
                      refine wl_s (kg_no rfl H rfl rfl rfl) ?_; refine kl H rfl fun a H => ?_
                      refine op_unguard _ _ (kg_yes rfl H rfl rfl rfl) ?_; refine wl_v _ (r_pick_t (H.ev rfl) evc) ?_; refine kl H rfl fun a H => ?_
                      refine wl_v _ (r_pick_t (H.ev rfl) (H.ev rfl)) ?_; refine kl H rfl fun a H => ?_
                      refine wl_v _ (r_move (H.ev rfl)) ?_; refine kl H rfl fun a H => ?_
                      refine op_unguard _ _ (kg_yes rfl H rfl rfl rfl) ?_; refine wl_v _ (r_move (H.ev rfl)) ?_; refine kl H rfl fun a H => ?_
                      refine op_unguard _ _ (kg_yes rfl H rfl rfl rfl) ?_; refine wl_v _ (r_ne Try.underlying28 (H.ev rfl) evc (dec_f (by omega))) ?_; refine kl H rfl fun a H => ?_
                      refine op_unguard _ _ (kg_yes rfl H rfl rfl rfl) ?_; refine wl_v _ (r_move (H.ev rfl)) ?_; refine kl H rfl fun a H => ?_
                      refine op_unguard _ _ (kg_yes rfl H rfl rfl rfl) ?_; refine wl_v _ (r_move (H.ev rfl)) ?_; refine kl H rfl fun a H => ?_
                      refine op_unguard _ _ (kg_yes rfl H rfl rfl rfl) ?_; refine wl_v _ (r_eq Try.underlying28 (H.ev rfl) evc (dec_f (by omega))) ?_; refine kl H rfl fun a H => ?_
                      refine op_unguard _ _ (kg_yes rfl H rfl rfl rfl) ?_; refine wl_v _ (r_pick_f (H.ev rfl) (H.ev rfl)) ?_; refine kl H rfl fun a H => ?_
                      refine op_unguard _ _ (kg_yes rfl H rfl rfl rfl) ?_; refine wl_v _ (r_move (H.ev rfl)) ?_; refine kl H rfl fun a H => ?_
                      refine op_unguard _ _ (kg_yes rfl H rfl rfl rfl) ?_; refine wl_v _ (r_move (H.ev rfl)) ?_; refine kl H rfl fun a H => ?_
                      refine op_unguard _ _ (kg_yes rfl H rfl rfl rfl) ?_; refine wl_v _ (r_eq Try.underlying28 (H.ev rfl) evc (dec_t (by omega))) ?_; refine kl H rfl fun a H => ?_
                      refine op_unguard _ _ (kg_yes rfl H rfl rfl rfl) ?_; refine wl_v _ (r_move (H.ev rfl)) ?_; refine kl H rfl fun a H => ?_
                      refine op_unguard _ _ (kg_yes rfl H rfl rfl rfl) ?_; refine wl_v _ (r_move (H.ev rfl)) ?_; refine kl H rfl fun a H => ?_
                      refine op_unguard _ _ (kg_yes rfl H rfl rfl rfl) ?_; refine wl_v _ (r_eq Try.underlying3 (H.ev rfl) evc (dec_t (hs0))) ?_; refine kl H rfl fun a H => ?_
                      refine op_unguard _ _ (kg_yes rfl H rfl rfl rfl) ?_; refine wl_v _ (r_pick_t (H.ev rfl) (H.ev rfl)) ?_; refine kl H rfl fun a H => ?_
                      refine op_unguard _ _ (kg_yes rfl H rfl rfl rfl) ?_; refine wl_v _ (r_pick_f (H.ev rfl) (H.ev rfl)) ?_; refine kl H rfl fun a H => ?_
                      refine wl_v _ (r_pick_t (H.ev rfl) (H.ev rfl)) ?_; refine kl H rfl fun a H => ?_
                      refine wl_v _ (r_assign (H.ev rfl)) ?_; refine kl H rfl fun a H => ?_
                      refine wpList_nil ?_
                      refine c_next ?_
                      refine wp_ret ?_
                      exact k_ret1 H rfl rfl ⟨rfl, hall⟩
                    · skip
                      refine wp_region_lit ?_
                      refine wl_v _ (r_move (H.ev rfl)) ?_; refine kl H rfl fun a H => ?_
                      refine wl_v _ (r_fld (q := 0) fld27_0 (H.ev rfl) rfl) ?_; refine kl H rfl fun a H => ?_
                      refine wl_v _ (r_ld Try.underlying3 rfl (H.ev rfl) ((Block.cell k1 0).trans rfl)) ?_; refine kl H rfl fun a H => ?_
                      refine wl_v _ (r_fld (q := 1) fld27_1 (H.ev rfl) rfl) ?_; refine kl H rfl fun a H => ?_
                      refine wl_v _ (r_ld Try.underlying3 rfl (H.ev rfl) ((Block.cell k1 1).trans rfl)) ?_; refine kl H rfl fun a H => ?_
                      refine wl_v _ (r_fld (q := 2) fld27_2 (H.ev rfl) rfl) ?_; refine kl H rfl fun a H => ?_
                      refine wl_v _ (r_ld Try.underlying3 rfl (H.ev rfl) ((Block.cell k1 2).trans rfl)) ?_; refine kl H rfl fun a H => ?_
                      refine wl_call _ _ _ (do_any _ _ L op who peer h (by omega) HR.out) (r_call4 cf13 (H.ev rfl) (H.ev rfl) (H.ev rfl) (H.ev rfl)) ?_; rintro e w9 ⟨⟨v8, rfl, hown⟩, hb⟩; refine ⟨_, rfl, ?_⟩; rw [HE.out]; replace h := Row.up h hb; replace k1 := Block.ups k1 hb; replace hall := hall.trans (hb.mono hall.size); clear hb; have r8 := TOwn.row hown; clear hown; refine kl H rfl fun a H => ?_
                      refine wl_v _ (r_move (H.ev rfl)) ?_; refine kl H rfl fun a H => ?_
                      refine wl_v _ (r_extract (v := v8) (H.ev rfl) rfl) ?_; refine kl H rfl fun a H => ?_
                      refine wl_v _ (r_extract (v := .int .i64 7) (H.ev rfl) rfl) ?_; refine kl H rfl fun a H => ?_
                      refine wl_v _ (r_assign (H.ev rfl)) ?_; refine kl H rfl fun a H => ?_
                      refine wl_v _ (r_assign (H.ev rfl)) ?_; refine kl H rfl fun a H => ?_
                      refine wpList_nil ?_
                      refine c_next ?_
                      refine wp_seq ?_
                      refine wp_seq ?_
                      refine wp_region_lit ?_
                      refine wl_v _ (r_move (H.ev rfl)) ?_; refine kl H rfl fun a H => ?_
                      refine wpList_nil ?_
                      refine c_next ?_
                      refine c_cond_f H rfl ?_
                      refine wp_skip ?_
                      refine c_next ?_
                      refine wp_seq ?_
                      refine wp_region_lit ?_
                      refine wl_v _ (r_move (H.ev rfl)) ?_; refine kl H rfl fun a H => ?_
                      refine wl_v _ (r_fld (q := 2) fld27_2 (H.ev rfl) rfl) ?_; refine kl H rfl fun a H => ?_
                      refine wl_v _ (r_ld Try.underlying3 rfl (H.ev rfl) ((Block.cell k1 2).trans rfl)) ?_; refine kl H rfl fun a H => ?_
                      refine wl_v _ (r_fld (q := 1) fld27_1 (H.ev rfl) rfl) ?_; refine kl H rfl fun a H => ?_
                      refine wl_v _ (r_ld Try.underlying3 rfl (H.ev rfl) ((Block.cell k1 1).trans rfl)) ?_; refine kl H rfl fun a H => ?_
                      refine wl_call _ _ _ (state_any _ _ L peer who h (by omega) HR.out.1) (r_call3 cf16 (H.ev rfl) (H.ev rfl) (H.ev rfl)) ?_; rintro e w9 ⟨rfl, hb⟩; refine ⟨_, rfl, ?_⟩; replace h := Row.up h hb; replace k1 := Block.ups k1 hb; replace r8 := Row.up r8 hb; replace hall := hall.trans (hb.mono hall.size); clear hb; refine kl H rfl fun a H => ?_
                      refine wl_v _ (r_assign (H.ev rfl)) ?_; refine kl H rfl fun a H => ?_
                      refine wpList_nil ?_
                      refine c_next ?_
                      refine wp_seq ?_
                      refine wp_seq ?_
                      refine wp_region_lit ?_
                      refine wl_v _ (r_fld (q := 0) fld27_0 (H.ev rfl) rfl) ?_; refine kl H rfl fun a H => ?_
                      refine wl_v _ (r_ld Try.underlying3 rfl (H.ev rfl) ((Block.cell k1 0).trans rfl)) ?_; refine kl H rfl fun a H => ?_
                      refine wl_call _ _ _ (mine_any _ _) (r_call1 cf23 (H.ev rfl)) ?_; rintro e w9 ⟨rfl, rfl⟩; refine ⟨_, rfl, ?_⟩; rw [HMI.out]; skip; refine kl H rfl fun a H => ?_
                      refine wpList_nil ?_
                      refine c_next ?_
                      refine c_cond_t H rfl ?_
                      refine wp_region_lit ?_
                      refine wl_v _ (r_move (H.ev rfl)) ?_; refine kl H rfl fun a H => ?_
                      refine wl_v _ (r_fld (q := 1) fld27_1 (H.ev rfl) rfl) ?_; refine kl H rfl fun a H => ?_
                      refine wl_v _ (r_ld Try.underlying3 rfl (H.ev rfl) ((Block.cell k1 1).trans rfl)) ?_; refine kl H rfl fun a H => ?_
                      refine wl_v _ (r_fld (q := 2) fld27_2 (H.ev rfl) rfl) ?_; refine kl H rfl fun a H => ?_
                      refine wl_v _ (r_ld Try.underlying3 rfl (H.ev rfl) ((Block.cell k1 2).trans rfl)) ?_; refine kl H rfl fun a H => ?_
                      refine wl_call _ _ _ (state_any _ _ L who peer h (by omega) HR.out.1) (r_call3 cf16 (H.ev rfl) (H.ev rfl) (H.ev rfl)) ?_; rintro e w9 ⟨rfl, hb⟩; refine ⟨_, rfl, ?_⟩; rw [show stF L who peer = s from HS.out]; replace h := Row.up h hb; replace k1 := Block.ups k1 hb; replace r8 := Row.up r8 hb; replace hall := hall.trans (hb.mono hall.size); clear hb; refine kl H rfl fun a H => ?_
                      refine wl_v _ (r_assign (H.ev rfl)) ?_; refine kl H rfl fun a H => ?_
                      refine wpList_nil ?_
                      refine c_next ?_
                      refine wp_seq ?_
                      refine wp_region_lit ?_
                      refine wl_v _ (r_move (H.ev rfl)) ?_; refine kl H rfl fun a H => ?_
                      refine wl_v _ (r_fld (q := 0) fld27_0 (H.ev rfl) rfl) ?_; refine kl H rfl fun a H => ?_
                      refine wl_v _ (r_ld Try.underlying3 rfl (H.ev rfl) ((Block.cell k1 0).trans rfl)) ?_; refine kl H rfl fun a H => ?_
                      refine wl_call _ _ _ (step_any s op _) (r_call2 cf24 (H.ev rfl) (H.ev rfl)) ?_; rintro e w9 ⟨rfl, hb⟩; refine ⟨_, rfl, ?_⟩; rw [HF.out]; replace h := Row.up h hb; replace k1 := Block.ups k1 hb; replace r8 := Row.up r8 hb; replace hall := hall.trans (hb.mono hall.size); clear hb; refine kl H rfl fun a H => ?_
                      refine wl_v _ (r_move (H.ev rfl)) ?_; refine kl H rfl fun a H => ?_
                      refine wl_v _ (r_extract (v := .int .i64 (stepF s op).1) (H.ev rfl) rfl) ?_; refine kl H rfl fun a H => ?_
                      refine wl_v _ (r_extract (v := .int .i64 0) (H.ev rfl) rfl) ?_; refine kl H rfl fun a H => ?_
                      refine wl_v _ (r_assign (H.ev rfl)) ?_; refine kl H rfl fun a H => ?_
                      refine wl_v _ (r_assign (H.ev rfl)) ?_; refine kl H rfl fun a H => ?_
                      refine wpList_nil ?_
                      refine c_next ?_
                      refine wp_seq ?_
                      refine wp_region_lit ?_
                      refine wl_v _ (r_move (H.ev rfl)) ?_; refine kl H rfl fun a H => ?_
                      refine wl_v _ (r_move (H.ev rfl)) ?_; refine kl H rfl fun a H => ?_
                      refine op_unguard _ _ (kg_yes rfl H rfl rfl rfl) ?_; refine wl_v _ (r_move (H.ev rfl)) ?_; refine kl H rfl fun a H => ?_
                      refine op_unguard _ _ (kg_yes rfl H rfl rfl rfl) ?_; refine wl_v _ (r_ne Try.underlying28 (H.ev rfl) evc (dec_t (by omega))) ?_; refine kl H rfl fun a H => ?_
                      refine wl_v _ (r_pick_t (H.ev rfl) (H.ev rfl)) ?_; refine kl H rfl fun a H => ?_
                      refine wl_v _ (r_move (H.ev rfl)) ?_; refine kl H rfl fun a H => ?_
                      refine op_unguard _ _ (kg_yes rfl H rfl rfl rfl) ?_; refine wl_v _ (r_move (H.ev rfl)) ?_; refine kl H rfl fun a H => ?_
                      refine op_unguard _ _ (kg_yes rfl H rfl rfl rfl) ?_; refine wl_v _ (r_eq Try.underlying28 (H.ev rfl) evc (dec_t (by omega))) ?_; refine kl H rfl fun a H => ?_
                      refine op_unguard _ _ (kg_yes rfl H rfl rfl rfl) ?_; refine wl_v _ (r_move (H.ev rfl)) ?_; refine kl H rfl fun a H => ?_
                      refine wl_s (kg_no rfl H rfl rfl rfl) ?_; refine kl H rfl fun a H => ?_
                      refine wl_s (kg_no rfl H rfl rfl rfl) ?_; refine kl H rfl fun a H => ?_
                      refine wl_s (kg_no rfl H rfl rfl rfl) ?_; refine kl H rfl fun a H => ?_
                      refine op_unguard _ _ (kg_yes rfl H rfl rfl rfl) ?_; refine wl_v _ (r_pick_t (H.ev rfl) evc) ?_; refine kl H rfl fun a H => ?_
                      refine wl_v _ (r_pick_t (H.ev rfl) (H.ev rfl)) ?_; refine kl H rfl fun a H => ?_
                      refine wl_v _ (r_move (H.ev rfl)) ?_; refine kl H rfl fun a H => ?_
                      refine op_unguard _ _ (kg_yes rfl H rfl rfl rfl) ?_; refine wl_v _ (r_move (H.ev rfl)) ?_; refine kl H rfl fun a H => ?_
                      refine op_unguard _ _ (kg_yes rfl H rfl rfl rfl) ?_; refine wl_v _ (r_ne Try.underlying28 (H.ev rfl) evc (dec_f (by omega))) ?_; refine kl H rfl fun a H => ?_
                      refine op_unguard _ _ (kg_yes rfl H rfl rfl rfl) ?_; refine wl_v _ (r_move (H.ev rfl)) ?_; refine kl H rfl fun a H => ?_
                      refine op_unguard _ _ (kg_yes rfl H rfl rfl rfl) ?_; refine wl_v _ (r_move (H.ev rfl)) ?_; refine kl H rfl fun a H => ?_
                      refine op_unguard _ _ (kg_yes rfl H rfl rfl rfl) ?_; refine wl_v _ (r_eq Try.underlying28 (H.ev rfl) evc (dec_f (by omega))) ?_; refine kl H rfl fun a H => ?_
                      refine op_unguard _ _ (kg_yes rfl H rfl rfl rfl) ?_; refine wl_v _ (r_pick_f (H.ev rfl) (H.ev rfl)) ?_; refine kl H rfl fun a H => ?_
                      refine op_unguard _ _ (kg_yes rfl H rfl rfl rfl) ?_; refine wl_v _ (r_move (H.ev rfl)) ?_; refine kl H rfl fun a H => ?_
                      refine op_unguard _ _ (kg_yes rfl H rfl rfl rfl) ?_; refine wl_v _ (r_move (H.ev rfl)) ?_; refine kl H rfl fun a H => ?_
                      refine op_unguard _ _ (kg_yes rfl H rfl rfl rfl) ?_; refine wl_v _ (r_eq Try.underlying28 (H.ev rfl) evc (dec_t (by omega))) ?_; refine kl H rfl fun a H => ?_
                      refine op_unguard _ _ (kg_yes rfl H rfl rfl rfl) ?_; refine wl_v _ (r_move (H.ev rfl)) ?_; refine kl H rfl fun a H => ?_
                      refine op_unguard _ _ (kg_yes rfl H rfl rfl rfl) ?_; refine wl_v _ (r_move (H.ev rfl)) ?_; refine kl H rfl fun a H => ?_
                      refine op_unguard _ _ (kg_yes rfl H rfl rfl rfl) ?_; refine wl_v _ (r_eq Try.underlying3 (H.ev rfl) evc (dec_t (hs0))) ?_; refine kl H rfl fun a H => ?_
                      refine op_unguard _ _ (kg_yes rfl H rfl rfl rfl) ?_; refine wl_v _ (r_pick_t (H.ev rfl) (H.ev rfl)) ?_; refine kl H rfl fun a H => ?_
                      refine op_unguard _ _ (kg_yes rfl H rfl rfl rfl) ?_; refine wl_v _ (r_pick_f (H.ev rfl) (H.ev rfl)) ?_; refine kl H rfl fun a H => ?_
                      refine wl_v _ (r_pick_t (H.ev rfl) (H.ev rfl)) ?_; refine kl H rfl fun a H => ?_
                      refine wl_v _ (r_assign (H.ev rfl)) ?_; refine kl H rfl fun a H => ?_
                      refine wpList_nil ?_
                      refine c_next ?_
                      refine wp_ret ?_
                      exact k_ret1 H rfl rfl ⟨rfl, hall⟩
theorem args_all (w : World) (A : Option Addr) (n c : Nat) (B : List Int) (B1 : List Int) (hB : B.length = n * 3) (hw : WF B) (hnc : n ≤ c) (hc : c ≤ maxLen) (hh : Holds w A (B.map (Value.int .i64))) (hz : A = none → c = 0) (hn : n ≤ 9223372036854775807) (hB1 : B1.length = 3) :
    Calls Try.prog 9 #[.slice A n c, .agg (ints B1)] w fun e w' => e = .returned (.bool true) ∧ Below w.heap.size w w' := by
  obtain ⟨L, h, rfl, hwf⟩ := row_in hB hw hnc hc hh hz
  obtain ⟨op, who, peer, rfl⟩ := act_in hB1
  exact args_walk w _ L op who peer h hn hwf
theorem rosterArgs_it0 : intTy Try.prog 3 37 = true := by kernel_rfl
theorem rosterArgs_c0 : Try.prog.cellsOf 37 = 3 := by kernel_rfl
theorem rosterArgs_it1 : intTy Try.prog 3 27 = true := by kernel_rfl
theorem rosterArgs_c1 : Try.prog.cellsOf 27 = 3 := by kernel_rfl
set_option maxRecDepth 100000 in
theorem rosterArgs_lifted (os : Os) (started : os.Started) (H : Type) (enc : TypeId × Value → H) :
    ReturnsInHanded {} Try.checked os 9 .any (Rows.rosterArgsSpec.pre6 enc Try.prog Try.f9 Rows.rosterArgsRow.domain false) (Rows.rosterArgsSpec.post enc Try.prog Try.f9 false true false false) := by
  refine returnsInHanded_of_change (C := Try.checked) own started (by kernel_rfl) Try.func9
    (ChangeSpec.witness6 (enc := enc) (C := Try.checked) false ⟨#[], #[.slice none 0 0, .agg (ints (List.replicate 3 0))], []⟩ 8 (by kernel_rfl) (by kernel_rfl) (by kernel_rfl) (by kernel_rfl)) ?_
  intro W base args ds gs before hval0 hW hcnd _
  have hval : ∀ (j : Nat) t v, Try.f9.params[j]? = some t → args[j]? = some v → Value.okWide Try.prog W .any base t v := hval0
  have hW' := hW
  obtain ⟨p, q, hA0, hV, rfl, hfz, hnd⟩ := hW
  have hA : DataW.TrodAll enc Try.prog W 0 (fun _ => true) true Try.f9.params.toList args.toList ds p := hA0
  rw [Try.params9] at hA hval
  obtain ⟨v0, vs0, d0, ds0, p0, q0, hargs, rfl, rfl, h0, r0⟩ := trodAll_cons hA
  obtain ⟨v1, vs1, d1, ds1, p1, q1, rfl, rfl, rfl, h1, r1⟩ := trodAll_cons r0
  obtain ⟨rfl, rfl, rfl⟩ := trodAll_nil r1
  obtain rfl : args = #[v0, v1] := by cases args; simp_all
  obtain ⟨rfl, rfl⟩ := trodVars_none hV
  have k0 := h0
  have lt0 : ∀ x ∈ p0, x.block < W.heap.size := by obtain ⟨m, hm⟩ := k0; exact DataW.trod_lt m _ _ _ hm
  have k1 := h1
  have lt1 : ∀ x ∈ p1, x.block < W.heap.size := by obtain ⟨m, hm⟩ := k1; exact DataW.trod_lt m _ _ _ hm
  obtain ⟨A0, n0, c0, L0, rfl, hn0, hw0, hnc0, hcm0, hh0, hz0⟩ := open_slice_ints 3 3 Try.underlying22 rosterArgs_it0 rosterArgs_c0 (by omega) (hval 0 22 v0 rfl rfl) h0
  have hb0 : n0 ≤ 9223372036854775807 := by unfold maxLen at hcm0; omega
  obtain ⟨B1, rfl, hB1, hw1⟩ := open_agg_ints 3 3 rosterArgs_it1 (by rw [Try.underlying27]) rosterArgs_c1 (hval 1 27 v1 rfl rfl) h1
  clear hA0 hval0
  refine (args_all W A0 n0 c0 L0 B1 hn0 hw0 hnc0 hcm0 hh0 hz0 (by omega) hB1).mono fun e W' ⟨he, bel⟩ => ?_
  subst he
  exact ⟨_, rfl, _, _, _, [], _, [], hW', trodAll_mk1 (shut_bool Try.underlying4 _), (trodAll_cons_mk (Below.trod laidOut (by kernel_rfl) (of_decide_eq_true (by kernel_rfl)) k0 bel lt0) (trodAll_cons_mk (Below.trod laidOut (by kernel_rfl) (of_decide_eq_true (by kernel_rfl)) k1 bel lt1) trodAll_mk0)), rfl, bel.frame _, fun h => by cases h⟩

theorem rosterArgs_holds : Rows.RosterArgsSaid :=
  OpenClaim.holds_of_wide 9 Try.f9 rfl rfl rfl rfl rfl rfl rfl ⟨rfl, rfl, rfl, rfl, rfl⟩ rfl rfl rfl rfl rfl (by kernel_rfl) Try.func9 (by kernel_rfl)
    (of_decide_eq_true (by kernel_rfl)) (by unfold Func.isWrapper; first | (rw [if_pos (by decide +kernel)]; kernel_rfl) | (rw [if_neg (by decide +kernel)]; exact ⟨rfl, rfl⟩))
    (fun os started H enc _ => rosterArgs_lifted os started H enc)
#print axioms rosterArgs_holds
end Go.Proofs.Ytfehhenbdiageaa
