/- Fanout: FanoutWaits, proved: who is not ready keeps its marks, however often others are told. -/
import Derived.Test.YtpegfbdepgmbjaaPl
namespace Go.Proofs.Ytpegfbdepgmbjaa
open Go.RowKit Go.ChangeShapes Go.WideShapes Go.ChangeAt Go.Maps
set_option linter.unusedVariables false
set_option linter.unusedSimpArgs false

theorem ids_nil {M : List Mk} : idsF M [] = [] := by
  unfold idsF
  simp
def Wt1 (W : World) (b0 : Nat) (t s n : Int) (A : Option Addr) (c : Nat) (L : List Mk) (Ar : Option Addr) (cr : Nat) (R : List Int) (a : Act) (w : World) : Prop :=
  ∃ k : Nat, Kn a 112 [(1, .int .i64 s), (2, .slice Ar R.length cr), (3, .int .i64 n), (4, .pointer (some ⟨b0, 0, none⟩)), (9, .bool true), (10, .int .i64 (k : Nat))] ∧ k ≤ R.length ∧ NoI R s k ∧ Block w b0 24 #[.slice A L.length c, .int .i64 t] ∧ Below W.heap.size W w
def Wt2 (W : World) (b0 : Nat) (s n nd : Int) (L : List Mk) (Ar : Option Addr) (cr : Nat) (R : List Int) (a : Act) (w : World) : Prop :=
  ∃ (i : Nat) (M : List Mk) (tm : Int) (A3 : Option Addr) (c3 : Nat), Kn a 112 [(1, .int .i64 s), (2, .slice Ar R.length cr), (3, .int .i64 n), (4, .pointer (some ⟨b0, 0, none⟩)), (9, .bool true), (12, .int .i64 nd), (13, .int .i64 (i : Nat))] ∧ (i : Int) ≤ n ∧ M.length ≤ L.length ∧ (∀ y ∈ M, MWF y) ∧ (-9223372036854775808 ≤ tm ∧ tm ≤ 9223372036854775807) ∧
    ((M.length : Nat) : Int) - (((keepF (fun y => decide (y.1 = s)) M).length : Nat) : Int) = nd ∧ FRow w b0 A3 M c3 ∧ Block w b0 24 #[.slice A3 M.length c3, .int .i64 tm] ∧ Below W.heap.size W w
set_option maxHeartbeats 8000000 in
theorem waits_walk (w : World) (t s n : Int) (v vr : Value) (L : List Mk) (R : List Int) (h0 : MRow w v L) (hR0 : IRow w vr R) (hn : L.length ≤ 9223372036854775807) (hRn : R.length ≤ 9223372036854775807) (hw : ∀ y ∈ L, MWF y) (ht : -9223372036854775808 ≤ t ∧ t ≤ 9223372036854775807) :
    Calls Try.prog 6 #[.agg #[v, .int .i64 t], .int .i64 s, vr, .int .i64 n] w fun e w' => e = .returned (.bool true) ∧ Below w.heap.size w w' := by
  obtain ⟨A, c, rfl, h1, h2, h3, hh⟩ := h0
  have h : Hid (MRow w (.slice A L.length c) L) := Lib.hid ⟨A, c, rfl, h1, h2, h3, hh⟩
  clear hh
  obtain ⟨Ar, cr, rfl, r1, r2, r3, rr⟩ := hR0
  have hR : Hid (IRow w (.slice Ar R.length cr) R) := Lib.hid ⟨Ar, cr, rfl, r1, r2, r3, rr⟩
  clear rr
  replace hw := Lib.hid hw
  have hall := Below.refl w.heap.size w
  cases hrt : rightF L
  · skip
    refine K_enter 112 Try.func6 rfl rfl fun a H => ?_
    replace H := H.pick [0, 1, 2, 3]
    refine wp_seq ?_
    refine wp_region_lit ?_
    refine op_box 24 _ #[.slice A L.length c, .int .i64 t] (H.ev rfl) fun w0 b0 hge hb k0 => ?_; have g0 := Nat.le_trans hall.size hge; replace hall := hall.trans (hb.mono hall.size); clear hb; clear hge; refine kl H rfl fun a H => ?_
    refine wl_v _ (r_assign evc) ?_; refine kl H rfl fun a H => ?_
    refine wpList_nil ?_
    refine c_next ?_
    refine wp_seq ?_
    refine wp_region_lit ?_
    refine wl_call _ _ _ (small_any _) (r_call0 cf7) ?_; rintro e w9 ⟨rfl, hb⟩; refine ⟨_, rfl, ?_⟩; replace k0 := Block.ups k0 hb; replace hall := hall.trans (hb.mono hall.size); clear hb; refine kl H rfl fun a H => ?_
    refine wl_v _ (r_assign (H.ev rfl)) ?_; refine kl H rfl fun a H => ?_
    refine wpList_nil ?_
    refine c_next ?_
    refine wp_seq ?_
    refine wp_seq ?_
    refine wp_region_lit ?_
    refine wl_v _ (r_fld (q := 0) fld24_0 (H.ev rfl) rfl) ?_; refine kl H rfl fun a H => ?_
    refine wl_v _ (r_ld Try.underlying22 rfl (H.ev rfl) ((Block.cell k0 0).trans rfl)) ?_; refine kl H rfl fun a H => ?_
    refine wl_v _ (r_len Try.underlying22 (H.ev rfl)) ?_; refine kl H rfl fun a H => ?_
    by_cases hcc0 : ((L.length : Nat) : Int) > 100
    · skip
      refine wl_v _ (r_gt Try.underlying3 (H.ev rfl) evc (dec_t (hcc0))) ?_; refine kl H rfl fun a H => ?_
      refine wl_v _ (r_move (H.ev rfl)) ?_; refine kl H rfl fun a H => ?_
      refine wl_s (kg_no rfl H rfl rfl rfl) ?_; refine kl H rfl fun a H => ?_
      refine wl_s (kg_no rfl H rfl rfl rfl) ?_; refine kl H rfl fun a H => ?_
      refine wl_s (kg_no rfl H rfl rfl rfl) ?_; refine kl H rfl fun a H => ?_
      refine wl_v _ (r_pick_t (H.ev rfl) evc) ?_; refine kl H rfl fun a H => ?_
      refine wl_v _ (r_move (H.ev rfl)) ?_; refine kl H rfl fun a H => ?_
      refine wl_s (kg_no rfl H rfl rfl rfl) ?_; refine kl H rfl fun a H => ?_
      refine wl_s (kg_no rfl H rfl rfl rfl) ?_; refine kl H rfl fun a H => ?_
      refine wl_v _ (r_pick_t (H.ev rfl) evc) ?_; refine kl H rfl fun a H => ?_
      refine wl_v _ (r_move (H.ev rfl)) ?_; refine kl H rfl fun a H => ?_
      refine wl_s (kg_no rfl H rfl rfl rfl) ?_; refine kl H rfl fun a H => ?_
      refine wl_s (kg_no rfl H rfl rfl rfl) ?_; refine kl H rfl fun a H => ?_
      refine wl_v _ (r_pick_t (H.ev rfl) evc) ?_; refine kl H rfl fun a H => ?_
      refine wl_v _ (r_move (H.ev rfl)) ?_; refine kl H rfl fun a H => ?_
      refine wl_s (kg_no rfl H rfl rfl rfl) ?_; refine kl H rfl fun a H => ?_
      refine wl_s (kg_no rfl H rfl rfl rfl) ?_; refine kl H rfl fun a H => ?_
      refine wl_s (kg_no rfl H rfl rfl rfl) ?_; refine kl H rfl fun a H => ?_
      refine wl_v _ (r_pick_t (H.ev rfl) evc) ?_; refine kl H rfl fun a H => ?_
      refine wpList_nil ?_
      refine c_next ?_
      refine c_cond_t H rfl ?_
      refine wp_seq ?_
      refine wp_region_lit ?_
      refine wl_v _ (r_move (H.ev rfl)) ?_; refine kl H rfl fun a H => ?_
      refine wl_v _ (r_assign (H.ev rfl)) ?_; refine kl H rfl fun a H => ?_
      refine wpList_nil ?_
      refine c_next ?_
      refine wp_ret ?_
      refine r_then ?_
      exact k_ret1 H rfl rfl ⟨rfl, hall⟩
    · skip
      refine wl_v _ (r_gt Try.underlying3 (H.ev rfl) evc (dec_f (hcc0))) ?_; refine kl H rfl fun a H => ?_
      refine wl_v _ (r_move (H.ev rfl)) ?_; refine kl H rfl fun a H => ?_
      refine op_unguard _ _ (kg_yes rfl H rfl rfl rfl) ?_; refine wl_v _ (r_move (H.ev rfl)) ?_; refine kl H rfl fun a H => ?_
      refine op_unguard _ _ (kg_yes rfl H rfl rfl rfl) ?_; refine wl_v _ (r_len Try.underlying25 (H.ev rfl)) ?_; refine kl H rfl fun a H => ?_
      by_cases hcc1 : ((R.length : Nat) : Int) > 50
      · skip
        refine op_unguard _ _ (kg_yes rfl H rfl rfl rfl) ?_; refine wl_v _ (r_gt Try.underlying3 (H.ev rfl) evc (dec_t (hcc1))) ?_; refine kl H rfl fun a H => ?_
        refine wl_v _ (r_pick_f (H.ev rfl) (H.ev rfl)) ?_; refine kl H rfl fun a H => ?_
        refine wl_v _ (r_move (H.ev rfl)) ?_; refine kl H rfl fun a H => ?_
        refine wl_s (kg_no rfl H rfl rfl rfl) ?_; refine kl H rfl fun a H => ?_
        refine wl_s (kg_no rfl H rfl rfl rfl) ?_; refine kl H rfl fun a H => ?_
        refine wl_v _ (r_pick_t (H.ev rfl) evc) ?_; refine kl H rfl fun a H => ?_
        refine wl_v _ (r_move (H.ev rfl)) ?_; refine kl H rfl fun a H => ?_
        refine wl_s (kg_no rfl H rfl rfl rfl) ?_; refine kl H rfl fun a H => ?_
        refine wl_s (kg_no rfl H rfl rfl rfl) ?_; refine kl H rfl fun a H => ?_
        refine wl_v _ (r_pick_t (H.ev rfl) evc) ?_; refine kl H rfl fun a H => ?_
        refine wl_v _ (r_move (H.ev rfl)) ?_; refine kl H rfl fun a H => ?_
        refine wl_s (kg_no rfl H rfl rfl rfl) ?_; refine kl H rfl fun a H => ?_
        refine wl_s (kg_no rfl H rfl rfl rfl) ?_; refine kl H rfl fun a H => ?_
        refine wl_s (kg_no rfl H rfl rfl rfl) ?_; refine kl H rfl fun a H => ?_
        refine wl_v _ (r_pick_t (H.ev rfl) evc) ?_; refine kl H rfl fun a H => ?_
        refine wpList_nil ?_
        refine c_next ?_
        refine c_cond_t H rfl ?_
        refine wp_seq ?_
        refine wp_region_lit ?_
        refine wl_v _ (r_move (H.ev rfl)) ?_; refine kl H rfl fun a H => ?_
        refine wl_v _ (r_assign (H.ev rfl)) ?_; refine kl H rfl fun a H => ?_
        refine wpList_nil ?_
        refine c_next ?_
        refine wp_ret ?_
        refine r_then ?_
        exact k_ret1 H rfl rfl ⟨rfl, hall⟩
      · skip
        refine op_unguard _ _ (kg_yes rfl H rfl rfl rfl) ?_; refine wl_v _ (r_gt Try.underlying3 (H.ev rfl) evc (dec_f (hcc1))) ?_; refine kl H rfl fun a H => ?_
        refine wl_v _ (r_pick_f (H.ev rfl) (H.ev rfl)) ?_; refine kl H rfl fun a H => ?_
        refine wl_v _ (r_move (H.ev rfl)) ?_; refine kl H rfl fun a H => ?_
        refine op_unguard _ _ (kg_yes rfl H rfl rfl rfl) ?_; refine wl_v _ (r_move (H.ev rfl)) ?_; refine kl H rfl fun a H => ?_
        by_cases hcc2 : n < 0
        · skip
          refine op_unguard _ _ (kg_yes rfl H rfl rfl rfl) ?_; refine wl_v _ (r_lt Try.underlying3 (H.ev rfl) evc (dec_t (hcc2))) ?_; refine kl H rfl fun a H => ?_
          refine wl_v _ (r_pick_f (H.ev rfl) (H.ev rfl)) ?_; refine kl H rfl fun a H => ?_
          refine wl_v _ (r_move (H.ev rfl)) ?_; refine kl H rfl fun a H => ?_
          refine wl_s (kg_no rfl H rfl rfl rfl) ?_; refine kl H rfl fun a H => ?_
          refine wl_s (kg_no rfl H rfl rfl rfl) ?_; refine kl H rfl fun a H => ?_
          refine wl_v _ (r_pick_t (H.ev rfl) evc) ?_; refine kl H rfl fun a H => ?_
          refine wl_v _ (r_move (H.ev rfl)) ?_; refine kl H rfl fun a H => ?_
          refine wl_s (kg_no rfl H rfl rfl rfl) ?_; refine kl H rfl fun a H => ?_
          refine wl_s (kg_no rfl H rfl rfl rfl) ?_; refine kl H rfl fun a H => ?_
          refine wl_s (kg_no rfl H rfl rfl rfl) ?_; refine kl H rfl fun a H => ?_
          refine wl_v _ (r_pick_t (H.ev rfl) evc) ?_; refine kl H rfl fun a H => ?_
          refine wpList_nil ?_
          refine c_next ?_
          refine c_cond_t H rfl ?_
          refine wp_seq ?_
          refine wp_region_lit ?_
          refine wl_v _ (r_move (H.ev rfl)) ?_; refine kl H rfl fun a H => ?_
          refine wl_v _ (r_assign (H.ev rfl)) ?_; refine kl H rfl fun a H => ?_
          refine wpList_nil ?_
          refine c_next ?_
          refine wp_ret ?_
          refine r_then ?_
          exact k_ret1 H rfl rfl ⟨rfl, hall⟩
        · skip
          refine op_unguard _ _ (kg_yes rfl H rfl rfl rfl) ?_; refine wl_v _ (r_lt Try.underlying3 (H.ev rfl) evc (dec_f (hcc2))) ?_; refine kl H rfl fun a H => ?_
          refine wl_v _ (r_pick_f (H.ev rfl) (H.ev rfl)) ?_; refine kl H rfl fun a H => ?_
          refine wl_v _ (r_move (H.ev rfl)) ?_; refine kl H rfl fun a H => ?_
          refine op_unguard _ _ (kg_yes rfl H rfl rfl rfl) ?_; refine wl_v _ (r_move (H.ev rfl)) ?_; refine kl H rfl fun a H => ?_
          by_cases hcc3 : n > 100
          · skip
            refine op_unguard _ _ (kg_yes rfl H rfl rfl rfl) ?_; refine wl_v _ (r_gt Try.underlying3 (H.ev rfl) evc (dec_t (hcc3))) ?_; refine kl H rfl fun a H => ?_
            refine wl_v _ (r_pick_f (H.ev rfl) (H.ev rfl)) ?_; refine kl H rfl fun a H => ?_
            refine wl_v _ (r_move (H.ev rfl)) ?_; refine kl H rfl fun a H => ?_
            refine wl_s (kg_no rfl H rfl rfl rfl) ?_; refine kl H rfl fun a H => ?_
            refine wl_s (kg_no rfl H rfl rfl rfl) ?_; refine kl H rfl fun a H => ?_
            refine wl_s (kg_no rfl H rfl rfl rfl) ?_; refine kl H rfl fun a H => ?_
            refine wl_v _ (r_pick_t (H.ev rfl) evc) ?_; refine kl H rfl fun a H => ?_
            refine wpList_nil ?_
            refine c_next ?_
            refine c_cond_t H rfl ?_
            refine wp_seq ?_
            refine wp_region_lit ?_
            refine wl_v _ (r_move (H.ev rfl)) ?_; refine kl H rfl fun a H => ?_
            refine wl_v _ (r_assign (H.ev rfl)) ?_; refine kl H rfl fun a H => ?_
            refine wpList_nil ?_
            refine c_next ?_
            refine wp_ret ?_
            refine r_then ?_
            exact k_ret1 H rfl rfl ⟨rfl, hall⟩
          · skip
            refine op_unguard _ _ (kg_yes rfl H rfl rfl rfl) ?_; refine wl_v _ (r_gt Try.underlying3 (H.ev rfl) evc (dec_f (hcc3))) ?_; refine kl H rfl fun a H => ?_
            refine wl_v _ (r_pick_f (H.ev rfl) (H.ev rfl)) ?_; refine kl H rfl fun a H => ?_
            refine wl_v _ (r_move (H.ev rfl)) ?_; refine kl H rfl fun a H => ?_
            refine op_unguard _ _ (kg_yes rfl H rfl rfl rfl) ?_; refine wl_v _ (r_row (cs := [.slice A L.length c, .int .i64 t]) (H.ev rfl) (block_range k0) (by kernel_rfl) s24 rfl) ?_; refine kl H rfl fun a H => ?_
            refine op_unguard _ _ (kg_yes rfl H rfl rfl rfl) ?_; refine wl_call _ _ _ (right_lit _ t _ L false hrt (Row.up h.out hall) (by omega) hw.out) (r_call1 cf8 (H.ev rfl)) ?_; rintro e w9 ⟨rfl, hb⟩; refine ⟨_, rfl, ?_⟩; replace k0 := Block.ups k0 hb; replace hall := hall.trans (hb.mono hall.size); clear hb; refine kl H rfl fun a H => ?_
            refine op_unguard _ _ (kg_yes rfl H rfl rfl rfl) ?_; refine wl_v _ (r_not (H.ev rfl) rfl) ?_; refine kl H rfl fun a H => ?_
            refine wl_v _ (r_pick_f (H.ev rfl) (H.ev rfl)) ?_; refine kl H rfl fun a H => ?_
            refine wpList_nil ?_
            refine c_next ?_
            refine c_cond_t H rfl ?_
            refine wp_seq ?_
            refine wp_region_lit ?_
            refine wl_v _ (r_move (H.ev rfl)) ?_; refine kl H rfl fun a H => ?_
            refine wl_v _ (r_assign (H.ev rfl)) ?_; refine kl H rfl fun a H => ?_
            refine wpList_nil ?_
            refine c_next ?_
            refine wp_ret ?_
            refine r_then ?_
            exact k_ret1 H rfl rfl ⟨rfl, hall⟩
  · skip
    refine K_enter 112 Try.func6 rfl rfl fun a H => ?_
    replace H := H.pick [0, 1, 2, 3]
    refine wp_seq ?_
    refine wp_region_lit ?_
    refine op_box 24 _ #[.slice A L.length c, .int .i64 t] (H.ev rfl) fun w0 b0 hge hb k0 => ?_; have g0 := Nat.le_trans hall.size hge; replace hall := hall.trans (hb.mono hall.size); clear hb; clear hge; refine kl H rfl fun a H => ?_
    refine wl_v _ (r_assign evc) ?_; refine kl H rfl fun a H => ?_
    refine wpList_nil ?_
    refine c_next ?_
    refine wp_seq ?_
    refine wp_region_lit ?_
    refine wl_call _ _ _ (small_any _) (r_call0 cf7) ?_; rintro e w9 ⟨rfl, hb⟩; refine ⟨_, rfl, ?_⟩; replace k0 := Block.ups k0 hb; replace hall := hall.trans (hb.mono hall.size); clear hb; refine kl H rfl fun a H => ?_
    refine wl_v _ (r_assign (H.ev rfl)) ?_; refine kl H rfl fun a H => ?_
    refine wpList_nil ?_
    refine c_next ?_
    refine wp_seq ?_
    refine wp_seq ?_
    refine wp_region_lit ?_
    refine wl_v _ (r_fld (q := 0) fld24_0 (H.ev rfl) rfl) ?_; refine kl H rfl fun a H => ?_
    refine wl_v _ (r_ld Try.underlying22 rfl (H.ev rfl) ((Block.cell k0 0).trans rfl)) ?_; refine kl H rfl fun a H => ?_
    refine wl_v _ (r_len Try.underlying22 (H.ev rfl)) ?_; refine kl H rfl fun a H => ?_
    by_cases hcc4 : ((L.length : Nat) : Int) > 100
    · skip
      refine wl_v _ (r_gt Try.underlying3 (H.ev rfl) evc (dec_t (hcc4))) ?_; refine kl H rfl fun a H => ?_
      refine wl_v _ (r_move (H.ev rfl)) ?_; refine kl H rfl fun a H => ?_
      refine wl_s (kg_no rfl H rfl rfl rfl) ?_; refine kl H rfl fun a H => ?_
      refine wl_s (kg_no rfl H rfl rfl rfl) ?_; refine kl H rfl fun a H => ?_
      refine wl_s (kg_no rfl H rfl rfl rfl) ?_; refine kl H rfl fun a H => ?_
      refine wl_v _ (r_pick_t (H.ev rfl) evc) ?_; refine kl H rfl fun a H => ?_
      refine wl_v _ (r_move (H.ev rfl)) ?_; refine kl H rfl fun a H => ?_
      refine wl_s (kg_no rfl H rfl rfl rfl) ?_; refine kl H rfl fun a H => ?_
      refine wl_s (kg_no rfl H rfl rfl rfl) ?_; refine kl H rfl fun a H => ?_
      refine wl_v _ (r_pick_t (H.ev rfl) evc) ?_; refine kl H rfl fun a H => ?_
      refine wl_v _ (r_move (H.ev rfl)) ?_; refine kl H rfl fun a H => ?_
      refine wl_s (kg_no rfl H rfl rfl rfl) ?_; refine kl H rfl fun a H => ?_
      refine wl_s (kg_no rfl H rfl rfl rfl) ?_; refine kl H rfl fun a H => ?_
      refine wl_v _ (r_pick_t (H.ev rfl) evc) ?_; refine kl H rfl fun a H => ?_
      refine wl_v _ (r_move (H.ev rfl)) ?_; refine kl H rfl fun a H => ?_
      refine wl_s (kg_no rfl H rfl rfl rfl) ?_; refine kl H rfl fun a H => ?_
      refine wl_s (kg_no rfl H rfl rfl rfl) ?_; refine kl H rfl fun a H => ?_
      refine wl_s (kg_no rfl H rfl rfl rfl) ?_; refine kl H rfl fun a H => ?_
      refine wl_v _ (r_pick_t (H.ev rfl) evc) ?_; refine kl H rfl fun a H => ?_
      refine wpList_nil ?_
      refine c_next ?_
      refine c_cond_t H rfl ?_
      refine wp_seq ?_
      refine wp_region_lit ?_
      refine wl_v _ (r_move (H.ev rfl)) ?_; refine kl H rfl fun a H => ?_
      refine wl_v _ (r_assign (H.ev rfl)) ?_; refine kl H rfl fun a H => ?_
      refine wpList_nil ?_
      refine c_next ?_
      refine wp_ret ?_
      refine r_then ?_
      exact k_ret1 H rfl rfl ⟨rfl, hall⟩
    · skip
      refine wl_v _ (r_gt Try.underlying3 (H.ev rfl) evc (dec_f (hcc4))) ?_; refine kl H rfl fun a H => ?_
      refine wl_v _ (r_move (H.ev rfl)) ?_; refine kl H rfl fun a H => ?_
      refine op_unguard _ _ (kg_yes rfl H rfl rfl rfl) ?_; refine wl_v _ (r_move (H.ev rfl)) ?_; refine kl H rfl fun a H => ?_
      refine op_unguard _ _ (kg_yes rfl H rfl rfl rfl) ?_; refine wl_v _ (r_len Try.underlying25 (H.ev rfl)) ?_; refine kl H rfl fun a H => ?_
      by_cases hcc5 : ((R.length : Nat) : Int) > 50
      · skip
        refine op_unguard _ _ (kg_yes rfl H rfl rfl rfl) ?_; refine wl_v _ (r_gt Try.underlying3 (H.ev rfl) evc (dec_t (hcc5))) ?_; refine kl H rfl fun a H => ?_
        refine wl_v _ (r_pick_f (H.ev rfl) (H.ev rfl)) ?_; refine kl H rfl fun a H => ?_
        refine wl_v _ (r_move (H.ev rfl)) ?_; refine kl H rfl fun a H => ?_
        refine wl_s (kg_no rfl H rfl rfl rfl) ?_; refine kl H rfl fun a H => ?_
        refine wl_s (kg_no rfl H rfl rfl rfl) ?_; refine kl H rfl fun a H => ?_
        refine wl_v _ (r_pick_t (H.ev rfl) evc) ?_; refine kl H rfl fun a H => ?_
        refine wl_v _ (r_move (H.ev rfl)) ?_; refine kl H rfl fun a H => ?_
        refine wl_s (kg_no rfl H rfl rfl rfl) ?_; refine kl H rfl fun a H => ?_
        refine wl_s (kg_no rfl H rfl rfl rfl) ?_; refine kl H rfl fun a H => ?_
        refine wl_v _ (r_pick_t (H.ev rfl) evc) ?_; refine kl H rfl fun a H => ?_
        refine wl_v _ (r_move (H.ev rfl)) ?_; refine kl H rfl fun a H => ?_
        refine wl_s (kg_no rfl H rfl rfl rfl) ?_; refine kl H rfl fun a H => ?_
        refine wl_s (kg_no rfl H rfl rfl rfl) ?_; refine kl H rfl fun a H => ?_
        refine wl_s (kg_no rfl H rfl rfl rfl) ?_; refine kl H rfl fun a H => ?_
        refine wl_v _ (r_pick_t (H.ev rfl) evc) ?_; refine kl H rfl fun a H => ?_
        refine wpList_nil ?_
        refine c_next ?_
        refine c_cond_t H rfl ?_
        refine wp_seq ?_
        refine wp_region_lit ?_
        refine wl_v _ (r_move (H.ev rfl)) ?_; refine kl H rfl fun a H => ?_
        refine wl_v _ (r_assign (H.ev rfl)) ?_; refine kl H rfl fun a H => ?_
        refine wpList_nil ?_
        refine c_next ?_
        refine wp_ret ?_
        refine r_then ?_
        exact k_ret1 H rfl rfl ⟨rfl, hall⟩
      · skip
        refine op_unguard _ _ (kg_yes rfl H rfl rfl rfl) ?_; refine wl_v _ (r_gt Try.underlying3 (H.ev rfl) evc (dec_f (hcc5))) ?_; refine kl H rfl fun a H => ?_
        refine wl_v _ (r_pick_f (H.ev rfl) (H.ev rfl)) ?_; refine kl H rfl fun a H => ?_
        refine wl_v _ (r_move (H.ev rfl)) ?_; refine kl H rfl fun a H => ?_
        refine op_unguard _ _ (kg_yes rfl H rfl rfl rfl) ?_; refine wl_v _ (r_move (H.ev rfl)) ?_; refine kl H rfl fun a H => ?_
        by_cases hcc6 : n < 0
        · skip
          refine op_unguard _ _ (kg_yes rfl H rfl rfl rfl) ?_; refine wl_v _ (r_lt Try.underlying3 (H.ev rfl) evc (dec_t (hcc6))) ?_; refine kl H rfl fun a H => ?_
          refine wl_v _ (r_pick_f (H.ev rfl) (H.ev rfl)) ?_; refine kl H rfl fun a H => ?_
          refine wl_v _ (r_move (H.ev rfl)) ?_; refine kl H rfl fun a H => ?_
          refine wl_s (kg_no rfl H rfl rfl rfl) ?_; refine kl H rfl fun a H => ?_
          refine wl_s (kg_no rfl H rfl rfl rfl) ?_; refine kl H rfl fun a H => ?_
          refine wl_v _ (r_pick_t (H.ev rfl) evc) ?_; refine kl H rfl fun a H => ?_
          refine wl_v _ (r_move (H.ev rfl)) ?_; refine kl H rfl fun a H => ?_
          refine wl_s (kg_no rfl H rfl rfl rfl) ?_; refine kl H rfl fun a H => ?_
          refine wl_s (kg_no rfl H rfl rfl rfl) ?_; refine kl H rfl fun a H => ?_
          refine wl_s (kg_no rfl H rfl rfl rfl) ?_; refine kl H rfl fun a H => ?_
          refine wl_v _ (r_pick_t (H.ev rfl) evc) ?_; refine kl H rfl fun a H => ?_
          refine wpList_nil ?_
          refine c_next ?_
          refine c_cond_t H rfl ?_
          refine wp_seq ?_
          refine wp_region_lit ?_
          refine wl_v _ (r_move (H.ev rfl)) ?_; refine kl H rfl fun a H => ?_
          refine wl_v _ (r_assign (H.ev rfl)) ?_; refine kl H rfl fun a H => ?_
          refine wpList_nil ?_
          refine c_next ?_
          refine wp_ret ?_
          refine r_then ?_
          exact k_ret1 H rfl rfl ⟨rfl, hall⟩
        · skip
          refine op_unguard _ _ (kg_yes rfl H rfl rfl rfl) ?_; refine wl_v _ (r_lt Try.underlying3 (H.ev rfl) evc (dec_f (hcc6))) ?_; refine kl H rfl fun a H => ?_
          refine wl_v _ (r_pick_f (H.ev rfl) (H.ev rfl)) ?_; refine kl H rfl fun a H => ?_
          refine wl_v _ (r_move (H.ev rfl)) ?_; refine kl H rfl fun a H => ?_
          refine op_unguard _ _ (kg_yes rfl H rfl rfl rfl) ?_; refine wl_v _ (r_move (H.ev rfl)) ?_; refine kl H rfl fun a H => ?_
          by_cases hcc7 : n > 100
          · skip
            refine op_unguard _ _ (kg_yes rfl H rfl rfl rfl) ?_; refine wl_v _ (r_gt Try.underlying3 (H.ev rfl) evc (dec_t (hcc7))) ?_; refine kl H rfl fun a H => ?_
            refine wl_v _ (r_pick_f (H.ev rfl) (H.ev rfl)) ?_; refine kl H rfl fun a H => ?_
            refine wl_v _ (r_move (H.ev rfl)) ?_; refine kl H rfl fun a H => ?_
            refine wl_s (kg_no rfl H rfl rfl rfl) ?_; refine kl H rfl fun a H => ?_
            refine wl_s (kg_no rfl H rfl rfl rfl) ?_; refine kl H rfl fun a H => ?_
            refine wl_s (kg_no rfl H rfl rfl rfl) ?_; refine kl H rfl fun a H => ?_
            refine wl_v _ (r_pick_t (H.ev rfl) evc) ?_; refine kl H rfl fun a H => ?_
            refine wpList_nil ?_
            refine c_next ?_
            refine c_cond_t H rfl ?_
            refine wp_seq ?_
            refine wp_region_lit ?_
            refine wl_v _ (r_move (H.ev rfl)) ?_; refine kl H rfl fun a H => ?_
            refine wl_v _ (r_assign (H.ev rfl)) ?_; refine kl H rfl fun a H => ?_
            refine wpList_nil ?_
            refine c_next ?_
            refine wp_ret ?_
            refine r_then ?_
            exact k_ret1 H rfl rfl ⟨rfl, hall⟩
          · skip
            refine op_unguard _ _ (kg_yes rfl H rfl rfl rfl) ?_; refine wl_v _ (r_gt Try.underlying3 (H.ev rfl) evc (dec_f (hcc7))) ?_; refine kl H rfl fun a H => ?_
            refine wl_v _ (r_pick_f (H.ev rfl) (H.ev rfl)) ?_; refine kl H rfl fun a H => ?_
            refine wl_v _ (r_move (H.ev rfl)) ?_; refine kl H rfl fun a H => ?_
            refine op_unguard _ _ (kg_yes rfl H rfl rfl rfl) ?_; refine wl_v _ (r_row (cs := [.slice A L.length c, .int .i64 t]) (H.ev rfl) (block_range k0) (by kernel_rfl) s24 rfl) ?_; refine kl H rfl fun a H => ?_
            refine op_unguard _ _ (kg_yes rfl H rfl rfl rfl) ?_; refine wl_call _ _ _ (right_lit _ t _ L true hrt (Row.up h.out hall) (by omega) hw.out) (r_call1 cf8 (H.ev rfl)) ?_; rintro e w9 ⟨rfl, hb⟩; refine ⟨_, rfl, ?_⟩; replace k0 := Block.ups k0 hb; replace hall := hall.trans (hb.mono hall.size); clear hb; refine kl H rfl fun a H => ?_
            refine op_unguard _ _ (kg_yes rfl H rfl rfl rfl) ?_; refine wl_v _ (r_not (H.ev rfl) rfl) ?_; refine kl H rfl fun a H => ?_
            refine wl_v _ (r_pick_f (H.ev rfl) (H.ev rfl)) ?_; refine kl H rfl fun a H => ?_
            refine wpList_nil ?_
            refine c_next ?_
            refine c_cond_f H rfl ?_
            refine wp_skip ?_
            refine c_next ?_
            refine wp_seq ?_
            refine wp_seq ?_
            refine wp_region_lit ?_
            refine wl_v _ (r_assign evc) ?_; refine kl H rfl fun a H => ?_
            refine wpList_nil ?_
            refine c_next ?_
            refine wp_block ?_
            refine wp_loop (Wt1 w b0 t s n A c L Ar cr R) (fun a _ => R.length - (intOf (a.eval (.tmp 10))).toNat) ⟨0, H.pick [1, 2, 3, 4, 9, 10], by omega, fun j hj => by omega, k0, hall⟩ ?_
            clear H hall k0
            rintro a w' ⟨k, H, hk, hno, k0, hall⟩
            have H0 := H
            by_cases hlt : k < R.length
            · skip
              obtain ⟨br, orr, hAr, hcr⟩ := irow_at hR.out hlt
              subst hAr
              have hxr : R[k]? = some R[k] := List.getElem?_eq_getElem hlt
              have HXR := Lib.hid hxr
              have HCR := Lib.hid hcr
              generalize R[k] = x at *
              clear hxr hcr
              have H := H0
              refine wp_seq ?_
              refine wp_seq ?_
              refine wp_region_lit ?_
              refine wl_v _ (r_move (H.ev rfl)) ?_; refine kl H rfl fun a H => ?_
              refine wl_v _ (r_move (H.ev rfl)) ?_; refine kl H rfl fun a H => ?_
              refine wl_v _ (r_len Try.underlying25 (H.ev rfl)) ?_; refine kl H rfl fun a H => ?_
              refine wl_v _ (r_lt Try.underlying3 (H.ev rfl) (H.ev rfl) (dec_t (by omega))) ?_; refine kl H rfl fun a H => ?_
              refine wpList_nil ?_
              refine c_next ?_
              refine c_cond_t H rfl ?_
              refine wp_skip ?_
              refine c_next ?_
              refine wp_seq ?_
              refine wp_block ?_
              refine wp_seq ?_
              refine wp_region_lit ?_
              refine wl_v _ (r_move (H.ev rfl)) ?_; refine kl H rfl fun a H => ?_
              refine wl_v _ (r_move (H.ev rfl)) ?_; refine kl H rfl fun a H => ?_
              refine wl_v _ (r_idx (j := k) (q := orr + k) Try.underlying25 s3 (H.ev rfl) (H.ev rfl) (by omega) (by omega)) ?_; refine kl H rfl fun a H => ?_
              refine wl_v _ (r_ld Try.underlying3 rfl (H.ev rfl) (cell_ups HCR.out hall)) ?_; refine kl H rfl fun a H => ?_
              refine wl_v _ (r_move (H.ev rfl)) ?_; refine kl H rfl fun a H => ?_
              by_cases hcc8 : x = s
              · skip
                refine wl_v _ (r_eq Try.underlying3 (H.ev rfl) (H.ev rfl) (dec_t (hcc8))) ?_; refine kl H rfl fun a H => ?_
                refine wpList_nil ?_
                refine c_next ?_
                refine c_cond_t H rfl ?_
                refine wp_seq ?_
                refine wp_region_lit ?_
                refine wl_v _ (r_move (H.ev rfl)) ?_; refine kl H rfl fun a H => ?_
                refine wl_v _ (r_assign (H.ev rfl)) ?_; refine kl H rfl fun a H => ?_
                refine wpList_nil ?_
                refine c_next ?_
                refine wp_ret ?_
                refine r_block ?_
                refine r_then ?_
                refine r_then ?_
                refine r_block ?_
                refine r_then ?_
                exact k_ret1 H rfl rfl ⟨rfl, hall⟩
              · skip
                refine wl_v _ (r_eq Try.underlying3 (H.ev rfl) (H.ev rfl) (dec_f (hcc8))) ?_; refine kl H rfl fun a H => ?_
                refine wpList_nil ?_
                refine c_next ?_
                refine c_cond_f H rfl ?_
                refine wp_skip ?_
                refine n_block ?_
                refine c_next ?_
                refine wp_region_lit ?_
                refine wl_v _ (r_move (H.ev rfl)) ?_; refine kl H rfl fun a H => ?_
                refine wl_v _ (r_add (q := ((k + 1 : Nat) : Int)) Try.underlying3 (H.ev rfl) evc (by omega) (by omega)) ?_; refine kl H rfl fun a H => ?_
                refine wl_v _ (r_assign (H.ev rfl)) ?_; refine kl H rfl fun a H => ?_
                refine wpList_nil ?_
                refine n_then ⟨⟨k + 1, H.pick [1, 2, 3, 4, 9, 10], by omega, noi_next hno HXR.out (by omega), k0, hall⟩, ?_⟩
                rw [H.ev (j := 10) rfl, H0.ev (j := 10) rfl]
                simp only [intOf]
                omega
            · skip
              obtain rfl : k = R.length := by omega
              have hsR := noi_mem hno
              clear hno
              obtain ⟨KL, hKL⟩ : ∃ KL, keepF (fun y => decide (y.1 = s)) L = KL := ⟨_, rfl⟩
              obtain ⟨nd, hnd0⟩ : ∃ nd : Int, ((L.length : Nat) : Int) - ((KL.length : Nat) : Int) = nd := ⟨_, rfl⟩
              have hnd := Lib.hid hnd0
              have hND : Hid (((L.length : Nat) : Int) - (((keepF (fun y => decide (y.1 = s)) L).length : Nat) : Int) = nd) := Lib.hid (by rw [hKL]; exact hnd0)
              replace hKL := Lib.hid hKL
              replace hsR := Lib.hid hsR
              clear hnd0
              refine wp_seq ?_
              refine wp_seq ?_
              refine wp_region_lit ?_
              refine wl_v _ (r_move (H.ev rfl)) ?_; refine kl H rfl fun a H => ?_
              refine wl_v _ (r_move (H.ev rfl)) ?_; refine kl H rfl fun a H => ?_
              refine wl_v _ (r_len Try.underlying25 (H.ev rfl)) ?_; refine kl H rfl fun a H => ?_
              refine wl_v _ (r_lt Try.underlying3 (H.ev rfl) (H.ev rfl) (dec_f (by omega))) ?_; refine kl H rfl fun a H => ?_
              refine wpList_nil ?_
              refine c_next ?_
              refine c_cond_f H rfl ?_
              refine wp_exit ?_
              refine e_then ?_
              refine e_then ?_
              refine e_here ?_
              refine c_next ?_
              refine wp_seq ?_
              refine wp_region_lit ?_
              refine wl_v _ (r_row (cs := [.slice A L.length c, .int .i64 t]) (H.ev rfl) (block_range k0) (by kernel_rfl) s24 rfl) ?_; refine kl H rfl fun a H => ?_
              refine wl_v _ (r_move (H.ev rfl)) ?_; refine kl H rfl fun a H => ?_
              refine wl_call _ _ _ (drop_lit _ t _ L s KL KL.length nd hKL.out rfl hnd.out (Row.up h.out hall) (by omega)) (r_call2 cf12 (H.ev rfl) (H.ev rfl)) ?_; rintro e w9 ⟨⟨A0, c0, rfl, ho0⟩, hb⟩; refine ⟨_, rfl, ?_⟩; replace k0 := Block.ups k0 hb; replace hall := hall.trans (hb.mono hall.size); clear hb; refine kl H rfl fun a H => ?_
              refine wl_v _ (r_move (H.ev rfl)) ?_; refine kl H rfl fun a H => ?_
              refine wl_v _ (r_extract (v := .agg #[.slice A0 KL.length c0, .int .i64 t]) (H.ev rfl) rfl) ?_; refine kl H rfl fun a H => ?_
              refine wl_v _ (r_extract (v := .int .i64 nd) (H.ev rfl) rfl) ?_; refine kl H rfl fun a H => ?_
              refine op_new 24 11 (.tmp 63) #[.slice A0 KL.length c0, .int .i64 t] _ z24 s24 rfl (by simp [Value.cells, Value.oneCell']) (fun p => (H.put 11 p rfl).ev rfl) (fun p => (H.put 11 p rfl).ev rfl) fun w1 b1 hge hb k1 => ?_; have g1 := Nat.le_trans hall.size hge; have d0_1 : b0 < b1 := Nat.lt_of_lt_of_le k0.lt hge; have hq0_1 := own_lt ho0 hge; replace k0 := Block.ups k0 hb; replace ho0 := ROwn.up ho0 hb; replace hall := hall.trans (hb.mono hall.size); clear hb; clear hge; refine kl H rfl fun a H => ?_
              refine wl_v _ (r_assign (H.ev rfl)) ?_; refine kl H rfl fun a H => ?_
              refine wpList_nil ?_
              refine c_next ?_
              refine wp_seq ?_
              refine wp_seq ?_
              refine wp_region_lit ?_
              refine wl_v _ (r_assign evc) ?_; refine kl H rfl fun a H => ?_
              refine wpList_nil ?_
              refine c_next ?_
              refine wp_block ?_
              have hf := FRow.arg h.out hall g0
              refine wp_loop (Wt2 w b0 s n nd L Ar cr R) (fun a _ => n.toNat - (intOf (a.eval (.tmp 13))).toNat) ⟨0, L, t, A, c, H.pick [1, 2, 3, 4, 9, 12, 13], by omega, Nat.le_refl _, hw.out, ht, hND.out, hf, k0, hall⟩ ?_
              clear H hall k0 hf hND hKL hnd hw
              rintro a w' ⟨i, M, tm, A3, c3, H, hi, hMl, hwM, htm, hndM, hf, k0, hall⟩
              have H0 := H
              replace hwM := Lib.hid hwM
              by_cases hlt : (i : Int) < n
              · skip
                obtain ⟨⟨⟨M2, tt⟩, ⟨m1, m2⟩, b⟩, hx⟩ : ∃ q, nextF M tm R = q := ⟨_, rfl⟩
                obtain ⟨hms, hM2, hwM2, htt, hnd2⟩ := waits_step hx hsR.out hwM.out htm hndM
                replace hx := Lib.hid hx
                replace hwM2 := Lib.hid hwM2
                have H := H0
                cases b
                · skip
                  refine wp_seq ?_
                  refine wp_seq ?_
                  refine wp_region_lit ?_
                  refine wl_v _ (r_move (H.ev rfl)) ?_; refine kl H rfl fun a H => ?_
                  refine wl_v _ (r_move (H.ev rfl)) ?_; refine kl H rfl fun a H => ?_
                  refine wl_v _ (r_lt Try.underlying3 (H.ev rfl) (H.ev rfl) (dec_t (by omega))) ?_; refine kl H rfl fun a H => ?_
                  refine wpList_nil ?_
                  refine c_next ?_
                  refine c_cond_t H rfl ?_
                  refine wp_skip ?_
                  refine c_next ?_
                  refine wp_seq ?_
                  refine wp_block ?_
                  refine wp_seq ?_
                  refine wp_region_lit ?_
                  refine wl_v _ (r_row (cs := [.slice A3 M.length c3, .int .i64 tm]) (H.ev rfl) (block_range k0) (by kernel_rfl) s24 rfl) ?_; refine kl H rfl fun a H => ?_
                  refine wl_v _ (r_move (H.ev rfl)) ?_; refine kl H rfl fun a H => ?_
                  refine wl_call _ _ _ (next_lit _ tm _ _ M R M2 M2.length tt m1 m2 false hx.out rfl hf.1 (IRow.up hR.out hall) (by omega) (by omega) htm (mwf_max hwM.out)) (r_call2 cf9 (H.ev rfl) (H.ev rfl)) ?_; rintro e w9 ⟨⟨A9, c9, rfl, ho9⟩, hb⟩; refine ⟨_, rfl, ?_⟩; have hlt9 := k0.lt; replace k0 := Block.ups k0 hb; replace hf := FRow.up hf hb; replace hall := hall.trans (hb.mono hall.size); clear hb; have hf2 := FRow.own ho9 hlt9; clear ho9 hlt9; refine kl H rfl fun a H => ?_
                  refine wl_v _ (r_move (H.ev rfl)) ?_; refine kl H rfl fun a H => ?_
                  refine wl_v _ (r_extract (v := .agg #[.slice A9 M2.length c9, .int .i64 tt]) (H.ev rfl) rfl) ?_; refine kl H rfl fun a H => ?_
                  refine wl_v _ (r_extract (v := .agg #[.int .i64 m1, .int .i64 m2]) (H.ev rfl) rfl) ?_; refine kl H rfl fun a H => ?_
                  refine wl_v _ (r_extract (v := .bool false) (H.ev rfl) rfl) ?_; refine kl H rfl fun a H => ?_
                  refine op_alloc 24 #[.slice none 0 0, .int .i64 0] z24 fun w1 b1 hge hb k1 => ?_; have g1 := Nat.le_trans hall.size hge; have d0_1 : b0 < b1 := Nat.lt_of_lt_of_le k0.lt hge; have hqhf_1 := FRow.lt hf hge; have hqhf2_1 := FRow.lt hf2 hge; replace k0 := Block.ups k0 hb; replace hf := FRow.up hf hb; replace hf2 := FRow.up hf2 hb; replace hall := hall.trans (hb.mono hall.size); clear hb; clear hge; refine kl H rfl fun a H => ?_
                  refine op_alloc 29 #[.int .i64 0, .int .i64 0] z29 fun w2 b2 hge hb k2 => ?_; have g2 := Nat.le_trans hall.size hge; have d0_2 : b0 < b2 := Nat.lt_of_lt_of_le k0.lt hge; have d1_2 : b1 < b2 := Nat.lt_of_lt_of_le k1.lt hge; have hqhf_2 := FRow.lt hf hge; have hqhf2_2 := FRow.lt hf2 hge; replace k0 := Block.ups k0 hb; replace hf := FRow.up hf hb; replace hf2 := FRow.up hf2 hb; replace k1 := Block.ups k1 hb; replace hall := hall.trans (hb.mono hall.size); clear hb; clear hge; refine kl H rfl fun a H => ?_
                  refine op_store1 24 (.tmp 14) (.tmp 74) b1 0 24 (.agg #[.slice A9 M2.length c9, .int .i64 tt]) _ (H.ev rfl) (H.ev rfl) k1 s24 (by simp [Value.cells]) (by simp [Value.cells, Value.oneCell']) fun w' hb ho kq => ?_; clear k1; have k1 : Block _ b1 24 #[.slice A9 M2.length c9, .int .i64 tt] := kq; clear kq; replace hf := FRow.far hf hqhf_1 (hb _ (Nat.le_refl _)); replace hf2 := FRow.far hf2 hqhf2_1 (hb _ (Nat.le_refl _)); replace k0 := block_same k0 (ho _ (by omega)); replace k2 := block_same k2 (ho _ (by omega)); replace hall := hall.trans (hb _ g1); clear hb ho; refine kl0 H fun a H => ?_
                  refine op_store1 29 (.tmp 15) (.tmp 75) b2 0 29 (.agg #[.int .i64 m1, .int .i64 m2]) _ (H.ev rfl) (H.ev rfl) k2 s29 (by simp [Value.cells]) (ints_one [m1, m2]) fun w' hb ho kq => ?_; clear k2; have k2 : Block _ b2 29 #[.int .i64 m1, .int .i64 m2] := kq; clear kq; replace hf := FRow.far hf hqhf_2 (hb _ (Nat.le_refl _)); replace hf2 := FRow.far hf2 hqhf2_2 (hb _ (Nat.le_refl _)); replace k0 := block_same k0 (ho _ (by omega)); replace k1 := block_same k1 (ho _ (by omega)); replace hall := hall.trans (hb _ g2); clear hb ho; refine kl0 H fun a H => ?_
                  refine wl_v _ (r_assign (H.ev rfl)) ?_; refine kl H rfl fun a H => ?_
                  refine wpList_nil ?_
                  refine c_next ?_
                  refine wp_seq ?_
                  refine wp_seq ?_
                  refine wp_region_lit ?_
                  refine wl_v _ (r_move (H.ev rfl)) ?_; refine kl H rfl fun a H => ?_
                  refine wl_v _ (r_move (H.ev rfl)) ?_; refine kl H rfl fun a H => ?_
                  refine wl_s (kg_no rfl H rfl rfl rfl) ?_; refine kl H rfl fun a H => ?_
                  refine wl_s (kg_no rfl H rfl rfl rfl) ?_; refine kl H rfl fun a H => ?_
                  refine wl_s (kg_no rfl H rfl rfl rfl) ?_; refine kl H rfl fun a H => ?_
                  refine wl_s (kg_no rfl H rfl rfl rfl) ?_; refine kl H rfl fun a H => ?_
                  refine wl_v _ (r_pick_f (H.ev rfl) evc) ?_; refine kl H rfl fun a H => ?_
                  refine wpList_nil ?_
                  refine c_next ?_
                  refine c_cond_f H rfl ?_
                  refine wp_skip ?_
                  refine c_next ?_
                  clear hf
                  refine wp_region_lit ?_
                  refine wl_v _ (r_row (cs := [.slice A9 M2.length c9, .int .i64 tt]) (H.ev rfl) (block_range k1) (by kernel_rfl) s24 rfl) ?_; refine kl H rfl fun a H => ?_
                  refine op_store1 24 (.tmp 4) (.tmp 84) b0 0 24 (.agg #[.slice A9 M2.length c9, .int .i64 tt]) _ (H.ev rfl) (H.ev rfl) k0 s24 (by simp [Value.cells]) (by simp [Value.cells, Value.oneCell']) fun w' hb ho kq => ?_; clear k0; have k0 : Block _ b0 24 #[.slice A9 M2.length c9, .int .i64 tt] := kq; clear kq; replace hf2 := FRow.st hf2 (hb 0 (Nat.zero_le _)) ho; replace k1 := block_same k1 (ho _ (by omega)); replace k2 := block_same k2 (ho _ (by omega)); replace hall := hall.trans (hb _ g0); clear hb ho; refine kl0 H fun a H => ?_
                  refine wpList_nil ?_
                  refine n_block ?_
                  refine c_next ?_
                  refine wp_region_lit ?_
                  refine wl_v _ (r_move (H.ev rfl)) ?_; refine kl H rfl fun a H => ?_
                  refine wl_v _ (r_add (q := ((i + 1 : Nat) : Int)) Try.underlying3 (H.ev rfl) evc (by omega) (by omega)) ?_; refine kl H rfl fun a H => ?_
                  refine wl_v _ (r_assign (H.ev rfl)) ?_; refine kl H rfl fun a H => ?_
                  refine wpList_nil ?_
                  refine n_then ⟨⟨i + 1, M2, tt, _, _, H.pick [1, 2, 3, 4, 9, 12, 13], by omega, by omega, hwM2.out, htt, hnd2, hf2, k0, hall⟩, ?_⟩
                  rw [H.ev (j := 13) rfl, H0.ev (j := 13) rfl]
                  simp only [intOf]
                  omega
                · skip
                  have hms2 := hms rfl
                  refine wp_seq ?_
                  refine wp_seq ?_
                  refine wp_region_lit ?_
                  refine wl_v _ (r_move (H.ev rfl)) ?_; refine kl H rfl fun a H => ?_
                  refine wl_v _ (r_move (H.ev rfl)) ?_; refine kl H rfl fun a H => ?_
                  refine wl_v _ (r_lt Try.underlying3 (H.ev rfl) (H.ev rfl) (dec_t (by omega))) ?_; refine kl H rfl fun a H => ?_
                  refine wpList_nil ?_
                  refine c_next ?_
                  refine c_cond_t H rfl ?_
                  refine wp_skip ?_
                  refine c_next ?_
                  refine wp_seq ?_
                  refine wp_block ?_
                  refine wp_seq ?_
                  refine wp_region_lit ?_
                  refine wl_v _ (r_row (cs := [.slice A3 M.length c3, .int .i64 tm]) (H.ev rfl) (block_range k0) (by kernel_rfl) s24 rfl) ?_; refine kl H rfl fun a H => ?_
                  refine wl_v _ (r_move (H.ev rfl)) ?_; refine kl H rfl fun a H => ?_
                  refine wl_call _ _ _ (next_lit _ tm _ _ M R M2 M2.length tt m1 m2 true hx.out rfl hf.1 (IRow.up hR.out hall) (by omega) (by omega) htm (mwf_max hwM.out)) (r_call2 cf9 (H.ev rfl) (H.ev rfl)) ?_; rintro e w9 ⟨⟨A9, c9, rfl, ho9⟩, hb⟩; refine ⟨_, rfl, ?_⟩; have hlt9 := k0.lt; replace k0 := Block.ups k0 hb; replace hf := FRow.up hf hb; replace hall := hall.trans (hb.mono hall.size); clear hb; have hf2 := FRow.own ho9 hlt9; clear ho9 hlt9; refine kl H rfl fun a H => ?_
                  refine wl_v _ (r_move (H.ev rfl)) ?_; refine kl H rfl fun a H => ?_
                  refine wl_v _ (r_extract (v := .agg #[.slice A9 M2.length c9, .int .i64 tt]) (H.ev rfl) rfl) ?_; refine kl H rfl fun a H => ?_
                  refine wl_v _ (r_extract (v := .agg #[.int .i64 m1, .int .i64 m2]) (H.ev rfl) rfl) ?_; refine kl H rfl fun a H => ?_
                  refine wl_v _ (r_extract (v := .bool true) (H.ev rfl) rfl) ?_; refine kl H rfl fun a H => ?_
                  refine op_alloc 24 #[.slice none 0 0, .int .i64 0] z24 fun w3 b3 hge hb k3 => ?_; have g3 := Nat.le_trans hall.size hge; have d0_3 : b0 < b3 := Nat.lt_of_lt_of_le k0.lt hge; have hqhf_3 := FRow.lt hf hge; have hqhf2_3 := FRow.lt hf2 hge; replace k0 := Block.ups k0 hb; replace hf := FRow.up hf hb; replace hf2 := FRow.up hf2 hb; replace hall := hall.trans (hb.mono hall.size); clear hb; clear hge; refine kl H rfl fun a H => ?_
                  refine op_alloc 29 #[.int .i64 0, .int .i64 0] z29 fun w4 b4 hge hb k4 => ?_; have g4 := Nat.le_trans hall.size hge; have d0_4 : b0 < b4 := Nat.lt_of_lt_of_le k0.lt hge; have d3_4 : b3 < b4 := Nat.lt_of_lt_of_le k3.lt hge; have hqhf_4 := FRow.lt hf hge; have hqhf2_4 := FRow.lt hf2 hge; replace k0 := Block.ups k0 hb; replace hf := FRow.up hf hb; replace hf2 := FRow.up hf2 hb; replace k3 := Block.ups k3 hb; replace hall := hall.trans (hb.mono hall.size); clear hb; clear hge; refine kl H rfl fun a H => ?_
                  refine op_store1 24 (.tmp 14) (.tmp 74) b3 0 24 (.agg #[.slice A9 M2.length c9, .int .i64 tt]) _ (H.ev rfl) (H.ev rfl) k3 s24 (by simp [Value.cells]) (by simp [Value.cells, Value.oneCell']) fun w' hb ho kq => ?_; clear k3; have k3 : Block _ b3 24 #[.slice A9 M2.length c9, .int .i64 tt] := kq; clear kq; replace hf := FRow.far hf hqhf_3 (hb _ (Nat.le_refl _)); replace hf2 := FRow.far hf2 hqhf2_3 (hb _ (Nat.le_refl _)); replace k0 := block_same k0 (ho _ (by omega)); replace k4 := block_same k4 (ho _ (by omega)); replace hall := hall.trans (hb _ g3); clear hb ho; refine kl0 H fun a H => ?_
                  refine op_store1 29 (.tmp 15) (.tmp 75) b4 0 29 (.agg #[.int .i64 m1, .int .i64 m2]) _ (H.ev rfl) (H.ev rfl) k4 s29 (by simp [Value.cells]) (ints_one [m1, m2]) fun w' hb ho kq => ?_; clear k4; have k4 : Block _ b4 29 #[.int .i64 m1, .int .i64 m2] := kq; clear kq; replace hf := FRow.far hf hqhf_4 (hb _ (Nat.le_refl _)); replace hf2 := FRow.far hf2 hqhf2_4 (hb _ (Nat.le_refl _)); replace k0 := block_same k0 (ho _ (by omega)); replace k3 := block_same k3 (ho _ (by omega)); replace hall := hall.trans (hb _ g4); clear hb ho; refine kl0 H fun a H => ?_
                  refine wl_v _ (r_assign (H.ev rfl)) ?_; refine kl H rfl fun a H => ?_
                  refine wpList_nil ?_
                  refine c_next ?_
                  refine wp_seq ?_
                  refine wp_seq ?_
                  refine wp_region_lit ?_
                  refine wl_v _ (r_move (H.ev rfl)) ?_; refine kl H rfl fun a H => ?_
                  refine wl_v _ (r_move (H.ev rfl)) ?_; refine kl H rfl fun a H => ?_
                  refine op_unguard _ _ (kg_yes rfl H rfl rfl rfl) ?_; refine wl_v _ (r_fld (q := 0) fld29_0 (H.ev rfl) rfl) ?_; refine kl H rfl fun a H => ?_
                  refine op_unguard _ _ (kg_yes rfl H rfl rfl rfl) ?_; refine wl_v _ (r_ld Try.underlying3 rfl (H.ev rfl) ((Block.cell k4 0).trans rfl)) ?_; refine kl H rfl fun a H => ?_
                  refine op_unguard _ _ (kg_yes rfl H rfl rfl rfl) ?_; refine wl_v _ (r_move (H.ev rfl)) ?_; refine kl H rfl fun a H => ?_
                  refine op_unguard _ _ (kg_yes rfl H rfl rfl rfl) ?_; refine wl_v _ (r_eq Try.underlying3 (H.ev rfl) (H.ev rfl) (dec_f (by omega))) ?_; refine kl H rfl fun a H => ?_
                  refine wl_v _ (r_pick_t (H.ev rfl) (H.ev rfl)) ?_; refine kl H rfl fun a H => ?_
                  refine wpList_nil ?_
                  refine c_next ?_
                  refine c_cond_f H rfl ?_
                  refine wp_skip ?_
                  refine c_next ?_
                  clear hf
                  refine wp_region_lit ?_
                  refine wl_v _ (r_row (cs := [.slice A9 M2.length c9, .int .i64 tt]) (H.ev rfl) (block_range k3) (by kernel_rfl) s24 rfl) ?_; refine kl H rfl fun a H => ?_
                  refine op_store1 24 (.tmp 4) (.tmp 84) b0 0 24 (.agg #[.slice A9 M2.length c9, .int .i64 tt]) _ (H.ev rfl) (H.ev rfl) k0 s24 (by simp [Value.cells]) (by simp [Value.cells, Value.oneCell']) fun w' hb ho kq => ?_; clear k0; have k0 : Block _ b0 24 #[.slice A9 M2.length c9, .int .i64 tt] := kq; clear kq; replace hf2 := FRow.st hf2 (hb 0 (Nat.zero_le _)) ho; replace k3 := block_same k3 (ho _ (by omega)); replace k4 := block_same k4 (ho _ (by omega)); replace hall := hall.trans (hb _ g0); clear hb ho; refine kl0 H fun a H => ?_
                  refine wpList_nil ?_
                  refine n_block ?_
                  refine c_next ?_
                  refine wp_region_lit ?_
                  refine wl_v _ (r_move (H.ev rfl)) ?_; refine kl H rfl fun a H => ?_
                  refine wl_v _ (r_add (q := ((i + 1 : Nat) : Int)) Try.underlying3 (H.ev rfl) evc (by omega) (by omega)) ?_; refine kl H rfl fun a H => ?_
                  refine wl_v _ (r_assign (H.ev rfl)) ?_; refine kl H rfl fun a H => ?_
                  refine wpList_nil ?_
                  refine n_then ⟨⟨i + 1, M2, tt, _, _, H.pick [1, 2, 3, 4, 9, 12, 13], by omega, by omega, hwM2.out, htt, hnd2, hf2, k0, hall⟩, ?_⟩
                  rw [H.ev (j := 13) rfl, H0.ev (j := 13) rfl]
                  simp only [intOf]
                  omega
              · skip
                obtain ⟨KM, hKM⟩ : ∃ KM, keepF (fun y => decide (y.1 = s)) M = KM := ⟨_, rfl⟩
                have hnd : Hid (((M.length : Nat) : Int) - ((KM.length : Nat) : Int) = nd) := Lib.hid (by rw [← hKM]; exact hndM)
                replace hKM := Lib.hid hKM
                refine wp_seq ?_
                refine wp_seq ?_
                refine wp_region_lit ?_
                refine wl_v _ (r_move (H.ev rfl)) ?_; refine kl H rfl fun a H => ?_
                refine wl_v _ (r_move (H.ev rfl)) ?_; refine kl H rfl fun a H => ?_
                refine wl_v _ (r_lt Try.underlying3 (H.ev rfl) (H.ev rfl) (dec_f (by omega))) ?_; refine kl H rfl fun a H => ?_
                refine wpList_nil ?_
                refine c_next ?_
                refine c_cond_f H rfl ?_
                refine wp_exit ?_
                refine e_then ?_
                refine e_then ?_
                refine e_here ?_
                refine c_next ?_
                refine wp_seq ?_
                refine wp_region_lit ?_
                refine wl_v _ (r_row (cs := [.slice A3 M.length c3, .int .i64 tm]) (H.ev rfl) (block_range k0) (by kernel_rfl) s24 rfl) ?_; refine kl H rfl fun a H => ?_
                refine wl_v _ (r_move (H.ev rfl)) ?_; refine kl H rfl fun a H => ?_
                refine wl_call _ _ _ (drop_lit _ tm _ M s KM KM.length nd hKM.out rfl hnd.out hf.1 (by omega)) (r_call2 cf12 (H.ev rfl) (H.ev rfl)) ?_; rintro e w9 ⟨⟨A2, c2, rfl, ho2⟩, hb⟩; refine ⟨_, rfl, ?_⟩; replace k0 := Block.ups k0 hb; replace hf := FRow.up hf hb; replace hall := hall.trans (hb.mono hall.size); clear hb; refine kl H rfl fun a H => ?_
                refine wl_v _ (r_move (H.ev rfl)) ?_; refine kl H rfl fun a H => ?_
                refine wl_v _ (r_extract (v := .agg #[.slice A2 KM.length c2, .int .i64 tm]) (H.ev rfl) rfl) ?_; refine kl H rfl fun a H => ?_
                refine wl_v _ (r_extract (v := .int .i64 nd) (H.ev rfl) rfl) ?_; refine kl H rfl fun a H => ?_
                refine op_new 24 17 (.tmp 89) #[.slice A2 KM.length c2, .int .i64 tm] _ z24 s24 rfl (by simp [Value.cells, Value.oneCell']) (fun p => (H.put 17 p rfl).ev rfl) (fun p => (H.put 17 p rfl).ev rfl) fun w5 b5 hge hb k5 => ?_; have g5 := Nat.le_trans hall.size hge; have d0_5 : b0 < b5 := Nat.lt_of_lt_of_le k0.lt hge; have hq2_5 := own_lt ho2 hge; have hqhf_5 := FRow.lt hf hge; replace k0 := Block.ups k0 hb; replace hf := FRow.up hf hb; replace ho2 := ROwn.up ho2 hb; replace hall := hall.trans (hb.mono hall.size); clear hb; clear hge; refine kl H rfl fun a H => ?_
                refine wl_v _ (r_assign (H.ev rfl)) ?_; refine kl H rfl fun a H => ?_
                refine wpList_nil ?_
                refine c_next ?_
                refine wp_seq ?_
                refine wp_region_lit ?_
                refine wl_v _ (r_row (cs := [.slice A3 M.length c3, .int .i64 tm]) (H.ev rfl) (block_range k0) (by kernel_rfl) s24 rfl) ?_; refine kl H rfl fun a H => ?_
                refine wl_call _ _ _ (next_lit _ tm _ _ M [] M M.length tm 0 0 false (next_no ids_nil) rfl hf.1 irow_nil (by omega) (by simp) htm (mwf_max hwM.out)) (r_call2 cf9 (H.ev rfl) evc) ?_; rintro e w9 ⟨⟨A9, c9, rfl, ho9⟩, hb⟩; refine ⟨_, rfl, ?_⟩; have hlt9 := k0.lt; replace k0 := Block.ups k0 hb; replace hf := FRow.up hf hb; replace ho2 := ROwn.up ho2 hb; replace k5 := Block.ups k5 hb; replace hall := hall.trans (hb.mono hall.size); clear hb; have hf2 := FRow.own ho9 hlt9; clear ho9 hlt9; refine kl H rfl fun a H => ?_
                refine wl_v _ (r_move (H.ev rfl)) ?_; refine kl H rfl fun a H => ?_
                refine wl_v _ (r_extract (v := .agg #[.slice A9 M.length c9, .int .i64 tm]) (H.ev rfl) rfl) ?_; refine kl H rfl fun a H => ?_
                refine wl_v _ (r_extract (v := .agg #[.int .i64 0, .int .i64 0]) (H.ev rfl) rfl) ?_; refine kl H rfl fun a H => ?_
                refine wl_v _ (r_extract (v := .bool false) (H.ev rfl) rfl) ?_; refine kl H rfl fun a H => ?_
                refine op_alloc 24 #[.slice none 0 0, .int .i64 0] z24 fun w6 b6 hge hb k6 => ?_; have g6 := Nat.le_trans hall.size hge; have d0_6 : b0 < b6 := Nat.lt_of_lt_of_le k0.lt hge; have d5_6 : b5 < b6 := Nat.lt_of_lt_of_le k5.lt hge; have hq2_6 := own_lt ho2 hge; have hqhf_6 := FRow.lt hf hge; have hqhf2_6 := FRow.lt hf2 hge; replace k0 := Block.ups k0 hb; replace hf := FRow.up hf hb; replace ho2 := ROwn.up ho2 hb; replace k5 := Block.ups k5 hb; replace hf2 := FRow.up hf2 hb; replace hall := hall.trans (hb.mono hall.size); clear hb; clear hge; refine kl H rfl fun a H => ?_
                refine op_alloc 29 #[.int .i64 0, .int .i64 0] z29 fun w7 b7 hge hb k7 => ?_; have g7 := Nat.le_trans hall.size hge; have d0_7 : b0 < b7 := Nat.lt_of_lt_of_le k0.lt hge; have d5_7 : b5 < b7 := Nat.lt_of_lt_of_le k5.lt hge; have d6_7 : b6 < b7 := Nat.lt_of_lt_of_le k6.lt hge; have hq2_7 := own_lt ho2 hge; have hqhf_7 := FRow.lt hf hge; have hqhf2_7 := FRow.lt hf2 hge; replace k0 := Block.ups k0 hb; replace hf := FRow.up hf hb; replace ho2 := ROwn.up ho2 hb; replace k5 := Block.ups k5 hb; replace hf2 := FRow.up hf2 hb; replace k6 := Block.ups k6 hb; replace hall := hall.trans (hb.mono hall.size); clear hb; clear hge; refine kl H rfl fun a H => ?_
                refine op_store1 24 (.tmp 19) (.tmp 94) b6 0 24 (.agg #[.slice A9 M.length c9, .int .i64 tm]) _ (H.ev rfl) (H.ev rfl) k6 s24 (by simp [Value.cells]) (by simp [Value.cells, Value.oneCell']) fun w' hb ho kq => ?_; clear k6; have k6 : Block _ b6 24 #[.slice A9 M.length c9, .int .i64 tm] := kq; clear kq; replace hf := FRow.far hf hqhf_6 (hb _ (Nat.le_refl _)); replace hf2 := FRow.far hf2 hqhf2_6 (hb _ (Nat.le_refl _)); replace k0 := block_same k0 (ho _ (by omega)); replace ho2 := ROwn.upD ho2 hq2_6 (hb _ (Nat.le_refl _)); replace k5 := block_same k5 (ho _ (by omega)); replace k7 := block_same k7 (ho _ (by omega)); replace hall := hall.trans (hb _ g6); clear hb ho; refine kl0 H fun a H => ?_
                refine op_store1 29 (.tmp 20) (.tmp 95) b7 0 29 (.agg #[.int .i64 0, .int .i64 0]) _ (H.ev rfl) (H.ev rfl) k7 s29 (by simp [Value.cells]) (ints_one [0, 0]) fun w' hb ho kq => ?_; clear k7; have k7 : Block _ b7 29 #[.int .i64 0, .int .i64 0] := kq; clear kq; replace hf := FRow.far hf hqhf_7 (hb _ (Nat.le_refl _)); replace hf2 := FRow.far hf2 hqhf2_7 (hb _ (Nat.le_refl _)); replace k0 := block_same k0 (ho _ (by omega)); replace ho2 := ROwn.upD ho2 hq2_7 (hb _ (Nat.le_refl _)); replace k5 := block_same k5 (ho _ (by omega)); replace k6 := block_same k6 (ho _ (by omega)); replace hall := hall.trans (hb _ g7); clear hb ho; refine kl0 H fun a H => ?_
                refine wl_v _ (r_assign (H.ev rfl)) ?_; refine kl H rfl fun a H => ?_
                refine wpList_nil ?_
                refine c_next ?_
                refine wp_seq ?_
                refine wp_region_lit ?_
                refine wl_v _ (r_move (H.ev rfl)) ?_; refine kl H rfl fun a H => ?_
                refine wl_v _ (r_move (H.ev rfl)) ?_; refine kl H rfl fun a H => ?_
                refine op_unguard _ _ (kg_yes rfl H rfl rfl rfl) ?_; refine wl_v _ (r_move (H.ev rfl)) ?_; refine kl H rfl fun a H => ?_
                refine op_unguard _ _ (kg_yes rfl H rfl rfl rfl) ?_; refine wl_v _ (r_move (H.ev rfl)) ?_; refine kl H rfl fun a H => ?_
                refine op_unguard _ _ (kg_yes rfl H rfl rfl rfl) ?_; refine wl_v _ (r_eq Try.underlying3 (H.ev rfl) (H.ev rfl) (dec_t (by omega))) ?_; refine kl H rfl fun a H => ?_
                refine wl_v _ (r_pick_t (H.ev rfl) (H.ev rfl)) ?_; refine kl H rfl fun a H => ?_
                refine wl_v _ (r_move (H.ev rfl)) ?_; refine kl H rfl fun a H => ?_
                refine op_unguard _ _ (kg_yes rfl H rfl rfl rfl) ?_; refine wl_v _ (r_move (H.ev rfl)) ?_; refine kl H rfl fun a H => ?_
                refine op_unguard _ _ (kg_yes rfl H rfl rfl rfl) ?_; refine wl_v _ (r_not (H.ev rfl) rfl) ?_; refine kl H rfl fun a H => ?_
                refine wl_v _ (r_pick_t (H.ev rfl) (H.ev rfl)) ?_; refine kl H rfl fun a H => ?_
                refine wl_v _ (r_move (H.ev rfl)) ?_; refine kl H rfl fun a H => ?_
                refine op_unguard _ _ (kg_yes rfl H rfl rfl rfl) ?_; refine wl_v _ (r_row (cs := [.int .i64 0, .int .i64 0]) (H.ev rfl) (block_range k7) (by kernel_rfl) s29 rfl) ?_; refine kl H rfl fun a H => ?_
                refine op_unguard _ _ (kg_yes rfl H rfl rfl rfl) ?_; refine wl_v _ (r_build #[] (.agg #[.int .i64 0, .int .i64 0]) (by simp [evc]) (fun w => by kernel_rfl)) ?_; refine kl H rfl fun a H => ?_
                refine op_unguard _ _ (kg_yes rfl H rfl rfl rfl) ?_; refine wl_v (.bool true) (r_eq29 (x := (0, 0)) (y := (0, 0)) (H.ev rfl) (H.ev rfl) (dec_t rfl)) ?_; refine kl H rfl fun a H => ?_
                refine wl_v _ (r_pick_t (H.ev rfl) (H.ev rfl)) ?_; refine kl H rfl fun a H => ?_
                refine wl_v _ (r_assign (H.ev rfl)) ?_; refine kl H rfl fun a H => ?_
                refine wpList_nil ?_
                refine c_next ?_
                refine wp_ret ?_
                exact k_ret1 H rfl rfl ⟨rfl, hall⟩
theorem waits_all (w : World) (m0 : Int) (A0 : Option Addr) (n0 c0 : Nat) (L0 : List Int) (u1 u3 : Int) (A2 : Option Addr) (n2 c2 : Nat) (L2 : List Int) (hm0 : (Lit.int .i64 m0).wf = true) (hn0 : L0.length = n0 * 2) (hw0 : WF L0) (hnc0 : n0 ≤ c0) (hcm0 : c0 ≤ maxLen) (hh0 : Holds w A0 (L0.map (Value.int .i64))) (hz0 : A0 = none → c0 = 0) (hb : n0 ≤ 9223372036854775807) (hn2 : L2.length = n2 * 1) (hnc2 : n2 ≤ c2) (hcm2 : c2 ≤ maxLen) (hh2 : Holds w A2 (L2.map (Value.int .i64))) (hz2 : A2 = none → c2 = 0) (hb2 : n2 ≤ 9223372036854775807) :
    Calls Try.prog 6 #[.agg #[.slice A0 n0 c0, .int .i64 m0], .int .i64 u1, .slice A2 n2 c2, .int .i64 u3] w fun e w' => e = .returned (.bool true) ∧ Below w.heap.size w w' := by
  obtain ⟨L, h, rfl, hw⟩ := mrow_in hn0 hw0 hnc0 hcm0 hh0 hz0
  obtain rfl : L2.length = n2 := by omega
  exact waits_walk w m0 u1 u3 _ _ L L2 h ⟨A2, c2, rfl, hnc2, hcm2, hz2, hh2⟩ hb hb2 hw (wf_int hm0)
theorem fanoutWaits_it2 : intTy Try.prog 1 3 = true := by kernel_rfl
theorem fanoutWaits_c2 : Try.prog.cellsOf 3 = 1 := by kernel_rfl
set_option maxRecDepth 100000 in
theorem fanoutWaits_lifted (os : Os) (started : os.Started) (H : Type) (enc : TypeId × Value → H) :
    ReturnsInHanded {} Try.checked os 6 .any (Rows.fanoutWaitsSpec.pre6 enc Try.prog Try.f6 Rows.fanoutWaitsRow.domain false) (Rows.fanoutWaitsSpec.post enc Try.prog Try.f6 false true false false) := by
  refine returnsInHanded_of_change (C := Try.checked) own started (by kernel_rfl) Try.func6
    (ChangeSpec.witness6 (enc := enc) (C := Try.checked) false ⟨#[], #[.agg #[.slice none 0 0, .int .i64 0], .int .i64 0, .slice none 0 0, .int .i64 0], []⟩ 8 (by kernel_rfl) (by kernel_rfl) (by kernel_rfl) (by kernel_rfl)) ?_
  intro W base args ds gs before hval0 hW hcnd _
  have hval : ∀ (j : Nat) t v, Try.f6.params[j]? = some t → args[j]? = some v → Value.okWide Try.prog W .any base t v := hval0
  have hW' := hW
  obtain ⟨p, q, hA0, hV, rfl, hfz, hnd⟩ := hW
  have hA : DataW.TrodAll enc Try.prog W 0 (fun _ => true) true Try.f6.params.toList args.toList ds p := hA0
  rw [Try.params6] at hA hval
  obtain ⟨v0, vs0, d0, ds0, p0, q0, hargs, rfl, rfl, h0, r0⟩ := trodAll_cons hA
  obtain ⟨v1, vs1, d1, ds1, p1, q1, rfl, rfl, rfl, h1, r1⟩ := trodAll_cons r0
  obtain ⟨v2, vs2, d2, ds2, p2, q2, rfl, rfl, rfl, h2, r2⟩ := trodAll_cons r1
  obtain ⟨v3, vs3, d3, ds3, p3, q3, rfl, rfl, rfl, h3, r3⟩ := trodAll_cons r2
  obtain ⟨rfl, rfl, rfl⟩ := trodAll_nil r3
  obtain rfl : args = #[v0, v1, v2, v3] := by cases args; simp_all
  obtain ⟨rfl, rfl⟩ := trodVars_none hV
  have k0 := h0
  have lt0 : ∀ x ∈ p0, x.block < W.heap.size := by obtain ⟨m, hm⟩ := k0; exact DataW.trod_lt m _ _ _ hm
  have k2 := h2
  have lt2 : ∀ x ∈ p2, x.block < W.heap.size := by obtain ⟨m, hm⟩ := k2; exact DataW.trod_lt m _ _ _ hm
  obtain ⟨m0, A0, n0, c0, L0, rfl, hm0, hn0, hw0, hnc0, hcm0, hh0, hz0⟩ := open_si 2 2 Try.underlying24 rfl rfl Try.underlying3 co3 rfl rfl co22 co24 Try.underlying22 it29 co29 (by omega) (hval 0 24 v0 rfl rfl) h0
  have hb0 : n0 ≤ 9223372036854775807 := by unfold maxLen at hcm0; omega
  obtain ⟨u1, rfl, rfl, rfl, wu1⟩ := open_int Try.underlying3 (hval 1 3 v1 rfl rfl) h1
  obtain ⟨A2, n2, c2, L2, rfl, hn2, hw2, hnc2, hcm2, hh2, hz2⟩ := open_slice_ints 1 1 Try.underlying25 fanoutWaits_it2 fanoutWaits_c2 (by omega) (hval 2 25 v2 rfl rfl) h2
  have hb2 : n2 ≤ 9223372036854775807 := by unfold maxLen at hcm2; omega
  obtain ⟨u3, rfl, rfl, rfl, wu3⟩ := open_int Try.underlying3 (hval 3 3 v3 rfl rfl) h3
  clear hA0 hval0
  refine (waits_all W m0 A0 n0 c0 L0 u1 u3 A2 n2 c2 L2 hm0 hn0 hw0 hnc0 hcm0 hh0 hz0 hb0 hn2 hnc2 hcm2 hh2 hz2 hb2).mono fun e W' ⟨he, bel⟩ => ?_
  subst he
  exact ⟨_, rfl, _, _, _, [], _, [], hW', trodAll_mk1 (shut_bool Try.underlying4 _), (trodAll_cons_mk (Below.trod laidOut (by kernel_rfl) (of_decide_eq_true (by kernel_rfl)) k0 bel lt0) (trodAll_cons_mk (shut_int Try.underlying3 wu1) (trodAll_cons_mk (Below.trod laidOut (by kernel_rfl) (of_decide_eq_true (by kernel_rfl)) k2 bel lt2) (trodAll_cons_mk (shut_int Try.underlying3 wu3) trodAll_mk0)))), rfl, bel.frame _, fun h => by cases h⟩

theorem fanoutWaits_holds : Rows.FanoutWaitsSaid :=
  OpenClaim.holds_of_wide 6 Try.f6 rfl rfl rfl rfl rfl rfl rfl ⟨rfl, rfl, rfl, rfl, rfl⟩ rfl rfl rfl rfl rfl (by kernel_rfl) Try.func6 (by kernel_rfl)
    (of_decide_eq_true (by kernel_rfl)) (by unfold Func.isWrapper; first | (rw [if_pos (by decide +kernel)]; kernel_rfl) | (rw [if_neg (by decide +kernel)]; exact ⟨rfl, rfl⟩))
    (fun os started H enc _ => fanoutWaits_lifted os started H enc)
#print axioms fanoutWaits_holds
end Go.Proofs.Ytpegfbdepgmbjaa
