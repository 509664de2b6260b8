/- Recv: RecvSwap, proved: two items in either order leave the same. -/
import Derived.Test.YthfdjlhplcmicaaPw
namespace Go.Proofs.Ythfdjlhplcmicaa
open Go.RowKit Go.ChangeShapes Go.WideShapes Go.ChangeAt Go.Maps
set_option linter.unusedVariables false
set_option linter.unusedSimpArgs false

theorem take_small {n : Int} {L : List It} {x : It} (hR : RightL n L) : (takeF n L x).2.length ≤ 8 := by
  by_cases h : ShutP n L x
  · rw [take_shut h]; simp
  · have := take_count h
    have := right_len hR
    omega
set_option maxHeartbeats 8000000 in
theorem swap_walk (w : World) (n : Int) (v : Value) (L : List It) (x y : It) (h0 : IRow w v L) (hn : L.length ≤ 9223372036854775807) (hx : -9223372036854775808 ≤ x.1 ∧ x.1 ≤ 9223372036854775807) (hy : -9223372036854775808 ≤ y.1 ∧ y.1 ≤ 9223372036854775807) :
    Calls Try.prog 7 #[.agg #[.int .i64 n, v], .agg #[.int .i64 x.1, .int .i64 x.2.1, .int .i64 x.2.2.1, .int .i64 x.2.2.2.1, .int .i64 x.2.2.2.2], .agg #[.int .i64 y.1, .int .i64 y.2.1, .int .i64 y.2.2.1, .int .i64 y.2.2.2.1, .int .i64 y.2.2.2.2]] w fun e w' => e = .returned (.bool true) ∧ Below w.heap.size w w' := by
  obtain ⟨A, c, rfl, h1, h2, h3, hh⟩ := h0
  have h : Hid (IRow w (.slice A L.length c) L) := Lib.hid ⟨A, c, rfl, h1, h2, h3, hh⟩
  replace hh := Lib.hid hh
  have hall := Below.refl w.heap.size w
  cases hrt : rightF n L
  · skip
    refine K_enter 87 Try.func7 rfl rfl fun a H => ?_
    replace H := H.pick [0, 1, 2]
    refine wp_seq ?_
    refine wp_region_lit ?_
    refine op_box 24 _ #[.int .i64 n, .slice A L.length c] (H.ev rfl) fun w0 b0 hge hb k0 => ?_; have g0 := Nat.le_trans hall.size hge; replace hall := hall.trans (hb.mono hall.size); clear hb; clear hge; refine kl H rfl fun a H => ?_
    refine op_box 33 _ #[.int .i64 x.1, .int .i64 x.2.1, .int .i64 x.2.2.1, .int .i64 x.2.2.2.1, .int .i64 x.2.2.2.2] (H.ev rfl) fun w1 b1 hge hb k1 => ?_; have g1 := Nat.le_trans hall.size hge; replace k0 := Block.ups k0 hb; replace hall := hall.trans (hb.mono hall.size); clear hb; clear hge; refine kl H rfl fun a H => ?_
    refine op_box 33 _ #[.int .i64 y.1, .int .i64 y.2.1, .int .i64 y.2.2.1, .int .i64 y.2.2.2.1, .int .i64 y.2.2.2.2] (H.ev rfl) fun w2 b2 hge hb k2 => ?_; have g2 := Nat.le_trans hall.size hge; replace k0 := Block.ups k0 hb; replace k1 := Block.ups k1 hb; replace hall := hall.trans (hb.mono hall.size); clear hb; clear hge; refine kl H rfl fun a H => ?_
    refine wl_v _ (r_assign evc) ?_; refine kl H rfl fun a H => ?_
    refine wpList_nil ?_
    refine c_next ?_
    refine wp_seq ?_
    refine wp_region_lit ?_
    refine wl_call _ _ _ (small_any _) (r_call0 cf9) ?_; rintro e w9 ⟨rfl, hb⟩; refine ⟨_, rfl, ?_⟩; replace k0 := Block.ups k0 hb; replace k1 := Block.ups k1 hb; replace k2 := Block.ups k2 hb; replace hall := hall.trans (hb.mono hall.size); clear hb; refine kl H rfl fun a H => ?_
    refine wl_v _ (r_assign (H.ev rfl)) ?_; refine kl H rfl fun a H => ?_
    refine wpList_nil ?_
    refine c_next ?_
    refine wp_seq ?_
    refine wp_seq ?_
    refine wp_region_lit ?_
    refine wl_v _ (r_row (cs := [.int .i64 n, .slice A L.length c]) (H.ev rfl) (block_range k0) (by kernel_rfl) s24 rfl) ?_; refine kl H rfl fun a H => ?_
    refine wl_call _ _ _ (right_any _ n _ L (Row.up h.out hall) (by omega)) (r_call1 cf16 (H.ev rfl)) ?_; rintro e w9 ⟨rfl, hb⟩; refine ⟨_, rfl, ?_⟩; rw [hrt]; replace k0 := Block.ups k0 hb; replace k1 := Block.ups k1 hb; replace k2 := Block.ups k2 hb; replace hall := hall.trans (hb.mono hall.size); clear hb; refine kl H rfl fun a H => ?_
    refine wl_v _ (r_not (H.ev rfl) rfl) ?_; refine kl H rfl fun a H => ?_
    refine wl_v _ (r_move (H.ev rfl)) ?_; refine kl H rfl fun a H => ?_
    refine wl_s (kg_no rfl H rfl rfl rfl) ?_; refine kl H rfl fun a H => ?_
    refine wl_s (kg_no rfl H rfl rfl rfl) ?_; refine kl H rfl fun a H => ?_
    refine wl_s (kg_no rfl H rfl rfl rfl) ?_; refine kl H rfl fun a H => ?_
    refine wl_s (kg_no rfl H rfl rfl rfl) ?_; refine kl H rfl fun a H => ?_
    refine wl_s (kg_no rfl H rfl rfl rfl) ?_; refine kl H rfl fun a H => ?_
    refine wl_v _ (r_pick_t (H.ev rfl) evc) ?_; refine kl H rfl fun a H => ?_
    refine wl_v _ (r_move (H.ev rfl)) ?_; refine kl H rfl fun a H => ?_
    refine wl_s (kg_no rfl H rfl rfl rfl) ?_; refine kl H rfl fun a H => ?_
    refine wl_s (kg_no rfl H rfl rfl rfl) ?_; refine kl H rfl fun a H => ?_
    refine wl_s (kg_no rfl H rfl rfl rfl) ?_; refine kl H rfl fun a H => ?_
    refine wl_s (kg_no rfl H rfl rfl rfl) ?_; refine kl H rfl fun a H => ?_
    refine wl_s (kg_no rfl H rfl rfl rfl) ?_; refine kl H rfl fun a H => ?_
    refine wl_s (kg_no rfl H rfl rfl rfl) ?_; refine kl H rfl fun a H => ?_
    refine wl_v _ (r_pick_t (H.ev rfl) evc) ?_; refine kl H rfl fun a H => ?_
    refine wl_v _ (r_move (H.ev rfl)) ?_; refine kl H rfl fun a H => ?_
    refine wl_s (kg_no rfl H rfl rfl rfl) ?_; refine kl H rfl fun a H => ?_
    refine wl_s (kg_no rfl H rfl rfl rfl) ?_; refine kl H rfl fun a H => ?_
    refine wl_s (kg_no rfl H rfl rfl rfl) ?_; refine kl H rfl fun a H => ?_
    refine wl_s (kg_no rfl H rfl rfl rfl) ?_; refine kl H rfl fun a H => ?_
    refine wl_s (kg_no rfl H rfl rfl rfl) ?_; refine kl H rfl fun a H => ?_
    refine wl_s (kg_no rfl H rfl rfl rfl) ?_; refine kl H rfl fun a H => ?_
    refine wl_v _ (r_pick_t (H.ev rfl) evc) ?_; refine kl H rfl fun a H => ?_
    refine wpList_nil ?_
    refine c_next ?_
    refine c_cond_t H rfl ?_
    refine wp_seq ?_
    refine wp_region_lit ?_
    refine wl_v _ (r_move (H.ev rfl)) ?_; refine kl H rfl fun a H => ?_
    refine wl_v _ (r_assign (H.ev rfl)) ?_; refine kl H rfl fun a H => ?_
    refine wpList_nil ?_
    refine c_next ?_
    refine wp_ret ?_
    refine r_then ?_
    exact k_ret1 H rfl rfl ⟨rfl, hall⟩
  · skip
    have HRT := Lib.hid hrt
    have HR : Hid (RightL n L) := Lib.hid (of_decide_eq_true hrt)
    have hn1 := HR.out.1
    have hn2 := HR.out.2.1
    have hLl := right_len HR.out
    refine K_enter 87 Try.func7 rfl rfl fun a H => ?_
    replace H := H.pick [0, 1, 2]
    refine wp_seq ?_
    refine wp_region_lit ?_
    refine op_box 24 _ #[.int .i64 n, .slice A L.length c] (H.ev rfl) fun w0 b0 hge hb k0 => ?_; have g0 := Nat.le_trans hall.size hge; replace hall := hall.trans (hb.mono hall.size); clear hb; clear hge; refine kl H rfl fun a H => ?_
    refine op_box 33 _ #[.int .i64 x.1, .int .i64 x.2.1, .int .i64 x.2.2.1, .int .i64 x.2.2.2.1, .int .i64 x.2.2.2.2] (H.ev rfl) fun w1 b1 hge hb k1 => ?_; have g1 := Nat.le_trans hall.size hge; replace k0 := Block.ups k0 hb; replace hall := hall.trans (hb.mono hall.size); clear hb; clear hge; refine kl H rfl fun a H => ?_
    refine op_box 33 _ #[.int .i64 y.1, .int .i64 y.2.1, .int .i64 y.2.2.1, .int .i64 y.2.2.2.1, .int .i64 y.2.2.2.2] (H.ev rfl) fun w2 b2 hge hb k2 => ?_; have g2 := Nat.le_trans hall.size hge; replace k0 := Block.ups k0 hb; replace k1 := Block.ups k1 hb; replace hall := hall.trans (hb.mono hall.size); clear hb; clear hge; refine kl H rfl fun a H => ?_
    refine wl_v _ (r_assign evc) ?_; refine kl H rfl fun a H => ?_
    refine wpList_nil ?_
    refine c_next ?_
    refine wp_seq ?_
    refine wp_region_lit ?_
    refine wl_call _ _ _ (small_any _) (r_call0 cf9) ?_; rintro e w9 ⟨rfl, hb⟩; refine ⟨_, rfl, ?_⟩; replace k0 := Block.ups k0 hb; replace k1 := Block.ups k1 hb; replace k2 := Block.ups k2 hb; replace hall := hall.trans (hb.mono hall.size); clear hb; refine kl H rfl fun a H => ?_
    refine wl_v _ (r_assign (H.ev rfl)) ?_; refine kl H rfl fun a H => ?_
    refine wpList_nil ?_
    refine c_next ?_
    refine wp_seq ?_
    refine wp_seq ?_
    refine wp_region_lit ?_
    refine wl_v _ (r_row (cs := [.int .i64 n, .slice A L.length c]) (H.ev rfl) (block_range k0) (by kernel_rfl) s24 rfl) ?_; refine kl H rfl fun a H => ?_
    refine wl_call _ _ _ (right_any _ n _ L (Row.up h.out hall) (by omega)) (r_call1 cf16 (H.ev rfl)) ?_; rintro e w9 ⟨rfl, hb⟩; refine ⟨_, rfl, ?_⟩; rw [hrt]; replace k0 := Block.ups k0 hb; replace k1 := Block.ups k1 hb; replace k2 := Block.ups k2 hb; replace hall := hall.trans (hb.mono hall.size); clear hb; refine kl H rfl fun a H => ?_
    refine wl_v _ (r_not (H.ev rfl) rfl) ?_; refine kl H rfl fun a H => ?_
    refine wl_v _ (r_move (H.ev rfl)) ?_; refine kl H rfl fun a H => ?_
    refine op_unguard _ _ (kg_yes rfl H rfl rfl rfl) ?_; refine wl_v _ (r_fld (q := 0) fld33_0 (H.ev rfl) rfl) ?_; refine kl H rfl fun a H => ?_
    refine op_unguard _ _ (kg_yes rfl H rfl rfl rfl) ?_; refine wl_v _ (r_ld Try.underlying3 rfl (H.ev rfl) ((Block.cell k1 0).trans rfl)) ?_; refine kl H rfl fun a H => ?_
    refine op_unguard _ _ (kg_yes rfl H rfl rfl rfl) ?_; refine wl_v _ (r_fld (q := 0) fld33_0 (H.ev rfl) rfl) ?_; refine kl H rfl fun a H => ?_
    refine op_unguard _ _ (kg_yes rfl H rfl rfl rfl) ?_; refine wl_v _ (r_ld Try.underlying3 rfl (H.ev rfl) ((Block.cell k2 0).trans rfl)) ?_; refine kl H rfl fun a H => ?_
    by_cases hcc0 : x.1 = y.1
    · skip
      refine op_unguard _ _ (kg_yes rfl H rfl rfl rfl) ?_; refine wl_v _ (r_eq Try.underlying3 (H.ev rfl) (H.ev rfl) (dec_t (hcc0))) ?_; refine kl H rfl fun a H => ?_
      refine wl_v _ (r_pick_f (H.ev rfl) (H.ev rfl)) ?_; refine kl H rfl fun a H => ?_
      refine wl_v _ (r_move (H.ev rfl)) ?_; refine kl H rfl fun a H => ?_
      refine wl_s (kg_no rfl H rfl rfl rfl) ?_; refine kl H rfl fun a H => ?_
      refine wl_s (kg_no rfl H rfl rfl rfl) ?_; refine kl H rfl fun a H => ?_
      refine wl_s (kg_no rfl H rfl rfl rfl) ?_; refine kl H rfl fun a H => ?_
      refine wl_s (kg_no rfl H rfl rfl rfl) ?_; refine kl H rfl fun a H => ?_
      refine wl_s (kg_no rfl H rfl rfl rfl) ?_; refine kl H rfl fun a H => ?_
      refine wl_s (kg_no rfl H rfl rfl rfl) ?_; refine kl H rfl fun a H => ?_
      refine wl_v _ (r_pick_t (H.ev rfl) evc) ?_; refine kl H rfl fun a H => ?_
      refine wl_v _ (r_move (H.ev rfl)) ?_; refine kl H rfl fun a H => ?_
      refine wl_s (kg_no rfl H rfl rfl rfl) ?_; refine kl H rfl fun a H => ?_
      refine wl_s (kg_no rfl H rfl rfl rfl) ?_; refine kl H rfl fun a H => ?_
      refine wl_s (kg_no rfl H rfl rfl rfl) ?_; refine kl H rfl fun a H => ?_
      refine wl_s (kg_no rfl H rfl rfl rfl) ?_; refine kl H rfl fun a H => ?_
      refine wl_s (kg_no rfl H rfl rfl rfl) ?_; refine kl H rfl fun a H => ?_
      refine wl_s (kg_no rfl H rfl rfl rfl) ?_; refine kl H rfl fun a H => ?_
      refine wl_v _ (r_pick_t (H.ev rfl) evc) ?_; refine kl H rfl fun a H => ?_
      refine wpList_nil ?_
      refine c_next ?_
      refine c_cond_t H rfl ?_
      refine wp_seq ?_
      refine wp_region_lit ?_
      refine wl_v _ (r_move (H.ev rfl)) ?_; refine kl H rfl fun a H => ?_
      refine wl_v _ (r_assign (H.ev rfl)) ?_; refine kl H rfl fun a H => ?_
      refine wpList_nil ?_
      refine c_next ?_
      refine wp_ret ?_
      refine r_then ?_
      exact k_ret1 H rfl rfl ⟨rfl, hall⟩
    · skip
      refine op_unguard _ _ (kg_yes rfl H rfl rfl rfl) ?_; refine wl_v _ (r_eq Try.underlying3 (H.ev rfl) (H.ev rfl) (dec_f (hcc0))) ?_; refine kl H rfl fun a H => ?_
      refine wl_v _ (r_pick_f (H.ev rfl) (H.ev rfl)) ?_; refine kl H rfl fun a H => ?_
      refine wl_v _ (r_move (H.ev rfl)) ?_; refine kl H rfl fun a H => ?_
      refine op_unguard _ _ (kg_yes rfl H rfl rfl rfl) ?_; refine wl_v _ (r_fld (q := 0) fld33_0 (H.ev rfl) rfl) ?_; refine kl H rfl fun a H => ?_
      refine op_unguard _ _ (kg_yes rfl H rfl rfl rfl) ?_; refine wl_v _ (r_ld Try.underlying3 rfl (H.ev rfl) ((Block.cell k1 0).trans rfl)) ?_; refine kl H rfl fun a H => ?_
      refine op_unguard _ _ (kg_yes rfl H rfl rfl rfl) ?_; refine wl_v _ (r_fld (q := 0) fld24_0 (H.ev rfl) rfl) ?_; refine kl H rfl fun a H => ?_
      refine op_unguard _ _ (kg_yes rfl H rfl rfl rfl) ?_; refine wl_v _ (r_ld Try.underlying3 rfl (H.ev rfl) ((Block.cell k0 0).trans rfl)) ?_; refine kl H rfl fun a H => ?_
      refine op_unguard _ _ (kg_yes rfl H rfl rfl rfl) ?_; refine wl_v _ (r_add (q := n + 8) Try.underlying3 (H.ev rfl) evc (by omega) (by omega)) ?_; refine kl H rfl fun a H => ?_
      by_cases hcc1 : x.1 ≥ (n + 8)
      · skip
        refine op_unguard _ _ (kg_yes rfl H rfl rfl rfl) ?_; refine wl_v _ (r_ge Try.underlying3 (H.ev rfl) (H.ev rfl) (dec_t (hcc1))) ?_; refine kl H rfl fun a H => ?_
        refine wl_v _ (r_pick_f (H.ev rfl) (H.ev rfl)) ?_; refine kl H rfl fun a H => ?_
        refine wl_v _ (r_move (H.ev rfl)) ?_; refine kl H rfl fun a H => ?_
        refine wl_s (kg_no rfl H rfl rfl rfl) ?_; refine kl H rfl fun a H => ?_
        refine wl_s (kg_no rfl H rfl rfl rfl) ?_; refine kl H rfl fun a H => ?_
        refine wl_s (kg_no rfl H rfl rfl rfl) ?_; refine kl H rfl fun a H => ?_
        refine wl_s (kg_no rfl H rfl rfl rfl) ?_; refine kl H rfl fun a H => ?_
        refine wl_s (kg_no rfl H rfl rfl rfl) ?_; refine kl H rfl fun a H => ?_
        refine wl_s (kg_no rfl H rfl rfl rfl) ?_; refine kl H rfl fun a H => ?_
        refine wl_v _ (r_pick_t (H.ev rfl) evc) ?_; refine kl H rfl fun a H => ?_
        refine wpList_nil ?_
        refine c_next ?_
        refine c_cond_t H rfl ?_
        refine wp_seq ?_
        refine wp_region_lit ?_
        refine wl_v _ (r_move (H.ev rfl)) ?_; refine kl H rfl fun a H => ?_
        refine wl_v _ (r_assign (H.ev rfl)) ?_; refine kl H rfl fun a H => ?_
        refine wpList_nil ?_
        refine c_next ?_
        refine wp_ret ?_
        refine r_then ?_
        exact k_ret1 H rfl rfl ⟨rfl, hall⟩
      · skip
        refine op_unguard _ _ (kg_yes rfl H rfl rfl rfl) ?_; refine wl_v _ (r_ge Try.underlying3 (H.ev rfl) (H.ev rfl) (dec_f (hcc1))) ?_; refine kl H rfl fun a H => ?_
        refine wl_v _ (r_pick_f (H.ev rfl) (H.ev rfl)) ?_; refine kl H rfl fun a H => ?_
        refine wl_v _ (r_move (H.ev rfl)) ?_; refine kl H rfl fun a H => ?_
        refine op_unguard _ _ (kg_yes rfl H rfl rfl rfl) ?_; refine wl_v _ (r_fld (q := 0) fld33_0 (H.ev rfl) rfl) ?_; refine kl H rfl fun a H => ?_
        refine op_unguard _ _ (kg_yes rfl H rfl rfl rfl) ?_; refine wl_v _ (r_ld Try.underlying3 rfl (H.ev rfl) ((Block.cell k2 0).trans rfl)) ?_; refine kl H rfl fun a H => ?_
        refine op_unguard _ _ (kg_yes rfl H rfl rfl rfl) ?_; refine wl_v _ (r_fld (q := 0) fld24_0 (H.ev rfl) rfl) ?_; refine kl H rfl fun a H => ?_
        refine op_unguard _ _ (kg_yes rfl H rfl rfl rfl) ?_; refine wl_v _ (r_ld Try.underlying3 rfl (H.ev rfl) ((Block.cell k0 0).trans rfl)) ?_; refine kl H rfl fun a H => ?_
        refine op_unguard _ _ (kg_yes rfl H rfl rfl rfl) ?_; refine wl_v _ (r_add (q := n + 8) Try.underlying3 (H.ev rfl) evc (by omega) (by omega)) ?_; refine kl H rfl fun a H => ?_
        by_cases hcc2 : y.1 ≥ (n + 8)
        · skip
          refine op_unguard _ _ (kg_yes rfl H rfl rfl rfl) ?_; refine wl_v _ (r_ge Try.underlying3 (H.ev rfl) (H.ev rfl) (dec_t (hcc2))) ?_; refine kl H rfl fun a H => ?_
          refine wl_v _ (r_pick_f (H.ev rfl) (H.ev rfl)) ?_; refine kl H rfl fun a H => ?_
          refine wpList_nil ?_
          refine c_next ?_
          refine c_cond_t H rfl ?_
          refine wp_seq ?_
          refine wp_region_lit ?_
          refine wl_v _ (r_move (H.ev rfl)) ?_; refine kl H rfl fun a H => ?_
          refine wl_v _ (r_assign (H.ev rfl)) ?_; refine kl H rfl fun a H => ?_
          refine wpList_nil ?_
          refine c_next ?_
          refine wp_ret ?_
          refine r_then ?_
          exact k_ret1 H rfl rfl ⟨rfl, hall⟩
        · skip
          refine op_unguard _ _ (kg_yes rfl H rfl rfl rfl) ?_; refine wl_v _ (r_ge Try.underlying3 (H.ev rfl) (H.ev rfl) (dec_f (hcc2))) ?_; refine kl H rfl fun a H => ?_
          refine wl_v _ (r_pick_f (H.ev rfl) (H.ev rfl)) ?_; refine kl H rfl fun a H => ?_
          refine wpList_nil ?_
          refine c_next ?_
          refine c_cond_f H rfl ?_
          refine wp_skip ?_
          refine c_next ?_
          refine wp_seq ?_
          have hne : x.1 ≠ y.1 := by omega
          have hsw := take_swap HR.out hne (by omega) (by omega)
          have r1 := right_take (x := x) HR.out
          have r3 := right_take (x := y) HR.out
          have n1 := take_small (x := x) HR.out
          have n3 := take_small (x := y) HR.out
          obtain ⟨⟨⟨N1, L1⟩, NS1⟩, hT1⟩ : ∃ T, takeF n L x = T := ⟨_, rfl⟩
          obtain ⟨⟨⟨N3, L3⟩, NS3⟩, hT3⟩ : ∃ T, takeF n L y = T := ⟨_, rfl⟩
          rw [hT1] at hsw r1 n1
          rw [hT3] at hsw r3 n3
          simp only at hsw r1 r3 n1 n3
          have r2 := right_take (x := y) r1
          have n2 := take_small (x := y) r1
          have n4 := take_small (x := x) r3
          obtain ⟨⟨⟨N2, L2⟩, NS2⟩, hT2⟩ : ∃ T, takeF N1 L1 y = T := ⟨_, rfl⟩
          obtain ⟨⟨⟨N4, L4⟩, NS4⟩, hT4⟩ : ∃ T, takeF N3 L3 x = T := ⟨_, rfl⟩
          rw [hT2] at hsw r2 n2
          rw [hT4] at hsw n4
          simp only at hsw r2 n2 n4
          have hs1 := congrArg Prod.fst hsw
          have hs2 := congrArg Prod.snd hsw
          simp only at hs1 hs2
          rw [← hs1] at hT4
          have HNS := Lib.hid hs2
          have HT1 := Lib.hid hT1
          have HT2 := Lib.hid hT2
          have HT3 := Lib.hid hT3
          have HT4 := Lib.hid hT4
          have l1 := right_len r1
          have l2 := right_len r2
          have l3 := right_len r3
          clear hsw hs1 hs2 r1 r2 r3 hT1 hT2 hT3 hT4
          refine wp_region_lit ?_
          refine wl_v _ (r_row (cs := [.int .i64 n, .slice A L.length c]) (H.ev rfl) (block_range k0) (by kernel_rfl) s24 rfl) ?_; refine kl H rfl fun a H => ?_
          refine wl_v _ (r_row (cs := [.int .i64 x.1, .int .i64 x.2.1, .int .i64 x.2.2.1, .int .i64 x.2.2.2.1, .int .i64 x.2.2.2.2]) (H.ev rfl) (block_range k1) (by kernel_rfl) s33 rfl) ?_; refine kl H rfl fun a H => ?_
          refine wl_call _ _ _ (take_any _ n (.slice A L.length c) L x (Row.up h.out hall) (by omega) hx.1 hx.2) (r_call2 cf12 (H.ev rfl) (H.ev rfl)) ?_; rintro e w9 ⟨⟨s1, o1, rfl, ⟨rs1, fs1⟩, ⟨ro1, fo1⟩⟩, hb⟩; refine ⟨_, rfl, ?_⟩; rw [HT1.out] at rs1 ro1 ⊢; replace k0 := Block.ups k0 hb; replace k1 := Block.ups k1 hb; replace k2 := Block.ups k2 hb; replace hall := hall.trans (hb.mono hall.size); clear hb; clear fs1 fo1; obtain ⟨As1, cs1, hsv, s1, s2, s3, s4⟩ := rs1; have rs1 : IRow _ (.slice As1 L1.length cs1) L1 := ⟨As1, cs1, rfl, s1, s2, s3, s4⟩; subst hsv; obtain ⟨Ao1, co1, hov, u1, u2, u3, u4⟩ := ro1; have ro1 : NRow _ (.slice Ao1 NS1.length co1) NS1 := ⟨Ao1, co1, rfl, u1, u2, u3, u4⟩; subst hov; clear s1 s2 s3 s4 u1 u2 u3 u4; refine kl H rfl fun a H => ?_
          refine wl_v _ (r_move (H.ev rfl)) ?_; refine kl H rfl fun a H => ?_
          refine wl_v _ (r_extract (v := .agg #[.int .i64 N1, .slice As1 L1.length cs1]) (H.ev rfl) rfl) ?_; refine kl H rfl fun a H => ?_
          refine wl_v _ (r_extract (v := .slice Ao1 NS1.length co1) (H.ev rfl) rfl) ?_; refine kl H rfl fun a H => ?_
          refine op_new 24 8 (.tmp 48) #[.int .i64 N1, .slice As1 L1.length cs1] _ z24 s24 rfl (by simp [Value.cells, Value.oneCell']) (fun p => (H.put 8 p rfl).ev rfl) (fun p => (H.put 8 p rfl).ev rfl) fun w3 b3 hge hb k3 => ?_; have g3 := Nat.le_trans hall.size hge; replace k0 := Block.ups k0 hb; replace k1 := Block.ups k1 hb; replace k2 := Block.ups k2 hb; replace rs1 := Row.up rs1 hb; replace ro1 := Row.up ro1 hb; replace hall := hall.trans (hb.mono hall.size); clear hb; clear hge; refine kl H rfl fun a H => ?_
          refine wl_v _ (r_assign (H.ev rfl)) ?_; refine kl H rfl fun a H => ?_
          refine wpList_nil ?_
          refine c_next ?_
          refine wp_seq ?_
          refine wp_region_lit ?_
          refine wl_v _ (r_row (cs := [.int .i64 N1, .slice As1 L1.length cs1]) (H.ev rfl) (block_range k3) (by kernel_rfl) s24 rfl) ?_; refine kl H rfl fun a H => ?_
          refine wl_v _ (r_row (cs := [.int .i64 y.1, .int .i64 y.2.1, .int .i64 y.2.2.1, .int .i64 y.2.2.2.1, .int .i64 y.2.2.2.2]) (H.ev rfl) (block_range k2) (by kernel_rfl) s33 rfl) ?_; refine kl H rfl fun a H => ?_
          refine wl_call _ _ _ (take_any _ N1 (.slice As1 L1.length cs1) L1 y rs1 (by omega) hy.1 hy.2) (r_call2 cf12 (H.ev rfl) (H.ev rfl)) ?_; rintro e w9 ⟨⟨s2, o2, rfl, ⟨rs2, fs2⟩, ⟨ro2, fo2⟩⟩, hb⟩; refine ⟨_, rfl, ?_⟩; rw [HT2.out] at rs2 ro2 ⊢; replace k0 := Block.ups k0 hb; replace k1 := Block.ups k1 hb; replace k2 := Block.ups k2 hb; replace rs1 := Row.up rs1 hb; replace ro1 := Row.up ro1 hb; replace k3 := Block.ups k3 hb; replace hall := hall.trans (hb.mono hall.size); clear hb; clear fs2 fo2; obtain ⟨As2, cs2, hsv, s1, s2, s3, s4⟩ := rs2; have rs2 : IRow _ (.slice As2 L2.length cs2) L2 := ⟨As2, cs2, rfl, s1, s2, s3, s4⟩; subst hsv; obtain ⟨Ao2, co2, hov, u1, u2, u3, u4⟩ := ro2; have ro2 : NRow _ (.slice Ao2 NS2.length co2) NS2 := ⟨Ao2, co2, rfl, u1, u2, u3, u4⟩; subst hov; clear s1 s2 s3 s4 u1 u2 u3 u4; refine kl H rfl fun a H => ?_
          refine wl_v _ (r_move (H.ev rfl)) ?_; refine kl H rfl fun a H => ?_
          refine wl_v _ (r_extract (v := .agg #[.int .i64 N2, .slice As2 L2.length cs2]) (H.ev rfl) rfl) ?_; refine kl H rfl fun a H => ?_
          refine wl_v _ (r_extract (v := .slice Ao2 NS2.length co2) (H.ev rfl) rfl) ?_; refine kl H rfl fun a H => ?_
          refine op_new 24 10 (.tmp 54) #[.int .i64 N2, .slice As2 L2.length cs2] _ z24 s24 rfl (by simp [Value.cells, Value.oneCell']) (fun p => (H.put 10 p rfl).ev rfl) (fun p => (H.put 10 p rfl).ev rfl) fun w4 b4 hge hb k4 => ?_; have g4 := Nat.le_trans hall.size hge; replace k0 := Block.ups k0 hb; replace k1 := Block.ups k1 hb; replace k2 := Block.ups k2 hb; replace rs1 := Row.up rs1 hb; replace ro1 := Row.up ro1 hb; replace k3 := Block.ups k3 hb; replace rs2 := Row.up rs2 hb; replace ro2 := Row.up ro2 hb; replace hall := hall.trans (hb.mono hall.size); clear hb; clear hge; refine kl H rfl fun a H => ?_
          refine wl_v _ (r_assign (H.ev rfl)) ?_; refine kl H rfl fun a H => ?_
          refine wpList_nil ?_
          refine c_next ?_
          refine wp_seq ?_
          refine wp_region_lit ?_
          refine wl_v _ (r_row (cs := [.int .i64 n, .slice A L.length c]) (H.ev rfl) (block_range k0) (by kernel_rfl) s24 rfl) ?_; refine kl H rfl fun a H => ?_
          refine wl_v _ (r_row (cs := [.int .i64 y.1, .int .i64 y.2.1, .int .i64 y.2.2.1, .int .i64 y.2.2.2.1, .int .i64 y.2.2.2.2]) (H.ev rfl) (block_range k2) (by kernel_rfl) s33 rfl) ?_; refine kl H rfl fun a H => ?_
          refine wl_call _ _ _ (take_any _ n (.slice A L.length c) L y (Row.up h.out hall) (by omega) hy.1 hy.2) (r_call2 cf12 (H.ev rfl) (H.ev rfl)) ?_; rintro e w9 ⟨⟨s3, o3, rfl, ⟨rs3, fs3⟩, ⟨ro3, fo3⟩⟩, hb⟩; refine ⟨_, rfl, ?_⟩; rw [HT3.out] at rs3 ro3 ⊢; replace k0 := Block.ups k0 hb; replace k1 := Block.ups k1 hb; replace k2 := Block.ups k2 hb; replace rs1 := Row.up rs1 hb; replace ro1 := Row.up ro1 hb; replace k3 := Block.ups k3 hb; replace rs2 := Row.up rs2 hb; replace ro2 := Row.up ro2 hb; replace k4 := Block.ups k4 hb; replace hall := hall.trans (hb.mono hall.size); clear hb; clear fs3 fo3; obtain ⟨As3, cs3, hsv, s1, s2, s3, s4⟩ := rs3; have rs3 : IRow _ (.slice As3 L3.length cs3) L3 := ⟨As3, cs3, rfl, s1, s2, s3, s4⟩; subst hsv; obtain ⟨Ao3, co3, hov, u1, u2, u3, u4⟩ := ro3; have ro3 : NRow _ (.slice Ao3 NS3.length co3) NS3 := ⟨Ao3, co3, rfl, u1, u2, u3, u4⟩; subst hov; clear s1 s2 s3 s4 u1 u2 u3 u4; refine kl H rfl fun a H => ?_
          refine wl_v _ (r_move (H.ev rfl)) ?_; refine kl H rfl fun a H => ?_
          refine wl_v _ (r_extract (v := .agg #[.int .i64 N3, .slice As3 L3.length cs3]) (H.ev rfl) rfl) ?_; refine kl H rfl fun a H => ?_
          refine wl_v _ (r_extract (v := .slice Ao3 NS3.length co3) (H.ev rfl) rfl) ?_; refine kl H rfl fun a H => ?_
          refine op_new 24 12 (.tmp 60) #[.int .i64 N3, .slice As3 L3.length cs3] _ z24 s24 rfl (by simp [Value.cells, Value.oneCell']) (fun p => (H.put 12 p rfl).ev rfl) (fun p => (H.put 12 p rfl).ev rfl) fun w5 b5 hge hb k5 => ?_; have g5 := Nat.le_trans hall.size hge; replace k0 := Block.ups k0 hb; replace k1 := Block.ups k1 hb; replace k2 := Block.ups k2 hb; replace rs1 := Row.up rs1 hb; replace ro1 := Row.up ro1 hb; replace k3 := Block.ups k3 hb; replace rs2 := Row.up rs2 hb; replace ro2 := Row.up ro2 hb; replace k4 := Block.ups k4 hb; replace rs3 := Row.up rs3 hb; replace ro3 := Row.up ro3 hb; replace hall := hall.trans (hb.mono hall.size); clear hb; clear hge; refine kl H rfl fun a H => ?_
          refine wl_v _ (r_assign (H.ev rfl)) ?_; refine kl H rfl fun a H => ?_
          refine wpList_nil ?_
          refine c_next ?_
          refine wp_seq ?_
          refine wp_region_lit ?_
          refine wl_v _ (r_row (cs := [.int .i64 N3, .slice As3 L3.length cs3]) (H.ev rfl) (block_range k5) (by kernel_rfl) s24 rfl) ?_; refine kl H rfl fun a H => ?_
          refine wl_v _ (r_row (cs := [.int .i64 x.1, .int .i64 x.2.1, .int .i64 x.2.2.1, .int .i64 x.2.2.2.1, .int .i64 x.2.2.2.2]) (H.ev rfl) (block_range k1) (by kernel_rfl) s33 rfl) ?_; refine kl H rfl fun a H => ?_
          refine wl_call _ _ _ (take_any _ N3 (.slice As3 L3.length cs3) L3 x rs3 (by omega) hx.1 hx.2) (r_call2 cf12 (H.ev rfl) (H.ev rfl)) ?_; rintro e w9 ⟨⟨s4, o4, rfl, ⟨rs4, fs4⟩, ⟨ro4, fo4⟩⟩, hb⟩; refine ⟨_, rfl, ?_⟩; rw [HT4.out] at rs4 ro4 ⊢; replace k0 := Block.ups k0 hb; replace k1 := Block.ups k1 hb; replace k2 := Block.ups k2 hb; replace rs1 := Row.up rs1 hb; replace ro1 := Row.up ro1 hb; replace k3 := Block.ups k3 hb; replace rs2 := Row.up rs2 hb; replace ro2 := Row.up ro2 hb; replace k4 := Block.ups k4 hb; replace rs3 := Row.up rs3 hb; replace ro3 := Row.up ro3 hb; replace k5 := Block.ups k5 hb; replace hall := hall.trans (hb.mono hall.size); clear hb; clear fs4 fo4; obtain ⟨As4, cs4, hsv, s1, s2, s3, s4⟩ := rs4; have rs4 : IRow _ (.slice As4 L2.length cs4) L2 := ⟨As4, cs4, rfl, s1, s2, s3, s4⟩; subst hsv; obtain ⟨Ao4, co4, hov, u1, u2, u3, u4⟩ := ro4; have ro4 : NRow _ (.slice Ao4 NS4.length co4) NS4 := ⟨Ao4, co4, rfl, u1, u2, u3, u4⟩; subst hov; clear s1 s2 s3 s4 u1 u2 u3 u4; refine kl H rfl fun a H => ?_
          refine wl_v _ (r_move (H.ev rfl)) ?_; refine kl H rfl fun a H => ?_
          refine wl_v _ (r_extract (v := .agg #[.int .i64 N2, .slice As4 L2.length cs4]) (H.ev rfl) rfl) ?_; refine kl H rfl fun a H => ?_
          refine wl_v _ (r_extract (v := .slice Ao4 NS4.length co4) (H.ev rfl) rfl) ?_; refine kl H rfl fun a H => ?_
          refine op_new 24 14 (.tmp 66) #[.int .i64 N2, .slice As4 L2.length cs4] _ z24 s24 rfl (by simp [Value.cells, Value.oneCell']) (fun p => (H.put 14 p rfl).ev rfl) (fun p => (H.put 14 p rfl).ev rfl) fun w6 b6 hge hb k6 => ?_; have g6 := Nat.le_trans hall.size hge; replace k0 := Block.ups k0 hb; replace k1 := Block.ups k1 hb; replace k2 := Block.ups k2 hb; replace rs1 := Row.up rs1 hb; replace ro1 := Row.up ro1 hb; replace k3 := Block.ups k3 hb; replace rs2 := Row.up rs2 hb; replace ro2 := Row.up ro2 hb; replace k4 := Block.ups k4 hb; replace rs3 := Row.up rs3 hb; replace ro3 := Row.up ro3 hb; replace k5 := Block.ups k5 hb; replace rs4 := Row.up rs4 hb; replace ro4 := Row.up ro4 hb; replace hall := hall.trans (hb.mono hall.size); clear hb; clear hge; refine kl H rfl fun a H => ?_
          refine wl_v _ (r_assign (H.ev rfl)) ?_; refine kl H rfl fun a H => ?_
          refine wpList_nil ?_
          refine c_next ?_
          refine wp_seq ?_
          refine wp_region_lit ?_
          refine wl_v _ (r_move (H.ev rfl)) ?_; refine kl H rfl fun a H => ?_
          refine wl_v _ (r_move (H.ev rfl)) ?_; refine kl H rfl fun a H => ?_
          refine op_unguard _ _ (kg_yes rfl H rfl rfl rfl) ?_; refine wl_v _ (r_row (cs := [.int .i64 N2, .slice As2 L2.length cs2]) (H.ev rfl) (block_range k4) (by kernel_rfl) s24 rfl) ?_; refine kl H rfl fun a H => ?_
          refine op_unguard _ _ (kg_yes rfl H rfl rfl rfl) ?_; refine wl_v _ (r_row (cs := [.int .i64 N2, .slice As4 L2.length cs4]) (H.ev rfl) (block_range k6) (by kernel_rfl) s24 rfl) ?_; refine kl H rfl fun a H => ?_
          refine op_unguard _ _ (kg_yes rfl H rfl rfl rfl) ?_; refine wl_call _ _ _ (same_any _ N2 N2 _ _ L2 L2 rs2 rs4 (by omega)) (r_call2 cf10 (H.ev rfl) (H.ev rfl)) ?_; rintro e w9 ⟨rfl, hb⟩; refine ⟨_, rfl, ?_⟩; rw [show sameB N2 L2 N2 L2 = true from same_refl]; replace k0 := Block.ups k0 hb; replace k1 := Block.ups k1 hb; replace k2 := Block.ups k2 hb; replace rs1 := Row.up rs1 hb; replace ro1 := Row.up ro1 hb; replace k3 := Block.ups k3 hb; replace rs2 := Row.up rs2 hb; replace ro2 := Row.up ro2 hb; replace k4 := Block.ups k4 hb; replace rs3 := Row.up rs3 hb; replace ro3 := Row.up ro3 hb; replace k5 := Block.ups k5 hb; replace rs4 := Row.up rs4 hb; replace ro4 := Row.up ro4 hb; replace k6 := Block.ups k6 hb; replace hall := hall.trans (hb.mono hall.size); clear hb; refine kl H rfl fun a H => ?_
          refine wl_v _ (r_pick_t (H.ev rfl) (H.ev rfl)) ?_; refine kl H rfl fun a H => ?_
          refine wl_v _ (r_move (H.ev rfl)) ?_; refine kl H rfl fun a H => ?_
          refine op_unguard _ _ (kg_yes rfl H rfl rfl rfl) ?_; refine op_litv 27 0 #[] 31 #[] (by simp) (fun w => by kernel_rfl) fun w1 bl hge hb kk => ?_; have hn0 := own_empty (size := 4) kk hge; clear hge kk; refine kl H rfl fun a H => ?_
          refine op_unguard _ _ (kg_yes rfl H rfl rfl rfl) ?_; refine wl_v _ (r_move (H.ev rfl)) ?_; refine kl H rfl fun a H => ?_
          refine op_unguard _ _ (kg_yes rfl H rfl rfl rfl) ?_; refine op_append 27 31 (.tmp 75) (.tmp 76) _ (.agg #[.int .i64 0, .int .i64 0, .int .i64 0, .int .i64 0]) 4 32 _ 0 [] Ao1 NS1.length co1 (FV encN NS1) (H.ev rfl) (H.ev rfl) Try.underlying27 i31 rfl (by omega) hn0 (by rw [FV_len encN_len]) ((row_holds ro1).up hb) (FV_one _ _) (by unfold maxLen; omega) (by omega) hb.size fun v1 w2 hown2 _ _ hb2 => ?_; have v1o : NOwn _ _ v1 NS1 := own_cast encN_len (by omega) hown2 rfl; replace hb := hb.trans hb2; clear hb2 hown2 hn0; refine kl H rfl fun a H => ?_
          refine op_unguard _ _ (kg_yes rfl H rfl rfl rfl) ?_; refine wl_v _ (r_move (H.ev rfl)) ?_; refine kl H rfl fun a H => ?_
          refine op_unguard _ _ (kg_yes rfl H rfl rfl rfl) ?_; refine op_append 27 31 (.tmp 77) (.tmp 78) _ (.agg #[.int .i64 0, .int .i64 0, .int .i64 0, .int .i64 0]) 4 32 v1 NS1.length _ Ao2 NS2.length co2 (FV encN NS2) (H.ev rfl) (H.ev rfl) Try.underlying27 i31 rfl (by omega) v1o (by rw [FV_len encN_len]) ((row_holds ro2).up hb) (FV_one _ _) (by unfold maxLen; omega) (by omega) hb.size fun v2 w2 hown2 _ _ hb2 => ?_; have v2o : NOwn _ _ v2 (NS1 ++ NS2) := own_cast encN_len (by omega) hown2 (FV_append _ _ _).symm; replace hb := hb.trans hb2; clear hb2 hown2 v1o; replace k0 := Block.ups k0 hb; replace k1 := Block.ups k1 hb; replace k2 := Block.ups k2 hb; replace rs1 := Row.up rs1 hb; replace ro1 := Row.up ro1 hb; replace k3 := Block.ups k3 hb; replace rs2 := Row.up rs2 hb; replace ro2 := Row.up ro2 hb; replace k4 := Block.ups k4 hb; replace rs3 := Row.up rs3 hb; replace ro3 := Row.up ro3 hb; replace k5 := Block.ups k5 hb; replace rs4 := Row.up rs4 hb; replace ro4 := Row.up ro4 hb; replace k6 := Block.ups k6 hb; replace hall := hall.trans (hb.mono hall.size); clear hb; refine kl H rfl fun a H => ?_
          refine op_unguard _ _ (kg_yes rfl H rfl rfl rfl) ?_; refine op_litv 27 0 #[] 31 #[] (by simp) (fun w => by kernel_rfl) fun w1 bl hge hb kk => ?_; have hn0 := own_empty (size := 4) kk hge; clear hge kk; refine kl H rfl fun a H => ?_
          refine op_unguard _ _ (kg_yes rfl H rfl rfl rfl) ?_; refine wl_v _ (r_move (H.ev rfl)) ?_; refine kl H rfl fun a H => ?_
          refine op_unguard _ _ (kg_yes rfl H rfl rfl rfl) ?_; refine op_append 27 31 (.tmp 80) (.tmp 81) _ (.agg #[.int .i64 0, .int .i64 0, .int .i64 0, .int .i64 0]) 4 32 _ 0 [] Ao3 NS3.length co3 (FV encN NS3) (H.ev rfl) (H.ev rfl) Try.underlying27 i31 rfl (by omega) hn0 (by rw [FV_len encN_len]) ((row_holds ro3).up hb) (FV_one _ _) (by unfold maxLen; omega) (by omega) hb.size fun v3 w2 hown2 _ _ hb2 => ?_; have v3o : NOwn _ _ v3 NS3 := own_cast encN_len (by omega) hown2 rfl; replace hb := hb.trans hb2; clear hb2 hown2 hn0; refine kl H rfl fun a H => ?_
          refine op_unguard _ _ (kg_yes rfl H rfl rfl rfl) ?_; refine wl_v _ (r_move (H.ev rfl)) ?_; refine kl H rfl fun a H => ?_
          refine op_unguard _ _ (kg_yes rfl H rfl rfl rfl) ?_; refine op_append 27 31 (.tmp 82) (.tmp 83) _ (.agg #[.int .i64 0, .int .i64 0, .int .i64 0, .int .i64 0]) 4 32 v3 NS3.length _ Ao4 NS4.length co4 (FV encN NS4) (H.ev rfl) (H.ev rfl) Try.underlying27 i31 rfl (by omega) v3o (by rw [FV_len encN_len]) ((row_holds ro4).up hb) (FV_one _ _) (by unfold maxLen; omega) (by omega) hb.size fun v4 w2 hown2 _ _ hb2 => ?_; have v4o : NOwn _ _ v4 (NS3 ++ NS4) := own_cast encN_len (by omega) hown2 (FV_append _ _ _).symm; replace hb := hb.trans hb2; clear hb2 hown2 v3o; replace k0 := Block.ups k0 hb; replace k1 := Block.ups k1 hb; replace k2 := Block.ups k2 hb; replace rs1 := Row.up rs1 hb; replace ro1 := Row.up ro1 hb; replace k3 := Block.ups k3 hb; replace rs2 := Row.up rs2 hb; replace ro2 := Row.up ro2 hb; replace k4 := Block.ups k4 hb; replace rs3 := Row.up rs3 hb; replace ro3 := Row.up ro3 hb; replace k5 := Block.ups k5 hb; replace rs4 := Row.up rs4 hb; replace ro4 := Row.up ro4 hb; replace k6 := Block.ups k6 hb; replace v2o := own_ups v2o hb; replace hall := hall.trans (hb.mono hall.size); clear hb; refine kl H rfl fun a H => ?_
          refine op_unguard _ _ (kg_yes rfl H rfl rfl rfl) ?_; refine wl_call _ _ _ (notes_any _ _ _ (NS1 ++ NS2) (NS3 ++ NS4) (NOwn.row v2o) (NOwn.row v4o) (by simp only [List.length_append]; omega)) (r_call2 cf18 (H.ev rfl) (H.ev rfl)) ?_; rintro e w9 ⟨rfl, hb⟩; refine ⟨_, rfl, ?_⟩; rw [decide_eq_true HNS.out]; replace k0 := Block.ups k0 hb; replace k1 := Block.ups k1 hb; replace k2 := Block.ups k2 hb; replace rs1 := Row.up rs1 hb; replace ro1 := Row.up ro1 hb; replace k3 := Block.ups k3 hb; replace rs2 := Row.up rs2 hb; replace ro2 := Row.up ro2 hb; replace k4 := Block.ups k4 hb; replace rs3 := Row.up rs3 hb; replace ro3 := Row.up ro3 hb; replace k5 := Block.ups k5 hb; replace rs4 := Row.up rs4 hb; replace ro4 := Row.up ro4 hb; replace k6 := Block.ups k6 hb; replace v2o := own_ups v2o hb; replace v4o := own_ups v4o hb; replace hall := hall.trans (hb.mono hall.size); clear hb; refine kl H rfl fun a H => ?_
          refine wl_v _ (r_pick_t (H.ev rfl) (H.ev rfl)) ?_; refine kl H rfl fun a H => ?_
          refine wl_v _ (r_assign (H.ev rfl)) ?_; refine kl H rfl fun a H => ?_
          refine wpList_nil ?_
          refine c_next ?_
          refine wp_ret ?_
          exact k_ret1 H rfl rfl ⟨rfl, hall⟩
theorem swap_all (w : World) (m0 : Int) (A0 : Option Addr) (n0 c0 : Nat) (L0 : List Int) (L1 L2 : List Int) (hn0 : L0.length = n0 * 5) (hnc0 : n0 ≤ c0) (hcm0 : c0 ≤ maxLen) (hh0 : Holds w A0 (L0.map (Value.int .i64))) (hz0 : A0 = none → c0 = 0) (hn1 : L1.length = 5) (hw1 : WF L1) (hn2 : L2.length = 5) (hw2 : WF L2) (hb : n0 ≤ 9223372036854775807) :
    Calls Try.prog 7 #[.agg #[.int .i64 m0, .slice A0 n0 c0], .agg (ints L1), .agg (ints L2)] w fun e w' => e = .returned (.bool true) ∧ Below w.heap.size w w' := by
  obtain ⟨L, h, rfl, _⟩ := irow_in hn0 hnc0 hcm0 hh0 hz0
  obtain ⟨x, rfl, hx⟩ := item_in hn1 hw1
  obtain ⟨y, rfl, hy⟩ := item_in hn2 hw2
  exact swap_walk w m0 _ L x y h hb hx hy
theorem recvSwap_it1 : intTy Try.prog 3 33 = true := by kernel_rfl
theorem recvSwap_c1 : Try.prog.cellsOf 33 = 5 := by kernel_rfl
theorem recvSwap_it2 : intTy Try.prog 3 33 = true := by kernel_rfl
theorem recvSwap_c2 : Try.prog.cellsOf 33 = 5 := by kernel_rfl
set_option maxRecDepth 100000 in
theorem recvSwap_lifted (os : Os) (started : os.Started) (H : Type) (enc : TypeId × Value → H) :
    ReturnsInHanded {} Try.checked os 7 .any (Rows.recvSwapSpec.pre6 enc Try.prog Try.f7 Rows.recvSwapRow.domain false) (Rows.recvSwapSpec.post enc Try.prog Try.f7 false true false false) := by
  refine returnsInHanded_of_change (C := Try.checked) own started (by kernel_rfl) Try.func7
    (ChangeSpec.witness6 (enc := enc) (C := Try.checked) false ⟨#[], #[.agg #[.int .i64 0, .slice none 0 0], .agg (ints (List.replicate 5 0)), .agg (ints (List.replicate 5 0))], []⟩ 8 (by kernel_rfl) (by kernel_rfl) (by kernel_rfl) (by kernel_rfl)) ?_
  intro W base args ds gs before hval0 hW hcnd _
  have hval : ∀ (j : Nat) t v, Try.f7.params[j]? = some t → args[j]? = some v → Value.okWide Try.prog W .any base t v := hval0
  have hW' := hW
  obtain ⟨p, q, hA0, hV, rfl, hfz, hnd⟩ := hW
  have hA : DataW.TrodAll enc Try.prog W 0 (fun _ => true) true Try.f7.params.toList args.toList ds p := hA0
  rw [Try.params7] at hA hval
  obtain ⟨v0, vs0, d0, ds0, p0, q0, hargs, rfl, rfl, h0, r0⟩ := trodAll_cons hA
  obtain ⟨v1, vs1, d1, ds1, p1, q1, rfl, rfl, rfl, h1, r1⟩ := trodAll_cons r0
  obtain ⟨v2, vs2, d2, ds2, p2, q2, rfl, rfl, rfl, h2, r2⟩ := trodAll_cons r1
  obtain ⟨rfl, rfl, rfl⟩ := trodAll_nil r2
  obtain rfl : args = #[v0, v1, v2] := by cases args; simp_all
  obtain ⟨rfl, rfl⟩ := trodVars_none hV
  have k0 := h0
  have lt0 : ∀ x ∈ p0, x.block < W.heap.size := by obtain ⟨m, hm⟩ := k0; exact DataW.trod_lt m _ _ _ hm
  have k1 := h1
  have lt1 : ∀ x ∈ p1, x.block < W.heap.size := by obtain ⟨m, hm⟩ := k1; exact DataW.trod_lt m _ _ _ hm
  have k2 := h2
  have lt2 : ∀ x ∈ p2, x.block < W.heap.size := by obtain ⟨m, hm⟩ := k2; exact DataW.trod_lt m _ _ _ hm
  obtain ⟨m0, A0, n0, c0, L0, rfl, hm0, hn0, hw0, hnc0, hcm0, hh0, hz0⟩ := open_is 4 5 Try.underlying24 rfl rfl Try.underlying3 co3 rfl rfl co22 co24 Try.underlying22 it33 co33 (by omega) (hval 0 24 v0 rfl rfl) h0
  have hb0 : n0 ≤ 9223372036854775807 := by unfold maxLen at hcm0; omega
  obtain ⟨B1, rfl, hB1, hw1⟩ := open_agg_ints 3 5 recvSwap_it1 (by rw [Try.underlying33]) recvSwap_c1 (hval 1 33 v1 rfl rfl) h1
  obtain ⟨B2, rfl, hB2, hw2⟩ := open_agg_ints 3 5 recvSwap_it2 (by rw [Try.underlying33]) recvSwap_c2 (hval 2 33 v2 rfl rfl) h2
  clear hA0 hval0
  refine (swap_all W m0 A0 n0 c0 L0 B1 B2 hn0 hnc0 hcm0 hh0 hz0 hB1 hw1 hB2 hw2 hb0).mono fun e W' ⟨he, bel⟩ => ?_
  subst he
  exact ⟨_, rfl, _, _, _, [], _, [], hW', trodAll_mk1 (shut_bool Try.underlying4 _), (trodAll_cons_mk (Below.trod laidOut (by kernel_rfl) (of_decide_eq_true (by kernel_rfl)) k0 bel lt0) (trodAll_cons_mk (Below.trod laidOut (by kernel_rfl) (of_decide_eq_true (by kernel_rfl)) k1 bel lt1) (trodAll_cons_mk (Below.trod laidOut (by kernel_rfl) (of_decide_eq_true (by kernel_rfl)) k2 bel lt2) trodAll_mk0))), rfl, bel.frame _, fun h => by cases h⟩

theorem recvSwap_holds : Rows.RecvSwapSaid :=
  OpenClaim.holds_of_wide 7 Try.f7 rfl rfl rfl rfl rfl rfl rfl ⟨rfl, rfl, rfl, rfl, rfl⟩ rfl rfl rfl rfl rfl (by kernel_rfl) Try.func7 (by kernel_rfl)
    (of_decide_eq_true (by kernel_rfl)) (by unfold Func.isWrapper; first | (rw [if_pos (by decide +kernel)]; kernel_rfl) | (rw [if_neg (by decide +kernel)]; exact ⟨rfl, rfl⟩))
    (fun os started H enc _ => recvSwap_lifted os started H enc)
#print axioms recvSwap_holds
end Go.Proofs.Ythfdjlhplcmicaa
