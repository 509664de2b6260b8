/- Recv: RecvCounts, proved: each item that is taken in waits, or goes. -/
import Derived.Test.YthfdjlhplcmicaaPz
namespace Go.Proofs.Ythfdjlhplcmicaa
open Go.RowKit Go.ChangeShapes Go.WideShapes Go.ChangeAt Go.Maps
set_option linter.unusedVariables false
set_option linter.unusedSimpArgs false

set_option maxHeartbeats 8000000 in
theorem counts_walk (w : World) (n : Int) (v : Value) (L : List It) (x : It) (h0 : IRow w v L) (hn : L.length ≤ 9223372036854775807) (hx : -9223372036854775808 ≤ x.1 ∧ x.1 ≤ 9223372036854775807) :
    Calls Try.prog 6 #[.agg #[.int .i64 n, v], .agg #[.int .i64 x.1, .int .i64 x.2.1, .int .i64 x.2.2.1, .int .i64 x.2.2.2.1, .int .i64 x.2.2.2.2]] w fun e w' => e = .returned (.bool true) ∧ Below w.heap.size w w' := by
  obtain ⟨A, c, rfl, h1, h2, h3, hh⟩ := h0
  have h : Hid (IRow w (.slice A L.length c) L) := Lib.hid ⟨A, c, rfl, h1, h2, h3, hh⟩
  replace hh := Lib.hid hh
  have hall := Below.refl w.heap.size w
  cases hrt : rightF n L
  · skip
    refine K_enter 66 Try.func6 rfl rfl fun a H => ?_
    replace H := H.pick [0, 1]
    refine wp_seq ?_
    refine wp_region_lit ?_
    refine op_box 24 _ #[.int .i64 n, .slice A L.length c] (H.ev rfl) fun w0 b0 hge hb k0 => ?_; have g0 := Nat.le_trans hall.size hge; replace hall := hall.trans (hb.mono hall.size); clear hb; clear hge; refine kl H rfl fun a H => ?_
    refine op_box 33 _ #[.int .i64 x.1, .int .i64 x.2.1, .int .i64 x.2.2.1, .int .i64 x.2.2.2.1, .int .i64 x.2.2.2.2] (H.ev rfl) fun w1 b1 hge hb k1 => ?_; have g1 := Nat.le_trans hall.size hge; replace k0 := Block.ups k0 hb; replace hall := hall.trans (hb.mono hall.size); clear hb; clear hge; refine kl H rfl fun a H => ?_
    refine wl_v _ (r_assign evc) ?_; refine kl H rfl fun a H => ?_
    refine wpList_nil ?_
    refine c_next ?_
    refine wp_seq ?_
    refine wp_region_lit ?_
    refine wl_call _ _ _ (small_any _) (r_call0 cf9) ?_; rintro e w9 ⟨rfl, hb⟩; refine ⟨_, rfl, ?_⟩; replace k0 := Block.ups k0 hb; replace k1 := Block.ups k1 hb; replace hall := hall.trans (hb.mono hall.size); clear hb; refine kl H rfl fun a H => ?_
    refine wl_v _ (r_assign (H.ev rfl)) ?_; refine kl H rfl fun a H => ?_
    refine wpList_nil ?_
    refine c_next ?_
    refine wp_seq ?_
    refine wp_seq ?_
    refine wp_region_lit ?_
    refine wl_v _ (r_row (cs := [.int .i64 n, .slice A L.length c]) (H.ev rfl) (block_range k0) (by kernel_rfl) s24 rfl) ?_; refine kl H rfl fun a H => ?_
    refine wl_call _ _ _ (right_any _ n _ L (Row.up h.out hall) (by omega)) (r_call1 cf16 (H.ev rfl)) ?_; rintro e w9 ⟨rfl, hb⟩; refine ⟨_, rfl, ?_⟩; rw [hrt]; replace k0 := Block.ups k0 hb; replace k1 := Block.ups k1 hb; replace hall := hall.trans (hb.mono hall.size); clear hb; refine kl H rfl fun a H => ?_
    refine wl_v _ (r_not (H.ev rfl) rfl) ?_; refine kl H rfl fun a H => ?_
    refine wpList_nil ?_
    refine c_next ?_
    refine c_cond_t H rfl ?_
    refine wp_seq ?_
    refine wp_region_lit ?_
    refine wl_v _ (r_move (H.ev rfl)) ?_; refine kl H rfl fun a H => ?_
    refine wl_v _ (r_assign (H.ev rfl)) ?_; refine kl H rfl fun a H => ?_
    refine wpList_nil ?_
    refine c_next ?_
    refine wp_ret ?_
    refine r_then ?_
    exact k_ret1 H rfl rfl ⟨rfl, hall⟩
  · skip
    have HRT := Lib.hid hrt
    have HR : Hid (RightL n L) := Lib.hid (of_decide_eq_true hrt)
    have hn1 := HR.out.1
    have hn2 := HR.out.2.1
    have hLl := right_len HR.out
    refine K_enter 66 Try.func6 rfl rfl fun a H => ?_
    replace H := H.pick [0, 1]
    refine wp_seq ?_
    refine wp_region_lit ?_
    refine op_box 24 _ #[.int .i64 n, .slice A L.length c] (H.ev rfl) fun w0 b0 hge hb k0 => ?_; have g0 := Nat.le_trans hall.size hge; replace hall := hall.trans (hb.mono hall.size); clear hb; clear hge; refine kl H rfl fun a H => ?_
    refine op_box 33 _ #[.int .i64 x.1, .int .i64 x.2.1, .int .i64 x.2.2.1, .int .i64 x.2.2.2.1, .int .i64 x.2.2.2.2] (H.ev rfl) fun w1 b1 hge hb k1 => ?_; have g1 := Nat.le_trans hall.size hge; replace k0 := Block.ups k0 hb; replace hall := hall.trans (hb.mono hall.size); clear hb; clear hge; refine kl H rfl fun a H => ?_
    refine wl_v _ (r_assign evc) ?_; refine kl H rfl fun a H => ?_
    refine wpList_nil ?_
    refine c_next ?_
    refine wp_seq ?_
    refine wp_region_lit ?_
    refine wl_call _ _ _ (small_any _) (r_call0 cf9) ?_; rintro e w9 ⟨rfl, hb⟩; refine ⟨_, rfl, ?_⟩; replace k0 := Block.ups k0 hb; replace k1 := Block.ups k1 hb; replace hall := hall.trans (hb.mono hall.size); clear hb; refine kl H rfl fun a H => ?_
    refine wl_v _ (r_assign (H.ev rfl)) ?_; refine kl H rfl fun a H => ?_
    refine wpList_nil ?_
    refine c_next ?_
    refine wp_seq ?_
    refine wp_seq ?_
    refine wp_region_lit ?_
    refine wl_v _ (r_row (cs := [.int .i64 n, .slice A L.length c]) (H.ev rfl) (block_range k0) (by kernel_rfl) s24 rfl) ?_; refine kl H rfl fun a H => ?_
    refine wl_call _ _ _ (right_any _ n _ L (Row.up h.out hall) (by omega)) (r_call1 cf16 (H.ev rfl)) ?_; rintro e w9 ⟨rfl, hb⟩; refine ⟨_, rfl, ?_⟩; rw [hrt]; replace k0 := Block.ups k0 hb; replace k1 := Block.ups k1 hb; replace hall := hall.trans (hb.mono hall.size); clear hb; refine kl H rfl fun a H => ?_
    refine wl_v _ (r_not (H.ev rfl) rfl) ?_; refine kl H rfl fun a H => ?_
    refine wpList_nil ?_
    refine c_next ?_
    refine c_cond_f H rfl ?_
    refine wp_skip ?_
    refine c_next ?_
    refine wp_seq ?_
    by_cases hsh : ShutP n L x
    · skip
      have HT : Hid (takeF n L x = ((n, L), [])) := Lib.hid (take_shut hsh)
      have HSM : Hid (sameB n L n L = true) := Lib.hid same_refl
      refine wp_region_lit ?_
      refine wl_v _ (r_row (cs := [.int .i64 n, .slice A L.length c]) (H.ev rfl) (block_range k0) (by kernel_rfl) s24 rfl) ?_; refine kl H rfl fun a H => ?_
      refine wl_v _ (r_row (cs := [.int .i64 x.1, .int .i64 x.2.1, .int .i64 x.2.2.1, .int .i64 x.2.2.2.1, .int .i64 x.2.2.2.2]) (H.ev rfl) (block_range k1) (by kernel_rfl) s33 rfl) ?_; refine kl H rfl fun a H => ?_
      refine wl_call _ _ _ (take_any _ n (.slice A L.length c) L x (Row.up h.out hall) (by omega) hx.1 hx.2) (r_call2 cf12 (H.ev rfl) (H.ev rfl)) ?_; rintro e w9 ⟨⟨s1, o1, rfl, ⟨rs1, fs1⟩, ⟨ro1, fo1⟩⟩, hb⟩; refine ⟨_, rfl, ?_⟩; rw [HT.out] at rs1 ro1 ⊢; replace k0 := Block.ups k0 hb; replace k1 := Block.ups k1 hb; replace hall := hall.trans (hb.mono hall.size); clear hb; clear fs1 fo1; obtain ⟨As1, cs1, hsv, s1, s2, s3, s4⟩ := rs1; have rs1 : IRow _ (.slice As1 L.length cs1) L := ⟨As1, cs1, rfl, s1, s2, s3, s4⟩; subst hsv; obtain ⟨Ao1, co1, hov, u1, u2, u3, u4⟩ := ro1; have ro1 : NRow _ (.slice Ao1 0 co1) ([] : List Nt) := ⟨Ao1, co1, rfl, u1, u2, u3, u4⟩; simp only [List.length_nil] at hov; subst hov; clear s1 s2 s3 s4 u1 u2 u3 u4; refine kl H rfl fun a H => ?_
      refine wl_v _ (r_move (H.ev rfl)) ?_; refine kl H rfl fun a H => ?_
      refine wl_v _ (r_extract (v := .agg #[.int .i64 n, .slice As1 L.length cs1]) (H.ev rfl) rfl) ?_; refine kl H rfl fun a H => ?_
      refine wl_v _ (r_extract (v := .slice Ao1 0 co1) (H.ev rfl) rfl) ?_; refine kl H rfl fun a H => ?_
      refine op_new 24 6 (.tmp 18) #[.int .i64 n, .slice As1 L.length cs1] _ z24 s24 rfl (by simp [Value.cells, Value.oneCell']) (fun p => (H.put 6 p rfl).ev rfl) (fun p => (H.put 6 p rfl).ev rfl) fun w2 b2 hge hb k2 => ?_; have g2 := Nat.le_trans hall.size hge; replace k0 := Block.ups k0 hb; replace k1 := Block.ups k1 hb; replace rs1 := Row.up rs1 hb; replace ro1 := Row.up ro1 hb; replace hall := hall.trans (hb.mono hall.size); clear hb; clear hge; refine kl H rfl fun a H => ?_
      refine wl_v _ (r_assign (H.ev rfl)) ?_; refine kl H rfl fun a H => ?_
      refine wpList_nil ?_
      refine c_next ?_
      refine wp_seq ?_
      refine wp_region_lit ?_
      refine wl_v _ (r_fld (q := 1) fld24_1 (H.ev rfl) rfl) ?_; refine kl H rfl fun a H => ?_
      refine wl_v _ (r_ld Try.underlying22 rfl (H.ev rfl) ((Block.cell k2 1).trans rfl)) ?_; refine kl H rfl fun a H => ?_
      refine wl_v _ (r_len Try.underlying22 (H.ev rfl)) ?_; refine kl H rfl fun a H => ?_
      refine wl_v _ (r_move (H.ev rfl)) ?_; refine kl H rfl fun a H => ?_
      refine wl_v _ (r_len Try.underlying27 (H.ev rfl)) ?_; refine kl H rfl fun a H => ?_
      refine wl_v _ (r_add (q := ((L.length + 0 : Nat) : Int)) Try.underlying3 (H.ev rfl) (H.ev rfl) (by omega) (by omega)) ?_; refine kl H rfl fun a H => ?_
      refine wl_v _ (r_fld (q := 1) fld24_1 (H.ev rfl) rfl) ?_; refine kl H rfl fun a H => ?_
      refine wl_v _ (r_ld Try.underlying22 rfl (H.ev rfl) ((Block.cell k0 1).trans rfl)) ?_; refine kl H rfl fun a H => ?_
      refine wl_v _ (r_len Try.underlying22 (H.ev rfl)) ?_; refine kl H rfl fun a H => ?_
      refine wl_v _ (r_sub (q := ((L.length + 0 : Nat) : Int) - ((L.length : Nat) : Int)) Try.underlying3 (H.ev rfl) (H.ev rfl) (by omega) (by omega)) ?_; refine kl H rfl fun a H => ?_
      refine wl_v _ (r_assign (H.ev rfl)) ?_; refine kl H rfl fun a H => ?_
      refine wpList_nil ?_
      refine c_next ?_
      refine wp_seq ?_
      refine wp_region_lit ?_
      refine wl_v _ (r_move (H.ev rfl)) ?_; refine kl H rfl fun a H => ?_
      refine wl_v _ (r_move (H.ev rfl)) ?_; refine kl H rfl fun a H => ?_
      refine op_unguard _ _ (kg_yes rfl H rfl rfl rfl) ?_; refine wl_v _ (r_move (H.ev rfl)) ?_; refine kl H rfl fun a H => ?_
      by_cases hcc0 : (((L.length + 0 : Nat) : Int) - ((L.length : Nat) : Int)) = 0
      · skip
        refine op_unguard _ _ (kg_yes rfl H rfl rfl rfl) ?_; refine wl_v _ (r_eq Try.underlying3 (H.ev rfl) evc (dec_t (hcc0))) ?_; refine kl H rfl fun a H => ?_
        refine op_unguard _ _ (kg_yes rfl H rfl rfl rfl) ?_; refine wl_v _ (r_move (H.ev rfl)) ?_; refine kl H rfl fun a H => ?_
        refine op_unguard _ _ (kg_yes rfl H rfl rfl rfl) ?_; refine wl_v _ (r_row (cs := [.int .i64 n, .slice As1 L.length cs1]) (H.ev rfl) (block_range k2) (by kernel_rfl) s24 rfl) ?_; refine kl H rfl fun a H => ?_
        refine op_unguard _ _ (kg_yes rfl H rfl rfl rfl) ?_; refine wl_v _ (r_row (cs := [.int .i64 n, .slice A L.length c]) (H.ev rfl) (block_range k0) (by kernel_rfl) s24 rfl) ?_; refine kl H rfl fun a H => ?_
        refine op_unguard _ _ (kg_yes rfl H rfl rfl rfl) ?_; refine wl_call _ _ _ (same_any _ n n _ _ L L rs1 (Row.up h.out hall) (by omega)) (r_call2 cf10 (H.ev rfl) (H.ev rfl)) ?_; rintro e w9 ⟨rfl, hb⟩; refine ⟨_, rfl, ?_⟩; rw [HSM.out]; replace k0 := Block.ups k0 hb; replace k1 := Block.ups k1 hb; replace rs1 := Row.up rs1 hb; replace ro1 := Row.up ro1 hb; replace k2 := Block.ups k2 hb; replace hall := hall.trans (hb.mono hall.size); clear hb; refine kl H rfl fun a H => ?_
        refine op_unguard _ _ (kg_yes rfl H rfl rfl rfl) ?_; refine wl_v _ (r_pick_t (H.ev rfl) (H.ev rfl)) ?_; refine kl H rfl fun a H => ?_
        refine op_unguard _ _ (kg_yes rfl H rfl rfl rfl) ?_; refine wl_v _ (r_move (H.ev rfl)) ?_; refine kl H rfl fun a H => ?_
        refine wl_s (kg_no rfl H rfl rfl rfl) ?_; refine kl H rfl fun a H => ?_
        refine wl_s (kg_no rfl H rfl rfl rfl) ?_; refine kl H rfl fun a H => ?_
        refine wl_s (kg_no rfl H rfl rfl rfl) ?_; refine kl H rfl fun a H => ?_
        refine wl_s (kg_un rfl H rfl rfl rfl) ?_; refine kl H rfl fun a H => ?_
        refine wl_s (kg_un rfl H rfl rfl rfl) ?_; refine kl H rfl fun a H => ?_
        refine wl_s (kg_un rfl H rfl rfl rfl) ?_; refine kl H rfl fun a H => ?_
        refine wl_s (kg_un rfl H rfl rfl rfl) ?_; refine kl H rfl fun a H => ?_
        refine wl_s (kg_no rfl H rfl rfl rfl) ?_; refine kl H rfl fun a H => ?_
        refine op_unguard _ _ (kg_yes rfl H rfl rfl rfl) ?_; refine wl_v _ (r_pick_t (H.ev rfl) evc) ?_; refine kl H rfl fun a H => ?_
        refine wl_v _ (r_pick_t (H.ev rfl) (H.ev rfl)) ?_; refine kl H rfl fun a H => ?_
        refine wl_v _ (r_move (H.ev rfl)) ?_; refine kl H rfl fun a H => ?_
        refine op_unguard _ _ (kg_yes rfl H rfl rfl rfl) ?_; refine wl_v _ (r_fld (q := 0) fld24_0 (H.ev rfl) rfl) ?_; refine kl H rfl fun a H => ?_
        refine op_unguard _ _ (kg_yes rfl H rfl rfl rfl) ?_; refine wl_v _ (r_ld Try.underlying3 rfl (H.ev rfl) ((Block.cell k2 0).trans rfl)) ?_; refine kl H rfl fun a H => ?_
        refine op_unguard _ _ (kg_yes rfl H rfl rfl rfl) ?_; refine wl_v _ (r_fld (q := 0) fld24_0 (H.ev rfl) rfl) ?_; refine kl H rfl fun a H => ?_
        refine op_unguard _ _ (kg_yes rfl H rfl rfl rfl) ?_; refine wl_v _ (r_ld Try.underlying3 rfl (H.ev rfl) ((Block.cell k0 0).trans rfl)) ?_; refine kl H rfl fun a H => ?_
        refine op_unguard _ _ (kg_yes rfl H rfl rfl rfl) ?_; refine wl_v _ (r_move (H.ev rfl)) ?_; refine kl H rfl fun a H => ?_
        refine op_unguard _ _ (kg_yes rfl H rfl rfl rfl) ?_; refine wl_v _ (r_len Try.underlying27 (H.ev rfl)) ?_; refine kl H rfl fun a H => ?_
        refine op_unguard _ _ (kg_yes rfl H rfl rfl rfl) ?_; refine wl_v _ (r_add (q := n + 0) Try.underlying3 (H.ev rfl) (H.ev rfl) (by omega) (by omega)) ?_; refine kl H rfl fun a H => ?_
        by_cases hcc1 : n = (n + 0)
        · skip
          refine op_unguard _ _ (kg_yes rfl H rfl rfl rfl) ?_; refine wl_v _ (r_eq Try.underlying3 (H.ev rfl) (H.ev rfl) (dec_t (hcc1))) ?_; refine kl H rfl fun a H => ?_
          refine wl_v _ (r_pick_t (H.ev rfl) (H.ev rfl)) ?_; refine kl H rfl fun a H => ?_
          refine wl_v _ (r_move (H.ev rfl)) ?_; refine kl H rfl fun a H => ?_
          refine op_unguard _ _ (kg_yes rfl H rfl rfl rfl) ?_; refine wl_v _ (r_fld (q := 1) fld24_1 (H.ev rfl) rfl) ?_; refine kl H rfl fun a H => ?_
          refine op_unguard _ _ (kg_yes rfl H rfl rfl rfl) ?_; refine wl_v _ (r_ld Try.underlying22 rfl (H.ev rfl) ((Block.cell k2 1).trans rfl)) ?_; refine kl H rfl fun a H => ?_
          refine op_unguard _ _ (kg_yes rfl H rfl rfl rfl) ?_; refine wl_v _ (r_len Try.underlying22 (H.ev rfl)) ?_; refine kl H rfl fun a H => ?_
          by_cases hcc2 : ((L.length : Nat) : Int) ≤ 7
          · skip
            refine op_unguard _ _ (kg_yes rfl H rfl rfl rfl) ?_; refine wl_v _ (r_le Try.underlying3 (H.ev rfl) evc (dec_t (hcc2))) ?_; refine kl H rfl fun a H => ?_
            refine wl_v _ (r_pick_t (H.ev rfl) (H.ev rfl)) ?_; refine kl H rfl fun a H => ?_
            refine wl_v _ (r_assign (H.ev rfl)) ?_; refine kl H rfl fun a H => ?_
            refine wpList_nil ?_
            refine c_next ?_
            refine wp_ret ?_
            exact k_ret1 H rfl rfl ⟨rfl, hall⟩
          · skip
            refine op_unguard _ _ (kg_yes rfl H rfl rfl rfl) ?_; refine wl_v _ (r_le Try.underlying3 (H.ev rfl) evc (dec_f (hcc2))) ?_; refine kl H rfl fun a H => ?_
            refine wl_v _ (r_pick_t (H.ev rfl) (H.ev rfl)) ?_; refine kl H rfl fun a H => ?_
            refine wl_v _ (r_assign (H.ev rfl)) ?_; refine kl H rfl fun a H => ?_
            refine wpList_nil ?_
            refine c_next ?_
            refine wp_ret ?_
            exfalso; omega
        · skip
          refine op_unguard _ _ (kg_yes rfl H rfl rfl rfl) ?_; refine wl_v _ (r_eq Try.underlying3 (H.ev rfl) (H.ev rfl) (dec_f (hcc1))) ?_; refine kl H rfl fun a H => ?_
          refine wl_v _ (r_pick_t (H.ev rfl) (H.ev rfl)) ?_; refine kl H rfl fun a H => ?_
          refine wl_v _ (r_move (H.ev rfl)) ?_; refine kl H rfl fun a H => ?_
          refine wl_s (kg_no rfl H rfl rfl rfl) ?_; refine kl H rfl fun a H => ?_
          refine wl_s (kg_no rfl H rfl rfl rfl) ?_; refine kl H rfl fun a H => ?_
          refine wl_s (kg_no rfl H rfl rfl rfl) ?_; refine kl H rfl fun a H => ?_
          refine wl_s (kg_no rfl H rfl rfl rfl) ?_; refine kl H rfl fun a H => ?_
          refine wl_v _ (r_pick_f (H.ev rfl) evc) ?_; refine kl H rfl fun a H => ?_
          refine wl_v _ (r_assign (H.ev rfl)) ?_; refine kl H rfl fun a H => ?_
          refine wpList_nil ?_
          refine c_next ?_
          refine wp_ret ?_
          exfalso; omega
      · skip
        refine op_unguard _ _ (kg_yes rfl H rfl rfl rfl) ?_; refine wl_v _ (r_eq Try.underlying3 (H.ev rfl) evc (dec_f (hcc0))) ?_; refine kl H rfl fun a H => ?_
        refine op_unguard _ _ (kg_yes rfl H rfl rfl rfl) ?_; refine wl_v _ (r_move (H.ev rfl)) ?_; refine kl H rfl fun a H => ?_
        refine wl_s (kg_no rfl H rfl rfl rfl) ?_; refine kl H rfl fun a H => ?_
        refine wl_s (kg_no rfl H rfl rfl rfl) ?_; refine kl H rfl fun a H => ?_
        refine wl_s (kg_no rfl H rfl rfl rfl) ?_; refine kl H rfl fun a H => ?_
        refine op_unguard _ _ (kg_yes rfl H rfl rfl rfl) ?_; refine wl_v _ (r_pick_f (H.ev rfl) evc) ?_; refine kl H rfl fun a H => ?_
        refine op_unguard _ _ (kg_yes rfl H rfl rfl rfl) ?_; refine wl_v _ (r_move (H.ev rfl)) ?_; refine kl H rfl fun a H => ?_
        refine op_unguard _ _ (kg_yes rfl H rfl rfl rfl) ?_; refine wl_v _ (r_move (H.ev rfl)) ?_; refine kl H rfl fun a H => ?_
        by_cases hcc3 : (((L.length + 0 : Nat) : Int) - ((L.length : Nat) : Int)) = 1
        · skip
          refine op_unguard _ _ (kg_yes rfl H rfl rfl rfl) ?_; refine wl_v _ (r_eq Try.underlying3 (H.ev rfl) evc (dec_t (hcc3))) ?_; refine kl H rfl fun a H => ?_
          refine op_unguard _ _ (kg_yes rfl H rfl rfl rfl) ?_; refine wl_v _ (r_move (H.ev rfl)) ?_; refine kl H rfl fun a H => ?_
          refine op_unguard _ _ (kg_yes rfl H rfl rfl rfl) ?_; refine wl_v _ (r_row (cs := [.int .i64 n, .slice As1 L.length cs1]) (H.ev rfl) (block_range k2) (by kernel_rfl) s24 rfl) ?_; refine kl H rfl fun a H => ?_
          refine op_unguard _ _ (kg_yes rfl H rfl rfl rfl) ?_; refine wl_v _ (r_row (cs := [.int .i64 n, .slice A L.length c]) (H.ev rfl) (block_range k0) (by kernel_rfl) s24 rfl) ?_; refine kl H rfl fun a H => ?_
          refine op_unguard _ _ (kg_yes rfl H rfl rfl rfl) ?_; refine wl_call _ _ _ (same_any _ n n _ _ L L rs1 (Row.up h.out hall) (by omega)) (r_call2 cf10 (H.ev rfl) (H.ev rfl)) ?_; rintro e w9 ⟨rfl, hb⟩; refine ⟨_, rfl, ?_⟩; rw [HSM.out]; replace k0 := Block.ups k0 hb; replace k1 := Block.ups k1 hb; replace rs1 := Row.up rs1 hb; replace ro1 := Row.up ro1 hb; replace k2 := Block.ups k2 hb; replace hall := hall.trans (hb.mono hall.size); clear hb; refine kl H rfl fun a H => ?_
          refine op_unguard _ _ (kg_yes rfl H rfl rfl rfl) ?_; refine wl_v _ (r_not (H.ev rfl) rfl) ?_; refine kl H rfl fun a H => ?_
          refine op_unguard _ _ (kg_yes rfl H rfl rfl rfl) ?_; refine wl_v _ (r_pick_t (H.ev rfl) (H.ev rfl)) ?_; refine kl H rfl fun a H => ?_
          refine op_unguard _ _ (kg_yes rfl H rfl rfl rfl) ?_; refine wl_v _ (r_pick_f (H.ev rfl) (H.ev rfl)) ?_; refine kl H rfl fun a H => ?_
          refine wl_v _ (r_pick_t (H.ev rfl) (H.ev rfl)) ?_; refine kl H rfl fun a H => ?_
          refine wl_v _ (r_move (H.ev rfl)) ?_; refine kl H rfl fun a H => ?_
          refine wl_s (kg_no rfl H rfl rfl rfl) ?_; refine kl H rfl fun a H => ?_
          refine wl_s (kg_no rfl H rfl rfl rfl) ?_; refine kl H rfl fun a H => ?_
          refine wl_s (kg_no rfl H rfl rfl rfl) ?_; refine kl H rfl fun a H => ?_
          refine wl_s (kg_no rfl H rfl rfl rfl) ?_; refine kl H rfl fun a H => ?_
          refine wl_s (kg_no rfl H rfl rfl rfl) ?_; refine kl H rfl fun a H => ?_
          refine wl_s (kg_no rfl H rfl rfl rfl) ?_; refine kl H rfl fun a H => ?_
          refine wl_s (kg_no rfl H rfl rfl rfl) ?_; refine kl H rfl fun a H => ?_
          refine wl_s (kg_no rfl H rfl rfl rfl) ?_; refine kl H rfl fun a H => ?_
          refine wl_v _ (r_pick_f (H.ev rfl) evc) ?_; refine kl H rfl fun a H => ?_
          refine wl_v _ (r_move (H.ev rfl)) ?_; refine kl H rfl fun a H => ?_
          refine wl_s (kg_no rfl H rfl rfl rfl) ?_; refine kl H rfl fun a H => ?_
          refine wl_s (kg_no rfl H rfl rfl rfl) ?_; refine kl H rfl fun a H => ?_
          refine wl_s (kg_no rfl H rfl rfl rfl) ?_; refine kl H rfl fun a H => ?_
          refine wl_s (kg_no rfl H rfl rfl rfl) ?_; refine kl H rfl fun a H => ?_
          refine wl_v _ (r_pick_f (H.ev rfl) evc) ?_; refine kl H rfl fun a H => ?_
          refine wl_v _ (r_assign (H.ev rfl)) ?_; refine kl H rfl fun a H => ?_
          refine wpList_nil ?_
          refine c_next ?_
          refine wp_ret ?_
          exfalso; omega
        · skip
          refine op_unguard _ _ (kg_yes rfl H rfl rfl rfl) ?_; refine wl_v _ (r_eq Try.underlying3 (H.ev rfl) evc (dec_f (hcc3))) ?_; refine kl H rfl fun a H => ?_
          refine op_unguard _ _ (kg_yes rfl H rfl rfl rfl) ?_; refine wl_v _ (r_move (H.ev rfl)) ?_; refine kl H rfl fun a H => ?_
          refine wl_s (kg_no rfl H rfl rfl rfl) ?_; refine kl H rfl fun a H => ?_
          refine wl_s (kg_no rfl H rfl rfl rfl) ?_; refine kl H rfl fun a H => ?_
          refine wl_s (kg_no rfl H rfl rfl rfl) ?_; refine kl H rfl fun a H => ?_
          refine wl_s (kg_no rfl H rfl rfl rfl) ?_; refine kl H rfl fun a H => ?_
          refine op_unguard _ _ (kg_yes rfl H rfl rfl rfl) ?_; refine wl_v _ (r_pick_f (H.ev rfl) evc) ?_; refine kl H rfl fun a H => ?_
          refine op_unguard _ _ (kg_yes rfl H rfl rfl rfl) ?_; refine wl_v _ (r_pick_f (H.ev rfl) (H.ev rfl)) ?_; refine kl H rfl fun a H => ?_
          refine wl_v _ (r_pick_t (H.ev rfl) (H.ev rfl)) ?_; refine kl H rfl fun a H => ?_
          refine wl_v _ (r_move (H.ev rfl)) ?_; refine kl H rfl fun a H => ?_
          refine wl_s (kg_no rfl H rfl rfl rfl) ?_; refine kl H rfl fun a H => ?_
          refine wl_s (kg_no rfl H rfl rfl rfl) ?_; refine kl H rfl fun a H => ?_
          refine wl_s (kg_no rfl H rfl rfl rfl) ?_; refine kl H rfl fun a H => ?_
          refine wl_s (kg_no rfl H rfl rfl rfl) ?_; refine kl H rfl fun a H => ?_
          refine wl_s (kg_no rfl H rfl rfl rfl) ?_; refine kl H rfl fun a H => ?_
          refine wl_s (kg_no rfl H rfl rfl rfl) ?_; refine kl H rfl fun a H => ?_
          refine wl_s (kg_no rfl H rfl rfl rfl) ?_; refine kl H rfl fun a H => ?_
          refine wl_s (kg_no rfl H rfl rfl rfl) ?_; refine kl H rfl fun a H => ?_
          refine wl_v _ (r_pick_f (H.ev rfl) evc) ?_; refine kl H rfl fun a H => ?_
          refine wl_v _ (r_move (H.ev rfl)) ?_; refine kl H rfl fun a H => ?_
          refine wl_s (kg_no rfl H rfl rfl rfl) ?_; refine kl H rfl fun a H => ?_
          refine wl_s (kg_no rfl H rfl rfl rfl) ?_; refine kl H rfl fun a H => ?_
          refine wl_s (kg_no rfl H rfl rfl rfl) ?_; refine kl H rfl fun a H => ?_
          refine wl_s (kg_no rfl H rfl rfl rfl) ?_; refine kl H rfl fun a H => ?_
          refine wl_v _ (r_pick_f (H.ev rfl) evc) ?_; refine kl H rfl fun a H => ?_
          refine wl_v _ (r_assign (H.ev rfl)) ?_; refine kl H rfl fun a H => ?_
          refine wpList_nil ?_
          refine c_next ?_
          refine wp_ret ?_
          exfalso; omega
    · skip
      have hsm := take_ne hsh
      have hct := take_count hsh
      have hRT := right_take (x := x) HR.out
      obtain ⟨⟨⟨N, L'⟩, NS⟩, hT⟩ : ∃ T, takeF n L x = T := ⟨_, rfl⟩
      rw [hT] at hsm hRT hct
      have hLl2 := right_len hRT
      simp only at hLl2 hct
      obtain ⟨hc1, hc2⟩ := hct
      have HSM := Lib.hid hsm
      have HT := Lib.hid hT
      clear hT hsm hRT
      refine wp_region_lit ?_
      refine wl_v _ (r_row (cs := [.int .i64 n, .slice A L.length c]) (H.ev rfl) (block_range k0) (by kernel_rfl) s24 rfl) ?_; refine kl H rfl fun a H => ?_
      refine wl_v _ (r_row (cs := [.int .i64 x.1, .int .i64 x.2.1, .int .i64 x.2.2.1, .int .i64 x.2.2.2.1, .int .i64 x.2.2.2.2]) (H.ev rfl) (block_range k1) (by kernel_rfl) s33 rfl) ?_; refine kl H rfl fun a H => ?_
      refine wl_call _ _ _ (take_any _ n (.slice A L.length c) L x (Row.up h.out hall) (by omega) hx.1 hx.2) (r_call2 cf12 (H.ev rfl) (H.ev rfl)) ?_; rintro e w9 ⟨⟨s1, o1, rfl, ⟨rs1, fs1⟩, ⟨ro1, fo1⟩⟩, hb⟩; refine ⟨_, rfl, ?_⟩; rw [HT.out] at rs1 ro1 ⊢; replace k0 := Block.ups k0 hb; replace k1 := Block.ups k1 hb; replace hall := hall.trans (hb.mono hall.size); clear hb; clear fs1 fo1; obtain ⟨As1, cs1, hsv, s1, s2, s3, s4⟩ := rs1; have rs1 : IRow _ (.slice As1 L'.length cs1) L' := ⟨As1, cs1, rfl, s1, s2, s3, s4⟩; subst hsv; obtain ⟨Ao1, co1, hov, u1, u2, u3, u4⟩ := ro1; have ro1 : NRow _ (.slice Ao1 NS.length co1) NS := ⟨Ao1, co1, rfl, u1, u2, u3, u4⟩; subst hov; clear s1 s2 s3 s4 u1 u2 u3 u4; refine kl H rfl fun a H => ?_
      refine wl_v _ (r_move (H.ev rfl)) ?_; refine kl H rfl fun a H => ?_
      refine wl_v _ (r_extract (v := .agg #[.int .i64 N, .slice As1 L'.length cs1]) (H.ev rfl) rfl) ?_; refine kl H rfl fun a H => ?_
      refine wl_v _ (r_extract (v := .slice Ao1 NS.length co1) (H.ev rfl) rfl) ?_; refine kl H rfl fun a H => ?_
      refine op_new 24 6 (.tmp 18) #[.int .i64 N, .slice As1 L'.length cs1] _ z24 s24 rfl (by simp [Value.cells, Value.oneCell']) (fun p => (H.put 6 p rfl).ev rfl) (fun p => (H.put 6 p rfl).ev rfl) fun w3 b3 hge hb k3 => ?_; have g3 := Nat.le_trans hall.size hge; replace k0 := Block.ups k0 hb; replace k1 := Block.ups k1 hb; replace rs1 := Row.up rs1 hb; replace ro1 := Row.up ro1 hb; replace hall := hall.trans (hb.mono hall.size); clear hb; clear hge; refine kl H rfl fun a H => ?_
      refine wl_v _ (r_assign (H.ev rfl)) ?_; refine kl H rfl fun a H => ?_
      refine wpList_nil ?_
      refine c_next ?_
      refine wp_seq ?_
      refine wp_region_lit ?_
      refine wl_v _ (r_fld (q := 1) fld24_1 (H.ev rfl) rfl) ?_; refine kl H rfl fun a H => ?_
      refine wl_v _ (r_ld Try.underlying22 rfl (H.ev rfl) ((Block.cell k3 1).trans rfl)) ?_; refine kl H rfl fun a H => ?_
      refine wl_v _ (r_len Try.underlying22 (H.ev rfl)) ?_; refine kl H rfl fun a H => ?_
      refine wl_v _ (r_move (H.ev rfl)) ?_; refine kl H rfl fun a H => ?_
      refine wl_v _ (r_len Try.underlying27 (H.ev rfl)) ?_; refine kl H rfl fun a H => ?_
      refine wl_v _ (r_add (q := ((L'.length : Nat) : Int) + ((NS.length : Nat) : Int)) Try.underlying3 (H.ev rfl) (H.ev rfl) (by omega) (by omega)) ?_; refine kl H rfl fun a H => ?_
      refine wl_v _ (r_fld (q := 1) fld24_1 (H.ev rfl) rfl) ?_; refine kl H rfl fun a H => ?_
      refine wl_v _ (r_ld Try.underlying22 rfl (H.ev rfl) ((Block.cell k0 1).trans rfl)) ?_; refine kl H rfl fun a H => ?_
      refine wl_v _ (r_len Try.underlying22 (H.ev rfl)) ?_; refine kl H rfl fun a H => ?_
      refine wl_v _ (r_sub (q := (((L'.length : Nat) : Int) + ((NS.length : Nat) : Int)) - ((L.length : Nat) : Int)) Try.underlying3 (H.ev rfl) (H.ev rfl) (by omega) (by omega)) ?_; refine kl H rfl fun a H => ?_
      refine wl_v _ (r_assign (H.ev rfl)) ?_; refine kl H rfl fun a H => ?_
      refine wpList_nil ?_
      refine c_next ?_
      refine wp_seq ?_
      refine wp_region_lit ?_
      refine wl_v _ (r_move (H.ev rfl)) ?_; refine kl H rfl fun a H => ?_
      refine wl_v _ (r_move (H.ev rfl)) ?_; refine kl H rfl fun a H => ?_
      refine op_unguard _ _ (kg_yes rfl H rfl rfl rfl) ?_; refine wl_v _ (r_move (H.ev rfl)) ?_; refine kl H rfl fun a H => ?_
      by_cases hcc4 : ((((L'.length : Nat) : Int) + ((NS.length : Nat) : Int)) - ((L.length : Nat) : Int)) = 0
      · skip
        refine op_unguard _ _ (kg_yes rfl H rfl rfl rfl) ?_; refine wl_v _ (r_eq Try.underlying3 (H.ev rfl) evc (dec_t (hcc4))) ?_; refine kl H rfl fun a H => ?_
        refine op_unguard _ _ (kg_yes rfl H rfl rfl rfl) ?_; refine wl_v _ (r_move (H.ev rfl)) ?_; refine kl H rfl fun a H => ?_
        refine op_unguard _ _ (kg_yes rfl H rfl rfl rfl) ?_; refine wl_v _ (r_row (cs := [.int .i64 N, .slice As1 L'.length cs1]) (H.ev rfl) (block_range k3) (by kernel_rfl) s24 rfl) ?_; refine kl H rfl fun a H => ?_
        refine op_unguard _ _ (kg_yes rfl H rfl rfl rfl) ?_; refine wl_v _ (r_row (cs := [.int .i64 n, .slice A L.length c]) (H.ev rfl) (block_range k0) (by kernel_rfl) s24 rfl) ?_; refine kl H rfl fun a H => ?_
        refine op_unguard _ _ (kg_yes rfl H rfl rfl rfl) ?_; refine wl_call _ _ _ (same_any _ N n _ _ L' L rs1 (Row.up h.out hall) (by omega)) (r_call2 cf10 (H.ev rfl) (H.ev rfl)) ?_; rintro e w9 ⟨rfl, hb⟩; refine ⟨_, rfl, ?_⟩; rw [HSM.out]; replace k0 := Block.ups k0 hb; replace k1 := Block.ups k1 hb; replace rs1 := Row.up rs1 hb; replace ro1 := Row.up ro1 hb; replace k3 := Block.ups k3 hb; replace hall := hall.trans (hb.mono hall.size); clear hb; refine kl H rfl fun a H => ?_
        refine op_unguard _ _ (kg_yes rfl H rfl rfl rfl) ?_; refine wl_v _ (r_pick_t (H.ev rfl) (H.ev rfl)) ?_; refine kl H rfl fun a H => ?_
        refine op_unguard _ _ (kg_yes rfl H rfl rfl rfl) ?_; refine wl_v _ (r_move (H.ev rfl)) ?_; refine kl H rfl fun a H => ?_
        refine op_unguard _ _ (kg_yes rfl H rfl rfl rfl) ?_; refine wl_v _ (r_move (H.ev rfl)) ?_; refine kl H rfl fun a H => ?_
        by_cases hcc5 : ((((L'.length : Nat) : Int) + ((NS.length : Nat) : Int)) - ((L.length : Nat) : Int)) = 1
        · skip
          refine op_unguard _ _ (kg_yes rfl H rfl rfl rfl) ?_; refine wl_v _ (r_eq Try.underlying3 (H.ev rfl) evc (dec_t (hcc5))) ?_; refine kl H rfl fun a H => ?_
          refine op_unguard _ _ (kg_yes rfl H rfl rfl rfl) ?_; refine wl_v _ (r_move (H.ev rfl)) ?_; refine kl H rfl fun a H => ?_
          refine op_unguard _ _ (kg_yes rfl H rfl rfl rfl) ?_; refine wl_v _ (r_row (cs := [.int .i64 N, .slice As1 L'.length cs1]) (H.ev rfl) (block_range k3) (by kernel_rfl) s24 rfl) ?_; refine kl H rfl fun a H => ?_
          refine op_unguard _ _ (kg_yes rfl H rfl rfl rfl) ?_; refine wl_v _ (r_row (cs := [.int .i64 n, .slice A L.length c]) (H.ev rfl) (block_range k0) (by kernel_rfl) s24 rfl) ?_; refine kl H rfl fun a H => ?_
          refine op_unguard _ _ (kg_yes rfl H rfl rfl rfl) ?_; refine wl_call _ _ _ (same_any _ N n _ _ L' L rs1 (Row.up h.out hall) (by omega)) (r_call2 cf10 (H.ev rfl) (H.ev rfl)) ?_; rintro e w9 ⟨rfl, hb⟩; refine ⟨_, rfl, ?_⟩; rw [HSM.out]; replace k0 := Block.ups k0 hb; replace k1 := Block.ups k1 hb; replace rs1 := Row.up rs1 hb; replace ro1 := Row.up ro1 hb; replace k3 := Block.ups k3 hb; replace hall := hall.trans (hb.mono hall.size); clear hb; refine kl H rfl fun a H => ?_
          refine op_unguard _ _ (kg_yes rfl H rfl rfl rfl) ?_; refine wl_v _ (r_not (H.ev rfl) rfl) ?_; refine kl H rfl fun a H => ?_
          refine op_unguard _ _ (kg_yes rfl H rfl rfl rfl) ?_; refine wl_v _ (r_pick_t (H.ev rfl) (H.ev rfl)) ?_; refine kl H rfl fun a H => ?_
          refine op_unguard _ _ (kg_yes rfl H rfl rfl rfl) ?_; refine wl_v _ (r_pick_f (H.ev rfl) (H.ev rfl)) ?_; refine kl H rfl fun a H => ?_
          refine wl_v _ (r_pick_t (H.ev rfl) (H.ev rfl)) ?_; refine kl H rfl fun a H => ?_
          refine wl_v _ (r_move (H.ev rfl)) ?_; refine kl H rfl fun a H => ?_
          refine op_unguard _ _ (kg_yes rfl H rfl rfl rfl) ?_; refine wl_v _ (r_fld (q := 0) fld24_0 (H.ev rfl) rfl) ?_; refine kl H rfl fun a H => ?_
          refine op_unguard _ _ (kg_yes rfl H rfl rfl rfl) ?_; refine wl_v _ (r_ld Try.underlying3 rfl (H.ev rfl) ((Block.cell k3 0).trans rfl)) ?_; refine kl H rfl fun a H => ?_
          refine op_unguard _ _ (kg_yes rfl H rfl rfl rfl) ?_; refine wl_v _ (r_fld (q := 0) fld24_0 (H.ev rfl) rfl) ?_; refine kl H rfl fun a H => ?_
          refine op_unguard _ _ (kg_yes rfl H rfl rfl rfl) ?_; refine wl_v _ (r_ld Try.underlying3 rfl (H.ev rfl) ((Block.cell k0 0).trans rfl)) ?_; refine kl H rfl fun a H => ?_
          refine op_unguard _ _ (kg_yes rfl H rfl rfl rfl) ?_; refine wl_v _ (r_move (H.ev rfl)) ?_; refine kl H rfl fun a H => ?_
          refine op_unguard _ _ (kg_yes rfl H rfl rfl rfl) ?_; refine wl_v _ (r_len Try.underlying27 (H.ev rfl)) ?_; refine kl H rfl fun a H => ?_
          refine op_unguard _ _ (kg_yes rfl H rfl rfl rfl) ?_; refine wl_v _ (r_add (q := n + ((NS.length : Nat) : Int)) Try.underlying3 (H.ev rfl) (H.ev rfl) (by omega) (by omega)) ?_; refine kl H rfl fun a H => ?_
          by_cases hcc6 : N = (n + ((NS.length : Nat) : Int))
          · skip
            refine op_unguard _ _ (kg_yes rfl H rfl rfl rfl) ?_; refine wl_v _ (r_eq Try.underlying3 (H.ev rfl) (H.ev rfl) (dec_t (hcc6))) ?_; refine kl H rfl fun a H => ?_
            refine wl_v _ (r_pick_t (H.ev rfl) (H.ev rfl)) ?_; refine kl H rfl fun a H => ?_
            refine wl_v _ (r_move (H.ev rfl)) ?_; refine kl H rfl fun a H => ?_
            refine op_unguard _ _ (kg_yes rfl H rfl rfl rfl) ?_; refine wl_v _ (r_fld (q := 1) fld24_1 (H.ev rfl) rfl) ?_; refine kl H rfl fun a H => ?_
            refine op_unguard _ _ (kg_yes rfl H rfl rfl rfl) ?_; refine wl_v _ (r_ld Try.underlying22 rfl (H.ev rfl) ((Block.cell k3 1).trans rfl)) ?_; refine kl H rfl fun a H => ?_
            refine op_unguard _ _ (kg_yes rfl H rfl rfl rfl) ?_; refine wl_v _ (r_len Try.underlying22 (H.ev rfl)) ?_; refine kl H rfl fun a H => ?_
            by_cases hcc7 : ((L'.length : Nat) : Int) ≤ 7
            · skip
              refine op_unguard _ _ (kg_yes rfl H rfl rfl rfl) ?_; refine wl_v _ (r_le Try.underlying3 (H.ev rfl) evc (dec_t (hcc7))) ?_; refine kl H rfl fun a H => ?_
              refine wl_v _ (r_pick_t (H.ev rfl) (H.ev rfl)) ?_; refine kl H rfl fun a H => ?_
              refine wl_v _ (r_assign (H.ev rfl)) ?_; refine kl H rfl fun a H => ?_
              refine wpList_nil ?_
              refine c_next ?_
              refine wp_ret ?_
              exact k_ret1 H rfl rfl ⟨rfl, hall⟩
            · skip
              refine op_unguard _ _ (kg_yes rfl H rfl rfl rfl) ?_; refine wl_v _ (r_le Try.underlying3 (H.ev rfl) evc (dec_f (hcc7))) ?_; refine kl H rfl fun a H => ?_
              refine wl_v _ (r_pick_t (H.ev rfl) (H.ev rfl)) ?_; refine kl H rfl fun a H => ?_
              refine wl_v _ (r_assign (H.ev rfl)) ?_; refine kl H rfl fun a H => ?_
              refine wpList_nil ?_
              refine c_next ?_
              refine wp_ret ?_
              exfalso; omega
          · skip
            refine op_unguard _ _ (kg_yes rfl H rfl rfl rfl) ?_; refine wl_v _ (r_eq Try.underlying3 (H.ev rfl) (H.ev rfl) (dec_f (hcc6))) ?_; refine kl H rfl fun a H => ?_
            refine wl_v _ (r_pick_t (H.ev rfl) (H.ev rfl)) ?_; refine kl H rfl fun a H => ?_
            refine wl_v _ (r_move (H.ev rfl)) ?_; refine kl H rfl fun a H => ?_
            refine wl_s (kg_no rfl H rfl rfl rfl) ?_; refine kl H rfl fun a H => ?_
            refine wl_s (kg_no rfl H rfl rfl rfl) ?_; refine kl H rfl fun a H => ?_
            refine wl_s (kg_no rfl H rfl rfl rfl) ?_; refine kl H rfl fun a H => ?_
            refine wl_s (kg_no rfl H rfl rfl rfl) ?_; refine kl H rfl fun a H => ?_
            refine wl_v _ (r_pick_f (H.ev rfl) evc) ?_; refine kl H rfl fun a H => ?_
            refine wl_v _ (r_assign (H.ev rfl)) ?_; refine kl H rfl fun a H => ?_
            refine wpList_nil ?_
            refine c_next ?_
            refine wp_ret ?_
            exfalso; omega
        · skip
          refine op_unguard _ _ (kg_yes rfl H rfl rfl rfl) ?_; refine wl_v _ (r_eq Try.underlying3 (H.ev rfl) evc (dec_f (hcc5))) ?_; refine kl H rfl fun a H => ?_
          refine op_unguard _ _ (kg_yes rfl H rfl rfl rfl) ?_; refine wl_v _ (r_move (H.ev rfl)) ?_; refine kl H rfl fun a H => ?_
          refine wl_s (kg_no rfl H rfl rfl rfl) ?_; refine kl H rfl fun a H => ?_
          refine wl_s (kg_no rfl H rfl rfl rfl) ?_; refine kl H rfl fun a H => ?_
          refine wl_s (kg_no rfl H rfl rfl rfl) ?_; refine kl H rfl fun a H => ?_
          refine wl_s (kg_no rfl H rfl rfl rfl) ?_; refine kl H rfl fun a H => ?_
          refine op_unguard _ _ (kg_yes rfl H rfl rfl rfl) ?_; refine wl_v _ (r_pick_f (H.ev rfl) evc) ?_; refine kl H rfl fun a H => ?_
          refine op_unguard _ _ (kg_yes rfl H rfl rfl rfl) ?_; refine wl_v _ (r_pick_f (H.ev rfl) (H.ev rfl)) ?_; refine kl H rfl fun a H => ?_
          refine wl_v _ (r_pick_t (H.ev rfl) (H.ev rfl)) ?_; refine kl H rfl fun a H => ?_
          refine wl_v _ (r_move (H.ev rfl)) ?_; refine kl H rfl fun a H => ?_
          refine wl_s (kg_no rfl H rfl rfl rfl) ?_; refine kl H rfl fun a H => ?_
          refine wl_s (kg_no rfl H rfl rfl rfl) ?_; refine kl H rfl fun a H => ?_
          refine wl_s (kg_no rfl H rfl rfl rfl) ?_; refine kl H rfl fun a H => ?_
          refine wl_s (kg_no rfl H rfl rfl rfl) ?_; refine kl H rfl fun a H => ?_
          refine wl_s (kg_no rfl H rfl rfl rfl) ?_; refine kl H rfl fun a H => ?_
          refine wl_s (kg_no rfl H rfl rfl rfl) ?_; refine kl H rfl fun a H => ?_
          refine wl_s (kg_no rfl H rfl rfl rfl) ?_; refine kl H rfl fun a H => ?_
          refine wl_s (kg_no rfl H rfl rfl rfl) ?_; refine kl H rfl fun a H => ?_
          refine wl_v _ (r_pick_f (H.ev rfl) evc) ?_; refine kl H rfl fun a H => ?_
          refine wl_v _ (r_move (H.ev rfl)) ?_; refine kl H rfl fun a H => ?_
          refine wl_s (kg_no rfl H rfl rfl rfl) ?_; refine kl H rfl fun a H => ?_
          refine wl_s (kg_no rfl H rfl rfl rfl) ?_; refine kl H rfl fun a H => ?_
          refine wl_s (kg_no rfl H rfl rfl rfl) ?_; refine kl H rfl fun a H => ?_
          refine wl_s (kg_no rfl H rfl rfl rfl) ?_; refine kl H rfl fun a H => ?_
          refine wl_v _ (r_pick_f (H.ev rfl) evc) ?_; refine kl H rfl fun a H => ?_
          refine wl_v _ (r_assign (H.ev rfl)) ?_; refine kl H rfl fun a H => ?_
          refine wpList_nil ?_
          refine c_next ?_
          refine wp_ret ?_
          exfalso; omega
      · skip
        refine op_unguard _ _ (kg_yes rfl H rfl rfl rfl) ?_; refine wl_v _ (r_eq Try.underlying3 (H.ev rfl) evc (dec_f (hcc4))) ?_; refine kl H rfl fun a H => ?_
        refine op_unguard _ _ (kg_yes rfl H rfl rfl rfl) ?_; refine wl_v _ (r_move (H.ev rfl)) ?_; refine kl H rfl fun a H => ?_
        refine wl_s (kg_no rfl H rfl rfl rfl) ?_; refine kl H rfl fun a H => ?_
        refine wl_s (kg_no rfl H rfl rfl rfl) ?_; refine kl H rfl fun a H => ?_
        refine wl_s (kg_no rfl H rfl rfl rfl) ?_; refine kl H rfl fun a H => ?_
        refine op_unguard _ _ (kg_yes rfl H rfl rfl rfl) ?_; refine wl_v _ (r_pick_f (H.ev rfl) evc) ?_; refine kl H rfl fun a H => ?_
        refine op_unguard _ _ (kg_yes rfl H rfl rfl rfl) ?_; refine wl_v _ (r_move (H.ev rfl)) ?_; refine kl H rfl fun a H => ?_
        refine op_unguard _ _ (kg_yes rfl H rfl rfl rfl) ?_; refine wl_v _ (r_move (H.ev rfl)) ?_; refine kl H rfl fun a H => ?_
        by_cases hcc8 : ((((L'.length : Nat) : Int) + ((NS.length : Nat) : Int)) - ((L.length : Nat) : Int)) = 1
        · skip
          refine op_unguard _ _ (kg_yes rfl H rfl rfl rfl) ?_; refine wl_v _ (r_eq Try.underlying3 (H.ev rfl) evc (dec_t (hcc8))) ?_; refine kl H rfl fun a H => ?_
          refine op_unguard _ _ (kg_yes rfl H rfl rfl rfl) ?_; refine wl_v _ (r_move (H.ev rfl)) ?_; refine kl H rfl fun a H => ?_
          refine op_unguard _ _ (kg_yes rfl H rfl rfl rfl) ?_; refine wl_v _ (r_row (cs := [.int .i64 N, .slice As1 L'.length cs1]) (H.ev rfl) (block_range k3) (by kernel_rfl) s24 rfl) ?_; refine kl H rfl fun a H => ?_
          refine op_unguard _ _ (kg_yes rfl H rfl rfl rfl) ?_; refine wl_v _ (r_row (cs := [.int .i64 n, .slice A L.length c]) (H.ev rfl) (block_range k0) (by kernel_rfl) s24 rfl) ?_; refine kl H rfl fun a H => ?_
          refine op_unguard _ _ (kg_yes rfl H rfl rfl rfl) ?_; refine wl_call _ _ _ (same_any _ N n _ _ L' L rs1 (Row.up h.out hall) (by omega)) (r_call2 cf10 (H.ev rfl) (H.ev rfl)) ?_; rintro e w9 ⟨rfl, hb⟩; refine ⟨_, rfl, ?_⟩; rw [HSM.out]; replace k0 := Block.ups k0 hb; replace k1 := Block.ups k1 hb; replace rs1 := Row.up rs1 hb; replace ro1 := Row.up ro1 hb; replace k3 := Block.ups k3 hb; replace hall := hall.trans (hb.mono hall.size); clear hb; refine kl H rfl fun a H => ?_
          refine op_unguard _ _ (kg_yes rfl H rfl rfl rfl) ?_; refine wl_v _ (r_not (H.ev rfl) rfl) ?_; refine kl H rfl fun a H => ?_
          refine op_unguard _ _ (kg_yes rfl H rfl rfl rfl) ?_; refine wl_v _ (r_pick_t (H.ev rfl) (H.ev rfl)) ?_; refine kl H rfl fun a H => ?_
          refine op_unguard _ _ (kg_yes rfl H rfl rfl rfl) ?_; refine wl_v _ (r_pick_f (H.ev rfl) (H.ev rfl)) ?_; refine kl H rfl fun a H => ?_
          refine wl_v _ (r_pick_t (H.ev rfl) (H.ev rfl)) ?_; refine kl H rfl fun a H => ?_
          refine wl_v _ (r_move (H.ev rfl)) ?_; refine kl H rfl fun a H => ?_
          refine op_unguard _ _ (kg_yes rfl H rfl rfl rfl) ?_; refine wl_v _ (r_fld (q := 0) fld24_0 (H.ev rfl) rfl) ?_; refine kl H rfl fun a H => ?_
          refine op_unguard _ _ (kg_yes rfl H rfl rfl rfl) ?_; refine wl_v _ (r_ld Try.underlying3 rfl (H.ev rfl) ((Block.cell k3 0).trans rfl)) ?_; refine kl H rfl fun a H => ?_
          refine op_unguard _ _ (kg_yes rfl H rfl rfl rfl) ?_; refine wl_v _ (r_fld (q := 0) fld24_0 (H.ev rfl) rfl) ?_; refine kl H rfl fun a H => ?_
          refine op_unguard _ _ (kg_yes rfl H rfl rfl rfl) ?_; refine wl_v _ (r_ld Try.underlying3 rfl (H.ev rfl) ((Block.cell k0 0).trans rfl)) ?_; refine kl H rfl fun a H => ?_
          refine op_unguard _ _ (kg_yes rfl H rfl rfl rfl) ?_; refine wl_v _ (r_move (H.ev rfl)) ?_; refine kl H rfl fun a H => ?_
          refine op_unguard _ _ (kg_yes rfl H rfl rfl rfl) ?_; refine wl_v _ (r_len Try.underlying27 (H.ev rfl)) ?_; refine kl H rfl fun a H => ?_
          refine op_unguard _ _ (kg_yes rfl H rfl rfl rfl) ?_; refine wl_v _ (r_add (q := n + ((NS.length : Nat) : Int)) Try.underlying3 (H.ev rfl) (H.ev rfl) (by omega) (by omega)) ?_; refine kl H rfl fun a H => ?_
          by_cases hcc9 : N = (n + ((NS.length : Nat) : Int))
          · skip
            refine op_unguard _ _ (kg_yes rfl H rfl rfl rfl) ?_; refine wl_v _ (r_eq Try.underlying3 (H.ev rfl) (H.ev rfl) (dec_t (hcc9))) ?_; refine kl H rfl fun a H => ?_
            refine wl_v _ (r_pick_t (H.ev rfl) (H.ev rfl)) ?_; refine kl H rfl fun a H => ?_
            refine wl_v _ (r_move (H.ev rfl)) ?_; refine kl H rfl fun a H => ?_
            refine op_unguard _ _ (kg_yes rfl H rfl rfl rfl) ?_; refine wl_v _ (r_fld (q := 1) fld24_1 (H.ev rfl) rfl) ?_; refine kl H rfl fun a H => ?_
            refine op_unguard _ _ (kg_yes rfl H rfl rfl rfl) ?_; refine wl_v _ (r_ld Try.underlying22 rfl (H.ev rfl) ((Block.cell k3 1).trans rfl)) ?_; refine kl H rfl fun a H => ?_
            refine op_unguard _ _ (kg_yes rfl H rfl rfl rfl) ?_; refine wl_v _ (r_len Try.underlying22 (H.ev rfl)) ?_; refine kl H rfl fun a H => ?_
            by_cases hcc10 : ((L'.length : Nat) : Int) ≤ 7
            · skip
              refine op_unguard _ _ (kg_yes rfl H rfl rfl rfl) ?_; refine wl_v _ (r_le Try.underlying3 (H.ev rfl) evc (dec_t (hcc10))) ?_; refine kl H rfl fun a H => ?_
              refine wl_v _ (r_pick_t (H.ev rfl) (H.ev rfl)) ?_; refine kl H rfl fun a H => ?_
              refine wl_v _ (r_assign (H.ev rfl)) ?_; refine kl H rfl fun a H => ?_
              refine wpList_nil ?_
              refine c_next ?_
              refine wp_ret ?_
              exact k_ret1 H rfl rfl ⟨rfl, hall⟩
            · skip
              refine op_unguard _ _ (kg_yes rfl H rfl rfl rfl) ?_; refine wl_v _ (r_le Try.underlying3 (H.ev rfl) evc (dec_f (hcc10))) ?_; refine kl H rfl fun a H => ?_
              refine wl_v _ (r_pick_t (H.ev rfl) (H.ev rfl)) ?_; refine kl H rfl fun a H => ?_
              refine wl_v _ (r_assign (H.ev rfl)) ?_; refine kl H rfl fun a H => ?_
              refine wpList_nil ?_
              refine c_next ?_
              refine wp_ret ?_
              exfalso; omega
          · skip
            refine op_unguard _ _ (kg_yes rfl H rfl rfl rfl) ?_; refine wl_v _ (r_eq Try.underlying3 (H.ev rfl) (H.ev rfl) (dec_f (hcc9))) ?_; refine kl H rfl fun a H => ?_
            refine wl_v _ (r_pick_t (H.ev rfl) (H.ev rfl)) ?_; refine kl H rfl fun a H => ?_
            refine wl_v _ (r_move (H.ev rfl)) ?_; refine kl H rfl fun a H => ?_
            refine wl_s (kg_no rfl H rfl rfl rfl) ?_; refine kl H rfl fun a H => ?_
            refine wl_s (kg_no rfl H rfl rfl rfl) ?_; refine kl H rfl fun a H => ?_
            refine wl_s (kg_no rfl H rfl rfl rfl) ?_; refine kl H rfl fun a H => ?_
            refine wl_s (kg_no rfl H rfl rfl rfl) ?_; refine kl H rfl fun a H => ?_
            refine wl_v _ (r_pick_f (H.ev rfl) evc) ?_; refine kl H rfl fun a H => ?_
            refine wl_v _ (r_assign (H.ev rfl)) ?_; refine kl H rfl fun a H => ?_
            refine wpList_nil ?_
            refine c_next ?_
            refine wp_ret ?_
            exfalso; omega
        · skip
          refine op_unguard _ _ (kg_yes rfl H rfl rfl rfl) ?_; refine wl_v _ (r_eq Try.underlying3 (H.ev rfl) evc (dec_f (hcc8))) ?_; refine kl H rfl fun a H => ?_
          refine op_unguard _ _ (kg_yes rfl H rfl rfl rfl) ?_; refine wl_v _ (r_move (H.ev rfl)) ?_; refine kl H rfl fun a H => ?_
          refine wl_s (kg_no rfl H rfl rfl rfl) ?_; refine kl H rfl fun a H => ?_
          refine wl_s (kg_no rfl H rfl rfl rfl) ?_; refine kl H rfl fun a H => ?_
          refine wl_s (kg_no rfl H rfl rfl rfl) ?_; refine kl H rfl fun a H => ?_
          refine wl_s (kg_no rfl H rfl rfl rfl) ?_; refine kl H rfl fun a H => ?_
          refine op_unguard _ _ (kg_yes rfl H rfl rfl rfl) ?_; refine wl_v _ (r_pick_f (H.ev rfl) evc) ?_; refine kl H rfl fun a H => ?_
          refine op_unguard _ _ (kg_yes rfl H rfl rfl rfl) ?_; refine wl_v _ (r_pick_f (H.ev rfl) (H.ev rfl)) ?_; refine kl H rfl fun a H => ?_
          refine wl_v _ (r_pick_t (H.ev rfl) (H.ev rfl)) ?_; refine kl H rfl fun a H => ?_
          refine wl_v _ (r_move (H.ev rfl)) ?_; refine kl H rfl fun a H => ?_
          refine wl_s (kg_no rfl H rfl rfl rfl) ?_; refine kl H rfl fun a H => ?_
          refine wl_s (kg_no rfl H rfl rfl rfl) ?_; refine kl H rfl fun a H => ?_
          refine wl_s (kg_no rfl H rfl rfl rfl) ?_; refine kl H rfl fun a H => ?_
          refine wl_s (kg_no rfl H rfl rfl rfl) ?_; refine kl H rfl fun a H => ?_
          refine wl_s (kg_no rfl H rfl rfl rfl) ?_; refine kl H rfl fun a H => ?_
          refine wl_s (kg_no rfl H rfl rfl rfl) ?_; refine kl H rfl fun a H => ?_
          refine wl_s (kg_no rfl H rfl rfl rfl) ?_; refine kl H rfl fun a H => ?_
          refine wl_s (kg_no rfl H rfl rfl rfl) ?_; refine kl H rfl fun a H => ?_
          refine wl_v _ (r_pick_f (H.ev rfl) evc) ?_; refine kl H rfl fun a H => ?_
          refine wl_v _ (r_move (H.ev rfl)) ?_; refine kl H rfl fun a H => ?_
          refine wl_s (kg_no rfl H rfl rfl rfl) ?_; refine kl H rfl fun a H => ?_
          refine wl_s (kg_no rfl H rfl rfl rfl) ?_; refine kl H rfl fun a H => ?_
          refine wl_s (kg_no rfl H rfl rfl rfl) ?_; refine kl H rfl fun a H => ?_
          refine wl_s (kg_no rfl H rfl rfl rfl) ?_; refine kl H rfl fun a H => ?_
          refine wl_v _ (r_pick_f (H.ev rfl) evc) ?_; refine kl H rfl fun a H => ?_
          refine wl_v _ (r_assign (H.ev rfl)) ?_; refine kl H rfl fun a H => ?_
          refine wpList_nil ?_
          refine c_next ?_
          refine wp_ret ?_
          exfalso; omega
theorem counts_all (w : World) (m0 : Int) (A0 : Option Addr) (n0 c0 : Nat) (L0 : List Int) (L1 : List Int) (hn0 : L0.length = n0 * 5) (hnc0 : n0 ≤ c0) (hcm0 : c0 ≤ maxLen) (hh0 : Holds w A0 (L0.map (Value.int .i64))) (hz0 : A0 = none → c0 = 0) (hn1 : L1.length = 5) (hw1 : WF L1) (hb : n0 ≤ 9223372036854775807) :
    Calls Try.prog 6 #[.agg #[.int .i64 m0, .slice A0 n0 c0], .agg (ints L1)] w fun e w' => e = .returned (.bool true) ∧ Below w.heap.size w w' := by
  obtain ⟨L, h, rfl, _⟩ := irow_in hn0 hnc0 hcm0 hh0 hz0
  obtain ⟨x, rfl, hx⟩ := item_in hn1 hw1
  exact counts_walk w m0 _ L x h hb hx
theorem recvCounts_it1 : intTy Try.prog 3 33 = true := by kernel_rfl
theorem recvCounts_c1 : Try.prog.cellsOf 33 = 5 := by kernel_rfl
set_option maxRecDepth 100000 in
theorem recvCounts_lifted (os : Os) (started : os.Started) (H : Type) (enc : TypeId × Value → H) :
    ReturnsInHanded {} Try.checked os 6 .any (Rows.recvCountsSpec.pre6 enc Try.prog Try.f6 Rows.recvCountsRow.domain false) (Rows.recvCountsSpec.post enc Try.prog Try.f6 false true false false) := by
  refine returnsInHanded_of_change (C := Try.checked) own started (by kernel_rfl) Try.func6
    (ChangeSpec.witness6 (enc := enc) (C := Try.checked) false ⟨#[], #[.agg #[.int .i64 0, .slice none 0 0], .agg (ints (List.replicate 5 0))], []⟩ 8 (by kernel_rfl) (by kernel_rfl) (by kernel_rfl) (by kernel_rfl)) ?_
  intro W base args ds gs before hval0 hW hcnd _
  have hval : ∀ (j : Nat) t v, Try.f6.params[j]? = some t → args[j]? = some v → Value.okWide Try.prog W .any base t v := hval0
  have hW' := hW
  obtain ⟨p, q, hA0, hV, rfl, hfz, hnd⟩ := hW
  have hA : DataW.TrodAll enc Try.prog W 0 (fun _ => true) true Try.f6.params.toList args.toList ds p := hA0
  rw [Try.params6] at hA hval
  obtain ⟨v0, vs0, d0, ds0, p0, q0, hargs, rfl, rfl, h0, r0⟩ := trodAll_cons hA
  obtain ⟨v1, vs1, d1, ds1, p1, q1, rfl, rfl, rfl, h1, r1⟩ := trodAll_cons r0
  obtain ⟨rfl, rfl, rfl⟩ := trodAll_nil r1
  obtain rfl : args = #[v0, v1] := by cases args; simp_all
  obtain ⟨rfl, rfl⟩ := trodVars_none hV
  have k0 := h0
  have lt0 : ∀ x ∈ p0, x.block < W.heap.size := by obtain ⟨m, hm⟩ := k0; exact DataW.trod_lt m _ _ _ hm
  have k1 := h1
  have lt1 : ∀ x ∈ p1, x.block < W.heap.size := by obtain ⟨m, hm⟩ := k1; exact DataW.trod_lt m _ _ _ hm
  obtain ⟨m0, A0, n0, c0, L0, rfl, hm0, hn0, hw0, hnc0, hcm0, hh0, hz0⟩ := open_is 4 5 Try.underlying24 rfl rfl Try.underlying3 co3 rfl rfl co22 co24 Try.underlying22 it33 co33 (by omega) (hval 0 24 v0 rfl rfl) h0
  have hb0 : n0 ≤ 9223372036854775807 := by unfold maxLen at hcm0; omega
  obtain ⟨B1, rfl, hB1, hw1⟩ := open_agg_ints 3 5 recvCounts_it1 (by rw [Try.underlying33]) recvCounts_c1 (hval 1 33 v1 rfl rfl) h1
  clear hA0 hval0
  refine (counts_all W m0 A0 n0 c0 L0 B1 hn0 hnc0 hcm0 hh0 hz0 hB1 hw1 hb0).mono fun e W' ⟨he, bel⟩ => ?_
  subst he
  exact ⟨_, rfl, _, _, _, [], _, [], hW', trodAll_mk1 (shut_bool Try.underlying4 _), (trodAll_cons_mk (Below.trod laidOut (by kernel_rfl) (of_decide_eq_true (by kernel_rfl)) k0 bel lt0) (trodAll_cons_mk (Below.trod laidOut (by kernel_rfl) (of_decide_eq_true (by kernel_rfl)) k1 bel lt1) trodAll_mk0)), rfl, bel.frame _, fun h => by cases h⟩

theorem recvCounts_holds : Rows.RecvCountsSaid :=
  OpenClaim.holds_of_wide 6 Try.f6 rfl rfl rfl rfl rfl rfl rfl ⟨rfl, rfl, rfl, rfl, rfl⟩ rfl rfl rfl rfl rfl (by kernel_rfl) Try.func6 (by kernel_rfl)
    (of_decide_eq_true (by kernel_rfl)) (by unfold Func.isWrapper; first | (rw [if_pos (by decide +kernel)]; kernel_rfl) | (rw [if_neg (by decide +kernel)]; exact ⟨rfl, rfl⟩))
    (fun os started H enc _ => recvCounts_lifted os started H enc)
#print axioms recvCounts_holds
end Go.Proofs.Ythfdjlhplcmicaa
