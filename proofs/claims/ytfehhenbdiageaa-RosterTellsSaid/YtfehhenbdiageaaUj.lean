/- Roster: small. -/
import Derived.Test.YtfehhenbdiageaaUi
namespace Go.Proofs.Ytfehhenbdiageaa
open Go.RowKit
set_option linter.unusedVariables false
set_option linter.unusedSimpArgs false

theorem lit_row {w : World} {b : Nat} {x : Tm} (k : Block w b 37 #[.int .i64 x.1, .int .i64 x.2.1, .int .i64 x.2.2]) : TRow w (.slice (some ⟨b, 0, none⟩) 1 1) [x] :=
  ⟨some ⟨b, 0, none⟩, 1, rfl, by simp, by simp [maxLen], (fun e => by cases e), block_x k⟩
theorem lit_irow {w : World} {b : Nat} {x : Int} (k : Block w b 3 #[.int .i64 x]) : IRow w (.slice (some ⟨b, 0, none⟩) 1 1) [x] :=
  ⟨some ⟨b, 0, none⟩, 1, rfl, by simp, by simp [maxLen], (fun e => by cases e), block1 k⟩
set_option maxHeartbeats 4000000 in
theorem small_any (w : World) : Calls Try.prog 10 #[] w fun e w' => e = .returned (.bool true) ∧ Below w.heap.size w w' := by
  have hall := Below.refl w.heap.size w
  refine K_enter 102 Try.func10 rfl rfl fun a H => ?_
  replace H := H.pick []
  refine wp_seq ?_
  refine wp_region_lit ?_
  refine wl_v _ (r_assign evc) ?_; refine kl H rfl fun a H => ?_
  refine wpList_nil ?_
  refine c_next ?_
  refine wp_seq ?_
  refine wp_region_lit ?_
  refine wl_call _ _ _ (do_any _ _ [] 1 1 2 Row.nil (by simp) (by decide)) (r_call4 cf13 evc evc evc evc) ?_; rintro e w9 ⟨⟨v1, rfl, hown⟩, hb⟩; refine ⟨_, rfl, ?_⟩; rw [show doF [] 1 1 2 = ([(1, 2, 1)], 0) from by decide] at hown ⊢; replace hall := hall.trans (hb.mono hall.size); clear hb; replace hown : TOwn _ _ v1 [(1, 2, 1)] := hown; have r1 := TOwn.row hown; clear hown; refine kl H rfl fun a H => ?_
  refine wl_v _ (r_move (H.ev rfl)) ?_; refine kl H rfl fun a H => ?_
  refine wl_v _ (r_extract (v := v1) (H.ev rfl) rfl) ?_; refine kl H rfl fun a H => ?_
  refine wl_v _ (r_extract (v := .int .i64 0) (H.ev rfl) rfl) ?_; refine kl H rfl fun a H => ?_
  refine wl_v _ (r_assign (H.ev rfl)) ?_; refine kl H rfl fun a H => ?_
  refine wl_v _ (r_assign (H.ev rfl)) ?_; refine kl H rfl fun a H => ?_
  refine wpList_nil ?_
  refine c_next ?_
  refine wp_seq ?_
  refine wp_region_lit ?_
  refine wl_v _ (r_move (H.ev rfl)) ?_; refine kl H rfl fun a H => ?_
  refine wl_call _ _ _ (do_any _ _ [(1, 2, 1)] 3 2 1 r1 (by simp) (by decide)) (r_call4 cf13 (H.ev rfl) evc evc evc) ?_; rintro e w9 ⟨⟨v3, rfl, hown⟩, hb⟩; refine ⟨_, rfl, ?_⟩; rw [show doF [(1, 2, 1)] 3 2 1 = ([(1, 2, 2)], 0) from by decide] at hown ⊢; replace r1 := Row.up r1 hb; replace hall := hall.trans (hb.mono hall.size); clear hb; replace hown : TOwn _ _ v3 [(1, 2, 2)] := hown; have r3 := TOwn.row hown; clear hown; refine kl H rfl fun a H => ?_
  refine wl_v _ (r_move (H.ev rfl)) ?_; refine kl H rfl fun a H => ?_
  refine wl_v _ (r_extract (v := v3) (H.ev rfl) rfl) ?_; refine kl H rfl fun a H => ?_
  refine wl_v _ (r_extract (v := .int .i64 0) (H.ev rfl) rfl) ?_; refine kl H rfl fun a H => ?_
  refine wl_v _ (r_assign (H.ev rfl)) ?_; refine kl H rfl fun a H => ?_
  refine wl_v _ (r_assign (H.ev rfl)) ?_; refine kl H rfl fun a H => ?_
  refine wpList_nil ?_
  refine c_next ?_
  refine wp_seq ?_
  refine wp_region_lit ?_
  refine wl_v _ (r_move (H.ev rfl)) ?_; refine kl H rfl fun a H => ?_
  refine wl_call _ _ _ (do_any _ _ [(1, 2, 2)] 2 1 2 r3 (by simp) (by decide)) (r_call4 cf13 (H.ev rfl) evc evc evc) ?_; rintro e w9 ⟨⟨v5, rfl, hown⟩, hb⟩; refine ⟨_, rfl, ?_⟩; rw [show doF [(1, 2, 2)] 2 1 2 = ([], 0) from by decide] at hown ⊢; replace r1 := Row.up r1 hb; replace r3 := Row.up r3 hb; replace hall := hall.trans (hb.mono hall.size); clear hb; replace hown : TOwn _ _ v5 [] := hown; have r5 := TOwn.row hown; clear hown; obtain ⟨A5, c5, hv5, _⟩ := r5; simp only [List.length_nil] at hv5; subst hv5; refine kl H rfl fun a H => ?_
  refine wl_v _ (r_move (H.ev rfl)) ?_; refine kl H rfl fun a H => ?_
  refine wl_v _ (r_extract (v := .slice A5 0 c5) (H.ev rfl) rfl) ?_; refine kl H rfl fun a H => ?_
  refine wl_v _ (r_extract (v := .int .i64 0) (H.ev rfl) rfl) ?_; refine kl H rfl fun a H => ?_
  refine wl_v _ (r_assign (H.ev rfl)) ?_; refine kl H rfl fun a H => ?_
  refine wl_v _ (r_assign (H.ev rfl)) ?_; refine kl H rfl fun a H => ?_
  refine wpList_nil ?_
  refine c_next ?_
  refine wp_seq ?_
  refine wp_region_lit ?_
  refine wl_v _ (r_move (H.ev rfl)) ?_; refine kl H rfl fun a H => ?_
  refine wl_call _ _ _ (do_any _ _ [(1, 2, 2)] 3 1 2 r3 (by simp) (by decide)) (r_call4 cf13 (H.ev rfl) evc evc evc) ?_; rintro e w9 ⟨⟨v7, rfl, hown⟩, hb⟩; refine ⟨_, rfl, ?_⟩; rw [show doF [(1, 2, 2)] 3 1 2 = ([(1, 2, 2)], 8) from by decide] at hown ⊢; replace r1 := Row.up r1 hb; replace r3 := Row.up r3 hb; replace hall := hall.trans (hb.mono hall.size); clear hb; replace hown : TOwn _ _ v7 [(1, 2, 2)] := hown; have r7 := TOwn.row hown; clear hown; refine kl H rfl fun a H => ?_
  refine wl_v _ (r_move (H.ev rfl)) ?_; refine kl H rfl fun a H => ?_
  refine wl_v _ (r_extract (v := v7) (H.ev rfl) rfl) ?_; refine kl H rfl fun a H => ?_
  refine wl_v _ (r_extract (v := .int .i64 8) (H.ev rfl) rfl) ?_; refine kl H rfl fun a H => ?_
  refine wl_v _ (r_assign (H.ev rfl)) ?_; refine kl H rfl fun a H => ?_
  refine wl_v _ (r_assign (H.ev rfl)) ?_; refine kl H rfl fun a H => ?_
  refine wpList_nil ?_
  refine c_next ?_
  refine wp_seq ?_
  refine wp_region_lit ?_
  refine wl_v _ (r_move (H.ev rfl)) ?_; refine kl H rfl fun a H => ?_
  refine wl_call _ _ _ (do_any _ _ [(1, 2, 2)] 1 1 1 r3 (by simp) (by decide)) (r_call4 cf13 (H.ev rfl) evc evc evc) ?_; rintro e w9 ⟨⟨v9, rfl, hown⟩, hb⟩; refine ⟨_, rfl, ?_⟩; rw [show doF [(1, 2, 2)] 1 1 1 = ([(1, 2, 2)], 1) from by decide] at hown ⊢; replace r1 := Row.up r1 hb; replace r3 := Row.up r3 hb; replace r7 := Row.up r7 hb; replace hall := hall.trans (hb.mono hall.size); clear hb; replace hown : TOwn _ _ v9 [(1, 2, 2)] := hown; have r9 := TOwn.row hown; clear hown; refine kl H rfl fun a H => ?_
  refine wl_v _ (r_move (H.ev rfl)) ?_; refine kl H rfl fun a H => ?_
  refine wl_v _ (r_extract (v := v9) (H.ev rfl) rfl) ?_; refine kl H rfl fun a H => ?_
  refine wl_v _ (r_extract (v := .int .i64 1) (H.ev rfl) rfl) ?_; refine kl H rfl fun a H => ?_
  refine wl_v _ (r_assign (H.ev rfl)) ?_; refine kl H rfl fun a H => ?_
  refine wl_v _ (r_assign (H.ev rfl)) ?_; refine kl H rfl fun a H => ?_
  refine wpList_nil ?_
  refine c_next ?_
  refine wp_seq ?_
  refine wp_region_lit ?_
  refine wl_v _ (r_move (H.ev rfl)) ?_; refine kl H rfl fun a H => ?_
  refine wl_v _ (r_eq Try.underlying28 (H.ev rfl) evc (dec_t (by omega))) ?_; refine kl H rfl fun a H => ?_
  refine wl_v _ (r_move (H.ev rfl)) ?_; refine kl H rfl fun a H => ?_
  refine op_unguard _ _ (kg_yes rfl H rfl rfl rfl) ?_; refine wl_v _ (r_move (H.ev rfl)) ?_; refine kl H rfl fun a H => ?_
  refine op_unguard _ _ (kg_yes rfl H rfl rfl rfl) ?_; refine wl_v _ (r_build #[(0, .int .i64 1), (1, .int .i64 2), (2, .int .i64 1)] (.agg #[.int .i64 1, .int .i64 2, .int .i64 1]) (by simp [evc]) (fun w => by kernel_rfl)) ?_; refine kl H rfl fun a H => ?_
  refine op_unguard _ _ (kg_yes rfl H rfl rfl rfl) ?_; refine op_litv 22 1 #[(0, .agg #[.int .i64 1, .int .i64 2, .int .i64 1])] 37 #[.int .i64 1, .int .i64 2, .int .i64 1] (by simp [evc, H.ev (j := 39) rfl]) (fun w => by kernel_rfl) fun w0 b0 hge hb k0 => ?_; have g0 := Nat.le_trans hall.size hge; replace r1 := Row.up r1 hb; replace r3 := Row.up r3 hb; replace r7 := Row.up r7 hb; replace r9 := Row.up r9 hb; replace hall := hall.trans (hb.mono hall.size); clear hb; clear hge; refine kl H rfl fun a H => ?_
  refine op_unguard _ _ (kg_yes rfl H rfl rfl rfl) ?_; refine wl_call _ _ _ (same15_any _ _ _ [(1, 2, 1)] [(1, 2, 1)] r1 (lit_row k0) (by simp) (by simp)) (r_call2 cf15 (H.ev rfl) (H.ev rfl)) ?_; rintro e w9 ⟨rfl, hb⟩; refine ⟨_, rfl, ?_⟩; rw [decide_eq_true (rfl : ([(1, 2, 1)] : List Tm) = [(1, 2, 1)])]; replace r1 := Row.up r1 hb; replace r3 := Row.up r3 hb; replace r7 := Row.up r7 hb; replace r9 := Row.up r9 hb; replace k0 := Block.ups k0 hb; replace hall := hall.trans (hb.mono hall.size); clear hb; refine kl H rfl fun a H => ?_
  refine wl_v _ (r_pick_t (H.ev rfl) (H.ev rfl)) ?_; refine kl H rfl fun a H => ?_
  refine wl_v _ (r_move (H.ev rfl)) ?_; refine kl H rfl fun a H => ?_
  refine op_unguard _ _ (kg_yes rfl H rfl rfl rfl) ?_; refine wl_v _ (r_move (H.ev rfl)) ?_; refine kl H rfl fun a H => ?_
  refine op_unguard _ _ (kg_yes rfl H rfl rfl rfl) ?_; refine wl_v _ (r_eq Try.underlying28 (H.ev rfl) evc (dec_t (by omega))) ?_; refine kl H rfl fun a H => ?_
  refine wl_v _ (r_pick_t (H.ev rfl) (H.ev rfl)) ?_; refine kl H rfl fun a H => ?_
  refine wl_v _ (r_move (H.ev rfl)) ?_; refine kl H rfl fun a H => ?_
  refine op_unguard _ _ (kg_yes rfl H rfl rfl rfl) ?_; refine wl_v _ (r_move (H.ev rfl)) ?_; refine kl H rfl fun a H => ?_
  refine op_unguard _ _ (kg_yes rfl H rfl rfl rfl) ?_; refine wl_call _ _ _ (wat_any _ _ [(1, 2, 2)] 2 r3 (by simp)) (r_call2 cf19 (H.ev rfl) evc) ?_; rintro e w9 ⟨⟨u0, rfl, hown⟩, hb⟩; refine ⟨_, rfl, ?_⟩; replace r1 := Row.up r1 hb; replace r3 := Row.up r3 hb; replace r7 := Row.up r7 hb; replace r9 := Row.up r9 hb; replace k0 := Block.ups k0 hb; replace hall := hall.trans (hb.mono hall.size); clear hb; replace hown : IOwn _ _ u0 [1] := hown; have q0 := IOwn.row hown; clear hown; refine kl H rfl fun a H => ?_
  refine op_unguard _ _ (kg_yes rfl H rfl rfl rfl) ?_; refine op_litv 34 1 #[(0, .int .i64 1)] 3 #[.int .i64 1] (by simp [evc]) (fun w => by kernel_rfl) fun w1 b1 hge hb k1 => ?_; have g1 := Nat.le_trans hall.size hge; replace r1 := Row.up r1 hb; replace r3 := Row.up r3 hb; replace r7 := Row.up r7 hb; replace r9 := Row.up r9 hb; replace k0 := Block.ups k0 hb; replace q0 := Row.up q0 hb; replace hall := hall.trans (hb.mono hall.size); clear hb; clear hge; refine kl H rfl fun a H => ?_
  refine op_unguard _ _ (kg_yes rfl H rfl rfl rfl) ?_; refine wl_call _ _ _ (same18_any _ _ _ [1] [1] q0 (lit_irow k1) (by simp) (by simp)) (r_call2 cf18 (H.ev rfl) (H.ev rfl)) ?_; rintro e w9 ⟨rfl, hb⟩; refine ⟨_, rfl, ?_⟩; rw [decide_eq_true (rfl : ([1] : List Int) = [1])]; replace r1 := Row.up r1 hb; replace r3 := Row.up r3 hb; replace r7 := Row.up r7 hb; replace r9 := Row.up r9 hb; replace k0 := Block.ups k0 hb; replace q0 := Row.up q0 hb; replace k1 := Block.ups k1 hb; replace hall := hall.trans (hb.mono hall.size); clear hb; refine kl H rfl fun a H => ?_
  refine wl_v _ (r_pick_t (H.ev rfl) (H.ev rfl)) ?_; refine kl H rfl fun a H => ?_
  refine wl_v _ (r_move (H.ev rfl)) ?_; refine kl H rfl fun a H => ?_
  refine op_unguard _ _ (kg_yes rfl H rfl rfl rfl) ?_; refine wl_v _ (r_move (H.ev rfl)) ?_; refine kl H rfl fun a H => ?_
  refine op_unguard _ _ (kg_yes rfl H rfl rfl rfl) ?_; refine wl_call _ _ _ (tar_any _ _ [(1, 2, 2)] 1 r3 (by simp)) (r_call2 cf21 (H.ev rfl) evc) ?_; rintro e w9 ⟨⟨u1, rfl, hown⟩, hb⟩; refine ⟨_, rfl, ?_⟩; replace r1 := Row.up r1 hb; replace r3 := Row.up r3 hb; replace r7 := Row.up r7 hb; replace r9 := Row.up r9 hb; replace k0 := Block.ups k0 hb; replace q0 := Row.up q0 hb; replace k1 := Block.ups k1 hb; replace hall := hall.trans (hb.mono hall.size); clear hb; replace hown : IOwn _ _ u1 [2] := hown; have q1 := IOwn.row hown; clear hown; refine kl H rfl fun a H => ?_
  refine op_unguard _ _ (kg_yes rfl H rfl rfl rfl) ?_; refine op_litv 34 1 #[(0, .int .i64 2)] 3 #[.int .i64 2] (by simp [evc]) (fun w => by kernel_rfl) fun w2 b2 hge hb k2 => ?_; have g2 := Nat.le_trans hall.size hge; replace r1 := Row.up r1 hb; replace r3 := Row.up r3 hb; replace r7 := Row.up r7 hb; replace r9 := Row.up r9 hb; replace k0 := Block.ups k0 hb; replace q0 := Row.up q0 hb; replace k1 := Block.ups k1 hb; replace q1 := Row.up q1 hb; replace hall := hall.trans (hb.mono hall.size); clear hb; clear hge; refine kl H rfl fun a H => ?_
  refine op_unguard _ _ (kg_yes rfl H rfl rfl rfl) ?_; refine wl_call _ _ _ (same18_any _ _ _ [2] [2] q1 (lit_irow k2) (by simp) (by simp)) (r_call2 cf18 (H.ev rfl) (H.ev rfl)) ?_; rintro e w9 ⟨rfl, hb⟩; refine ⟨_, rfl, ?_⟩; rw [decide_eq_true (rfl : ([2] : List Int) = [2])]; replace r1 := Row.up r1 hb; replace r3 := Row.up r3 hb; replace r7 := Row.up r7 hb; replace r9 := Row.up r9 hb; replace k0 := Block.ups k0 hb; replace q0 := Row.up q0 hb; replace k1 := Block.ups k1 hb; replace q1 := Row.up q1 hb; replace k2 := Block.ups k2 hb; replace hall := hall.trans (hb.mono hall.size); clear hb; refine kl H rfl fun a H => ?_
  refine wl_v _ (r_pick_t (H.ev rfl) (H.ev rfl)) ?_; refine kl H rfl fun a H => ?_
  refine wl_v _ (r_move (H.ev rfl)) ?_; refine kl H rfl fun a H => ?_
  refine op_unguard _ _ (kg_yes rfl H rfl rfl rfl) ?_; refine wl_v _ (r_move (H.ev rfl)) ?_; refine kl H rfl fun a H => ?_
  refine op_unguard _ _ (kg_yes rfl H rfl rfl rfl) ?_; refine wl_call _ _ _ (wat_any _ _ [(1, 2, 1)] 2 r1 (by simp)) (r_call2 cf19 (H.ev rfl) evc) ?_; rintro e w9 ⟨⟨u2, rfl, hown⟩, hb⟩; refine ⟨_, rfl, ?_⟩; replace r1 := Row.up r1 hb; replace r3 := Row.up r3 hb; replace r7 := Row.up r7 hb; replace r9 := Row.up r9 hb; replace k0 := Block.ups k0 hb; replace q0 := Row.up q0 hb; replace k1 := Block.ups k1 hb; replace q1 := Row.up q1 hb; replace k2 := Block.ups k2 hb; replace hall := hall.trans (hb.mono hall.size); clear hb; replace hown : IOwn _ _ u2 [] := hown; have q2 := IOwn.row hown; clear hown; obtain ⟨A2, n2, hv, _⟩ := q2; simp only [List.length_nil] at hv; subst hv; refine kl H rfl fun a H => ?_
  refine op_unguard _ _ (kg_yes rfl H rfl rfl rfl) ?_; refine wl_v _ (r_len Try.underlying34 (H.ev rfl)) ?_; refine kl H rfl fun a H => ?_
  refine op_unguard _ _ (kg_yes rfl H rfl rfl rfl) ?_; refine wl_v _ (r_eq Try.underlying3 (H.ev rfl) evc (dec_t (by omega))) ?_; refine kl H rfl fun a H => ?_
  refine wl_v _ (r_pick_t (H.ev rfl) (H.ev rfl)) ?_; refine kl H rfl fun a H => ?_
  refine wl_v _ (r_move (H.ev rfl)) ?_; refine kl H rfl fun a H => ?_
  refine op_unguard _ _ (kg_yes rfl H rfl rfl rfl) ?_; refine wl_v _ (r_move (H.ev rfl)) ?_; refine kl H rfl fun a H => ?_
  refine op_unguard _ _ (kg_yes rfl H rfl rfl rfl) ?_; refine wl_v _ (r_eq Try.underlying28 (H.ev rfl) evc (dec_t (by omega))) ?_; refine kl H rfl fun a H => ?_
  refine wl_v _ (r_pick_t (H.ev rfl) (H.ev rfl)) ?_; refine kl H rfl fun a H => ?_
  refine wl_v _ (r_move (H.ev rfl)) ?_; refine kl H rfl fun a H => ?_
  refine op_unguard _ _ (kg_yes rfl H rfl rfl rfl) ?_; refine wl_v _ (r_move (H.ev rfl)) ?_; refine kl H rfl fun a H => ?_
  refine op_unguard _ _ (kg_yes rfl H rfl rfl rfl) ?_; refine wl_v _ (r_len Try.underlying22 (H.ev rfl)) ?_; refine kl H rfl fun a H => ?_
  refine op_unguard _ _ (kg_yes rfl H rfl rfl rfl) ?_; refine wl_v _ (r_eq Try.underlying3 (H.ev rfl) evc (dec_t (by omega))) ?_; refine kl H rfl fun a H => ?_
  refine wl_v _ (r_pick_t (H.ev rfl) (H.ev rfl)) ?_; refine kl H rfl fun a H => ?_
  refine wl_v _ (r_move (H.ev rfl)) ?_; refine kl H rfl fun a H => ?_
  refine op_unguard _ _ (kg_yes rfl H rfl rfl rfl) ?_; refine wl_v _ (r_move (H.ev rfl)) ?_; refine kl H rfl fun a H => ?_
  refine op_unguard _ _ (kg_yes rfl H rfl rfl rfl) ?_; refine wl_v _ (r_eq Try.underlying28 (H.ev rfl) evc (dec_t (by omega))) ?_; refine kl H rfl fun a H => ?_
  refine wl_v _ (r_pick_t (H.ev rfl) (H.ev rfl)) ?_; refine kl H rfl fun a H => ?_
  refine wl_v _ (r_move (H.ev rfl)) ?_; refine kl H rfl fun a H => ?_
  refine op_unguard _ _ (kg_yes rfl H rfl rfl rfl) ?_; refine wl_v _ (r_move (H.ev rfl)) ?_; refine kl H rfl fun a H => ?_
  refine op_unguard _ _ (kg_yes rfl H rfl rfl rfl) ?_; refine wl_v _ (r_eq Try.underlying28 (H.ev rfl) evc (dec_t (by omega))) ?_; refine kl H rfl fun a H => ?_
  refine wl_v _ (r_pick_t (H.ev rfl) (H.ev rfl)) ?_; refine kl H rfl fun a H => ?_
  refine wl_v _ (r_move (H.ev rfl)) ?_; refine kl H rfl fun a H => ?_
  refine op_unguard _ _ (kg_yes rfl H rfl rfl rfl) ?_; refine wl_v _ (r_move (H.ev rfl)) ?_; refine kl H rfl fun a H => ?_
  refine op_unguard _ _ (kg_yes rfl H rfl rfl rfl) ?_; refine wl_call _ _ _ (state_any _ _ [(1, 2, 2)] 1 2 r3 (by simp) (by decide)) (r_call3 cf16 (H.ev rfl) evc evc) ?_; rintro e w9 ⟨rfl, hb⟩; refine ⟨_, rfl, ?_⟩; rw [show stF [(1, 2, 2)] 1 2 = 2 from by decide]; replace r1 := Row.up r1 hb; replace r3 := Row.up r3 hb; replace r7 := Row.up r7 hb; replace r9 := Row.up r9 hb; replace k0 := Block.ups k0 hb; replace q0 := Row.up q0 hb; replace k1 := Block.ups k1 hb; replace q1 := Row.up q1 hb; replace k2 := Block.ups k2 hb; replace hall := hall.trans (hb.mono hall.size); clear hb; refine kl H rfl fun a H => ?_
  refine op_unguard _ _ (kg_yes rfl H rfl rfl rfl) ?_; refine wl_v _ (r_eq Try.underlying3 (H.ev rfl) evc (dec_t (by omega))) ?_; refine kl H rfl fun a H => ?_
  refine wl_v _ (r_pick_t (H.ev rfl) (H.ev rfl)) ?_; refine kl H rfl fun a H => ?_
  refine wl_v _ (r_move (H.ev rfl)) ?_; refine kl H rfl fun a H => ?_
  refine op_unguard _ _ (kg_yes rfl H rfl rfl rfl) ?_; refine wl_v _ (r_move (H.ev rfl)) ?_; refine kl H rfl fun a H => ?_
  refine op_unguard _ _ (kg_yes rfl H rfl rfl rfl) ?_; refine wl_call _ _ _ (state_any _ _ [(1, 2, 2)] 2 1 r3 (by simp) (by decide)) (r_call3 cf16 (H.ev rfl) evc evc) ?_; rintro e w9 ⟨rfl, hb⟩; refine ⟨_, rfl, ?_⟩; rw [show stF [(1, 2, 2)] 2 1 = 0 from by decide]; replace r1 := Row.up r1 hb; replace r3 := Row.up r3 hb; replace r7 := Row.up r7 hb; replace r9 := Row.up r9 hb; replace k0 := Block.ups k0 hb; replace q0 := Row.up q0 hb; replace k1 := Block.ups k1 hb; replace q1 := Row.up q1 hb; replace k2 := Block.ups k2 hb; replace hall := hall.trans (hb.mono hall.size); clear hb; refine kl H rfl fun a H => ?_
  refine op_unguard _ _ (kg_yes rfl H rfl rfl rfl) ?_; refine wl_v _ (r_eq Try.underlying3 (H.ev rfl) evc (dec_t (by omega))) ?_; refine kl H rfl fun a H => ?_
  refine wl_v _ (r_pick_t (H.ev rfl) (H.ev rfl)) ?_; refine kl H rfl fun a H => ?_
  refine wl_v _ (r_move (H.ev rfl)) ?_; refine kl H rfl fun a H => ?_
  refine op_unguard _ _ (kg_yes rfl H rfl rfl rfl) ?_; refine wl_v _ (r_move (H.ev rfl)) ?_; refine kl H rfl fun a H => ?_
  refine op_unguard _ _ (kg_yes rfl H rfl rfl rfl) ?_; refine wl_call _ _ _ (right_any _ _ [(1, 2, 2)] r3 (by simp) (by simp; decide)) (r_call1 cf11 (H.ev rfl)) ?_; rintro e w9 ⟨rfl, hb⟩; refine ⟨_, rfl, ?_⟩; rw [show rightF [(1, 2, 2)] = true from by decide]; replace r1 := Row.up r1 hb; replace r3 := Row.up r3 hb; replace r7 := Row.up r7 hb; replace r9 := Row.up r9 hb; replace k0 := Block.ups k0 hb; replace q0 := Row.up q0 hb; replace k1 := Block.ups k1 hb; replace q1 := Row.up q1 hb; replace k2 := Block.ups k2 hb; replace hall := hall.trans (hb.mono hall.size); clear hb; refine kl H rfl fun a H => ?_
  refine wl_v _ (r_pick_t (H.ev rfl) (H.ev rfl)) ?_; refine kl H rfl fun a H => ?_
  refine wl_v _ (r_move (H.ev rfl)) ?_; refine kl H rfl fun a H => ?_
  refine op_unguard _ _ (kg_yes rfl H rfl rfl rfl) ?_; refine wl_v _ (r_build #[(0, .int .i64 1), (1, .int .i64 1), (2, .int .i64 1)] (.agg #[.int .i64 1, .int .i64 1, .int .i64 1]) (by simp [evc]) (fun w => by kernel_rfl)) ?_; refine kl H rfl fun a H => ?_
  refine op_unguard _ _ (kg_yes rfl H rfl rfl rfl) ?_; refine op_litv 22 1 #[(0, .agg #[.int .i64 1, .int .i64 1, .int .i64 1])] 37 #[.int .i64 1, .int .i64 1, .int .i64 1] (by simp [evc, H.ev (j := 97) rfl]) (fun w => by kernel_rfl) fun w3 b3 hge hb k3 => ?_; have g3 := Nat.le_trans hall.size hge; replace r1 := Row.up r1 hb; replace r3 := Row.up r3 hb; replace r7 := Row.up r7 hb; replace r9 := Row.up r9 hb; replace k0 := Block.ups k0 hb; replace q0 := Row.up q0 hb; replace k1 := Block.ups k1 hb; replace q1 := Row.up q1 hb; replace k2 := Block.ups k2 hb; replace hall := hall.trans (hb.mono hall.size); clear hb; clear hge; refine kl H rfl fun a H => ?_
  refine op_unguard _ _ (kg_yes rfl H rfl rfl rfl) ?_; refine wl_call _ _ _ (right_any _ _ [(1, 1, 1)] (lit_row k3) (by simp) (by simp; decide)) (r_call1 cf11 (H.ev rfl)) ?_; rintro e w9 ⟨rfl, hb⟩; refine ⟨_, rfl, ?_⟩; rw [show rightF [(1, 1, 1)] = false from by decide]; replace r1 := Row.up r1 hb; replace r3 := Row.up r3 hb; replace r7 := Row.up r7 hb; replace r9 := Row.up r9 hb; replace k0 := Block.ups k0 hb; replace q0 := Row.up q0 hb; replace k1 := Block.ups k1 hb; replace q1 := Row.up q1 hb; replace k2 := Block.ups k2 hb; replace k3 := Block.ups k3 hb; replace hall := hall.trans (hb.mono hall.size); clear hb; refine kl H rfl fun a H => ?_
  refine op_unguard _ _ (kg_yes rfl H rfl rfl rfl) ?_; refine wl_v _ (r_not (H.ev rfl) rfl) ?_; refine kl H rfl fun a H => ?_
  refine wl_v _ (r_pick_t (H.ev rfl) (H.ev rfl)) ?_; refine kl H rfl fun a H => ?_
  refine wl_v _ (r_assign (H.ev rfl)) ?_; refine kl H rfl fun a H => ?_
  refine wpList_nil ?_
  refine c_next ?_
  refine wp_ret ?_
  exact k_ret1 H rfl rfl ⟨rfl, hall⟩
end Go.Proofs.Ytfehhenbdiageaa
