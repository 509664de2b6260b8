/- Recv: RecvTells, proved: the program and the document, item by item. -/
import Derived.Test.YthfdjlhplcmicaaRe
import Derived.Test.YthfdjlhplcmicaaXr
namespace Go.Proofs.Ythfdjlhplcmicaa
open Go.RowKit Go.ChangeShapes Go.WideShapes Go.ChangeAt Go.Maps
set_option linter.unusedVariables false
set_option linter.unusedSimpArgs false

theorem take_leT {n : Int} {L : List It} {x : It} : (takeF n L x).1.2.length ≤ L.length + 1 ∧ (takeF n L x).2.length ≤ L.length + 1 := by
  by_cases h : ShutP n L x
  · rw [take_shut h]; simp
  · have := take_count h
    omega
theorem fresh_le {B B' : Nat} {s : Value} (h : Fresh B s) (hb : B' ≤ B) : Fresh B' s := fun A n c e b o ea => Nat.le_trans hb (h A n c e b o ea)
def TlI (W : World) (b2 b3 : Nat) (AX : Option Addr) (cX : Nat) (X : List It) (a : Act) (w : World) : Prop :=
  ∃ (k : Nat) (nn : Int) (As : Option Addr) (cs : Nat) (At : Option Addr) (ct : Nat) (J : List It), Kn a 142 [(1, .slice AX X.length cX), (7, .bool true), (8, .pointer (some ⟨b2, 0, none⟩)), (9, .pointer (some ⟨b3, 0, none⟩)), (10, .int .i64 (k : Nat))] ∧ k ≤ X.length ∧ X.length ≤ 100 ∧ J.length ≤ 50 + k ∧
    Block w b2 24 #[.int .i64 nn, .slice As J.length cs] ∧ Block w b3 24 #[.int .i64 nn, .slice At J.length ct] ∧ IRow w (.slice As J.length cs) J ∧ IRow w (.slice At J.length ct) J ∧ Below W.heap.size W w
set_option maxHeartbeats 8000000 in
theorem tells_walk (w : World) (n m : Int) (v u x : Value) (L M X : List It) (h0 : IRow w v L) (u0 : IRow w u M) (x0 : IRow w x X) (hn : L.length ≤ 9223372036854775807) (hm : M.length ≤ 9223372036854775807) (hX : X.length ≤ 9223372036854775807) (hxw : ∀ y ∈ X, -9223372036854775808 ≤ y.1 ∧ y.1 ≤ 9223372036854775807) :
    Calls Try.prog 3 #[.agg #[.int .i64 n, v], x, .agg #[.int .i64 m, u]] w fun e w' => e = .returned (.bool true) ∧ Below w.heap.size w w' := by
  obtain ⟨A, c, rfl, h1, h2, h3, hh⟩ := h0
  obtain ⟨A2, c2, rfl, g1, g2, g3, hg⟩ := u0
  obtain ⟨AX, cX, rfl, j1, j2, j3, hhX0⟩ := x0
  have h : Hid (IRow w (.slice A L.length c) L) := Lib.hid ⟨A, c, rfl, h1, h2, h3, hh⟩
  have hu : Hid (IRow w (.slice A2 M.length c2) M) := Lib.hid ⟨A2, c2, rfl, g1, g2, g3, hg⟩
  have hhX := Lib.hid hhX0
  have hXw := Lib.hid hxw
  clear hh hg hhX0 hxw g1 g2 g3 j1 j2 j3 h1 h2 h3
  have hall := Below.refl w.heap.size w
  refine K_enter 142 Try.func3 rfl rfl fun a H => ?_
  replace H := H.pick [0, 1, 2]
  refine wp_seq ?_
  refine wp_region_lit ?_
  refine op_box 24 _ #[.int .i64 n, .slice A L.length c] (H.ev rfl) fun w0 b0 hge hb k0 => ?_; have g0 := Nat.le_trans hall.size hge; replace hall := hall.trans (hb.mono hall.size); clear hb; clear hge; refine kl H rfl fun a H => ?_
  refine op_box 24 _ #[.int .i64 m, .slice A2 M.length c2] (H.ev rfl) fun w1 b1 hge hb k1 => ?_; have g1 := Nat.le_trans hall.size hge; have d0_1 : b0 < b1 := Nat.lt_of_lt_of_le k0.lt hge; replace k0 := Block.ups k0 hb; replace hall := hall.trans (hb.mono hall.size); clear hb; clear hge; refine kl H rfl fun a H => ?_
  refine wl_v _ (r_assign evc) ?_; refine kl H rfl fun a H => ?_
  refine wpList_nil ?_
  refine c_next ?_
  refine wp_seq ?_
  refine wp_region_lit ?_
  refine wl_call _ _ _ (small_any _) (r_call0 cf9) ?_; rintro e w9 ⟨rfl, hb⟩; refine ⟨_, rfl, ?_⟩; replace k0 := Block.ups k0 hb; replace k1 := Block.ups k1 hb; replace hall := hall.trans (hb.mono hall.size); clear hb; refine kl H rfl fun a H => ?_
  refine wl_v _ (r_assign (H.ev rfl)) ?_; refine kl H rfl fun a H => ?_
  refine wpList_nil ?_
  refine c_next ?_
  refine wp_seq ?_
  refine wp_seq ?_
  have hall2 := hall
  have hS : BelowOf (BelowTo hall2) _ := Below.drew (Below.refl _ (BelowTo hall2))
  refine region_pi (BelowOf (BelowTo hall2)) [(0, true), (1, true), (2, true), (3, true), (4, true), (5, true), (6, true), (7, true), (8, true), (9, true), (10, true), (11, true), (12, true), (13, true), (14, true), (15, true), (16, true), (17, true), (19, true), (20, true), (18, false), (21, false), (22, true), (23, true)] (by kernel_rfl) (by kernel_rfl) rfl (by kernel_rfl) hS ?_
  refine pi_f0 _ rfl (fun w' hS' => r_fld (q := 1) fld24_1 (H.ev rfl) rfl) ?_; refine kp H rfl fun a H => ?_
  refine pi_f0 _ rfl (fun w' hS' => r_ld Try.underlying22 rfl (H.ev rfl) ((Block.cell (Block.ups k0 hS') 1).trans rfl)) ?_; refine kp H rfl fun a H => ?_
  refine pi_f0 _ rfl (fun w' hS' => r_len Try.underlying22 (H.ev rfl)) ?_; refine kp H rfl fun a H => ?_
  by_cases hcc0 : ((L.length : Nat) : Int) > 50
  · skip
    refine pi_f0 _ rfl (fun w' hS' => r_gt Try.underlying3 (H.ev rfl) evc (dec_t (hcc0))) ?_; refine kp H rfl fun a H => ?_
    refine pi_f0 _ rfl (fun w' hS' => r_move (H.ev rfl)) ?_; refine kp H rfl fun a H => ?_
    refine pi_s1 rfl rfl rfl (H.ev rfl) ?_; refine kp H rfl fun a H => ?_
    refine pi_s1 rfl rfl rfl (H.ev rfl) ?_; refine kp H rfl fun a H => ?_
    refine pi_s1 rfl rfl rfl (H.ev rfl) ?_; refine kp H rfl fun a H => ?_
    refine pi_s1 rfl rfl rfl (H.ev rfl) ?_; refine kp H rfl fun a H => ?_
    refine pi_f0 _ rfl (fun w' hS' => r_pick_t (H.ev rfl) evc) ?_; refine kp H rfl fun a H => ?_
    refine pi_f0 _ rfl (fun w' hS' => r_move (H.ev rfl)) ?_; refine kp H rfl fun a H => ?_
    refine pi_s1 rfl rfl rfl (H.ev rfl) ?_; refine kp H rfl fun a H => ?_
    refine pi_s1 rfl rfl rfl (H.ev rfl) ?_; refine kp H rfl fun a H => ?_
    refine pi_s1 rfl rfl rfl (H.ev rfl) ?_; refine kp H rfl fun a H => ?_
    refine pi_f0 _ rfl (fun w' hS' => r_pick_t (H.ev rfl) evc) ?_; refine kp H rfl fun a H => ?_
    refine pi_f0 _ rfl (fun w' hS' => r_move (H.ev rfl)) ?_; refine kp H rfl fun a H => ?_
    refine pi_s1 rfl rfl rfl (H.ev rfl) ?_; refine kp H rfl fun a H => ?_
    refine pi_s1 rfl rfl rfl (H.ev rfl) ?_; refine kp H rfl fun a H => ?_
    refine pi_s1 rfl rfl rfl (H.ev rfl) ?_; refine kp H rfl fun a H => ?_
    refine pi_s1 rfl rfl rfl (H.ev rfl) ?_; refine kp H rfl fun a H => ?_
    refine pi_s1 rfl rfl rfl (H.ev rfl) ?_; refine kp H rfl fun a H => ?_
    refine pi_s1 rfl rfl rfl (H.ev rfl) ?_; refine kp H rfl fun a H => ?_
    refine pi_s1 rfl rfl rfl (H.ev rfl) ?_; refine kp H rfl fun a H => ?_
    refine pi_f0 _ rfl (fun w' hS' => r_pick_t (H.ev rfl) evc) ?_; refine kp H rfl fun a H => ?_
    refine pi_nil (NoPanic.normal ?_)
    replace k0 := Block.ups k0 hS
    replace k1 := Block.ups k1 hS
    replace hall := hall.trans (Below.mono hS hall.size)
    clear hS
    refine c_next ?_
    refine c_cond_t H rfl ?_
    refine wp_seq ?_
    refine wp_region_lit ?_
    refine wl_v _ (r_move (H.ev rfl)) ?_; refine kl H rfl fun a H => ?_
    refine wl_v _ (r_move (H.ev rfl)) ?_; refine kl H rfl fun a H => ?_
    refine op_unguard _ _ (kg_yes rfl H rfl rfl rfl) ?_; refine wl_v _ (r_fld (q := 1) fld24_1 (H.ev rfl) rfl) ?_; refine kl H rfl fun a H => ?_
    refine op_unguard _ _ (kg_yes rfl H rfl rfl rfl) ?_; refine wl_v _ (r_ld Try.underlying22 rfl (H.ev rfl) ((Block.cell k0 1).trans rfl)) ?_; refine kl H rfl fun a H => ?_
    refine op_unguard _ _ (kg_yes rfl H rfl rfl rfl) ?_; refine wl_v _ (r_len Try.underlying22 (H.ev rfl)) ?_; refine kl H rfl fun a H => ?_
    refine op_unguard _ _ (kg_yes rfl H rfl rfl rfl) ?_; refine wl_v _ (r_gt Try.underlying3 (H.ev rfl) evc (dec_t (hcc0))) ?_; refine kl H rfl fun a H => ?_
    refine op_unguard _ _ (kg_yes rfl H rfl rfl rfl) ?_; refine wl_v _ (r_move (H.ev rfl)) ?_; refine kl H rfl fun a H => ?_
    refine wl_s (kg_no rfl H rfl rfl rfl) ?_; refine kl H rfl fun a H => ?_
    refine wl_s (kg_no rfl H rfl rfl rfl) ?_; refine kl H rfl fun a H => ?_
    refine wl_s (kg_no rfl H rfl rfl rfl) ?_; refine kl H rfl fun a H => ?_
    refine wl_s (kg_no rfl H rfl rfl rfl) ?_; refine kl H rfl fun a H => ?_
    refine op_unguard _ _ (kg_yes rfl H rfl rfl rfl) ?_; refine wl_v _ (r_pick_t (H.ev rfl) evc) ?_; refine kl H rfl fun a H => ?_
    refine op_unguard _ _ (kg_yes rfl H rfl rfl rfl) ?_; refine wl_v _ (r_move (H.ev rfl)) ?_; refine kl H rfl fun a H => ?_
    refine wl_s (kg_no rfl H rfl rfl rfl) ?_; refine kl H rfl fun a H => ?_
    refine wl_s (kg_no rfl H rfl rfl rfl) ?_; refine kl H rfl fun a H => ?_
    refine wl_s (kg_no rfl H rfl rfl rfl) ?_; refine kl H rfl fun a H => ?_
    refine op_unguard _ _ (kg_yes rfl H rfl rfl rfl) ?_; refine wl_v _ (r_pick_t (H.ev rfl) evc) ?_; refine kl H rfl fun a H => ?_
    refine wl_v _ (r_pick_t (H.ev rfl) (H.ev rfl)) ?_; refine kl H rfl fun a H => ?_
    refine wl_v _ (r_assign (H.ev rfl)) ?_; refine kl H rfl fun a H => ?_
    refine wpList_nil ?_
    refine c_next ?_
    refine wp_ret ?_
    refine r_then ?_
    exact k_ret1 H rfl rfl ⟨rfl, hall⟩
  · skip
    refine pi_f0 _ rfl (fun w' hS' => r_gt Try.underlying3 (H.ev rfl) evc (dec_f (hcc0))) ?_; refine kp H rfl fun a H => ?_
    refine pi_f0 _ rfl (fun w' hS' => r_move (H.ev rfl)) ?_; refine kp H rfl fun a H => ?_
    refine pi_f1 _ rfl rfl rfl (H.ev rfl) (fun w' hS' => r_fld (q := 1) fld24_1 (H.ev rfl) rfl) ?_; refine kp H rfl fun a H => ?_
    refine pi_f1 _ rfl rfl rfl (H.ev rfl) (fun w' hS' => r_ld Try.underlying22 rfl (H.ev rfl) ((Block.cell (Block.ups k1 hS') 1).trans rfl)) ?_; refine kp H rfl fun a H => ?_
    refine pi_f1 _ rfl rfl rfl (H.ev rfl) (fun w' hS' => r_len Try.underlying22 (H.ev rfl)) ?_; refine kp H rfl fun a H => ?_
    by_cases hcc1 : ((M.length : Nat) : Int) > 50
    · skip
      refine pi_f1 _ rfl rfl rfl (H.ev rfl) (fun w' hS' => r_gt Try.underlying3 (H.ev rfl) evc (dec_t (hcc1))) ?_; refine kp H rfl fun a H => ?_
      refine pi_f0 _ rfl (fun w' hS' => r_pick_f (H.ev rfl) (H.ev rfl)) ?_; refine kp H rfl fun a H => ?_
      refine pi_f0 _ rfl (fun w' hS' => r_move (H.ev rfl)) ?_; refine kp H rfl fun a H => ?_
      refine pi_s1 rfl rfl rfl (H.ev rfl) ?_; refine kp H rfl fun a H => ?_
      refine pi_s1 rfl rfl rfl (H.ev rfl) ?_; refine kp H rfl fun a H => ?_
      refine pi_s1 rfl rfl rfl (H.ev rfl) ?_; refine kp H rfl fun a H => ?_
      refine pi_f0 _ rfl (fun w' hS' => r_pick_t (H.ev rfl) evc) ?_; refine kp H rfl fun a H => ?_
      refine pi_f0 _ rfl (fun w' hS' => r_move (H.ev rfl)) ?_; refine kp H rfl fun a H => ?_
      refine pi_s1 rfl rfl rfl (H.ev rfl) ?_; refine kp H rfl fun a H => ?_
      refine pi_s1 rfl rfl rfl (H.ev rfl) ?_; refine kp H rfl fun a H => ?_
      refine pi_s1 rfl rfl rfl (H.ev rfl) ?_; refine kp H rfl fun a H => ?_
      refine pi_s1 rfl rfl rfl (H.ev rfl) ?_; refine kp H rfl fun a H => ?_
      refine pi_s1 rfl rfl rfl (H.ev rfl) ?_; refine kp H rfl fun a H => ?_
      refine pi_s1 rfl rfl rfl (H.ev rfl) ?_; refine kp H rfl fun a H => ?_
      refine pi_s1 rfl rfl rfl (H.ev rfl) ?_; refine kp H rfl fun a H => ?_
      refine pi_f0 _ rfl (fun w' hS' => r_pick_t (H.ev rfl) evc) ?_; refine kp H rfl fun a H => ?_
      refine pi_nil (NoPanic.normal ?_)
      replace k0 := Block.ups k0 hS
      replace k1 := Block.ups k1 hS
      replace hall := hall.trans (Below.mono hS hall.size)
      clear hS
      refine c_next ?_
      refine c_cond_t H rfl ?_
      refine wp_seq ?_
      refine wp_region_lit ?_
      refine wl_v _ (r_move (H.ev rfl)) ?_; refine kl H rfl fun a H => ?_
      refine wl_v _ (r_move (H.ev rfl)) ?_; refine kl H rfl fun a H => ?_
      refine op_unguard _ _ (kg_yes rfl H rfl rfl rfl) ?_; refine wl_v _ (r_fld (q := 1) fld24_1 (H.ev rfl) rfl) ?_; refine kl H rfl fun a H => ?_
      refine op_unguard _ _ (kg_yes rfl H rfl rfl rfl) ?_; refine wl_v _ (r_ld Try.underlying22 rfl (H.ev rfl) ((Block.cell k0 1).trans rfl)) ?_; refine kl H rfl fun a H => ?_
      refine op_unguard _ _ (kg_yes rfl H rfl rfl rfl) ?_; refine wl_v _ (r_len Try.underlying22 (H.ev rfl)) ?_; refine kl H rfl fun a H => ?_
      refine op_unguard _ _ (kg_yes rfl H rfl rfl rfl) ?_; refine wl_v _ (r_gt Try.underlying3 (H.ev rfl) evc (dec_f (hcc0))) ?_; refine kl H rfl fun a H => ?_
      refine op_unguard _ _ (kg_yes rfl H rfl rfl rfl) ?_; refine wl_v _ (r_move (H.ev rfl)) ?_; refine kl H rfl fun a H => ?_
      refine op_unguard _ _ (kg_yes rfl H rfl rfl rfl) ?_; refine wl_v _ (r_fld (q := 1) fld24_1 (H.ev rfl) rfl) ?_; refine kl H rfl fun a H => ?_
      refine op_unguard _ _ (kg_yes rfl H rfl rfl rfl) ?_; refine wl_v _ (r_ld Try.underlying22 rfl (H.ev rfl) ((Block.cell k1 1).trans rfl)) ?_; refine kl H rfl fun a H => ?_
      refine op_unguard _ _ (kg_yes rfl H rfl rfl rfl) ?_; refine wl_v _ (r_len Try.underlying22 (H.ev rfl)) ?_; refine kl H rfl fun a H => ?_
      refine op_unguard _ _ (kg_yes rfl H rfl rfl rfl) ?_; refine wl_v _ (r_gt Try.underlying3 (H.ev rfl) evc (dec_t (hcc1))) ?_; refine kl H rfl fun a H => ?_
      refine op_unguard _ _ (kg_yes rfl H rfl rfl rfl) ?_; refine wl_v _ (r_pick_f (H.ev rfl) (H.ev rfl)) ?_; refine kl H rfl fun a H => ?_
      refine op_unguard _ _ (kg_yes rfl H rfl rfl rfl) ?_; refine wl_v _ (r_move (H.ev rfl)) ?_; refine kl H rfl fun a H => ?_
      refine wl_s (kg_no rfl H rfl rfl rfl) ?_; refine kl H rfl fun a H => ?_
      refine wl_s (kg_no rfl H rfl rfl rfl) ?_; refine kl H rfl fun a H => ?_
      refine wl_s (kg_no rfl H rfl rfl rfl) ?_; refine kl H rfl fun a H => ?_
      refine op_unguard _ _ (kg_yes rfl H rfl rfl rfl) ?_; refine wl_v _ (r_pick_t (H.ev rfl) evc) ?_; refine kl H rfl fun a H => ?_
      refine wl_v _ (r_pick_t (H.ev rfl) (H.ev rfl)) ?_; refine kl H rfl fun a H => ?_
      refine wl_v _ (r_assign (H.ev rfl)) ?_; refine kl H rfl fun a H => ?_
      refine wpList_nil ?_
      refine c_next ?_
      refine wp_ret ?_
      refine r_then ?_
      exact k_ret1 H rfl rfl ⟨rfl, hall⟩
    · skip
      refine pi_f1 _ rfl rfl rfl (H.ev rfl) (fun w' hS' => r_gt Try.underlying3 (H.ev rfl) evc (dec_f (hcc1))) ?_; refine kp H rfl fun a H => ?_
      refine pi_f0 _ rfl (fun w' hS' => r_pick_f (H.ev rfl) (H.ev rfl)) ?_; refine kp H rfl fun a H => ?_
      refine pi_f0 _ rfl (fun w' hS' => r_move (H.ev rfl)) ?_; refine kp H rfl fun a H => ?_
      refine pi_f1 _ rfl rfl rfl (H.ev rfl) (fun w' hS' => r_move (H.ev rfl)) ?_; refine kp H rfl fun a H => ?_
      refine pi_f1 _ rfl rfl rfl (H.ev rfl) (fun w' hS' => r_len Try.underlying22 (H.ev rfl)) ?_; refine kp H rfl fun a H => ?_
      by_cases hcc2 : ((X.length : Nat) : Int) > 100
      · skip
        refine pi_f1 _ rfl rfl rfl (H.ev rfl) (fun w' hS' => r_gt Try.underlying3 (H.ev rfl) evc (dec_t (hcc2))) ?_; refine kp H rfl fun a H => ?_
        refine pi_f0 _ rfl (fun w' hS' => r_pick_f (H.ev rfl) (H.ev rfl)) ?_; refine kp H rfl fun a H => ?_
        refine pi_f0 _ rfl (fun w' hS' => r_move (H.ev rfl)) ?_; refine kp H rfl fun a H => ?_
        refine pi_s1 rfl rfl rfl (H.ev rfl) ?_; refine kp H rfl fun a H => ?_
        refine pi_s1 rfl rfl rfl (H.ev rfl) ?_; refine kp H rfl fun a H => ?_
        refine pi_s1 rfl rfl rfl (H.ev rfl) ?_; refine kp H rfl fun a H => ?_
        refine pi_s1 rfl rfl rfl (H.ev rfl) ?_; refine kp H rfl fun a H => ?_
        refine pi_s1 rfl rfl rfl (H.ev rfl) ?_; refine kp H rfl fun a H => ?_
        refine pi_s1 rfl rfl rfl (H.ev rfl) ?_; refine kp H rfl fun a H => ?_
        refine pi_s1 rfl rfl rfl (H.ev rfl) ?_; refine kp H rfl fun a H => ?_
        refine pi_f0 _ rfl (fun w' hS' => r_pick_t (H.ev rfl) evc) ?_; refine kp H rfl fun a H => ?_
        refine pi_nil (NoPanic.normal ?_)
        replace k0 := Block.ups k0 hS
        replace k1 := Block.ups k1 hS
        replace hall := hall.trans (Below.mono hS hall.size)
        clear hS
        refine c_next ?_
        refine c_cond_t H rfl ?_
        refine wp_seq ?_
        refine wp_region_lit ?_
        refine wl_v _ (r_move (H.ev rfl)) ?_; refine kl H rfl fun a H => ?_
        refine wl_v _ (r_move (H.ev rfl)) ?_; refine kl H rfl fun a H => ?_
        refine op_unguard _ _ (kg_yes rfl H rfl rfl rfl) ?_; refine wl_v _ (r_fld (q := 1) fld24_1 (H.ev rfl) rfl) ?_; refine kl H rfl fun a H => ?_
        refine op_unguard _ _ (kg_yes rfl H rfl rfl rfl) ?_; refine wl_v _ (r_ld Try.underlying22 rfl (H.ev rfl) ((Block.cell k0 1).trans rfl)) ?_; refine kl H rfl fun a H => ?_
        refine op_unguard _ _ (kg_yes rfl H rfl rfl rfl) ?_; refine wl_v _ (r_len Try.underlying22 (H.ev rfl)) ?_; refine kl H rfl fun a H => ?_
        refine op_unguard _ _ (kg_yes rfl H rfl rfl rfl) ?_; refine wl_v _ (r_gt Try.underlying3 (H.ev rfl) evc (dec_f (hcc0))) ?_; refine kl H rfl fun a H => ?_
        refine op_unguard _ _ (kg_yes rfl H rfl rfl rfl) ?_; refine wl_v _ (r_move (H.ev rfl)) ?_; refine kl H rfl fun a H => ?_
        refine op_unguard _ _ (kg_yes rfl H rfl rfl rfl) ?_; refine wl_v _ (r_fld (q := 1) fld24_1 (H.ev rfl) rfl) ?_; refine kl H rfl fun a H => ?_
        refine op_unguard _ _ (kg_yes rfl H rfl rfl rfl) ?_; refine wl_v _ (r_ld Try.underlying22 rfl (H.ev rfl) ((Block.cell k1 1).trans rfl)) ?_; refine kl H rfl fun a H => ?_
        refine op_unguard _ _ (kg_yes rfl H rfl rfl rfl) ?_; refine wl_v _ (r_len Try.underlying22 (H.ev rfl)) ?_; refine kl H rfl fun a H => ?_
        refine op_unguard _ _ (kg_yes rfl H rfl rfl rfl) ?_; refine wl_v _ (r_gt Try.underlying3 (H.ev rfl) evc (dec_f (hcc1))) ?_; refine kl H rfl fun a H => ?_
        refine op_unguard _ _ (kg_yes rfl H rfl rfl rfl) ?_; refine wl_v _ (r_pick_f (H.ev rfl) (H.ev rfl)) ?_; refine kl H rfl fun a H => ?_
        refine op_unguard _ _ (kg_yes rfl H rfl rfl rfl) ?_; refine wl_v _ (r_move (H.ev rfl)) ?_; refine kl H rfl fun a H => ?_
        refine op_unguard _ _ (kg_yes rfl H rfl rfl rfl) ?_; refine wl_v _ (r_move (H.ev rfl)) ?_; refine kl H rfl fun a H => ?_
        refine op_unguard _ _ (kg_yes rfl H rfl rfl rfl) ?_; refine wl_v _ (r_len Try.underlying22 (H.ev rfl)) ?_; refine kl H rfl fun a H => ?_
        refine op_unguard _ _ (kg_yes rfl H rfl rfl rfl) ?_; refine wl_v _ (r_gt Try.underlying3 (H.ev rfl) evc (dec_t (hcc2))) ?_; refine kl H rfl fun a H => ?_
        refine op_unguard _ _ (kg_yes rfl H rfl rfl rfl) ?_; refine wl_v _ (r_pick_f (H.ev rfl) (H.ev rfl)) ?_; refine kl H rfl fun a H => ?_
        refine wl_v _ (r_pick_t (H.ev rfl) (H.ev rfl)) ?_; refine kl H rfl fun a H => ?_
        refine wl_v _ (r_assign (H.ev rfl)) ?_; refine kl H rfl fun a H => ?_
        refine wpList_nil ?_
        refine c_next ?_
        refine wp_ret ?_
        refine r_then ?_
        exact k_ret1 H rfl rfl ⟨rfl, hall⟩
      · skip
        refine pi_f1 _ rfl rfl rfl (H.ev rfl) (fun w' hS' => r_gt Try.underlying3 (H.ev rfl) evc (dec_f (hcc2))) ?_; refine kp H rfl fun a H => ?_
        refine pi_f0 _ rfl (fun w' hS' => r_pick_f (H.ev rfl) (H.ev rfl)) ?_; refine kp H rfl fun a H => ?_
        refine pi_f0 _ rfl (fun w' hS' => r_move (H.ev rfl)) ?_; refine kp H rfl fun a H => ?_
        refine pi_f1 _ rfl rfl rfl (H.ev rfl) (fun w' hS' => r_row (cs := [.int .i64 n, .slice A L.length c]) (H.ev rfl) (block_range (Block.ups k0 hS')) (by kernel_rfl) s24 rfl) ?_; refine kp H rfl fun a H => ?_
        refine pi_f1 _ rfl rfl rfl (H.ev rfl) (fun w' hS' => r_row (cs := [.int .i64 m, .slice A2 M.length c2]) (H.ev rfl) (block_range (Block.ups k1 hS')) (by kernel_rfl) s24 rfl) ?_; refine kp H rfl fun a H => ?_
        refine pi_f1 _ rfl rfl rfl (H.ev rfl) (fun w' hS' => r_row (cs := [.int .i64 n, .slice A L.length c]) (H.ev rfl) (block_range (Block.ups k0 hS')) (by kernel_rfl) s24 rfl) ?_; refine kp H rfl fun a H => ?_
        refine pi_f1 _ rfl rfl rfl (H.ev rfl) (fun w' hS' => r_row (cs := [.int .i64 m, .slice A2 M.length c2]) (H.ev rfl) (block_range (Block.ups k1 hS')) (by kernel_rfl) s24 rfl) ?_; refine kp H rfl fun a H => ?_
        refine pi_a1 rfl rfl rfl (H.ev rfl) (fun K hK => ?_); refine wpo_call _ _ _ (same_any _ n m _ _ L M (Row.up (Row.up h.out hall2) hS) (Row.up (Row.up hu.out hall2) hS) (by omega)) (r_call2 cf10 (H.ev rfl) (H.ev rfl)) ?_; rintro e w9 ⟨rfl, hb⟩; refine ⟨_, rfl, ?_⟩; replace hS := BelowOf.step hS hb; clear hb; refine hK _ _ ⟨hS, ?_⟩; clear hK; clear K; refine kp H rfl fun a H => ?_
        refine pi_a1 rfl rfl rfl (H.ev rfl) (fun K hK => ?_); refine wpo_call _ _ _ (rsame_any _ n m _ _ L M (Row.up (Row.up h.out hall2) hS) (Row.up (Row.up hu.out hall2) hS) (by omega)) (r_call2 cf11 (H.ev rfl) (H.ev rfl)) ?_; rintro e w9 ⟨rfl, hb⟩; refine ⟨_, rfl, ?_⟩; replace hS := BelowOf.step hS hb; clear hb; refine hK _ _ ⟨hS, ?_⟩; clear hK; clear K; refine kp H rfl fun a H => ?_
        refine pi_f1 (.bool false) rfl rfl rfl (H.ev rfl) (fun w' hS' => r_bne Try.underlying4 (H.ev rfl) (H.ev rfl) (by simp)) ?_; refine kp H rfl fun a H => ?_
        refine pi_f0 _ rfl (fun w' hS' => r_pick_f (H.ev rfl) (H.ev rfl)) ?_; refine kp H rfl fun a H => ?_
        refine pi_nil (NoPanic.normal ?_)
        replace k0 := Block.ups k0 hS
        replace k1 := Block.ups k1 hS
        replace hall := hall.trans (Below.mono hS hall.size)
        clear hS
        refine c_next ?_
        refine c_cond_f H rfl ?_
        refine wp_skip ?_
        refine c_next ?_
        refine wp_seq ?_
        refine wp_region_lit ?_
        refine wl_v _ (r_row (cs := [.int .i64 n, .slice A L.length c]) (H.ev rfl) (block_range k0) (by kernel_rfl) s24 rfl) ?_; refine kl H rfl fun a H => ?_
        refine op_new 24 8 (.tmp 63) #[.int .i64 n, .slice A L.length c] _ z24 s24 rfl (by simp [Value.cells, Value.oneCell']) (fun p => (H.put 8 p rfl).ev rfl) (fun p => (H.put 8 p rfl).ev rfl) fun w2 b2 hge hb k2 => ?_; have g2 := Nat.le_trans hall.size hge; have d0_2 : b0 < b2 := Nat.lt_of_lt_of_le k0.lt hge; have d1_2 : b1 < b2 := Nat.lt_of_lt_of_le k1.lt hge; replace k0 := Block.ups k0 hb; replace k1 := Block.ups k1 hb; replace hall := hall.trans (hb.mono hall.size); clear hb; clear hge; refine kl H rfl fun a H => ?_
        refine wpList_nil ?_
        refine c_next ?_
        refine wp_seq ?_
        refine wp_region_lit ?_
        refine wl_v _ (r_row (cs := [.int .i64 n, .slice A L.length c]) (H.ev rfl) (block_range k0) (by kernel_rfl) s24 rfl) ?_; refine kl H rfl fun a H => ?_
        refine op_new 24 9 (.tmp 64) #[.int .i64 n, .slice A L.length c] _ z24 s24 rfl (by simp [Value.cells, Value.oneCell']) (fun p => (H.put 9 p rfl).ev rfl) (fun p => (H.put 9 p rfl).ev rfl) fun w3 b3 hge hb k3 => ?_; have g3 := Nat.le_trans hall.size hge; have d0_3 : b0 < b3 := Nat.lt_of_lt_of_le k0.lt hge; have d1_3 : b1 < b3 := Nat.lt_of_lt_of_le k1.lt hge; have d2_3 : b2 < b3 := Nat.lt_of_lt_of_le k2.lt hge; replace k0 := Block.ups k0 hb; replace k1 := Block.ups k1 hb; replace k2 := Block.ups k2 hb; replace hall := hall.trans (hb.mono hall.size); clear hb; clear hge; refine kl H rfl fun a H => ?_
        refine wpList_nil ?_
        refine c_next ?_
        refine wp_seq ?_
        refine wp_seq ?_
        refine wp_region_lit ?_
        refine wl_v _ (r_assign evc) ?_; refine kl H rfl fun a H => ?_
        refine wpList_nil ?_
        refine c_next ?_
        refine wp_block ?_
        refine wp_loop (TlI w b2 b3 AX cX X) (fun a _ => X.length - (intOf (a.eval (.tmp 10))).toNat) ⟨0, n, A, c, A, c, L, H.pick [1, 7, 8, 9, 10], by omega, by omega, by omega, k2, k3, Row.up h.out hall, Row.up h.out hall, hall⟩ ?_
        have d23 : b2 < b3 := by omega
        clear H hall k0 k1 k2 k3 h hu
        rintro a w' ⟨k, nn, As, cs, At, ct, J, H, hk, hkl, hKl, k2, k3, rs, rt, hall⟩
        have H0 := H
        by_cases hlt : k < X.length
        · skip
          obtain ⟨b, o, hA, hr⟩ := flat_some encI_len hhX.out (by omega) hlt
          subst hA
          have hxx := hXw.out _ (List.getElem_mem hlt)
          have HRG := Lib.hid hr
          generalize X[k] = x at *
          obtain ⟨⟨⟨N', J'⟩, NS⟩, hT⟩ : ∃ T, takeF nn J x = T := ⟨_, rfl⟩
          have htl := take_leT (n := nn) (L := J) (x := x)
          rw [hT] at htl
          simp only at htl
          obtain ⟨⟨aB, aS⟩, hA⟩ : ∃ T, ackF N' J' = T := ⟨_, rfl⟩
          have HT := Lib.hid hT
          have HA := Lib.hid hA
          clear hr hT hA
          have H := H0
          refine wp_seq ?_
          refine wp_seq ?_
          refine wp_region_lit ?_
          refine wl_v _ (r_move (H.ev rfl)) ?_; refine kl H rfl fun a H => ?_
          refine wl_v _ (r_move (H.ev rfl)) ?_; refine kl H rfl fun a H => ?_
          refine wl_v _ (r_len Try.underlying22 (H.ev rfl)) ?_; refine kl H rfl fun a H => ?_
          refine wl_v _ (r_lt Try.underlying3 (H.ev rfl) (H.ev rfl) (dec_t (by omega))) ?_; refine kl H rfl fun a H => ?_
          refine wpList_nil ?_
          refine c_next ?_
          refine c_cond_t H rfl ?_
          refine wp_skip ?_
          refine c_next ?_
          refine wp_seq ?_
          refine wp_block ?_
          refine wp_seq ?_
          refine wp_region_lit ?_
          refine op_litv 22 0 #[] 33 #[] (by simp) (fun w => by kernel_rfl) fun w1 bl hge hb kk => ?_; have hn0 := own_empty (size := 5) kk hge; have k2' := Block.ups k2 hb; clear hge kk; refine kl H rfl fun a H => ?_
          refine wl_v (.pointer (some ⟨b2, 1, none⟩)) (r_fld (q := 1) fld24_1 (H.ev rfl) rfl) ?_; refine kl H rfl fun a H => ?_
          refine wl_v (.slice As J.length cs) (r_ld Try.underlying22 rfl (H.ev rfl) ((Block.cell k2' 1).trans rfl)) ?_; refine kl H rfl fun a H => ?_
          refine op_append 22 33 (.tmp 71) (.tmp 73) _ (.agg #[.int .i64 0, .int .i64 0, .int .i64 0, .int .i64 0, .int .i64 0]) 5 40 _ 0 [] As J.length cs (FV encI J) (H.ev rfl) (H.ev rfl) Try.underlying22 i33 rfl (by omega) hn0 (by rw [FV_len encI_len]) ((row_holds rs).up hb) (FV_one _ _) (by unfold maxLen; omega) (by omega) hb.size fun v9 w2 hown2 _ _ hb2 => ?_; have o11 : IOwn _ _ v9 J := own_cast encI_len (by omega) hown2 rfl; replace hb := hb.trans hb2; clear hb2 hown2 hn0 k2'; replace k2 := Block.ups k2 hb; replace k3 := Block.ups k3 hb; replace rs := Row.up rs hb; replace rt := Row.up rt hb; replace hall := hall.trans (hb.mono hall.size); clear hb; obtain ⟨A11, c11, rfl, -, -, -⟩ := own_slice o11; refine kl H rfl fun a H => ?_
          refine wl_v _ (r_assign (H.ev rfl)) ?_; refine kl H rfl fun a H => ?_
          refine wpList_nil ?_
          refine c_next ?_
          refine wp_seq ?_
          have hall8 := hall
          have l2 : b2 < (BelowTo hall8).heap.size := k2.lt
          have l3 : b3 < (BelowTo hall8).heap.size := k3.lt
          have hS : BelowOf (BelowTo hall8) _ := Below.drew (Below.refl _ (BelowTo hall8))
          refine region_tree (BelowOf (BelowTo hall8)) 12 (.fl 0 (.fl 1 (.fl 2 (.fl 3 (.fl 4 (.two 5 (.fl 6 (.fl 7 (.fl 8 (.one 9 (.one 10 (.fl 11 .done)))))) 9 (.one 5 (.fl 6 (.fl 7 (.fl 8 (.one 10 (.fl 11 .done)))))))))))) (by kernel_rfl) (by kernel_rfl) rfl (by kernel_rfl) hS ?_
          refine pt_f0 _ rfl (fun w' hS' => r_row (cs := [.int .i64 nn, .slice As J.length cs]) (H.ev rfl) (block_range (Block.ups k2 hS')) (by kernel_rfl) s24 rfl) ?_; refine kt H rfl fun a H => ?_
          refine pt_f0 _ rfl (fun w' hS' => r_move (H.ev rfl)) ?_; refine kt H rfl fun a H => ?_
          refine pt_f0 _ rfl (fun w' hS' => r_move (H.ev rfl)) ?_; refine kt H rfl fun a H => ?_
          refine pt_f0 _ rfl (fun w' hS' => r_idx (j := k) (q := o + k * 5) Try.underlying22 s33 (H.ev rfl) (H.ev rfl) (by omega) rfl) ?_; refine kt H rfl fun a H => ?_
          refine pt_f0 _ rfl (fun w' hS' => r_row (cs := [.int .i64 x.1, .int .i64 x.2.1, .int .i64 x.2.2.1, .int .i64 x.2.2.2.1, .int .i64 x.2.2.2.2]) (H.ev rfl) (range_ups HRG.out (hall8.trans (Below.mono hS' hall8.size))) (by kernel_rfl) s33 rfl) ?_; refine kt H rfl fun a H => ?_
          refine pt_two (fun K hK => ?_) (fun K hK => ?_)
          · skip
            refine st_a0 rfl ?_; refine wpo_call _ _ _ (take_any _ nn _ J x (Row.up rs hS) (by omega) hxx.1 hxx.2) (r_call2 cf12 (H.ev rfl) (H.ev rfl)) ?_; rintro e w9 ⟨⟨s1, o1, rfl, ⟨rs1, fs1⟩, ⟨ro1, fo1⟩⟩, hb⟩; refine ⟨_, rfl, ?_⟩; rw [HT.out] at rs1 ro1 ⊢; have fz1 : Fresh (BelowTo hall8).heap.size s1 := fresh_le fs1 (BelowOf.size hS); (try have hl9 := kn1.lt); (try replace kn1 := Block.ups kn1 hb); obtain ⟨Ao1, co1, hov, u1, u2, u3, u4⟩ := ro1; have ro1 : NRow _ (.slice Ao1 NS.length co1) NS := ⟨Ao1, co1, rfl, u1, u2, u3, u4⟩; subst hov; clear u1 u2 u3 u4; (try have hne9 : ∀ A n c, s1 = .slice A n c → ∀ b o, A = some ⟨b, o, none⟩ → b ≠ bn1 := (fun A n c e b o ea => by have := fs1 A n c e b o ea; omega)); (try have hno9 : ∀ A n c, Value.slice Ao1 NS.length co1 = .slice A n c → ∀ b o, A = some ⟨b, o, none⟩ → b ≠ bn1 := (fun A n c e b o ea => by have := fo1 A n c e b o ea; omega)); clear fs1 fo1; replace hS := BelowOf.step hS hb; clear hb; refine hK _ _ ⟨(fun _ => hS), ?_⟩; clear hK; clear K; refine kt H rfl fun a H => ?_
            refine pt_f0 _ rfl (fun w' hS' => r_move (H.ev rfl)) ?_; refine kt H rfl fun a H => ?_
            refine pt_f0 _ rfl (fun w' hS' => r_extract (v := .agg #[.int .i64 N', s1]) (H.ev rfl) rfl) ?_; refine kt H rfl fun a H => ?_
            refine pt_f0 _ rfl (fun w' hS' => r_extract (v := .slice Ao1 NS.length co1) (H.ev rfl) rfl) ?_; refine kt H rfl fun a H => ?_
            refine pt_one (fun K hK => ?_)
            refine st_a0 rfl ?_; refine wpo_alloc 24 #[.int .i64 0, .slice none 0 0] z24 fun w1 bn1 hge hb kn1 => ?_; have gn1 := Nat.le_trans (BelowOf.size hS) hge; have hAl := hb; have gAl := hge; replace hS := BelowOf.step hS hb; clear hge hb; refine hK _ _ ⟨(fun _ => hS), ?_⟩; clear hK; clear K; refine kt H rfl fun a H => ?_
            refine pt_one (fun K hK => ?_)
            refine st_a0 rfl ?_; refine wpo_store1 24 (.tmp 12) (.tmp 82) bn1 0 24 (.agg #[.int .i64 N', s1]) _ (H.ev rfl) (H.ev rfl) kn1 s24 (by simp [Value.cells]) (by obtain ⟨A, c, rfl, _⟩ := rs1; simp [Value.cells, Value.oneCell']) fun w8 hb8 ho8 kq => ?_; clear kn1; have kn1 : Block w8 bn1 24 #[.int .i64 N', s1] := kq; clear kq; (first | (replace rs1 := row_far rs1 hne9 ho8; replace ro1 := row_farN ro1 hno9 ho8; clear hne9 hno9) | (replace rs1 := Row.up rs1 (hAl.trans (hb8 _ gAl)); replace ro1 := Row.up ro1 (hAl.trans (hb8 _ gAl)))); replace hS := BelowOf.step2 hS (hb8 _ gn1); clear hb8 ho8 hAl gAl; refine hK _ _ ⟨(fun _ => hS), ?_⟩; clear hK; clear K; skip
            refine pt_f0 _ rfl (fun w' hS' => r_assign (H.ev rfl)) ?_; refine kt H rfl fun a H => ?_
            refine pt_done (NoPanic.normal ?_)
            replace k2 := Block.ups k2 hS
            replace k3 := Block.ups k3 hS
            replace rs := Row.up rs hS
            replace rt := Row.up rt hS
            replace o11 := ROwn.up o11 hS
            have hz1 : ∀ A n c, s1 = .slice A n c → ∀ b o, A = some ⟨b, o, none⟩ → b ≠ b2 ∧ b ≠ b3 := fun A n c e b o ea => by have := fz1 A n c e b o ea; omega
            replace hall := hall.trans (Below.mono hS hall.size)
            have gn1 : w.heap.size ≤ bn1 := Nat.le_trans hall8.size gn1
            have dn1 : b3 < bn1 := by omega
            clear hS fz1
            refine c_next ?_
            refine wp_seq ?_
            have hall8 := hall
            have l2 : b2 < (BelowTo hall8).heap.size := k2.lt
            have l3 : b3 < (BelowTo hall8).heap.size := k3.lt
            have hS : BelowOf (BelowTo hall8) _ := Below.drew (Below.refl _ (BelowTo hall8))
            refine region_tree (BelowOf (BelowTo hall8)) 12 (.fl 0 (.fl 1 (.fl 2 (.fl 3 (.fl 4 (.two 5 (.fl 6 (.fl 7 (.fl 8 (.one 9 (.one 10 (.fl 11 .done)))))) 9 (.one 5 (.fl 6 (.fl 7 (.fl 8 (.one 10 (.fl 11 .done)))))))))))) (by kernel_rfl) (by kernel_rfl) rfl (by kernel_rfl) hS ?_
            refine pt_f0 _ rfl (fun w' hS' => r_row (cs := [.int .i64 nn, .slice At J.length ct]) (H.ev rfl) (block_range (Block.ups k3 hS')) (by kernel_rfl) s24 rfl) ?_; refine kt H rfl fun a H => ?_
            refine pt_f0 _ rfl (fun w' hS' => r_move (H.ev rfl)) ?_; refine kt H rfl fun a H => ?_
            refine pt_f0 _ rfl (fun w' hS' => r_move (H.ev rfl)) ?_; refine kt H rfl fun a H => ?_
            refine pt_f0 _ rfl (fun w' hS' => r_idx (j := k) (q := o + k * 5) Try.underlying22 s33 (H.ev rfl) (H.ev rfl) (by omega) rfl) ?_; refine kt H rfl fun a H => ?_
            refine pt_f0 _ rfl (fun w' hS' => r_row (cs := [.int .i64 x.1, .int .i64 x.2.1, .int .i64 x.2.2.1, .int .i64 x.2.2.2.1, .int .i64 x.2.2.2.2]) (H.ev rfl) (range_ups HRG.out (hall8.trans (Below.mono hS' hall8.size))) (by kernel_rfl) s33 rfl) ?_; refine kt H rfl fun a H => ?_
            refine pt_two (fun K hK => ?_) (fun K hK => ?_)
            · skip
              refine st_a0 rfl ?_; refine wpo_call _ _ _ (rtake_any _ nn _ J x (Row.up rt hS) (by omega) hxx.1 hxx.2) (r_call2 cf13 (H.ev rfl) (H.ev rfl)) ?_; rintro e w9 ⟨⟨s2, o2, rfl, ⟨rs2, fs2⟩, ⟨ro2, fo2⟩⟩, hb⟩; refine ⟨_, rfl, ?_⟩; rw [HT.out] at rs2 ro2 ⊢; have fz2 : Fresh (BelowTo hall8).heap.size s2 := fresh_le fs2 (BelowOf.size hS); (try have hl9 := kn2.lt); (try replace kn2 := Block.ups kn2 hb); obtain ⟨Ao2, co2, hov, u1, u2, u3, u4⟩ := ro2; have ro2 : NRow _ (.slice Ao2 NS.length co2) NS := ⟨Ao2, co2, rfl, u1, u2, u3, u4⟩; subst hov; clear u1 u2 u3 u4; (try have hne9 : ∀ A n c, s2 = .slice A n c → ∀ b o, A = some ⟨b, o, none⟩ → b ≠ bn2 := (fun A n c e b o ea => by have := fs2 A n c e b o ea; omega)); (try have hno9 : ∀ A n c, Value.slice Ao2 NS.length co2 = .slice A n c → ∀ b o, A = some ⟨b, o, none⟩ → b ≠ bn2 := (fun A n c e b o ea => by have := fo2 A n c e b o ea; omega)); clear fs2 fo2; replace hS := BelowOf.step hS hb; clear hb; refine hK _ _ ⟨(fun _ => hS), ?_⟩; clear hK; clear K; refine kt H rfl fun a H => ?_
              refine pt_f0 _ rfl (fun w' hS' => r_move (H.ev rfl)) ?_; refine kt H rfl fun a H => ?_
              refine pt_f0 _ rfl (fun w' hS' => r_extract (v := .agg #[.int .i64 N', s2]) (H.ev rfl) rfl) ?_; refine kt H rfl fun a H => ?_
              refine pt_f0 _ rfl (fun w' hS' => r_extract (v := .slice Ao2 NS.length co2) (H.ev rfl) rfl) ?_; refine kt H rfl fun a H => ?_
              refine pt_one (fun K hK => ?_)
              refine st_a0 rfl ?_; refine wpo_alloc 24 #[.int .i64 0, .slice none 0 0] z24 fun w1 bn2 hge hb kn2 => ?_; have gn2 := Nat.le_trans (BelowOf.size hS) hge; have hAl := hb; have gAl := hge; replace hS := BelowOf.step hS hb; clear hge hb; refine hK _ _ ⟨(fun _ => hS), ?_⟩; clear hK; clear K; refine kt H rfl fun a H => ?_
              refine pt_one (fun K hK => ?_)
              refine st_a0 rfl ?_; refine wpo_store1 24 (.tmp 14) (.tmp 91) bn2 0 24 (.agg #[.int .i64 N', s2]) _ (H.ev rfl) (H.ev rfl) kn2 s24 (by simp [Value.cells]) (by obtain ⟨A, c, rfl, _⟩ := rs2; simp [Value.cells, Value.oneCell']) fun w8 hb8 ho8 kq => ?_; clear kn2; have kn2 : Block w8 bn2 24 #[.int .i64 N', s2] := kq; clear kq; (first | (replace rs2 := row_far rs2 hne9 ho8; replace ro2 := row_farN ro2 hno9 ho8; clear hne9 hno9) | (replace rs2 := Row.up rs2 (hAl.trans (hb8 _ gAl)); replace ro2 := Row.up ro2 (hAl.trans (hb8 _ gAl)))); replace hS := BelowOf.step2 hS (hb8 _ gn2); clear hb8 ho8 hAl gAl; refine hK _ _ ⟨(fun _ => hS), ?_⟩; clear hK; clear K; skip
              refine pt_f0 _ rfl (fun w' hS' => r_assign (H.ev rfl)) ?_; refine kt H rfl fun a H => ?_
              refine pt_done (NoPanic.normal ?_)
              replace k2 := Block.ups k2 hS
              replace k3 := Block.ups k3 hS
              replace rs := Row.up rs hS
              replace rt := Row.up rt hS
              replace o11 := ROwn.up o11 hS
              replace kn1 := Block.ups kn1 hS
              replace rs1 := Row.up rs1 hS
              replace ro1 := Row.up ro1 hS
              have hz2 : ∀ A n c, s2 = .slice A n c → ∀ b o, A = some ⟨b, o, none⟩ → b ≠ b2 ∧ b ≠ b3 := fun A n c e b o ea => by have := fz2 A n c e b o ea; omega
              replace hall := hall.trans (Below.mono hS hall.size)
              have gn2 : w.heap.size ≤ bn2 := Nat.le_trans hall8.size gn2
              have dn2 : b3 < bn2 := by omega
              clear hS fz2
              refine c_next ?_
              refine wp_seq ?_
              refine wp_region_lit ?_
              refine wl_v _ (r_row (cs := [.int .i64 N', s1]) (H.ev rfl) (block_range kn1) (by kernel_rfl) s24 rfl) ?_; refine kl H rfl fun a H => ?_
              refine wl_call _ _ _ (ack_any _ N' s1 J' rs1 (by omega)) (r_call1 cf14 (H.ev rfl)) ?_; rintro e w9 ⟨rfl, hb⟩; refine ⟨_, rfl, ?_⟩; rw [HA.out]; replace k2 := Block.ups k2 hb; replace k3 := Block.ups k3 hb; replace rs := Row.up rs hb; replace rt := Row.up rt hb; replace o11 := ROwn.up o11 hb; replace kn1 := Block.ups kn1 hb; replace rs1 := Row.up rs1 hb; replace ro1 := Row.up ro1 hb; replace kn2 := Block.ups kn2 hb; replace rs2 := Row.up rs2 hb; replace ro2 := Row.up ro2 hb; replace hall := hall.trans (hb.mono hall.size); clear hb; refine kl H rfl fun a H => ?_
              refine wl_v _ (r_move (H.ev rfl)) ?_; refine kl H rfl fun a H => ?_
              refine wl_v _ (r_extract (v := .int .i64 aB) (H.ev rfl) rfl) ?_; refine kl H rfl fun a H => ?_
              refine wl_v _ (r_extract (v := .int .i64 aS) (H.ev rfl) rfl) ?_; refine kl H rfl fun a H => ?_
              refine wl_v _ (r_assign (H.ev rfl)) ?_; refine kl H rfl fun a H => ?_
              refine wl_v _ (r_assign (H.ev rfl)) ?_; refine kl H rfl fun a H => ?_
              refine wpList_nil ?_
              refine c_next ?_
              refine wp_seq ?_
              refine wp_region_lit ?_
              refine wl_v _ (r_row (cs := [.int .i64 N', s2]) (H.ev rfl) (block_range kn2) (by kernel_rfl) s24 rfl) ?_; refine kl H rfl fun a H => ?_
              refine wl_call _ _ _ (rack_any _ N' s2 J' rs2 (by omega)) (r_call1 cf15 (H.ev rfl)) ?_; rintro e w9 ⟨rfl, hb⟩; refine ⟨_, rfl, ?_⟩; rw [HA.out]; replace k2 := Block.ups k2 hb; replace k3 := Block.ups k3 hb; replace rs := Row.up rs hb; replace rt := Row.up rt hb; replace o11 := ROwn.up o11 hb; replace kn1 := Block.ups kn1 hb; replace rs1 := Row.up rs1 hb; replace ro1 := Row.up ro1 hb; replace kn2 := Block.ups kn2 hb; replace rs2 := Row.up rs2 hb; replace ro2 := Row.up ro2 hb; replace hall := hall.trans (hb.mono hall.size); clear hb; refine kl H rfl fun a H => ?_
              refine wl_v _ (r_move (H.ev rfl)) ?_; refine kl H rfl fun a H => ?_
              refine wl_v _ (r_extract (v := .int .i64 aB) (H.ev rfl) rfl) ?_; refine kl H rfl fun a H => ?_
              refine wl_v _ (r_extract (v := .int .i64 aS) (H.ev rfl) rfl) ?_; refine kl H rfl fun a H => ?_
              refine wl_v _ (r_assign (H.ev rfl)) ?_; refine kl H rfl fun a H => ?_
              refine wl_v _ (r_assign (H.ev rfl)) ?_; refine kl H rfl fun a H => ?_
              refine wpList_nil ?_
              refine c_next ?_
              refine wp_seq ?_
              refine wp_seq ?_
              have hall14 := hall
              have hS : BelowOf (BelowTo hall14) _ := Below.drew (Below.refl _ (BelowTo hall14))
              refine region_pi (BelowOf (BelowTo hall14)) [(0, true), (2, true), (1, false), (3, false), (4, true), (5, true), (6, true), (7, true), (8, false), (9, true), (10, true), (11, true), (12, true), (13, true), (14, false), (15, true), (16, true), (17, true), (18, true), (19, true), (20, true), (21, true), (22, true), (23, true), (24, true), (25, true), (26, true), (27, true), (28, true), (29, true), (30, true), (31, true), (32, true), (33, false), (34, true), (35, true)] (by kernel_rfl) (by kernel_rfl) rfl (by kernel_rfl) hS ?_
              refine pi_f0 _ rfl (fun w' hS' => r_row (cs := [.int .i64 nn, .slice As J.length cs]) (H.ev rfl) (block_range (Block.ups k2 hS')) (by kernel_rfl) s24 rfl) ?_; refine kp H rfl fun a H => ?_
              refine pi_f0 _ rfl (fun w' hS' => r_row (cs := [.int .i64 nn, .slice At J.length ct]) (H.ev rfl) (block_range (Block.ups k3 hS')) (by kernel_rfl) s24 rfl) ?_; refine kp H rfl fun a H => ?_
              refine pi_a0 rfl (fun K hK => ?_); refine wpo_call _ _ _ (right_any _ nn _ J (Row.up rs hS) (by omega)) (r_call1 cf16 (H.ev rfl)) ?_; rintro e w9 ⟨rfl, hb⟩; refine ⟨_, rfl, ?_⟩; replace hS := BelowOf.step hS hb; clear hb; refine hK _ _ ⟨hS, ?_⟩; clear hK; clear K; refine kp H rfl fun a H => ?_
              refine pi_a0 rfl (fun K hK => ?_); refine wpo_call _ _ _ (rright_any _ nn _ J (Row.up rt hS) (by omega)) (r_call1 cf17 (H.ev rfl)) ?_; rintro e w9 ⟨rfl, hb⟩; refine ⟨_, rfl, ?_⟩; replace hS := BelowOf.step hS hb; clear hb; refine hK _ _ ⟨hS, ?_⟩; clear hK; clear K; refine kp H rfl fun a H => ?_
              refine pi_f0 (.bool false) rfl (fun w' hS' => r_bne Try.underlying4 (H.ev rfl) (H.ev rfl) (by simp)) ?_; refine kp H rfl fun a H => ?_
              refine pi_f0 _ rfl (fun w' hS' => r_move (H.ev rfl)) ?_; refine kp H rfl fun a H => ?_
              refine pi_f1 _ rfl rfl rfl (H.ev rfl) (fun w' hS' => r_row (cs := [.int .i64 N', s1]) (H.ev rfl) (block_range (Block.ups kn1 hS')) (by kernel_rfl) s24 rfl) ?_; refine kp H rfl fun a H => ?_
              refine pi_f1 _ rfl rfl rfl (H.ev rfl) (fun w' hS' => r_row (cs := [.int .i64 N', s2]) (H.ev rfl) (block_range (Block.ups kn2 hS')) (by kernel_rfl) s24 rfl) ?_; refine kp H rfl fun a H => ?_
              refine pi_a1 rfl rfl rfl (H.ev rfl) (fun K hK => ?_); refine wpo_call _ _ _ (rsame_any _ N' N' s1 s2 J' J' (Row.up rs1 hS) (Row.up rs2 hS) (by omega)) (r_call2 cf11 (H.ev rfl) (H.ev rfl)) ?_; rintro e w9 ⟨rfl, hb⟩; refine ⟨_, rfl, ?_⟩; rw [show sameB N' J' N' J' = true from same_refl]; replace hS := BelowOf.step hS hb; clear hb; refine hK _ _ ⟨hS, ?_⟩; clear hK; clear K; refine kp H rfl fun a H => ?_
              refine pi_f1 _ rfl rfl rfl (H.ev rfl) (fun w' hS' => r_not (H.ev rfl) rfl) ?_; refine kp H rfl fun a H => ?_
              refine pi_f0 _ rfl (fun w' hS' => r_pick_f (H.ev rfl) (H.ev rfl)) ?_; refine kp H rfl fun a H => ?_
              refine pi_f0 _ rfl (fun w' hS' => r_move (H.ev rfl)) ?_; refine kp H rfl fun a H => ?_
              refine pi_f1 _ rfl rfl rfl (H.ev rfl) (fun w' hS' => r_move (H.ev rfl)) ?_; refine kp H rfl fun a H => ?_
              refine pi_f1 _ rfl rfl rfl (H.ev rfl) (fun w' hS' => r_move (H.ev rfl)) ?_; refine kp H rfl fun a H => ?_
              refine pi_a1 rfl rfl rfl (H.ev rfl) (fun K hK => ?_); refine wpo_call _ _ _ (notes_any _ _ _ NS NS (Row.up ro1 hS) (Row.up ro2 hS) (by omega)) (r_call2 cf18 (H.ev rfl) (H.ev rfl)) ?_; rintro e w9 ⟨rfl, hb⟩; refine ⟨_, rfl, ?_⟩; rw [decide_eq_true (rfl : NS = NS)]; replace hS := BelowOf.step hS hb; clear hb; refine hK _ _ ⟨hS, ?_⟩; clear hK; clear K; refine kp H rfl fun a H => ?_
              refine pi_f1 _ rfl rfl rfl (H.ev rfl) (fun w' hS' => r_not (H.ev rfl) rfl) ?_; refine kp H rfl fun a H => ?_
              refine pi_f0 _ rfl (fun w' hS' => r_pick_f (H.ev rfl) (H.ev rfl)) ?_; refine kp H rfl fun a H => ?_
              refine pi_f0 _ rfl (fun w' hS' => r_move (H.ev rfl)) ?_; refine kp H rfl fun a H => ?_
              refine pi_f1 _ rfl rfl rfl (H.ev rfl) (fun w' hS' => r_move (H.ev rfl)) ?_; refine kp H rfl fun a H => ?_
              refine pi_f1 _ rfl rfl rfl (H.ev rfl) (fun w' hS' => r_move (H.ev rfl)) ?_; refine kp H rfl fun a H => ?_
              refine pi_f1 _ rfl rfl rfl (H.ev rfl) (fun w' hS' => r_ne Try.underlying3 (H.ev rfl) (H.ev rfl) (dec_f (by omega))) ?_; refine kp H rfl fun a H => ?_
              refine pi_f0 _ rfl (fun w' hS' => r_pick_f (H.ev rfl) (H.ev rfl)) ?_; refine kp H rfl fun a H => ?_
              refine pi_f0 _ rfl (fun w' hS' => r_move (H.ev rfl)) ?_; refine kp H rfl fun a H => ?_
              refine pi_f1 _ rfl rfl rfl (H.ev rfl) (fun w' hS' => r_move (H.ev rfl)) ?_; refine kp H rfl fun a H => ?_
              refine pi_f1 _ rfl rfl rfl (H.ev rfl) (fun w' hS' => r_move (H.ev rfl)) ?_; refine kp H rfl fun a H => ?_
              refine pi_f1 _ rfl rfl rfl (H.ev rfl) (fun w' hS' => r_ne Try.underlying3 (H.ev rfl) (H.ev rfl) (dec_f (by omega))) ?_; refine kp H rfl fun a H => ?_
              refine pi_f0 _ rfl (fun w' hS' => r_pick_f (H.ev rfl) (H.ev rfl)) ?_; refine kp H rfl fun a H => ?_
              refine pi_f0 _ rfl (fun w' hS' => r_move (H.ev rfl)) ?_; refine kp H rfl fun a H => ?_
              refine pi_f1 _ rfl rfl rfl (H.ev rfl) (fun w' hS' => r_fld (q := 0) fld24_0 (H.ev rfl) rfl) ?_; refine kp H rfl fun a H => ?_
              refine pi_f1 _ rfl rfl rfl (H.ev rfl) (fun w' hS' => r_ld Try.underlying3 rfl (H.ev rfl) ((Block.cell (Block.ups k2 hS') 0).trans rfl)) ?_; refine kp H rfl fun a H => ?_
              refine pi_f1 _ rfl rfl rfl (H.ev rfl) (fun w' hS' => r_move (H.ev rfl)) ?_; refine kp H rfl fun a H => ?_
              refine pi_f1 _ rfl rfl rfl (H.ev rfl) (fun w' hS' => r_build #[(0, .int .i64 nn), (1, .slice A11 J.length c11)] (.agg #[.int .i64 nn, .slice A11 J.length c11]) (by simp [evc, H.ev (j := 132) rfl, H.ev (j := 133) rfl]) (fun w => by kernel_rfl)) ?_; refine kp H rfl fun a H => ?_
              refine pi_f1 _ rfl rfl rfl (H.ev rfl) (fun w' hS' => r_row (cs := [.int .i64 nn, .slice As J.length cs]) (H.ev rfl) (block_range (Block.ups k2 hS')) (by kernel_rfl) s24 rfl) ?_; refine kp H rfl fun a H => ?_
              refine pi_a1 rfl rfl rfl (H.ev rfl) (fun K hK => ?_); refine wpo_call _ _ _ (rsame_any _ nn nn _ _ J J (Row.up (IOwn.row o11) hS) (Row.up rs hS) (by omega)) (r_call2 cf11 (H.ev rfl) (H.ev rfl)) ?_; rintro e w9 ⟨rfl, hb⟩; refine ⟨_, rfl, ?_⟩; rw [show sameB nn J nn J = true from same_refl]; replace hS := BelowOf.step hS hb; clear hb; refine hK _ _ ⟨hS, ?_⟩; clear hK; clear K; refine kp H rfl fun a H => ?_
              refine pi_f1 _ rfl rfl rfl (H.ev rfl) (fun w' hS' => r_not (H.ev rfl) rfl) ?_; refine kp H rfl fun a H => ?_
              refine pi_f0 _ rfl (fun w' hS' => r_pick_f (H.ev rfl) (H.ev rfl)) ?_; refine kp H rfl fun a H => ?_
              refine pi_nil (NoPanic.normal ?_)
              replace k2 := Block.ups k2 hS
              replace k3 := Block.ups k3 hS
              replace rs := Row.up rs hS
              replace rt := Row.up rt hS
              replace o11 := ROwn.up o11 hS
              replace kn1 := Block.ups kn1 hS
              replace rs1 := Row.up rs1 hS
              replace ro1 := Row.up ro1 hS
              replace kn2 := Block.ups kn2 hS
              replace rs2 := Row.up rs2 hS
              replace ro2 := Row.up ro2 hS
              replace hall := hall.trans (Below.mono hS hall.size)
              clear hS
              refine c_next ?_
              refine c_cond_f H rfl ?_
              refine wp_skip ?_
              refine c_next ?_
              refine wp_seq ?_
              clear rs rt o11 ro1 ro2
              refine wp_region_lit ?_
              refine wl_v _ (r_row (cs := [.int .i64 N', s1]) (H.ev rfl) (block_range kn1) (by kernel_rfl) s24 rfl) ?_; refine kl H rfl fun a H => ?_
              refine op_store1 24 (.tmp 8) (.tmp 139) b2 0 24 (.agg #[.int .i64 N', s1]) _ (H.ev rfl) (H.ev rfl) k2 s24 (by simp [Value.cells]) (recv_one rs1) fun w' hb ho kq => ?_; clear k2; have k2 : Block _ b2 24 #[.int .i64 N', s1] := kq; clear kq; replace k3 := block_same k3 (ho _ (by omega)); replace kn1 := block_same kn1 (ho _ (by omega)); replace rs1 := row_far rs1 (fun A n c e b o ea => (hz1 A n c e b o ea).1) (fun g e => ho g e); replace kn2 := block_same kn2 (ho _ (by omega)); replace rs2 := row_far rs2 (fun A n c e b o ea => (hz2 A n c e b o ea).1) (fun g e => ho g e); replace hall := hall.trans (hb _ g2); clear hb ho; refine kl0 H fun a H => ?_
              refine wpList_nil ?_
              refine c_next ?_
              refine wp_region_lit ?_
              refine wl_v _ (r_row (cs := [.int .i64 N', s2]) (H.ev rfl) (block_range kn2) (by kernel_rfl) s24 rfl) ?_; refine kl H rfl fun a H => ?_
              refine op_store1 24 (.tmp 9) (.tmp 140) b3 0 24 (.agg #[.int .i64 N', s2]) _ (H.ev rfl) (H.ev rfl) k3 s24 (by simp [Value.cells]) (recv_one rs2) fun w' hb ho kq => ?_; clear k3; have k3 : Block _ b3 24 #[.int .i64 N', s2] := kq; clear kq; replace k2 := block_same k2 (ho _ (by omega)); replace kn1 := block_same kn1 (ho _ (by omega)); replace rs1 := row_far rs1 (fun A n c e b o ea => (hz1 A n c e b o ea).2) (fun g e => ho g e); replace kn2 := block_same kn2 (ho _ (by omega)); replace rs2 := row_far rs2 (fun A n c e b o ea => (hz2 A n c e b o ea).2) (fun g e => ho g e); replace hall := hall.trans (hb _ g3); clear hb ho; refine kl0 H fun a H => ?_
              refine wpList_nil ?_
              refine n_block ?_
              refine c_next ?_
              refine wp_region_lit ?_
              refine wl_v _ (r_move (H.ev rfl)) ?_; refine kl H rfl fun a H => ?_
              refine wl_v _ (r_add (q := ((k + 1 : Nat) : Int)) Try.underlying3 (H.ev rfl) evc (by omega) (by omega)) ?_; refine kl H rfl fun a H => ?_
              refine wl_v _ (r_assign (H.ev rfl)) ?_; refine kl H rfl fun a H => ?_
              refine wpList_nil ?_
              obtain ⟨B1, d1, rfl, -, -, -, -⟩ := id rs1
              obtain ⟨B2, d2, rfl, -, -, -, -⟩ := id rs2
              refine n_then ⟨⟨k + 1, N', B1, d1, B2, d2, J', H.pick [1, 7, 8, 9, 10], by omega, by omega, by omega, k2, k3, rs1, rs2, hall⟩, ?_⟩
              rw [H.ev (j := 10) rfl, H0.ev (j := 10) rfl]
              simp only [intOf]
              omega
            · skip
              refine st_a0 rfl ?_; refine wpo_alloc 24 #[.int .i64 0, .slice none 0 0] z24 fun w1 bn2 hge hb kn2 => ?_; have gn2 := Nat.le_trans (BelowOf.size hS) hge; have hAl := hb; have gAl := hge; replace hS := BelowOf.step hS hb; clear hge hb; refine hK _ _ ⟨(fun _ => hS), ?_⟩; clear hK; clear K; refine kt H rfl fun a H => ?_
              refine pt_one (fun K hK => ?_)
              refine st_a0 rfl ?_; refine wpo_call _ _ _ (rtake_any _ nn _ J x (Row.up rt hS) (by omega) hxx.1 hxx.2) (r_call2 cf13 (H.ev rfl) (H.ev rfl)) ?_; rintro e w9 ⟨⟨s2, o2, rfl, ⟨rs2, fs2⟩, ⟨ro2, fo2⟩⟩, hb⟩; refine ⟨_, rfl, ?_⟩; rw [HT.out] at rs2 ro2 ⊢; have fz2 : Fresh (BelowTo hall8).heap.size s2 := fresh_le fs2 (BelowOf.size hS); (try have hl9 := kn2.lt); (try replace kn2 := Block.ups kn2 hb); obtain ⟨Ao2, co2, hov, u1, u2, u3, u4⟩ := ro2; have ro2 : NRow _ (.slice Ao2 NS.length co2) NS := ⟨Ao2, co2, rfl, u1, u2, u3, u4⟩; subst hov; clear u1 u2 u3 u4; (try have hne9 : ∀ A n c, s2 = .slice A n c → ∀ b o, A = some ⟨b, o, none⟩ → b ≠ bn2 := (fun A n c e b o ea => by have := fs2 A n c e b o ea; omega)); (try have hno9 : ∀ A n c, Value.slice Ao2 NS.length co2 = .slice A n c → ∀ b o, A = some ⟨b, o, none⟩ → b ≠ bn2 := (fun A n c e b o ea => by have := fo2 A n c e b o ea; omega)); clear fs2 fo2; replace hS := BelowOf.step hS hb; clear hb; refine hK _ _ ⟨(fun _ => hS), ?_⟩; clear hK; clear K; refine kt H rfl fun a H => ?_
              refine pt_f0 _ rfl (fun w' hS' => r_move (H.ev rfl)) ?_; refine kt H rfl fun a H => ?_
              refine pt_f0 _ rfl (fun w' hS' => r_extract (v := .agg #[.int .i64 N', s2]) (H.ev rfl) rfl) ?_; refine kt H rfl fun a H => ?_
              refine pt_f0 _ rfl (fun w' hS' => r_extract (v := .slice Ao2 NS.length co2) (H.ev rfl) rfl) ?_; refine kt H rfl fun a H => ?_
              refine pt_one (fun K hK => ?_)
              refine st_a0 rfl ?_; refine wpo_store1 24 (.tmp 14) (.tmp 91) bn2 0 24 (.agg #[.int .i64 N', s2]) _ (H.ev rfl) (H.ev rfl) kn2 s24 (by simp [Value.cells]) (by obtain ⟨A, c, rfl, _⟩ := rs2; simp [Value.cells, Value.oneCell']) fun w8 hb8 ho8 kq => ?_; clear kn2; have kn2 : Block w8 bn2 24 #[.int .i64 N', s2] := kq; clear kq; (first | (replace rs2 := row_far rs2 hne9 ho8; replace ro2 := row_farN ro2 hno9 ho8; clear hne9 hno9) | (replace rs2 := Row.up rs2 (hAl.trans (hb8 _ gAl)); replace ro2 := Row.up ro2 (hAl.trans (hb8 _ gAl)))); replace hS := BelowOf.step2 hS (hb8 _ gn2); clear hb8 ho8 hAl gAl; refine hK _ _ ⟨(fun _ => hS), ?_⟩; clear hK; clear K; skip
              refine pt_f0 _ rfl (fun w' hS' => r_assign (H.ev rfl)) ?_; refine kt H rfl fun a H => ?_
              refine pt_done (NoPanic.normal ?_)
              replace k2 := Block.ups k2 hS
              replace k3 := Block.ups k3 hS
              replace rs := Row.up rs hS
              replace rt := Row.up rt hS
              replace o11 := ROwn.up o11 hS
              replace kn1 := Block.ups kn1 hS
              replace rs1 := Row.up rs1 hS
              replace ro1 := Row.up ro1 hS
              have hz2 : ∀ A n c, s2 = .slice A n c → ∀ b o, A = some ⟨b, o, none⟩ → b ≠ b2 ∧ b ≠ b3 := fun A n c e b o ea => by have := fz2 A n c e b o ea; omega
              replace hall := hall.trans (Below.mono hS hall.size)
              have gn2 : w.heap.size ≤ bn2 := Nat.le_trans hall8.size gn2
              have dn2 : b3 < bn2 := by omega
              clear hS fz2
              refine c_next ?_
              refine wp_seq ?_
              refine wp_region_lit ?_
              refine wl_v _ (r_row (cs := [.int .i64 N', s1]) (H.ev rfl) (block_range kn1) (by kernel_rfl) s24 rfl) ?_; refine kl H rfl fun a H => ?_
              refine wl_call _ _ _ (ack_any _ N' s1 J' rs1 (by omega)) (r_call1 cf14 (H.ev rfl)) ?_; rintro e w9 ⟨rfl, hb⟩; refine ⟨_, rfl, ?_⟩; rw [HA.out]; replace k2 := Block.ups k2 hb; replace k3 := Block.ups k3 hb; replace rs := Row.up rs hb; replace rt := Row.up rt hb; replace o11 := ROwn.up o11 hb; replace kn1 := Block.ups kn1 hb; replace rs1 := Row.up rs1 hb; replace ro1 := Row.up ro1 hb; replace kn2 := Block.ups kn2 hb; replace rs2 := Row.up rs2 hb; replace ro2 := Row.up ro2 hb; replace hall := hall.trans (hb.mono hall.size); clear hb; refine kl H rfl fun a H => ?_
              refine wl_v _ (r_move (H.ev rfl)) ?_; refine kl H rfl fun a H => ?_
              refine wl_v _ (r_extract (v := .int .i64 aB) (H.ev rfl) rfl) ?_; refine kl H rfl fun a H => ?_
              refine wl_v _ (r_extract (v := .int .i64 aS) (H.ev rfl) rfl) ?_; refine kl H rfl fun a H => ?_
              refine wl_v _ (r_assign (H.ev rfl)) ?_; refine kl H rfl fun a H => ?_
              refine wl_v _ (r_assign (H.ev rfl)) ?_; refine kl H rfl fun a H => ?_
              refine wpList_nil ?_
              refine c_next ?_
              refine wp_seq ?_
              refine wp_region_lit ?_
              refine wl_v _ (r_row (cs := [.int .i64 N', s2]) (H.ev rfl) (block_range kn2) (by kernel_rfl) s24 rfl) ?_; refine kl H rfl fun a H => ?_
              refine wl_call _ _ _ (rack_any _ N' s2 J' rs2 (by omega)) (r_call1 cf15 (H.ev rfl)) ?_; rintro e w9 ⟨rfl, hb⟩; refine ⟨_, rfl, ?_⟩; rw [HA.out]; replace k2 := Block.ups k2 hb; replace k3 := Block.ups k3 hb; replace rs := Row.up rs hb; replace rt := Row.up rt hb; replace o11 := ROwn.up o11 hb; replace kn1 := Block.ups kn1 hb; replace rs1 := Row.up rs1 hb; replace ro1 := Row.up ro1 hb; replace kn2 := Block.ups kn2 hb; replace rs2 := Row.up rs2 hb; replace ro2 := Row.up ro2 hb; replace hall := hall.trans (hb.mono hall.size); clear hb; refine kl H rfl fun a H => ?_
              refine wl_v _ (r_move (H.ev rfl)) ?_; refine kl H rfl fun a H => ?_
              refine wl_v _ (r_extract (v := .int .i64 aB) (H.ev rfl) rfl) ?_; refine kl H rfl fun a H => ?_
              refine wl_v _ (r_extract (v := .int .i64 aS) (H.ev rfl) rfl) ?_; refine kl H rfl fun a H => ?_
              refine wl_v _ (r_assign (H.ev rfl)) ?_; refine kl H rfl fun a H => ?_
              refine wl_v _ (r_assign (H.ev rfl)) ?_; refine kl H rfl fun a H => ?_
              refine wpList_nil ?_
              refine c_next ?_
              refine wp_seq ?_
              refine wp_seq ?_
              have hall14 := hall
              have hS : BelowOf (BelowTo hall14) _ := Below.drew (Below.refl _ (BelowTo hall14))
              refine region_pi (BelowOf (BelowTo hall14)) [(0, true), (2, true), (1, false), (3, false), (4, true), (5, true), (6, true), (7, true), (8, false), (9, true), (10, true), (11, true), (12, true), (13, true), (14, false), (15, true), (16, true), (17, true), (18, true), (19, true), (20, true), (21, true), (22, true), (23, true), (24, true), (25, true), (26, true), (27, true), (28, true), (29, true), (30, true), (31, true), (32, true), (33, false), (34, true), (35, true)] (by kernel_rfl) (by kernel_rfl) rfl (by kernel_rfl) hS ?_
              refine pi_f0 _ rfl (fun w' hS' => r_row (cs := [.int .i64 nn, .slice As J.length cs]) (H.ev rfl) (block_range (Block.ups k2 hS')) (by kernel_rfl) s24 rfl) ?_; refine kp H rfl fun a H => ?_
              refine pi_f0 _ rfl (fun w' hS' => r_row (cs := [.int .i64 nn, .slice At J.length ct]) (H.ev rfl) (block_range (Block.ups k3 hS')) (by kernel_rfl) s24 rfl) ?_; refine kp H rfl fun a H => ?_
              refine pi_a0 rfl (fun K hK => ?_); refine wpo_call _ _ _ (right_any _ nn _ J (Row.up rs hS) (by omega)) (r_call1 cf16 (H.ev rfl)) ?_; rintro e w9 ⟨rfl, hb⟩; refine ⟨_, rfl, ?_⟩; replace hS := BelowOf.step hS hb; clear hb; refine hK _ _ ⟨hS, ?_⟩; clear hK; clear K; refine kp H rfl fun a H => ?_
              refine pi_a0 rfl (fun K hK => ?_); refine wpo_call _ _ _ (rright_any _ nn _ J (Row.up rt hS) (by omega)) (r_call1 cf17 (H.ev rfl)) ?_; rintro e w9 ⟨rfl, hb⟩; refine ⟨_, rfl, ?_⟩; replace hS := BelowOf.step hS hb; clear hb; refine hK _ _ ⟨hS, ?_⟩; clear hK; clear K; refine kp H rfl fun a H => ?_
              refine pi_f0 (.bool false) rfl (fun w' hS' => r_bne Try.underlying4 (H.ev rfl) (H.ev rfl) (by simp)) ?_; refine kp H rfl fun a H => ?_
              refine pi_f0 _ rfl (fun w' hS' => r_move (H.ev rfl)) ?_; refine kp H rfl fun a H => ?_
              refine pi_f1 _ rfl rfl rfl (H.ev rfl) (fun w' hS' => r_row (cs := [.int .i64 N', s1]) (H.ev rfl) (block_range (Block.ups kn1 hS')) (by kernel_rfl) s24 rfl) ?_; refine kp H rfl fun a H => ?_
              refine pi_f1 _ rfl rfl rfl (H.ev rfl) (fun w' hS' => r_row (cs := [.int .i64 N', s2]) (H.ev rfl) (block_range (Block.ups kn2 hS')) (by kernel_rfl) s24 rfl) ?_; refine kp H rfl fun a H => ?_
              refine pi_a1 rfl rfl rfl (H.ev rfl) (fun K hK => ?_); refine wpo_call _ _ _ (rsame_any _ N' N' s1 s2 J' J' (Row.up rs1 hS) (Row.up rs2 hS) (by omega)) (r_call2 cf11 (H.ev rfl) (H.ev rfl)) ?_; rintro e w9 ⟨rfl, hb⟩; refine ⟨_, rfl, ?_⟩; rw [show sameB N' J' N' J' = true from same_refl]; replace hS := BelowOf.step hS hb; clear hb; refine hK _ _ ⟨hS, ?_⟩; clear hK; clear K; refine kp H rfl fun a H => ?_
              refine pi_f1 _ rfl rfl rfl (H.ev rfl) (fun w' hS' => r_not (H.ev rfl) rfl) ?_; refine kp H rfl fun a H => ?_
              refine pi_f0 _ rfl (fun w' hS' => r_pick_f (H.ev rfl) (H.ev rfl)) ?_; refine kp H rfl fun a H => ?_
              refine pi_f0 _ rfl (fun w' hS' => r_move (H.ev rfl)) ?_; refine kp H rfl fun a H => ?_
              refine pi_f1 _ rfl rfl rfl (H.ev rfl) (fun w' hS' => r_move (H.ev rfl)) ?_; refine kp H rfl fun a H => ?_
              refine pi_f1 _ rfl rfl rfl (H.ev rfl) (fun w' hS' => r_move (H.ev rfl)) ?_; refine kp H rfl fun a H => ?_
              refine pi_a1 rfl rfl rfl (H.ev rfl) (fun K hK => ?_); refine wpo_call _ _ _ (notes_any _ _ _ NS NS (Row.up ro1 hS) (Row.up ro2 hS) (by omega)) (r_call2 cf18 (H.ev rfl) (H.ev rfl)) ?_; rintro e w9 ⟨rfl, hb⟩; refine ⟨_, rfl, ?_⟩; rw [decide_eq_true (rfl : NS = NS)]; replace hS := BelowOf.step hS hb; clear hb; refine hK _ _ ⟨hS, ?_⟩; clear hK; clear K; refine kp H rfl fun a H => ?_
              refine pi_f1 _ rfl rfl rfl (H.ev rfl) (fun w' hS' => r_not (H.ev rfl) rfl) ?_; refine kp H rfl fun a H => ?_
              refine pi_f0 _ rfl (fun w' hS' => r_pick_f (H.ev rfl) (H.ev rfl)) ?_; refine kp H rfl fun a H => ?_
              refine pi_f0 _ rfl (fun w' hS' => r_move (H.ev rfl)) ?_; refine kp H rfl fun a H => ?_
              refine pi_f1 _ rfl rfl rfl (H.ev rfl) (fun w' hS' => r_move (H.ev rfl)) ?_; refine kp H rfl fun a H => ?_
              refine pi_f1 _ rfl rfl rfl (H.ev rfl) (fun w' hS' => r_move (H.ev rfl)) ?_; refine kp H rfl fun a H => ?_
              refine pi_f1 _ rfl rfl rfl (H.ev rfl) (fun w' hS' => r_ne Try.underlying3 (H.ev rfl) (H.ev rfl) (dec_f (by omega))) ?_; refine kp H rfl fun a H => ?_
              refine pi_f0 _ rfl (fun w' hS' => r_pick_f (H.ev rfl) (H.ev rfl)) ?_; refine kp H rfl fun a H => ?_
              refine pi_f0 _ rfl (fun w' hS' => r_move (H.ev rfl)) ?_; refine kp H rfl fun a H => ?_
              refine pi_f1 _ rfl rfl rfl (H.ev rfl) (fun w' hS' => r_move (H.ev rfl)) ?_; refine kp H rfl fun a H => ?_
              refine pi_f1 _ rfl rfl rfl (H.ev rfl) (fun w' hS' => r_move (H.ev rfl)) ?_; refine kp H rfl fun a H => ?_
              refine pi_f1 _ rfl rfl rfl (H.ev rfl) (fun w' hS' => r_ne Try.underlying3 (H.ev rfl) (H.ev rfl) (dec_f (by omega))) ?_; refine kp H rfl fun a H => ?_
              refine pi_f0 _ rfl (fun w' hS' => r_pick_f (H.ev rfl) (H.ev rfl)) ?_; refine kp H rfl fun a H => ?_
              refine pi_f0 _ rfl (fun w' hS' => r_move (H.ev rfl)) ?_; refine kp H rfl fun a H => ?_
              refine pi_f1 _ rfl rfl rfl (H.ev rfl) (fun w' hS' => r_fld (q := 0) fld24_0 (H.ev rfl) rfl) ?_; refine kp H rfl fun a H => ?_
              refine pi_f1 _ rfl rfl rfl (H.ev rfl) (fun w' hS' => r_ld Try.underlying3 rfl (H.ev rfl) ((Block.cell (Block.ups k2 hS') 0).trans rfl)) ?_; refine kp H rfl fun a H => ?_
              refine pi_f1 _ rfl rfl rfl (H.ev rfl) (fun w' hS' => r_move (H.ev rfl)) ?_; refine kp H rfl fun a H => ?_
              refine pi_f1 _ rfl rfl rfl (H.ev rfl) (fun w' hS' => r_build #[(0, .int .i64 nn), (1, .slice A11 J.length c11)] (.agg #[.int .i64 nn, .slice A11 J.length c11]) (by simp [evc, H.ev (j := 132) rfl, H.ev (j := 133) rfl]) (fun w => by kernel_rfl)) ?_; refine kp H rfl fun a H => ?_
              refine pi_f1 _ rfl rfl rfl (H.ev rfl) (fun w' hS' => r_row (cs := [.int .i64 nn, .slice As J.length cs]) (H.ev rfl) (block_range (Block.ups k2 hS')) (by kernel_rfl) s24 rfl) ?_; refine kp H rfl fun a H => ?_
              refine pi_a1 rfl rfl rfl (H.ev rfl) (fun K hK => ?_); refine wpo_call _ _ _ (rsame_any _ nn nn _ _ J J (Row.up (IOwn.row o11) hS) (Row.up rs hS) (by omega)) (r_call2 cf11 (H.ev rfl) (H.ev rfl)) ?_; rintro e w9 ⟨rfl, hb⟩; refine ⟨_, rfl, ?_⟩; rw [show sameB nn J nn J = true from same_refl]; replace hS := BelowOf.step hS hb; clear hb; refine hK _ _ ⟨hS, ?_⟩; clear hK; clear K; refine kp H rfl fun a H => ?_
              refine pi_f1 _ rfl rfl rfl (H.ev rfl) (fun w' hS' => r_not (H.ev rfl) rfl) ?_; refine kp H rfl fun a H => ?_
              refine pi_f0 _ rfl (fun w' hS' => r_pick_f (H.ev rfl) (H.ev rfl)) ?_; refine kp H rfl fun a H => ?_
              refine pi_nil (NoPanic.normal ?_)
              replace k2 := Block.ups k2 hS
              replace k3 := Block.ups k3 hS
              replace rs := Row.up rs hS
              replace rt := Row.up rt hS
              replace o11 := ROwn.up o11 hS
              replace kn1 := Block.ups kn1 hS
              replace rs1 := Row.up rs1 hS
              replace ro1 := Row.up ro1 hS
              replace kn2 := Block.ups kn2 hS
              replace rs2 := Row.up rs2 hS
              replace ro2 := Row.up ro2 hS
              replace hall := hall.trans (Below.mono hS hall.size)
              clear hS
              refine c_next ?_
              refine c_cond_f H rfl ?_
              refine wp_skip ?_
              refine c_next ?_
              refine wp_seq ?_
              clear rs rt o11 ro1 ro2
              refine wp_region_lit ?_
              refine wl_v _ (r_row (cs := [.int .i64 N', s1]) (H.ev rfl) (block_range kn1) (by kernel_rfl) s24 rfl) ?_; refine kl H rfl fun a H => ?_
              refine op_store1 24 (.tmp 8) (.tmp 139) b2 0 24 (.agg #[.int .i64 N', s1]) _ (H.ev rfl) (H.ev rfl) k2 s24 (by simp [Value.cells]) (recv_one rs1) fun w' hb ho kq => ?_; clear k2; have k2 : Block _ b2 24 #[.int .i64 N', s1] := kq; clear kq; replace k3 := block_same k3 (ho _ (by omega)); replace kn1 := block_same kn1 (ho _ (by omega)); replace rs1 := row_far rs1 (fun A n c e b o ea => (hz1 A n c e b o ea).1) (fun g e => ho g e); replace kn2 := block_same kn2 (ho _ (by omega)); replace rs2 := row_far rs2 (fun A n c e b o ea => (hz2 A n c e b o ea).1) (fun g e => ho g e); replace hall := hall.trans (hb _ g2); clear hb ho; refine kl0 H fun a H => ?_
              refine wpList_nil ?_
              refine c_next ?_
              refine wp_region_lit ?_
              refine wl_v _ (r_row (cs := [.int .i64 N', s2]) (H.ev rfl) (block_range kn2) (by kernel_rfl) s24 rfl) ?_; refine kl H rfl fun a H => ?_
              refine op_store1 24 (.tmp 9) (.tmp 140) b3 0 24 (.agg #[.int .i64 N', s2]) _ (H.ev rfl) (H.ev rfl) k3 s24 (by simp [Value.cells]) (recv_one rs2) fun w' hb ho kq => ?_; clear k3; have k3 : Block _ b3 24 #[.int .i64 N', s2] := kq; clear kq; replace k2 := block_same k2 (ho _ (by omega)); replace kn1 := block_same kn1 (ho _ (by omega)); replace rs1 := row_far rs1 (fun A n c e b o ea => (hz1 A n c e b o ea).2) (fun g e => ho g e); replace kn2 := block_same kn2 (ho _ (by omega)); replace rs2 := row_far rs2 (fun A n c e b o ea => (hz2 A n c e b o ea).2) (fun g e => ho g e); replace hall := hall.trans (hb _ g3); clear hb ho; refine kl0 H fun a H => ?_
              refine wpList_nil ?_
              refine n_block ?_
              refine c_next ?_
              refine wp_region_lit ?_
              refine wl_v _ (r_move (H.ev rfl)) ?_; refine kl H rfl fun a H => ?_
              refine wl_v _ (r_add (q := ((k + 1 : Nat) : Int)) Try.underlying3 (H.ev rfl) evc (by omega) (by omega)) ?_; refine kl H rfl fun a H => ?_
              refine wl_v _ (r_assign (H.ev rfl)) ?_; refine kl H rfl fun a H => ?_
              refine wpList_nil ?_
              obtain ⟨B1, d1, rfl, -, -, -, -⟩ := id rs1
              obtain ⟨B2, d2, rfl, -, -, -, -⟩ := id rs2
              refine n_then ⟨⟨k + 1, N', B1, d1, B2, d2, J', H.pick [1, 7, 8, 9, 10], by omega, by omega, by omega, k2, k3, rs1, rs2, hall⟩, ?_⟩
              rw [H.ev (j := 10) rfl, H0.ev (j := 10) rfl]
              simp only [intOf]
              omega
          · skip
            refine st_a0 rfl ?_; refine wpo_alloc 24 #[.int .i64 0, .slice none 0 0] z24 fun w1 bn1 hge hb kn1 => ?_; have gn1 := Nat.le_trans (BelowOf.size hS) hge; have hAl := hb; have gAl := hge; replace hS := BelowOf.step hS hb; clear hge hb; refine hK _ _ ⟨(fun _ => hS), ?_⟩; clear hK; clear K; refine kt H rfl fun a H => ?_
            refine pt_one (fun K hK => ?_)
            refine st_a0 rfl ?_; refine wpo_call _ _ _ (take_any _ nn _ J x (Row.up rs hS) (by omega) hxx.1 hxx.2) (r_call2 cf12 (H.ev rfl) (H.ev rfl)) ?_; rintro e w9 ⟨⟨s1, o1, rfl, ⟨rs1, fs1⟩, ⟨ro1, fo1⟩⟩, hb⟩; refine ⟨_, rfl, ?_⟩; rw [HT.out] at rs1 ro1 ⊢; have fz1 : Fresh (BelowTo hall8).heap.size s1 := fresh_le fs1 (BelowOf.size hS); (try have hl9 := kn1.lt); (try replace kn1 := Block.ups kn1 hb); obtain ⟨Ao1, co1, hov, u1, u2, u3, u4⟩ := ro1; have ro1 : NRow _ (.slice Ao1 NS.length co1) NS := ⟨Ao1, co1, rfl, u1, u2, u3, u4⟩; subst hov; clear u1 u2 u3 u4; (try have hne9 : ∀ A n c, s1 = .slice A n c → ∀ b o, A = some ⟨b, o, none⟩ → b ≠ bn1 := (fun A n c e b o ea => by have := fs1 A n c e b o ea; omega)); (try have hno9 : ∀ A n c, Value.slice Ao1 NS.length co1 = .slice A n c → ∀ b o, A = some ⟨b, o, none⟩ → b ≠ bn1 := (fun A n c e b o ea => by have := fo1 A n c e b o ea; omega)); clear fs1 fo1; replace hS := BelowOf.step hS hb; clear hb; refine hK _ _ ⟨(fun _ => hS), ?_⟩; clear hK; clear K; refine kt H rfl fun a H => ?_
            refine pt_f0 _ rfl (fun w' hS' => r_move (H.ev rfl)) ?_; refine kt H rfl fun a H => ?_
            refine pt_f0 _ rfl (fun w' hS' => r_extract (v := .agg #[.int .i64 N', s1]) (H.ev rfl) rfl) ?_; refine kt H rfl fun a H => ?_
            refine pt_f0 _ rfl (fun w' hS' => r_extract (v := .slice Ao1 NS.length co1) (H.ev rfl) rfl) ?_; refine kt H rfl fun a H => ?_
            refine pt_one (fun K hK => ?_)
            refine st_a0 rfl ?_; refine wpo_store1 24 (.tmp 12) (.tmp 82) bn1 0 24 (.agg #[.int .i64 N', s1]) _ (H.ev rfl) (H.ev rfl) kn1 s24 (by simp [Value.cells]) (by obtain ⟨A, c, rfl, _⟩ := rs1; simp [Value.cells, Value.oneCell']) fun w8 hb8 ho8 kq => ?_; clear kn1; have kn1 : Block w8 bn1 24 #[.int .i64 N', s1] := kq; clear kq; (first | (replace rs1 := row_far rs1 hne9 ho8; replace ro1 := row_farN ro1 hno9 ho8; clear hne9 hno9) | (replace rs1 := Row.up rs1 (hAl.trans (hb8 _ gAl)); replace ro1 := Row.up ro1 (hAl.trans (hb8 _ gAl)))); replace hS := BelowOf.step2 hS (hb8 _ gn1); clear hb8 ho8 hAl gAl; refine hK _ _ ⟨(fun _ => hS), ?_⟩; clear hK; clear K; skip
            refine pt_f0 _ rfl (fun w' hS' => r_assign (H.ev rfl)) ?_; refine kt H rfl fun a H => ?_
            refine pt_done (NoPanic.normal ?_)
            replace k2 := Block.ups k2 hS
            replace k3 := Block.ups k3 hS
            replace rs := Row.up rs hS
            replace rt := Row.up rt hS
            replace o11 := ROwn.up o11 hS
            have hz1 : ∀ A n c, s1 = .slice A n c → ∀ b o, A = some ⟨b, o, none⟩ → b ≠ b2 ∧ b ≠ b3 := fun A n c e b o ea => by have := fz1 A n c e b o ea; omega
            replace hall := hall.trans (Below.mono hS hall.size)
            have gn1 : w.heap.size ≤ bn1 := Nat.le_trans hall8.size gn1
            have dn1 : b3 < bn1 := by omega
            clear hS fz1
            refine c_next ?_
            refine wp_seq ?_
            have hall8 := hall
            have l2 : b2 < (BelowTo hall8).heap.size := k2.lt
            have l3 : b3 < (BelowTo hall8).heap.size := k3.lt
            have hS : BelowOf (BelowTo hall8) _ := Below.drew (Below.refl _ (BelowTo hall8))
            refine region_tree (BelowOf (BelowTo hall8)) 12 (.fl 0 (.fl 1 (.fl 2 (.fl 3 (.fl 4 (.two 5 (.fl 6 (.fl 7 (.fl 8 (.one 9 (.one 10 (.fl 11 .done)))))) 9 (.one 5 (.fl 6 (.fl 7 (.fl 8 (.one 10 (.fl 11 .done)))))))))))) (by kernel_rfl) (by kernel_rfl) rfl (by kernel_rfl) hS ?_
            refine pt_f0 _ rfl (fun w' hS' => r_row (cs := [.int .i64 nn, .slice At J.length ct]) (H.ev rfl) (block_range (Block.ups k3 hS')) (by kernel_rfl) s24 rfl) ?_; refine kt H rfl fun a H => ?_
            refine pt_f0 _ rfl (fun w' hS' => r_move (H.ev rfl)) ?_; refine kt H rfl fun a H => ?_
            refine pt_f0 _ rfl (fun w' hS' => r_move (H.ev rfl)) ?_; refine kt H rfl fun a H => ?_
            refine pt_f0 _ rfl (fun w' hS' => r_idx (j := k) (q := o + k * 5) Try.underlying22 s33 (H.ev rfl) (H.ev rfl) (by omega) rfl) ?_; refine kt H rfl fun a H => ?_
            refine pt_f0 _ rfl (fun w' hS' => r_row (cs := [.int .i64 x.1, .int .i64 x.2.1, .int .i64 x.2.2.1, .int .i64 x.2.2.2.1, .int .i64 x.2.2.2.2]) (H.ev rfl) (range_ups HRG.out (hall8.trans (Below.mono hS' hall8.size))) (by kernel_rfl) s33 rfl) ?_; refine kt H rfl fun a H => ?_
            refine pt_two (fun K hK => ?_) (fun K hK => ?_)
            · skip
              refine st_a0 rfl ?_; refine wpo_call _ _ _ (rtake_any _ nn _ J x (Row.up rt hS) (by omega) hxx.1 hxx.2) (r_call2 cf13 (H.ev rfl) (H.ev rfl)) ?_; rintro e w9 ⟨⟨s2, o2, rfl, ⟨rs2, fs2⟩, ⟨ro2, fo2⟩⟩, hb⟩; refine ⟨_, rfl, ?_⟩; rw [HT.out] at rs2 ro2 ⊢; have fz2 : Fresh (BelowTo hall8).heap.size s2 := fresh_le fs2 (BelowOf.size hS); (try have hl9 := kn2.lt); (try replace kn2 := Block.ups kn2 hb); obtain ⟨Ao2, co2, hov, u1, u2, u3, u4⟩ := ro2; have ro2 : NRow _ (.slice Ao2 NS.length co2) NS := ⟨Ao2, co2, rfl, u1, u2, u3, u4⟩; subst hov; clear u1 u2 u3 u4; (try have hne9 : ∀ A n c, s2 = .slice A n c → ∀ b o, A = some ⟨b, o, none⟩ → b ≠ bn2 := (fun A n c e b o ea => by have := fs2 A n c e b o ea; omega)); (try have hno9 : ∀ A n c, Value.slice Ao2 NS.length co2 = .slice A n c → ∀ b o, A = some ⟨b, o, none⟩ → b ≠ bn2 := (fun A n c e b o ea => by have := fo2 A n c e b o ea; omega)); clear fs2 fo2; replace hS := BelowOf.step hS hb; clear hb; refine hK _ _ ⟨(fun _ => hS), ?_⟩; clear hK; clear K; refine kt H rfl fun a H => ?_
              refine pt_f0 _ rfl (fun w' hS' => r_move (H.ev rfl)) ?_; refine kt H rfl fun a H => ?_
              refine pt_f0 _ rfl (fun w' hS' => r_extract (v := .agg #[.int .i64 N', s2]) (H.ev rfl) rfl) ?_; refine kt H rfl fun a H => ?_
              refine pt_f0 _ rfl (fun w' hS' => r_extract (v := .slice Ao2 NS.length co2) (H.ev rfl) rfl) ?_; refine kt H rfl fun a H => ?_
              refine pt_one (fun K hK => ?_)
              refine st_a0 rfl ?_; refine wpo_alloc 24 #[.int .i64 0, .slice none 0 0] z24 fun w1 bn2 hge hb kn2 => ?_; have gn2 := Nat.le_trans (BelowOf.size hS) hge; have hAl := hb; have gAl := hge; replace hS := BelowOf.step hS hb; clear hge hb; refine hK _ _ ⟨(fun _ => hS), ?_⟩; clear hK; clear K; refine kt H rfl fun a H => ?_
              refine pt_one (fun K hK => ?_)
              refine st_a0 rfl ?_; refine wpo_store1 24 (.tmp 14) (.tmp 91) bn2 0 24 (.agg #[.int .i64 N', s2]) _ (H.ev rfl) (H.ev rfl) kn2 s24 (by simp [Value.cells]) (by obtain ⟨A, c, rfl, _⟩ := rs2; simp [Value.cells, Value.oneCell']) fun w8 hb8 ho8 kq => ?_; clear kn2; have kn2 : Block w8 bn2 24 #[.int .i64 N', s2] := kq; clear kq; (first | (replace rs2 := row_far rs2 hne9 ho8; replace ro2 := row_farN ro2 hno9 ho8; clear hne9 hno9) | (replace rs2 := Row.up rs2 (hAl.trans (hb8 _ gAl)); replace ro2 := Row.up ro2 (hAl.trans (hb8 _ gAl)))); replace hS := BelowOf.step2 hS (hb8 _ gn2); clear hb8 ho8 hAl gAl; refine hK _ _ ⟨(fun _ => hS), ?_⟩; clear hK; clear K; skip
              refine pt_f0 _ rfl (fun w' hS' => r_assign (H.ev rfl)) ?_; refine kt H rfl fun a H => ?_
              refine pt_done (NoPanic.normal ?_)
              replace k2 := Block.ups k2 hS
              replace k3 := Block.ups k3 hS
              replace rs := Row.up rs hS
              replace rt := Row.up rt hS
              replace o11 := ROwn.up o11 hS
              replace kn1 := Block.ups kn1 hS
              replace rs1 := Row.up rs1 hS
              replace ro1 := Row.up ro1 hS
              have hz2 : ∀ A n c, s2 = .slice A n c → ∀ b o, A = some ⟨b, o, none⟩ → b ≠ b2 ∧ b ≠ b3 := fun A n c e b o ea => by have := fz2 A n c e b o ea; omega
              replace hall := hall.trans (Below.mono hS hall.size)
              have gn2 : w.heap.size ≤ bn2 := Nat.le_trans hall8.size gn2
              have dn2 : b3 < bn2 := by omega
              clear hS fz2
              refine c_next ?_
              refine wp_seq ?_
              refine wp_region_lit ?_
              refine wl_v _ (r_row (cs := [.int .i64 N', s1]) (H.ev rfl) (block_range kn1) (by kernel_rfl) s24 rfl) ?_; refine kl H rfl fun a H => ?_
              refine wl_call _ _ _ (ack_any _ N' s1 J' rs1 (by omega)) (r_call1 cf14 (H.ev rfl)) ?_; rintro e w9 ⟨rfl, hb⟩; refine ⟨_, rfl, ?_⟩; rw [HA.out]; replace k2 := Block.ups k2 hb; replace k3 := Block.ups k3 hb; replace rs := Row.up rs hb; replace rt := Row.up rt hb; replace o11 := ROwn.up o11 hb; replace kn1 := Block.ups kn1 hb; replace rs1 := Row.up rs1 hb; replace ro1 := Row.up ro1 hb; replace kn2 := Block.ups kn2 hb; replace rs2 := Row.up rs2 hb; replace ro2 := Row.up ro2 hb; replace hall := hall.trans (hb.mono hall.size); clear hb; refine kl H rfl fun a H => ?_
              refine wl_v _ (r_move (H.ev rfl)) ?_; refine kl H rfl fun a H => ?_
              refine wl_v _ (r_extract (v := .int .i64 aB) (H.ev rfl) rfl) ?_; refine kl H rfl fun a H => ?_
              refine wl_v _ (r_extract (v := .int .i64 aS) (H.ev rfl) rfl) ?_; refine kl H rfl fun a H => ?_
              refine wl_v _ (r_assign (H.ev rfl)) ?_; refine kl H rfl fun a H => ?_
              refine wl_v _ (r_assign (H.ev rfl)) ?_; refine kl H rfl fun a H => ?_
              refine wpList_nil ?_
              refine c_next ?_
              refine wp_seq ?_
              refine wp_region_lit ?_
              refine wl_v _ (r_row (cs := [.int .i64 N', s2]) (H.ev rfl) (block_range kn2) (by kernel_rfl) s24 rfl) ?_; refine kl H rfl fun a H => ?_
              refine wl_call _ _ _ (rack_any _ N' s2 J' rs2 (by omega)) (r_call1 cf15 (H.ev rfl)) ?_; rintro e w9 ⟨rfl, hb⟩; refine ⟨_, rfl, ?_⟩; rw [HA.out]; replace k2 := Block.ups k2 hb; replace k3 := Block.ups k3 hb; replace rs := Row.up rs hb; replace rt := Row.up rt hb; replace o11 := ROwn.up o11 hb; replace kn1 := Block.ups kn1 hb; replace rs1 := Row.up rs1 hb; replace ro1 := Row.up ro1 hb; replace kn2 := Block.ups kn2 hb; replace rs2 := Row.up rs2 hb; replace ro2 := Row.up ro2 hb; replace hall := hall.trans (hb.mono hall.size); clear hb; refine kl H rfl fun a H => ?_
              refine wl_v _ (r_move (H.ev rfl)) ?_; refine kl H rfl fun a H => ?_
              refine wl_v _ (r_extract (v := .int .i64 aB) (H.ev rfl) rfl) ?_; refine kl H rfl fun a H => ?_
              refine wl_v _ (r_extract (v := .int .i64 aS) (H.ev rfl) rfl) ?_; refine kl H rfl fun a H => ?_
              refine wl_v _ (r_assign (H.ev rfl)) ?_; refine kl H rfl fun a H => ?_
              refine wl_v _ (r_assign (H.ev rfl)) ?_; refine kl H rfl fun a H => ?_
              refine wpList_nil ?_
              refine c_next ?_
              refine wp_seq ?_
              refine wp_seq ?_
              have hall14 := hall
              have hS : BelowOf (BelowTo hall14) _ := Below.drew (Below.refl _ (BelowTo hall14))
              refine region_pi (BelowOf (BelowTo hall14)) [(0, true), (2, true), (1, false), (3, false), (4, true), (5, true), (6, true), (7, true), (8, false), (9, true), (10, true), (11, true), (12, true), (13, true), (14, false), (15, true), (16, true), (17, true), (18, true), (19, true), (20, true), (21, true), (22, true), (23, true), (24, true), (25, true), (26, true), (27, true), (28, true), (29, true), (30, true), (31, true), (32, true), (33, false), (34, true), (35, true)] (by kernel_rfl) (by kernel_rfl) rfl (by kernel_rfl) hS ?_
              refine pi_f0 _ rfl (fun w' hS' => r_row (cs := [.int .i64 nn, .slice As J.length cs]) (H.ev rfl) (block_range (Block.ups k2 hS')) (by kernel_rfl) s24 rfl) ?_; refine kp H rfl fun a H => ?_
              refine pi_f0 _ rfl (fun w' hS' => r_row (cs := [.int .i64 nn, .slice At J.length ct]) (H.ev rfl) (block_range (Block.ups k3 hS')) (by kernel_rfl) s24 rfl) ?_; refine kp H rfl fun a H => ?_
              refine pi_a0 rfl (fun K hK => ?_); refine wpo_call _ _ _ (right_any _ nn _ J (Row.up rs hS) (by omega)) (r_call1 cf16 (H.ev rfl)) ?_; rintro e w9 ⟨rfl, hb⟩; refine ⟨_, rfl, ?_⟩; replace hS := BelowOf.step hS hb; clear hb; refine hK _ _ ⟨hS, ?_⟩; clear hK; clear K; refine kp H rfl fun a H => ?_
              refine pi_a0 rfl (fun K hK => ?_); refine wpo_call _ _ _ (rright_any _ nn _ J (Row.up rt hS) (by omega)) (r_call1 cf17 (H.ev rfl)) ?_; rintro e w9 ⟨rfl, hb⟩; refine ⟨_, rfl, ?_⟩; replace hS := BelowOf.step hS hb; clear hb; refine hK _ _ ⟨hS, ?_⟩; clear hK; clear K; refine kp H rfl fun a H => ?_
              refine pi_f0 (.bool false) rfl (fun w' hS' => r_bne Try.underlying4 (H.ev rfl) (H.ev rfl) (by simp)) ?_; refine kp H rfl fun a H => ?_
              refine pi_f0 _ rfl (fun w' hS' => r_move (H.ev rfl)) ?_; refine kp H rfl fun a H => ?_
              refine pi_f1 _ rfl rfl rfl (H.ev rfl) (fun w' hS' => r_row (cs := [.int .i64 N', s1]) (H.ev rfl) (block_range (Block.ups kn1 hS')) (by kernel_rfl) s24 rfl) ?_; refine kp H rfl fun a H => ?_
              refine pi_f1 _ rfl rfl rfl (H.ev rfl) (fun w' hS' => r_row (cs := [.int .i64 N', s2]) (H.ev rfl) (block_range (Block.ups kn2 hS')) (by kernel_rfl) s24 rfl) ?_; refine kp H rfl fun a H => ?_
              refine pi_a1 rfl rfl rfl (H.ev rfl) (fun K hK => ?_); refine wpo_call _ _ _ (rsame_any _ N' N' s1 s2 J' J' (Row.up rs1 hS) (Row.up rs2 hS) (by omega)) (r_call2 cf11 (H.ev rfl) (H.ev rfl)) ?_; rintro e w9 ⟨rfl, hb⟩; refine ⟨_, rfl, ?_⟩; rw [show sameB N' J' N' J' = true from same_refl]; replace hS := BelowOf.step hS hb; clear hb; refine hK _ _ ⟨hS, ?_⟩; clear hK; clear K; refine kp H rfl fun a H => ?_
              refine pi_f1 _ rfl rfl rfl (H.ev rfl) (fun w' hS' => r_not (H.ev rfl) rfl) ?_; refine kp H rfl fun a H => ?_
              refine pi_f0 _ rfl (fun w' hS' => r_pick_f (H.ev rfl) (H.ev rfl)) ?_; refine kp H rfl fun a H => ?_
              refine pi_f0 _ rfl (fun w' hS' => r_move (H.ev rfl)) ?_; refine kp H rfl fun a H => ?_
              refine pi_f1 _ rfl rfl rfl (H.ev rfl) (fun w' hS' => r_move (H.ev rfl)) ?_; refine kp H rfl fun a H => ?_
              refine pi_f1 _ rfl rfl rfl (H.ev rfl) (fun w' hS' => r_move (H.ev rfl)) ?_; refine kp H rfl fun a H => ?_
              refine pi_a1 rfl rfl rfl (H.ev rfl) (fun K hK => ?_); refine wpo_call _ _ _ (notes_any _ _ _ NS NS (Row.up ro1 hS) (Row.up ro2 hS) (by omega)) (r_call2 cf18 (H.ev rfl) (H.ev rfl)) ?_; rintro e w9 ⟨rfl, hb⟩; refine ⟨_, rfl, ?_⟩; rw [decide_eq_true (rfl : NS = NS)]; replace hS := BelowOf.step hS hb; clear hb; refine hK _ _ ⟨hS, ?_⟩; clear hK; clear K; refine kp H rfl fun a H => ?_
              refine pi_f1 _ rfl rfl rfl (H.ev rfl) (fun w' hS' => r_not (H.ev rfl) rfl) ?_; refine kp H rfl fun a H => ?_
              refine pi_f0 _ rfl (fun w' hS' => r_pick_f (H.ev rfl) (H.ev rfl)) ?_; refine kp H rfl fun a H => ?_
              refine pi_f0 _ rfl (fun w' hS' => r_move (H.ev rfl)) ?_; refine kp H rfl fun a H => ?_
              refine pi_f1 _ rfl rfl rfl (H.ev rfl) (fun w' hS' => r_move (H.ev rfl)) ?_; refine kp H rfl fun a H => ?_
              refine pi_f1 _ rfl rfl rfl (H.ev rfl) (fun w' hS' => r_move (H.ev rfl)) ?_; refine kp H rfl fun a H => ?_
              refine pi_f1 _ rfl rfl rfl (H.ev rfl) (fun w' hS' => r_ne Try.underlying3 (H.ev rfl) (H.ev rfl) (dec_f (by omega))) ?_; refine kp H rfl fun a H => ?_
              refine pi_f0 _ rfl (fun w' hS' => r_pick_f (H.ev rfl) (H.ev rfl)) ?_; refine kp H rfl fun a H => ?_
              refine pi_f0 _ rfl (fun w' hS' => r_move (H.ev rfl)) ?_; refine kp H rfl fun a H => ?_
              refine pi_f1 _ rfl rfl rfl (H.ev rfl) (fun w' hS' => r_move (H.ev rfl)) ?_; refine kp H rfl fun a H => ?_
              refine pi_f1 _ rfl rfl rfl (H.ev rfl) (fun w' hS' => r_move (H.ev rfl)) ?_; refine kp H rfl fun a H => ?_
              refine pi_f1 _ rfl rfl rfl (H.ev rfl) (fun w' hS' => r_ne Try.underlying3 (H.ev rfl) (H.ev rfl) (dec_f (by omega))) ?_; refine kp H rfl fun a H => ?_
              refine pi_f0 _ rfl (fun w' hS' => r_pick_f (H.ev rfl) (H.ev rfl)) ?_; refine kp H rfl fun a H => ?_
              refine pi_f0 _ rfl (fun w' hS' => r_move (H.ev rfl)) ?_; refine kp H rfl fun a H => ?_
              refine pi_f1 _ rfl rfl rfl (H.ev rfl) (fun w' hS' => r_fld (q := 0) fld24_0 (H.ev rfl) rfl) ?_; refine kp H rfl fun a H => ?_
              refine pi_f1 _ rfl rfl rfl (H.ev rfl) (fun w' hS' => r_ld Try.underlying3 rfl (H.ev rfl) ((Block.cell (Block.ups k2 hS') 0).trans rfl)) ?_; refine kp H rfl fun a H => ?_
              refine pi_f1 _ rfl rfl rfl (H.ev rfl) (fun w' hS' => r_move (H.ev rfl)) ?_; refine kp H rfl fun a H => ?_
              refine pi_f1 _ rfl rfl rfl (H.ev rfl) (fun w' hS' => r_build #[(0, .int .i64 nn), (1, .slice A11 J.length c11)] (.agg #[.int .i64 nn, .slice A11 J.length c11]) (by simp [evc, H.ev (j := 132) rfl, H.ev (j := 133) rfl]) (fun w => by kernel_rfl)) ?_; refine kp H rfl fun a H => ?_
              refine pi_f1 _ rfl rfl rfl (H.ev rfl) (fun w' hS' => r_row (cs := [.int .i64 nn, .slice As J.length cs]) (H.ev rfl) (block_range (Block.ups k2 hS')) (by kernel_rfl) s24 rfl) ?_; refine kp H rfl fun a H => ?_
              refine pi_a1 rfl rfl rfl (H.ev rfl) (fun K hK => ?_); refine wpo_call _ _ _ (rsame_any _ nn nn _ _ J J (Row.up (IOwn.row o11) hS) (Row.up rs hS) (by omega)) (r_call2 cf11 (H.ev rfl) (H.ev rfl)) ?_; rintro e w9 ⟨rfl, hb⟩; refine ⟨_, rfl, ?_⟩; rw [show sameB nn J nn J = true from same_refl]; replace hS := BelowOf.step hS hb; clear hb; refine hK _ _ ⟨hS, ?_⟩; clear hK; clear K; refine kp H rfl fun a H => ?_
              refine pi_f1 _ rfl rfl rfl (H.ev rfl) (fun w' hS' => r_not (H.ev rfl) rfl) ?_; refine kp H rfl fun a H => ?_
              refine pi_f0 _ rfl (fun w' hS' => r_pick_f (H.ev rfl) (H.ev rfl)) ?_; refine kp H rfl fun a H => ?_
              refine pi_nil (NoPanic.normal ?_)
              replace k2 := Block.ups k2 hS
              replace k3 := Block.ups k3 hS
              replace rs := Row.up rs hS
              replace rt := Row.up rt hS
              replace o11 := ROwn.up o11 hS
              replace kn1 := Block.ups kn1 hS
              replace rs1 := Row.up rs1 hS
              replace ro1 := Row.up ro1 hS
              replace kn2 := Block.ups kn2 hS
              replace rs2 := Row.up rs2 hS
              replace ro2 := Row.up ro2 hS
              replace hall := hall.trans (Below.mono hS hall.size)
              clear hS
              refine c_next ?_
              refine c_cond_f H rfl ?_
              refine wp_skip ?_
              refine c_next ?_
              refine wp_seq ?_
              clear rs rt o11 ro1 ro2
              refine wp_region_lit ?_
              refine wl_v _ (r_row (cs := [.int .i64 N', s1]) (H.ev rfl) (block_range kn1) (by kernel_rfl) s24 rfl) ?_; refine kl H rfl fun a H => ?_
              refine op_store1 24 (.tmp 8) (.tmp 139) b2 0 24 (.agg #[.int .i64 N', s1]) _ (H.ev rfl) (H.ev rfl) k2 s24 (by simp [Value.cells]) (recv_one rs1) fun w' hb ho kq => ?_; clear k2; have k2 : Block _ b2 24 #[.int .i64 N', s1] := kq; clear kq; replace k3 := block_same k3 (ho _ (by omega)); replace kn1 := block_same kn1 (ho _ (by omega)); replace rs1 := row_far rs1 (fun A n c e b o ea => (hz1 A n c e b o ea).1) (fun g e => ho g e); replace kn2 := block_same kn2 (ho _ (by omega)); replace rs2 := row_far rs2 (fun A n c e b o ea => (hz2 A n c e b o ea).1) (fun g e => ho g e); replace hall := hall.trans (hb _ g2); clear hb ho; refine kl0 H fun a H => ?_
              refine wpList_nil ?_
              refine c_next ?_
              refine wp_region_lit ?_
              refine wl_v _ (r_row (cs := [.int .i64 N', s2]) (H.ev rfl) (block_range kn2) (by kernel_rfl) s24 rfl) ?_; refine kl H rfl fun a H => ?_
              refine op_store1 24 (.tmp 9) (.tmp 140) b3 0 24 (.agg #[.int .i64 N', s2]) _ (H.ev rfl) (H.ev rfl) k3 s24 (by simp [Value.cells]) (recv_one rs2) fun w' hb ho kq => ?_; clear k3; have k3 : Block _ b3 24 #[.int .i64 N', s2] := kq; clear kq; replace k2 := block_same k2 (ho _ (by omega)); replace kn1 := block_same kn1 (ho _ (by omega)); replace rs1 := row_far rs1 (fun A n c e b o ea => (hz1 A n c e b o ea).2) (fun g e => ho g e); replace kn2 := block_same kn2 (ho _ (by omega)); replace rs2 := row_far rs2 (fun A n c e b o ea => (hz2 A n c e b o ea).2) (fun g e => ho g e); replace hall := hall.trans (hb _ g3); clear hb ho; refine kl0 H fun a H => ?_
              refine wpList_nil ?_
              refine n_block ?_
              refine c_next ?_
              refine wp_region_lit ?_
              refine wl_v _ (r_move (H.ev rfl)) ?_; refine kl H rfl fun a H => ?_
              refine wl_v _ (r_add (q := ((k + 1 : Nat) : Int)) Try.underlying3 (H.ev rfl) evc (by omega) (by omega)) ?_; refine kl H rfl fun a H => ?_
              refine wl_v _ (r_assign (H.ev rfl)) ?_; refine kl H rfl fun a H => ?_
              refine wpList_nil ?_
              obtain ⟨B1, d1, rfl, -, -, -, -⟩ := id rs1
              obtain ⟨B2, d2, rfl, -, -, -, -⟩ := id rs2
              refine n_then ⟨⟨k + 1, N', B1, d1, B2, d2, J', H.pick [1, 7, 8, 9, 10], by omega, by omega, by omega, k2, k3, rs1, rs2, hall⟩, ?_⟩
              rw [H.ev (j := 10) rfl, H0.ev (j := 10) rfl]
              simp only [intOf]
              omega
            · skip
              refine st_a0 rfl ?_; refine wpo_alloc 24 #[.int .i64 0, .slice none 0 0] z24 fun w1 bn2 hge hb kn2 => ?_; have gn2 := Nat.le_trans (BelowOf.size hS) hge; have hAl := hb; have gAl := hge; replace hS := BelowOf.step hS hb; clear hge hb; refine hK _ _ ⟨(fun _ => hS), ?_⟩; clear hK; clear K; refine kt H rfl fun a H => ?_
              refine pt_one (fun K hK => ?_)
              refine st_a0 rfl ?_; refine wpo_call _ _ _ (rtake_any _ nn _ J x (Row.up rt hS) (by omega) hxx.1 hxx.2) (r_call2 cf13 (H.ev rfl) (H.ev rfl)) ?_; rintro e w9 ⟨⟨s2, o2, rfl, ⟨rs2, fs2⟩, ⟨ro2, fo2⟩⟩, hb⟩; refine ⟨_, rfl, ?_⟩; rw [HT.out] at rs2 ro2 ⊢; have fz2 : Fresh (BelowTo hall8).heap.size s2 := fresh_le fs2 (BelowOf.size hS); (try have hl9 := kn2.lt); (try replace kn2 := Block.ups kn2 hb); obtain ⟨Ao2, co2, hov, u1, u2, u3, u4⟩ := ro2; have ro2 : NRow _ (.slice Ao2 NS.length co2) NS := ⟨Ao2, co2, rfl, u1, u2, u3, u4⟩; subst hov; clear u1 u2 u3 u4; (try have hne9 : ∀ A n c, s2 = .slice A n c → ∀ b o, A = some ⟨b, o, none⟩ → b ≠ bn2 := (fun A n c e b o ea => by have := fs2 A n c e b o ea; omega)); (try have hno9 : ∀ A n c, Value.slice Ao2 NS.length co2 = .slice A n c → ∀ b o, A = some ⟨b, o, none⟩ → b ≠ bn2 := (fun A n c e b o ea => by have := fo2 A n c e b o ea; omega)); clear fs2 fo2; replace hS := BelowOf.step hS hb; clear hb; refine hK _ _ ⟨(fun _ => hS), ?_⟩; clear hK; clear K; refine kt H rfl fun a H => ?_
              refine pt_f0 _ rfl (fun w' hS' => r_move (H.ev rfl)) ?_; refine kt H rfl fun a H => ?_
              refine pt_f0 _ rfl (fun w' hS' => r_extract (v := .agg #[.int .i64 N', s2]) (H.ev rfl) rfl) ?_; refine kt H rfl fun a H => ?_
              refine pt_f0 _ rfl (fun w' hS' => r_extract (v := .slice Ao2 NS.length co2) (H.ev rfl) rfl) ?_; refine kt H rfl fun a H => ?_
              refine pt_one (fun K hK => ?_)
              refine st_a0 rfl ?_; refine wpo_store1 24 (.tmp 14) (.tmp 91) bn2 0 24 (.agg #[.int .i64 N', s2]) _ (H.ev rfl) (H.ev rfl) kn2 s24 (by simp [Value.cells]) (by obtain ⟨A, c, rfl, _⟩ := rs2; simp [Value.cells, Value.oneCell']) fun w8 hb8 ho8 kq => ?_; clear kn2; have kn2 : Block w8 bn2 24 #[.int .i64 N', s2] := kq; clear kq; (first | (replace rs2 := row_far rs2 hne9 ho8; replace ro2 := row_farN ro2 hno9 ho8; clear hne9 hno9) | (replace rs2 := Row.up rs2 (hAl.trans (hb8 _ gAl)); replace ro2 := Row.up ro2 (hAl.trans (hb8 _ gAl)))); replace hS := BelowOf.step2 hS (hb8 _ gn2); clear hb8 ho8 hAl gAl; refine hK _ _ ⟨(fun _ => hS), ?_⟩; clear hK; clear K; skip
              refine pt_f0 _ rfl (fun w' hS' => r_assign (H.ev rfl)) ?_; refine kt H rfl fun a H => ?_
              refine pt_done (NoPanic.normal ?_)
              replace k2 := Block.ups k2 hS
              replace k3 := Block.ups k3 hS
              replace rs := Row.up rs hS
              replace rt := Row.up rt hS
              replace o11 := ROwn.up o11 hS
              replace kn1 := Block.ups kn1 hS
              replace rs1 := Row.up rs1 hS
              replace ro1 := Row.up ro1 hS
              have hz2 : ∀ A n c, s2 = .slice A n c → ∀ b o, A = some ⟨b, o, none⟩ → b ≠ b2 ∧ b ≠ b3 := fun A n c e b o ea => by have := fz2 A n c e b o ea; omega
              replace hall := hall.trans (Below.mono hS hall.size)
              have gn2 : w.heap.size ≤ bn2 := Nat.le_trans hall8.size gn2
              have dn2 : b3 < bn2 := by omega
              clear hS fz2
              refine c_next ?_
              refine wp_seq ?_
              refine wp_region_lit ?_
              refine wl_v _ (r_row (cs := [.int .i64 N', s1]) (H.ev rfl) (block_range kn1) (by kernel_rfl) s24 rfl) ?_; refine kl H rfl fun a H => ?_
              refine wl_call _ _ _ (ack_any _ N' s1 J' rs1 (by omega)) (r_call1 cf14 (H.ev rfl)) ?_; rintro e w9 ⟨rfl, hb⟩; refine ⟨_, rfl, ?_⟩; rw [HA.out]; replace k2 := Block.ups k2 hb; replace k3 := Block.ups k3 hb; replace rs := Row.up rs hb; replace rt := Row.up rt hb; replace o11 := ROwn.up o11 hb; replace kn1 := Block.ups kn1 hb; replace rs1 := Row.up rs1 hb; replace ro1 := Row.up ro1 hb; replace kn2 := Block.ups kn2 hb; replace rs2 := Row.up rs2 hb; replace ro2 := Row.up ro2 hb; replace hall := hall.trans (hb.mono hall.size); clear hb; refine kl H rfl fun a H => ?_
              refine wl_v _ (r_move (H.ev rfl)) ?_; refine kl H rfl fun a H => ?_
              refine wl_v _ (r_extract (v := .int .i64 aB) (H.ev rfl) rfl) ?_; refine kl H rfl fun a H => ?_
              refine wl_v _ (r_extract (v := .int .i64 aS) (H.ev rfl) rfl) ?_; refine kl H rfl fun a H => ?_
              refine wl_v _ (r_assign (H.ev rfl)) ?_; refine kl H rfl fun a H => ?_
              refine wl_v _ (r_assign (H.ev rfl)) ?_; refine kl H rfl fun a H => ?_
              refine wpList_nil ?_
              refine c_next ?_
              refine wp_seq ?_
              refine wp_region_lit ?_
              refine wl_v _ (r_row (cs := [.int .i64 N', s2]) (H.ev rfl) (block_range kn2) (by kernel_rfl) s24 rfl) ?_; refine kl H rfl fun a H => ?_
              refine wl_call _ _ _ (rack_any _ N' s2 J' rs2 (by omega)) (r_call1 cf15 (H.ev rfl)) ?_; rintro e w9 ⟨rfl, hb⟩; refine ⟨_, rfl, ?_⟩; rw [HA.out]; replace k2 := Block.ups k2 hb; replace k3 := Block.ups k3 hb; replace rs := Row.up rs hb; replace rt := Row.up rt hb; replace o11 := ROwn.up o11 hb; replace kn1 := Block.ups kn1 hb; replace rs1 := Row.up rs1 hb; replace ro1 := Row.up ro1 hb; replace kn2 := Block.ups kn2 hb; replace rs2 := Row.up rs2 hb; replace ro2 := Row.up ro2 hb; replace hall := hall.trans (hb.mono hall.size); clear hb; refine kl H rfl fun a H => ?_
              refine wl_v _ (r_move (H.ev rfl)) ?_; refine kl H rfl fun a H => ?_
              refine wl_v _ (r_extract (v := .int .i64 aB) (H.ev rfl) rfl) ?_; refine kl H rfl fun a H => ?_
              refine wl_v _ (r_extract (v := .int .i64 aS) (H.ev rfl) rfl) ?_; refine kl H rfl fun a H => ?_
              refine wl_v _ (r_assign (H.ev rfl)) ?_; refine kl H rfl fun a H => ?_
              refine wl_v _ (r_assign (H.ev rfl)) ?_; refine kl H rfl fun a H => ?_
              refine wpList_nil ?_
              refine c_next ?_
              refine wp_seq ?_
              refine wp_seq ?_
              have hall14 := hall
              have hS : BelowOf (BelowTo hall14) _ := Below.drew (Below.refl _ (BelowTo hall14))
              refine region_pi (BelowOf (BelowTo hall14)) [(0, true), (2, true), (1, false), (3, false), (4, true), (5, true), (6, true), (7, true), (8, false), (9, true), (10, true), (11, true), (12, true), (13, true), (14, false), (15, true), (16, true), (17, true), (18, true), (19, true), (20, true), (21, true), (22, true), (23, true), (24, true), (25, true), (26, true), (27, true), (28, true), (29, true), (30, true), (31, true), (32, true), (33, false), (34, true), (35, true)] (by kernel_rfl) (by kernel_rfl) rfl (by kernel_rfl) hS ?_
              refine pi_f0 _ rfl (fun w' hS' => r_row (cs := [.int .i64 nn, .slice As J.length cs]) (H.ev rfl) (block_range (Block.ups k2 hS')) (by kernel_rfl) s24 rfl) ?_; refine kp H rfl fun a H => ?_
              refine pi_f0 _ rfl (fun w' hS' => r_row (cs := [.int .i64 nn, .slice At J.length ct]) (H.ev rfl) (block_range (Block.ups k3 hS')) (by kernel_rfl) s24 rfl) ?_; refine kp H rfl fun a H => ?_
              refine pi_a0 rfl (fun K hK => ?_); refine wpo_call _ _ _ (right_any _ nn _ J (Row.up rs hS) (by omega)) (r_call1 cf16 (H.ev rfl)) ?_; rintro e w9 ⟨rfl, hb⟩; refine ⟨_, rfl, ?_⟩; replace hS := BelowOf.step hS hb; clear hb; refine hK _ _ ⟨hS, ?_⟩; clear hK; clear K; refine kp H rfl fun a H => ?_
              refine pi_a0 rfl (fun K hK => ?_); refine wpo_call _ _ _ (rright_any _ nn _ J (Row.up rt hS) (by omega)) (r_call1 cf17 (H.ev rfl)) ?_; rintro e w9 ⟨rfl, hb⟩; refine ⟨_, rfl, ?_⟩; replace hS := BelowOf.step hS hb; clear hb; refine hK _ _ ⟨hS, ?_⟩; clear hK; clear K; refine kp H rfl fun a H => ?_
              refine pi_f0 (.bool false) rfl (fun w' hS' => r_bne Try.underlying4 (H.ev rfl) (H.ev rfl) (by simp)) ?_; refine kp H rfl fun a H => ?_
              refine pi_f0 _ rfl (fun w' hS' => r_move (H.ev rfl)) ?_; refine kp H rfl fun a H => ?_
              refine pi_f1 _ rfl rfl rfl (H.ev rfl) (fun w' hS' => r_row (cs := [.int .i64 N', s1]) (H.ev rfl) (block_range (Block.ups kn1 hS')) (by kernel_rfl) s24 rfl) ?_; refine kp H rfl fun a H => ?_
              refine pi_f1 _ rfl rfl rfl (H.ev rfl) (fun w' hS' => r_row (cs := [.int .i64 N', s2]) (H.ev rfl) (block_range (Block.ups kn2 hS')) (by kernel_rfl) s24 rfl) ?_; refine kp H rfl fun a H => ?_
              refine pi_a1 rfl rfl rfl (H.ev rfl) (fun K hK => ?_); refine wpo_call _ _ _ (rsame_any _ N' N' s1 s2 J' J' (Row.up rs1 hS) (Row.up rs2 hS) (by omega)) (r_call2 cf11 (H.ev rfl) (H.ev rfl)) ?_; rintro e w9 ⟨rfl, hb⟩; refine ⟨_, rfl, ?_⟩; rw [show sameB N' J' N' J' = true from same_refl]; replace hS := BelowOf.step hS hb; clear hb; refine hK _ _ ⟨hS, ?_⟩; clear hK; clear K; refine kp H rfl fun a H => ?_
              refine pi_f1 _ rfl rfl rfl (H.ev rfl) (fun w' hS' => r_not (H.ev rfl) rfl) ?_; refine kp H rfl fun a H => ?_
              refine pi_f0 _ rfl (fun w' hS' => r_pick_f (H.ev rfl) (H.ev rfl)) ?_; refine kp H rfl fun a H => ?_
              refine pi_f0 _ rfl (fun w' hS' => r_move (H.ev rfl)) ?_; refine kp H rfl fun a H => ?_
              refine pi_f1 _ rfl rfl rfl (H.ev rfl) (fun w' hS' => r_move (H.ev rfl)) ?_; refine kp H rfl fun a H => ?_
              refine pi_f1 _ rfl rfl rfl (H.ev rfl) (fun w' hS' => r_move (H.ev rfl)) ?_; refine kp H rfl fun a H => ?_
              refine pi_a1 rfl rfl rfl (H.ev rfl) (fun K hK => ?_); refine wpo_call _ _ _ (notes_any _ _ _ NS NS (Row.up ro1 hS) (Row.up ro2 hS) (by omega)) (r_call2 cf18 (H.ev rfl) (H.ev rfl)) ?_; rintro e w9 ⟨rfl, hb⟩; refine ⟨_, rfl, ?_⟩; rw [decide_eq_true (rfl : NS = NS)]; replace hS := BelowOf.step hS hb; clear hb; refine hK _ _ ⟨hS, ?_⟩; clear hK; clear K; refine kp H rfl fun a H => ?_
              refine pi_f1 _ rfl rfl rfl (H.ev rfl) (fun w' hS' => r_not (H.ev rfl) rfl) ?_; refine kp H rfl fun a H => ?_
              refine pi_f0 _ rfl (fun w' hS' => r_pick_f (H.ev rfl) (H.ev rfl)) ?_; refine kp H rfl fun a H => ?_
              refine pi_f0 _ rfl (fun w' hS' => r_move (H.ev rfl)) ?_; refine kp H rfl fun a H => ?_
              refine pi_f1 _ rfl rfl rfl (H.ev rfl) (fun w' hS' => r_move (H.ev rfl)) ?_; refine kp H rfl fun a H => ?_
              refine pi_f1 _ rfl rfl rfl (H.ev rfl) (fun w' hS' => r_move (H.ev rfl)) ?_; refine kp H rfl fun a H => ?_
              refine pi_f1 _ rfl rfl rfl (H.ev rfl) (fun w' hS' => r_ne Try.underlying3 (H.ev rfl) (H.ev rfl) (dec_f (by omega))) ?_; refine kp H rfl fun a H => ?_
              refine pi_f0 _ rfl (fun w' hS' => r_pick_f (H.ev rfl) (H.ev rfl)) ?_; refine kp H rfl fun a H => ?_
              refine pi_f0 _ rfl (fun w' hS' => r_move (H.ev rfl)) ?_; refine kp H rfl fun a H => ?_
              refine pi_f1 _ rfl rfl rfl (H.ev rfl) (fun w' hS' => r_move (H.ev rfl)) ?_; refine kp H rfl fun a H => ?_
              refine pi_f1 _ rfl rfl rfl (H.ev rfl) (fun w' hS' => r_move (H.ev rfl)) ?_; refine kp H rfl fun a H => ?_
              refine pi_f1 _ rfl rfl rfl (H.ev rfl) (fun w' hS' => r_ne Try.underlying3 (H.ev rfl) (H.ev rfl) (dec_f (by omega))) ?_; refine kp H rfl fun a H => ?_
              refine pi_f0 _ rfl (fun w' hS' => r_pick_f (H.ev rfl) (H.ev rfl)) ?_; refine kp H rfl fun a H => ?_
              refine pi_f0 _ rfl (fun w' hS' => r_move (H.ev rfl)) ?_; refine kp H rfl fun a H => ?_
              refine pi_f1 _ rfl rfl rfl (H.ev rfl) (fun w' hS' => r_fld (q := 0) fld24_0 (H.ev rfl) rfl) ?_; refine kp H rfl fun a H => ?_
              refine pi_f1 _ rfl rfl rfl (H.ev rfl) (fun w' hS' => r_ld Try.underlying3 rfl (H.ev rfl) ((Block.cell (Block.ups k2 hS') 0).trans rfl)) ?_; refine kp H rfl fun a H => ?_
              refine pi_f1 _ rfl rfl rfl (H.ev rfl) (fun w' hS' => r_move (H.ev rfl)) ?_; refine kp H rfl fun a H => ?_
              refine pi_f1 _ rfl rfl rfl (H.ev rfl) (fun w' hS' => r_build #[(0, .int .i64 nn), (1, .slice A11 J.length c11)] (.agg #[.int .i64 nn, .slice A11 J.length c11]) (by simp [evc, H.ev (j := 132) rfl, H.ev (j := 133) rfl]) (fun w => by kernel_rfl)) ?_; refine kp H rfl fun a H => ?_
              refine pi_f1 _ rfl rfl rfl (H.ev rfl) (fun w' hS' => r_row (cs := [.int .i64 nn, .slice As J.length cs]) (H.ev rfl) (block_range (Block.ups k2 hS')) (by kernel_rfl) s24 rfl) ?_; refine kp H rfl fun a H => ?_
              refine pi_a1 rfl rfl rfl (H.ev rfl) (fun K hK => ?_); refine wpo_call _ _ _ (rsame_any _ nn nn _ _ J J (Row.up (IOwn.row o11) hS) (Row.up rs hS) (by omega)) (r_call2 cf11 (H.ev rfl) (H.ev rfl)) ?_; rintro e w9 ⟨rfl, hb⟩; refine ⟨_, rfl, ?_⟩; rw [show sameB nn J nn J = true from same_refl]; replace hS := BelowOf.step hS hb; clear hb; refine hK _ _ ⟨hS, ?_⟩; clear hK; clear K; refine kp H rfl fun a H => ?_
              refine pi_f1 _ rfl rfl rfl (H.ev rfl) (fun w' hS' => r_not (H.ev rfl) rfl) ?_; refine kp H rfl fun a H => ?_
              refine pi_f0 _ rfl (fun w' hS' => r_pick_f (H.ev rfl) (H.ev rfl)) ?_; refine kp H rfl fun a H => ?_
              refine pi_nil (NoPanic.normal ?_)
              replace k2 := Block.ups k2 hS
              replace k3 := Block.ups k3 hS
              replace rs := Row.up rs hS
              replace rt := Row.up rt hS
              replace o11 := ROwn.up o11 hS
              replace kn1 := Block.ups kn1 hS
              replace rs1 := Row.up rs1 hS
              replace ro1 := Row.up ro1 hS
              replace kn2 := Block.ups kn2 hS
              replace rs2 := Row.up rs2 hS
              replace ro2 := Row.up ro2 hS
              replace hall := hall.trans (Below.mono hS hall.size)
              clear hS
              refine c_next ?_
              refine c_cond_f H rfl ?_
              refine wp_skip ?_
              refine c_next ?_
              refine wp_seq ?_
              clear rs rt o11 ro1 ro2
              refine wp_region_lit ?_
              refine wl_v _ (r_row (cs := [.int .i64 N', s1]) (H.ev rfl) (block_range kn1) (by kernel_rfl) s24 rfl) ?_; refine kl H rfl fun a H => ?_
              refine op_store1 24 (.tmp 8) (.tmp 139) b2 0 24 (.agg #[.int .i64 N', s1]) _ (H.ev rfl) (H.ev rfl) k2 s24 (by simp [Value.cells]) (recv_one rs1) fun w' hb ho kq => ?_; clear k2; have k2 : Block _ b2 24 #[.int .i64 N', s1] := kq; clear kq; replace k3 := block_same k3 (ho _ (by omega)); replace kn1 := block_same kn1 (ho _ (by omega)); replace rs1 := row_far rs1 (fun A n c e b o ea => (hz1 A n c e b o ea).1) (fun g e => ho g e); replace kn2 := block_same kn2 (ho _ (by omega)); replace rs2 := row_far rs2 (fun A n c e b o ea => (hz2 A n c e b o ea).1) (fun g e => ho g e); replace hall := hall.trans (hb _ g2); clear hb ho; refine kl0 H fun a H => ?_
              refine wpList_nil ?_
              refine c_next ?_
              refine wp_region_lit ?_
              refine wl_v _ (r_row (cs := [.int .i64 N', s2]) (H.ev rfl) (block_range kn2) (by kernel_rfl) s24 rfl) ?_; refine kl H rfl fun a H => ?_
              refine op_store1 24 (.tmp 9) (.tmp 140) b3 0 24 (.agg #[.int .i64 N', s2]) _ (H.ev rfl) (H.ev rfl) k3 s24 (by simp [Value.cells]) (recv_one rs2) fun w' hb ho kq => ?_; clear k3; have k3 : Block _ b3 24 #[.int .i64 N', s2] := kq; clear kq; replace k2 := block_same k2 (ho _ (by omega)); replace kn1 := block_same kn1 (ho _ (by omega)); replace rs1 := row_far rs1 (fun A n c e b o ea => (hz1 A n c e b o ea).2) (fun g e => ho g e); replace kn2 := block_same kn2 (ho _ (by omega)); replace rs2 := row_far rs2 (fun A n c e b o ea => (hz2 A n c e b o ea).2) (fun g e => ho g e); replace hall := hall.trans (hb _ g3); clear hb ho; refine kl0 H fun a H => ?_
              refine wpList_nil ?_
              refine n_block ?_
              refine c_next ?_
              refine wp_region_lit ?_
              refine wl_v _ (r_move (H.ev rfl)) ?_; refine kl H rfl fun a H => ?_
              refine wl_v _ (r_add (q := ((k + 1 : Nat) : Int)) Try.underlying3 (H.ev rfl) evc (by omega) (by omega)) ?_; refine kl H rfl fun a H => ?_
              refine wl_v _ (r_assign (H.ev rfl)) ?_; refine kl H rfl fun a H => ?_
              refine wpList_nil ?_
              obtain ⟨B1, d1, rfl, -, -, -, -⟩ := id rs1
              obtain ⟨B2, d2, rfl, -, -, -, -⟩ := id rs2
              refine n_then ⟨⟨k + 1, N', B1, d1, B2, d2, J', H.pick [1, 7, 8, 9, 10], by omega, by omega, by omega, k2, k3, rs1, rs2, hall⟩, ?_⟩
              rw [H.ev (j := 10) rfl, H0.ev (j := 10) rfl]
              simp only [intOf]
              omega
        · skip
          refine wp_seq ?_
          refine wp_seq ?_
          refine wp_region_lit ?_
          refine wl_v _ (r_move (H.ev rfl)) ?_; refine kl H rfl fun a H => ?_
          refine wl_v _ (r_move (H.ev rfl)) ?_; refine kl H rfl fun a H => ?_
          refine wl_v _ (r_len Try.underlying22 (H.ev rfl)) ?_; refine kl H rfl fun a H => ?_
          refine wl_v _ (r_lt Try.underlying3 (H.ev rfl) (H.ev rfl) (dec_f (by omega))) ?_; refine kl H rfl fun a H => ?_
          refine wpList_nil ?_
          refine c_next ?_
          refine c_cond_f H rfl ?_
          refine wp_exit ?_
          refine e_then ?_
          refine e_then ?_
          refine e_here ?_
          refine c_next ?_
          refine wp_seq ?_
          refine wp_region_lit ?_
          refine wl_v _ (r_move (H.ev rfl)) ?_; refine kl H rfl fun a H => ?_
          refine wl_v _ (r_assign (H.ev rfl)) ?_; refine kl H rfl fun a H => ?_
          refine wpList_nil ?_
          refine c_next ?_
          refine wp_ret ?_
          exact k_ret1 H rfl rfl ⟨rfl, hall⟩
theorem items_wf : ∀ (X : List It), WF (flat encI X) → ∀ y ∈ X, -9223372036854775808 ≤ y.1 ∧ y.1 ≤ 9223372036854775807
  | [], _, y, hy => by cases hy
  | z :: X, h, y, hy => by
    rcases List.mem_cons.1 hy with rfl | hy
    · exact wf_int (h y.1 (by simp [flat]))
    · exact items_wf X (fun q hq => h q (by simp only [flat, List.flatMap_cons, List.mem_append] at hq ⊢; exact .inr hq)) y hy
theorem tells_all (w : World) (m0 : Int) (A0 : Option Addr) (n0 c0 : Nat) (L0 : List Int) (m1 : Int) (A1 : Option Addr) (n1 c1 : Nat) (L1 : List Int) (m2 : Int) (A2 : Option Addr) (n2 c2 : Nat) (L2 : List Int) (hn0 : L0.length = n0 * 5) (hnc0 : n0 ≤ c0) (hcm0 : c0 ≤ maxLen) (hh0 : Holds w A0 (L0.map (Value.int .i64))) (hz0 : A0 = none → c0 = 0) (hn1 : L1.length = n1 * 5) (hnc1 : n1 ≤ c1) (hcm1 : c1 ≤ maxLen) (hh1 : Holds w A1 (L1.map (Value.int .i64))) (hz1 : A1 = none → c1 = 0) (hn2 : L2.length = n2 * 5) (hnc2 : n2 ≤ c2) (hcm2 : c2 ≤ maxLen) (hh2 : Holds w A2 (L2.map (Value.int .i64))) (hz2 : A2 = none → c2 = 0) (hw1 : WF L1) (hb0 : n0 ≤ 9223372036854775807) (hb1 : n1 ≤ 9223372036854775807) (hb2 : n2 ≤ 9223372036854775807) :
    Calls Try.prog 3 #[.agg #[.int .i64 m0, .slice A0 n0 c0], .slice A1 n1 c1, .agg #[.int .i64 m2, .slice A2 n2 c2]] w fun e w' => e = .returned (.bool true) ∧ Below w.heap.size w w' := by
  obtain ⟨L, h, rfl, _⟩ := irow_in hn0 hnc0 hcm0 hh0 hz0
  obtain ⟨X, hx, rfl, hX⟩ := irow_in hn1 hnc1 hcm1 hh1 hz1
  obtain ⟨M, hu, rfl, _⟩ := irow_in hn2 hnc2 hcm2 hh2 hz2
  exact tells_walk w m0 m2 _ _ _ L M X h hu hx hb0 hb2 hb1 (items_wf X (by rw [hX]; exact hw1))
theorem recvTells_it1 : intTy Try.prog 3 33 = true := by kernel_rfl
theorem recvTells_c1 : Try.prog.cellsOf 33 = 5 := by kernel_rfl
set_option maxRecDepth 100000 in
theorem recvTells_lifted (os : Os) (started : os.Started) (H : Type) (enc : TypeId × Value → H) :
    ReturnsInHanded {} Try.checked os 3 .any (Rows.recvTellsSpec.pre6 enc Try.prog Try.f3 Rows.recvTellsRow.domain false) (Rows.recvTellsSpec.post enc Try.prog Try.f3 false true false false) := by
  refine returnsInHanded_of_change (C := Try.checked) own started (by kernel_rfl) Try.func3
    (ChangeSpec.witness6 (enc := enc) (C := Try.checked) false ⟨#[], #[.agg #[.int .i64 0, .slice none 0 0], .slice none 0 0, .agg #[.int .i64 0, .slice none 0 0]], []⟩ 8 (by kernel_rfl) (by kernel_rfl) (by kernel_rfl) (by kernel_rfl)) ?_
  intro W base args ds gs before hval0 hW hcnd _
  have hval : ∀ (j : Nat) t v, Try.f3.params[j]? = some t → args[j]? = some v → Value.okWide Try.prog W .any base t v := hval0
  have hW' := hW
  obtain ⟨p, q, hA0, hV, rfl, hfz, hnd⟩ := hW
  have hA : DataW.TrodAll enc Try.prog W 0 (fun _ => true) true Try.f3.params.toList args.toList ds p := hA0
  rw [Try.params3] at hA hval
  obtain ⟨v0, vs0, d0, ds0, p0, q0, hargs, rfl, rfl, h0, r0⟩ := trodAll_cons hA
  obtain ⟨v1, vs1, d1, ds1, p1, q1, rfl, rfl, rfl, h1, r1⟩ := trodAll_cons r0
  obtain ⟨v2, vs2, d2, ds2, p2, q2, rfl, rfl, rfl, h2, r2⟩ := trodAll_cons r1
  obtain ⟨rfl, rfl, rfl⟩ := trodAll_nil r2
  obtain rfl : args = #[v0, v1, v2] := by cases args; simp_all
  obtain ⟨rfl, rfl⟩ := trodVars_none hV
  have k0 := h0
  have lt0 : ∀ x ∈ p0, x.block < W.heap.size := by obtain ⟨m, hm⟩ := k0; exact DataW.trod_lt m _ _ _ hm
  have k1 := h1
  have lt1 : ∀ x ∈ p1, x.block < W.heap.size := by obtain ⟨m, hm⟩ := k1; exact DataW.trod_lt m _ _ _ hm
  have k2 := h2
  have lt2 : ∀ x ∈ p2, x.block < W.heap.size := by obtain ⟨m, hm⟩ := k2; exact DataW.trod_lt m _ _ _ hm
  obtain ⟨m0, A0, n0, c0, L0, rfl, hm0, hn0, hw0, hnc0, hcm0, hh0, hz0⟩ := open_is 4 5 Try.underlying24 rfl rfl Try.underlying3 co3 rfl rfl co22 co24 Try.underlying22 it33 co33 (by omega) (hval 0 24 v0 rfl rfl) h0
  have hb0 : n0 ≤ 9223372036854775807 := by unfold maxLen at hcm0; omega
  obtain ⟨A1, n1, c1, L1, rfl, hn1, hw1, hnc1, hcm1, hh1, hz1⟩ := open_slice_ints 3 5 Try.underlying22 recvTells_it1 recvTells_c1 (by omega) (hval 1 22 v1 rfl rfl) h1
  have hb1 : n1 ≤ 9223372036854775807 := by unfold maxLen at hcm1; omega
  obtain ⟨m2, A2, n2, c2, L2, rfl, hm2, hn2, hw2, hnc2, hcm2, hh2, hz2⟩ := open_is 4 5 Try.underlying24 rfl rfl Try.underlying3 co3 rfl rfl co22 co24 Try.underlying22 it33 co33 (by omega) (hval 2 24 v2 rfl rfl) h2
  have hb2 : n2 ≤ 9223372036854775807 := by unfold maxLen at hcm2; omega
  clear hA0 hval0
  refine (tells_all W m0 A0 n0 c0 L0 0 A1 n1 c1 L1 m2 A2 n2 c2 L2 hn0 hnc0 hcm0 hh0 hz0 hn1 hnc1 hcm1 hh1 hz1 hn2 hnc2 hcm2 hh2 hz2 hw1 hb0 hb1 hb2).mono fun e W' ⟨he, bel⟩ => ?_
  subst he
  exact ⟨_, rfl, _, _, _, [], _, [], hW', trodAll_mk1 (shut_bool Try.underlying4 _), (trodAll_cons_mk (Below.trod laidOut (by kernel_rfl) (of_decide_eq_true (by kernel_rfl)) k0 bel lt0) (trodAll_cons_mk (Below.trod laidOut (by kernel_rfl) (of_decide_eq_true (by kernel_rfl)) k1 bel lt1) (trodAll_cons_mk (Below.trod laidOut (by kernel_rfl) (of_decide_eq_true (by kernel_rfl)) k2 bel lt2) trodAll_mk0))), rfl, bel.frame _, fun h => by cases h⟩

theorem recvTells_holds : Rows.RecvTellsSaid :=
  OpenClaim.holds_of_wide 3 Try.f3 rfl rfl rfl rfl rfl rfl rfl ⟨rfl, rfl, rfl, rfl, rfl⟩ rfl rfl rfl rfl rfl (by kernel_rfl) Try.func3 (by kernel_rfl)
    (of_decide_eq_true (by kernel_rfl)) (by unfold Func.isWrapper; first | (rw [if_pos (by decide +kernel)]; kernel_rfl) | (rw [if_neg (by decide +kernel)]; exact ⟨rfl, rfl⟩))
    (fun os started H enc _ => recvTells_lifted os started H enc)
#print axioms recvTells_holds
end Go.Proofs.Ythfdjlhplcmicaa
