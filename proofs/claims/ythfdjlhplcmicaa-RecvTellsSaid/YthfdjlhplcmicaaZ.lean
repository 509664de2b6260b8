/- Recv: ref Ack. -/
import Derived.Test.YthfdjlhplcmicaaPv
namespace Go.Proofs.Ythfdjlhplcmicaa
open Go.RowKit
set_option linter.unusedVariables false
set_option linter.unusedSimpArgs false

def SAk (W : World) (b0 : Nat) (n : Int) (b o l c : Nat) (w : World) : Prop := Below W.heap.size W w ∧ Block w b0 24 #[.int .i64 n, .slice (some ⟨b, o, none⟩) l c]
def Ac15 (W : World) (b0 : Nat) (n : Int) (A : Option Addr) (c : Nat) (L : List It) (a : Act) (w : World) : Prop :=
  ∃ k : Nat, Kn a 33 [(1, .pointer (some ⟨b0, 0, none⟩)), (4, .int .i64 (ackS n (L.take k) : Nat)), (5, .int .i64 (k : Nat))] ∧ k ≤ L.length ∧ Block w b0 24 #[.int .i64 n, .slice A L.length c] ∧ Below W.heap.size W w
set_option maxHeartbeats 4000000 in
theorem rack_any (w : World) (n : Int) (v : Value) (L : List It) (h0 : IRow w v L) (hn : L.length ≤ 9223372036854775807) :
    Calls Try.prog 15 #[.agg #[.int .i64 n, v]] w fun e w' => e = .returned (.tuple #[.int .i64 (ackF n L).1, .int .i64 (ackF n L).2]) ∧ Below w.heap.size w w' := by
  obtain ⟨A, c, rfl, h1, h2, h3, hh⟩ := h0
  have h : Hid (IRow w (.slice A L.length c) L) := Lib.hid ⟨A, c, rfl, h1, h2, h3, hh⟩
  replace hh := Lib.hid hh
  have hall := Below.refl w.heap.size w
  cases hrt : rightF n L
  · skip
    refine K_enter 33 Try.func15 rfl rfl fun a H => ?_
    replace H := H.pick [0]
    refine wp_seq ?_
    refine wp_region_lit ?_
    refine op_box 24 _ #[.int .i64 n, .slice A L.length c] (H.ev rfl) fun w0 b0 hge hb k0 => ?_; have g0 := Nat.le_trans hall.size hge; replace hall := hall.trans (hb.mono hall.size); clear hb; clear hge; refine kl H rfl fun a H => ?_
    refine wl_v _ (r_assign evc) ?_; refine kl H rfl fun a H => ?_
    refine wl_v _ (r_assign evc) ?_; refine kl H rfl fun a H => ?_
    refine wpList_nil ?_
    refine c_next ?_
    refine wp_seq ?_
    refine wp_seq ?_
    refine wp_region_lit ?_
    refine wl_v _ (r_row (cs := [.int .i64 n, .slice A L.length c]) (H.ev rfl) (block_range k0) (by kernel_rfl) s24 rfl) ?_; refine kl H rfl fun a H => ?_
    refine wl_call _ _ _ (rright_any _ n _ L (Row.up h.out hall) (by omega)) (r_call1 cf17 (H.ev rfl)) ?_; rintro e w9 ⟨rfl, hb⟩; refine ⟨_, rfl, ?_⟩; rw [hrt]; replace k0 := Block.ups k0 hb; replace hall := hall.trans (hb.mono hall.size); clear hb; refine kl H rfl fun a H => ?_
    refine wl_v _ (r_not (H.ev rfl) rfl) ?_; refine kl H rfl fun a H => ?_
    refine wpList_nil ?_
    refine c_next ?_
    refine c_cond_t H rfl ?_
    refine wp_seq ?_
    refine wp_region_lit ?_
    refine wl_v _ (r_assign evc) ?_; refine kl H rfl fun a H => ?_
    refine wl_v _ (r_assign evc) ?_; refine kl H rfl fun a H => ?_
    refine wpList_nil ?_
    refine c_next ?_
    refine wp_ret ?_
    refine r_then ?_
    exact k_ret2 H rfl rfl rfl ⟨by rw [show ackF n L = (0, 0) from if_neg (by rw [hrt]; simp)], hall⟩
  · skip
    have HR : Hid (RightL n L) := Lib.hid (of_decide_eq_true hrt)
    have hn1 := HR.out.1
    have hn2 := HR.out.2.1
    have HRT := Lib.hid hrt
    refine K_enter 33 Try.func15 rfl rfl fun a H => ?_
    replace H := H.pick [0]
    refine wp_seq ?_
    refine wp_region_lit ?_
    refine op_box 24 _ #[.int .i64 n, .slice A L.length c] (H.ev rfl) fun w0 b0 hge hb k0 => ?_; have g0 := Nat.le_trans hall.size hge; replace hall := hall.trans (hb.mono hall.size); clear hb; clear hge; refine kl H rfl fun a H => ?_
    refine wl_v _ (r_assign evc) ?_; refine kl H rfl fun a H => ?_
    refine wl_v _ (r_assign evc) ?_; refine kl H rfl fun a H => ?_
    refine wpList_nil ?_
    refine c_next ?_
    refine wp_seq ?_
    refine wp_seq ?_
    refine wp_region_lit ?_
    refine wl_v _ (r_row (cs := [.int .i64 n, .slice A L.length c]) (H.ev rfl) (block_range k0) (by kernel_rfl) s24 rfl) ?_; refine kl H rfl fun a H => ?_
    refine wl_call _ _ _ (rright_any _ n _ L (Row.up h.out hall) (by omega)) (r_call1 cf17 (H.ev rfl)) ?_; rintro e w9 ⟨rfl, hb⟩; refine ⟨_, rfl, ?_⟩; rw [hrt]; replace k0 := Block.ups k0 hb; replace hall := hall.trans (hb.mono hall.size); clear hb; refine kl H rfl fun a H => ?_
    refine wl_v _ (r_not (H.ev rfl) rfl) ?_; refine kl H rfl fun a H => ?_
    refine wpList_nil ?_
    refine c_next ?_
    refine c_cond_f H rfl ?_
    refine wp_skip ?_
    refine c_next ?_
    refine wp_seq ?_
    refine wp_region_lit ?_
    refine wl_v _ (r_assign evc) ?_; refine kl H rfl fun a H => ?_
    refine wpList_nil ?_
    refine c_next ?_
    refine wp_seq ?_
    refine wp_seq ?_
    refine wp_region_lit ?_
    refine wl_v _ (r_assign evc) ?_; refine kl H rfl fun a H => ?_
    refine wpList_nil ?_
    refine c_next ?_
    refine wp_block ?_
    refine wp_loop (Ac15 w b0 n A c L) (fun a _ => L.length - (intOf (a.eval (.tmp 5))).toNat) ⟨0, H.pick [1, 4, 5], by omega, k0, hall⟩ ?_
    clear H hall k0
    rintro a w' ⟨k, H, hk, k0, hall⟩
    have H0 := H
    by_cases hlt : k < L.length
    · skip
      obtain ⟨b, o, hA, hr⟩ := flat_some encI_len hh.out (by omega) hlt
      subst hA
      have hy : L[k]? = some L[k] := List.getElem?_eq_getElem hlt
      have hbnd := HR.out.2.2.2 _ (List.getElem_mem hlt)
      have hS1 := ack_next n hy
      have hS2 := ack_bound HR.out hy
      have HRG := Lib.hid hr
      generalize L[k] = y at *
      obtain ⟨q, hq⟩ : ∃ q : Nat, y.1 - n - 1 = q := ⟨(y.1 - n - 1).toNat, by omega⟩
      have hq6 : q ≤ 6 := by omega
      have hqn : (y.1 - n - 1).toNat = q := by omega
      rw [hqn] at hS1 hS2
      generalize ackS n (L.take k) = sk at *
      have HS1 := Lib.hid hS1
      have hp7 := pow_le hq6
      have hadd : ((sk : Nat) : Int) + ((2 ^ q : Nat) : Int) = ((sk + 2 ^ q : Nat) : Int) := by omega
      generalize hpq : 2 ^ q = pq at *
      have hPQ := fun {ev : Act} {ww : World} {d : Option Tmp} {tt : TypeId} {ps : String} {af : Array Edge} {gd : Option (Nat × Bool)} {yy : Operand} {t2 : TypeId} (hy : ev.eval yy = .int .i64 (q : Nat)) => hpq ▸ r_shl1 (P := Try.prog) (a := ev) (w := ww) (d := d) (tt := tt) (ps := ps) (af := af) (gd := gd) (y := yy) (t2 := t2) Try.underlying3 hy hq6
      clear hy hr hqn hS1
      have H := H0
      refine wp_seq ?_
      refine wp_seq ?_
      refine wp_region_lit ?_
      refine wl_v _ (r_move (H.ev rfl)) ?_; refine kl H rfl fun a H => ?_
      refine wl_v _ (r_fld (q := 1) fld24_1 (H.ev rfl) rfl) ?_; refine kl H rfl fun a H => ?_
      refine wl_v _ (r_ld Try.underlying22 rfl (H.ev rfl) ((Block.cell k0 1).trans rfl)) ?_; refine kl H rfl fun a H => ?_
      refine wl_v _ (r_len Try.underlying22 (H.ev rfl)) ?_; refine kl H rfl fun a H => ?_
      refine wl_v _ (r_lt Try.underlying3 (H.ev rfl) (H.ev rfl) (dec_t (by omega))) ?_; refine kl H rfl fun a H => ?_
      refine wpList_nil ?_
      refine c_next ?_
      refine c_cond_t H rfl ?_
      refine wp_skip ?_
      refine c_next ?_
      refine wp_seq ?_
      refine wp_block ?_
      have hS : SAk w b0 n b o L.length c _ := ⟨hall.drew, k0⟩
      refine region_pi (SAk w b0 n b o L.length c) [(0, true), (1, true), (2, true), (3, true), (4, true), (5, true), (6, true), (7, true), (8, true), (9, true), (10, true), (11, true), (12, true), (13, true)] (by kernel_rfl) (by kernel_rfl) rfl (by kernel_rfl) hS ?_
      clear hall k0
      refine pi_f0 _ rfl (fun w' hS' => r_move (H.ev rfl)) ?_; refine kp H rfl fun a H => ?_
      refine pi_f0 _ rfl (fun w' hS' => r_fld (q := 1) fld24_1 (H.ev rfl) rfl) ?_; refine kp H rfl fun a H => ?_
      refine pi_f0 _ rfl (fun w' hS' => r_ld Try.underlying22 rfl (H.ev rfl) ((Block.cell (hS'.2) 1).trans rfl)) ?_; refine kp H rfl fun a H => ?_
      refine pi_f0 _ rfl (fun w' hS' => r_move (H.ev rfl)) ?_; refine kp H rfl fun a H => ?_
      refine pi_f0 _ rfl (fun w' hS' => r_idx (j := k) (q := o + k * 5) Try.underlying22 s33 (H.ev rfl) (H.ev rfl) (by omega) rfl) ?_; refine kp H rfl fun a H => ?_
      refine pi_f0 _ rfl (fun w' hS' => r_fld (q := o + k * 5) fld33_0 (H.ev rfl) rfl) ?_; refine kp H rfl fun a H => ?_
      refine pi_f0 _ rfl (fun w' hS' => r_ld Try.underlying3 rfl (H.ev rfl) (range_cell (range_ups HRG.out hS'.1) 0 rfl)) ?_; refine kp H rfl fun a H => ?_
      refine pi_f0 _ rfl (fun w' hS' => r_fld (q := 0) fld24_0 (H.ev rfl) rfl) ?_; refine kp H rfl fun a H => ?_
      refine pi_f0 _ rfl (fun w' hS' => r_ld Try.underlying3 rfl (H.ev rfl) ((Block.cell (hS'.2) 0).trans rfl)) ?_; refine kp H rfl fun a H => ?_
      refine pi_f0 _ rfl (fun w' hS' => r_sub (q := y.1 - n) Try.underlying3 (H.ev rfl) (H.ev rfl) (by omega) (by omega)) ?_; refine kp H rfl fun a H => ?_
      refine pi_f0 (.int .i64 (q : Nat)) rfl (fun w' hS' => r_sub (q := ((q : Nat) : Int)) Try.underlying3 (H.ev rfl) evc (by omega) (by omega)) ?_; refine kp H rfl fun a H => ?_
      refine pi_f0 (.int .i64 (pq : Nat)) rfl (fun w' hS' => hPQ (H.ev rfl)) ?_; refine kp H rfl fun a H => ?_
      refine pi_f0 (.int .i64 (sk + pq : Nat)) rfl (fun w' hS' => r_add (q := ((sk + pq : Nat) : Int)) Try.underlying3 (H.ev rfl) (H.ev rfl) (by omega) (by omega)) ?_; refine kp H rfl fun a H => ?_
      refine pi_f0 _ rfl (fun w' hS' => r_assign (H.ev rfl)) ?_; refine kp H rfl fun a H => ?_
      refine pi_nil (NoPanic.normal ?_)
      have hall := hS.1
      have k0 := hS.2
      clear hS
      refine n_block ?_
      refine c_next ?_
      refine wp_region_lit ?_
      refine wl_v _ (r_move (H.ev rfl)) ?_; refine kl H rfl fun a H => ?_
      refine wl_v _ (r_add (q := ((k + 1 : Nat) : Int)) Try.underlying3 (H.ev rfl) evc (by omega) (by omega)) ?_; refine kl H rfl fun a H => ?_
      refine wl_v _ (r_assign (H.ev rfl)) ?_; refine kl H rfl fun a H => ?_
      refine wpList_nil ?_
      replace H := H.pick [1, 4, 5]
      rw [← HS1.out] at H
      refine n_then ⟨⟨k + 1, H, by omega, k0, hall⟩, ?_⟩
      rw [H.ev (j := 5) rfl, H0.ev (j := 5) rfl]
      simp only [intOf]
      omega
    · skip
      obtain rfl : k = L.length := by omega
      refine wp_seq ?_
      refine wp_seq ?_
      refine wp_region_lit ?_
      refine wl_v _ (r_move (H.ev rfl)) ?_; refine kl H rfl fun a H => ?_
      refine wl_v _ (r_fld (q := 1) fld24_1 (H.ev rfl) rfl) ?_; refine kl H rfl fun a H => ?_
      refine wl_v _ (r_ld Try.underlying22 rfl (H.ev rfl) ((Block.cell k0 1).trans rfl)) ?_; refine kl H rfl fun a H => ?_
      refine wl_v _ (r_len Try.underlying22 (H.ev rfl)) ?_; refine kl H rfl fun a H => ?_
      refine wl_v _ (r_lt Try.underlying3 (H.ev rfl) (H.ev rfl) (dec_f (by omega))) ?_; refine kl H rfl fun a H => ?_
      refine wpList_nil ?_
      refine c_next ?_
      refine c_cond_f H rfl ?_
      refine wp_exit ?_
      refine e_then ?_
      refine e_then ?_
      refine e_here ?_
      refine c_next ?_
      refine wp_seq ?_
      refine wp_region_lit ?_
      refine wl_v _ (r_fld (q := 0) fld24_0 (H.ev rfl) rfl) ?_; refine kl H rfl fun a H => ?_
      refine wl_v _ (r_ld Try.underlying3 rfl (H.ev rfl) ((Block.cell k0 0).trans rfl)) ?_; refine kl H rfl fun a H => ?_
      refine wl_v _ (r_sub (q := n - 1) Try.underlying3 (H.ev rfl) evc (by omega) (by omega)) ?_; refine kl H rfl fun a H => ?_
      refine wl_v _ (r_move (H.ev rfl)) ?_; refine kl H rfl fun a H => ?_
      refine wl_v _ (r_assign (H.ev rfl)) ?_; refine kl H rfl fun a H => ?_
      refine wl_v _ (r_assign (H.ev rfl)) ?_; refine kl H rfl fun a H => ?_
      refine wpList_nil ?_
      refine c_next ?_
      refine wp_ret ?_
      exact k_ret2 H rfl rfl rfl ⟨by rw [show ackF n L = (n - 1, ((ackS n L : Nat) : Int)) from if_pos hrt, List.take_length], hall⟩
end Go.Proofs.Ythfdjlhplcmicaa
