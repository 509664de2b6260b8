/- Fanout: Right. -/
import Derived.Test.YtpegfbdepgmbjaaS
namespace Go.Proofs.Ytpegfbdepgmbjaa
open Go.RowKit
set_option linter.unusedVariables false
set_option linter.unusedSimpArgs false

def Rt8 (W : World) (b0 bm : Nat) (t : Int) (A : Option Addr) (c : Nat) (L : List Mk) (a : Act) (w : World) : Prop :=
  ∃ k : Nat, Kn a 24 [(1, .pointer (some ⟨b0, 0, none⟩)), (3, .map (some bm)), (8, .slice A L.length c), (9, .int .i64 (L.length : Nat)), (10, .int .i64 (k : Nat))] ∧ k ≤ L.length ∧ (L.take k).Nodup ∧ Seen w bm k (hadF L k) ∧ Block w b0 24 #[.slice A L.length c, .int .i64 t] ∧ Below W.heap.size W w
theorem right_any (w : World) (t : Int) (v : Value) (L : List Mk) (h : MRow w v L) (hn : L.length ≤ 100000) (hw : ∀ x ∈ L, MWF x) :
    Calls Try.prog 8 #[.agg #[v, .int .i64 t]] w fun e w' => e = .returned (.bool (rightF L)) ∧ Below w.heap.size w w' := by
  obtain ⟨A, c, rfl, h1, h2, h3, hh⟩ := h
  replace hh := Lib.hid hh
  have hall := Below.refl w.heap.size w
  refine K_enter 24 Try.func8 rfl rfl fun a H => ?_
  replace H := H.pick [0]
  refine wp_seq ?_
  refine wp_region_lit ?_
  refine op_box 24 _ #[.slice A L.length c, .int .i64 t] (H.ev rfl) fun w0 b0 hge hb k0 => ?_; have g0 := Nat.le_trans hall.size hge; replace hall := hall.trans (hb.mono hall.size); clear hb; clear hge; refine kl H rfl fun a H => ?_
  refine wl_v _ (r_assign evc) ?_; refine kl H rfl fun a H => ?_
  refine wpList_nil ?_
  refine c_next ?_
  refine wp_seq ?_
  refine wp_region_lit ?_
  refine op_mm fun w1 bm hbm hb hs => ?_; have hbW := Nat.le_trans hall.size hbm; have hbb : b0 < bm := Nat.lt_of_lt_of_le k0.lt hbm; replace k0 := Block.ups k0 hb; replace hall := hall.trans (hb.mono hall.size); clear hb; clear hbm; refine kl H rfl fun a H => ?_
  refine wl_v _ (r_assign (H.ev rfl)) ?_; refine kl H rfl fun a H => ?_
  refine wpList_nil ?_
  refine c_next ?_
  refine wp_seq ?_
  refine wp_seq ?_
  refine wp_region_lit ?_
  refine wl_v _ (r_fld (q := 0) fld24_0 (H.ev rfl) rfl) ?_; refine kl H rfl fun a H => ?_
  refine wl_v _ (r_ld Try.underlying22 rfl (H.ev rfl) ((Block.cell k0 0).trans rfl)) ?_; refine kl H rfl fun a H => ?_
  refine wl_v _ (r_len Try.underlying22 (H.ev rfl)) ?_; refine kl H rfl fun a H => ?_
  refine wl_v _ (r_move evc) ?_; refine kl H rfl fun a H => ?_
  refine wpList_nil ?_
  refine c_next ?_
  refine wp_block ?_
  refine wp_loop (Rt8 w b0 bm t A c L) (fun a _ => L.length - (intOf (a.eval (.tmp 10))).toNat) ⟨0, H.pick [1, 3, 8, 9, 10], by omega, List.nodup_nil, hs, k0, hall⟩ ?_
  clear H hall k0 hs
  rintro a w' ⟨k, H, hk, hnd, hs, k0, hall⟩
  have H0 := H
  by_cases hlt : k < L.length
  · skip
    obtain ⟨b, o, hA, hr⟩ := flat_some encM_len hh.out (by omega) hlt
    subst hA
    have hy : L[k]? = some L[k] := List.getElem?_eq_getElem hlt
    have hx : MWF L[k] := hw _ (List.getElem_mem hlt)
    have HY := Lib.hid hy
    have HRG := Lib.hid hr
    have HX := Lib.hid hx
    generalize L[k] = y at *
    clear hy hr hx
    have H := H0
    by_cases he : y ∈ hadF L k
    · skip
      refine wp_seq ?_
      refine wp_region_lit ?_
      refine wl_v _ (r_lt Try.underlying3 (H.ev rfl) (H.ev rfl) (dec_t (by omega))) ?_; refine kl H rfl fun a H => ?_
      refine wpList_nil ?_
      refine c_next ?_
      refine wp_seq ?_
      refine c_cond_t H rfl ?_
      refine wp_skip ?_
      refine c_next ?_
      refine wp_seq ?_
      refine wp_block ?_
      refine wp_seq ?_
      refine wp_region_lit ?_
      refine wl_v _ (r_idx (j := k) (q := o + k * 2) Try.underlying22 s29 (H.ev rfl) (H.ev rfl) (by omega) rfl) ?_; refine kl H rfl fun a H => ?_
      refine wl_v _ (r_row (cs := [.int .i64 y.1, .int .i64 y.2]) (H.ev rfl) (range_ups HRG.out hall) (by kernel_rfl) s29 rfl) ?_; refine kl H rfl fun a H => ?_
      refine op_new 29 5 (.tmp 13) #[.int .i64 y.1, .int .i64 y.2] _ z29 s29 rfl (ints_one [y.1, y.2]) (fun p => (H.put 5 p rfl).ev rfl) (fun p => (H.put 5 p rfl).ev rfl) fun w1 b1 hge hb k1 => ?_; have g1 := Nat.le_trans hall.size hge; replace k0 := Block.ups k0 hb; replace hs := Seen.ups hs hb; replace hall := hall.trans (hb.mono hall.size); clear hb; clear hge; refine kl H rfl fun a H => ?_
      refine wpList_nil ?_
      refine c_next ?_
      refine wp_seq ?_
      refine wp_seq ?_
      refine wp_region_lit ?_
      refine wl_v _ (r_move (H.ev rfl)) ?_; refine kl H rfl fun a H => ?_
      refine wl_v _ (r_row (cs := [.int .i64 y.1, .int .i64 y.2]) (H.ev rfl) (block_range k1) (by kernel_rfl) s29 rfl) ?_; refine kl H rfl fun a H => ?_
      refine wl_v (.bool true) (r_look hs HX.out (H.ev rfl) (H.ev rfl) (dec_t he)) ?_; refine kl H rfl fun a H => ?_
      refine wpList_nil ?_
      refine c_next ?_
      refine c_cond_t H rfl ?_
      refine wp_seq ?_
      refine wp_region_lit ?_
      refine wl_v _ (r_assign evc) ?_; refine kl H rfl fun a H => ?_
      refine wpList_nil ?_
      refine c_next ?_
      refine wp_ret ?_
      refine r_then ?_
      refine r_block ?_
      refine r_then ?_
      refine r_then ?_
      refine r_block ?_
      refine r_then ?_
      exact k_ret1 H rfl rfl ⟨by rw [right_no HY.out he], hall⟩
    · skip
      refine wp_seq ?_
      refine wp_region_lit ?_
      refine wl_v _ (r_lt Try.underlying3 (H.ev rfl) (H.ev rfl) (dec_t (by omega))) ?_; refine kl H rfl fun a H => ?_
      refine wpList_nil ?_
      refine c_next ?_
      refine wp_seq ?_
      refine c_cond_t H rfl ?_
      refine wp_skip ?_
      refine c_next ?_
      refine wp_seq ?_
      refine wp_block ?_
      refine wp_seq ?_
      refine wp_region_lit ?_
      refine wl_v _ (r_idx (j := k) (q := o + k * 2) Try.underlying22 s29 (H.ev rfl) (H.ev rfl) (by omega) rfl) ?_; refine kl H rfl fun a H => ?_
      refine wl_v _ (r_row (cs := [.int .i64 y.1, .int .i64 y.2]) (H.ev rfl) (range_ups HRG.out hall) (by kernel_rfl) s29 rfl) ?_; refine kl H rfl fun a H => ?_
      refine op_new 29 5 (.tmp 13) #[.int .i64 y.1, .int .i64 y.2] _ z29 s29 rfl (ints_one [y.1, y.2]) (fun p => (H.put 5 p rfl).ev rfl) (fun p => (H.put 5 p rfl).ev rfl) fun w2 b2 hge hb k2 => ?_; have g2 := Nat.le_trans hall.size hge; replace k0 := Block.ups k0 hb; replace hs := Seen.ups hs hb; replace hall := hall.trans (hb.mono hall.size); clear hb; clear hge; refine kl H rfl fun a H => ?_
      refine wpList_nil ?_
      refine c_next ?_
      refine wp_seq ?_
      refine wp_seq ?_
      refine wp_region_lit ?_
      refine wl_v _ (r_move (H.ev rfl)) ?_; refine kl H rfl fun a H => ?_
      refine wl_v _ (r_row (cs := [.int .i64 y.1, .int .i64 y.2]) (H.ev rfl) (block_range k2) (by kernel_rfl) s29 rfl) ?_; refine kl H rfl fun a H => ?_
      refine wl_v (.bool false) (r_look hs HX.out (H.ev rfl) (H.ev rfl) (dec_f he)) ?_; refine kl H rfl fun a H => ?_
      refine wpList_nil ?_
      refine c_next ?_
      refine c_cond_f H rfl ?_
      refine wp_skip ?_
      refine c_next ?_
      refine wp_region_lit ?_
      refine wl_v _ (r_move (H.ev rfl)) ?_; refine kl H rfl fun a H => ?_
      refine wl_v _ (r_row (cs := [.int .i64 y.1, .int .i64 y.2]) (H.ev rfl) (block_range k2) (by kernel_rfl) s29 rfl) ?_; refine kl H rfl fun a H => ?_
      refine op_put hs (by unfold maxLen; omega) HX.out (H.ev rfl) (H.ev rfl) fun w8 hs8 hg8 => ?_; rw [had_next HY.out] at hs8; replace k0 := Block.grown k0 hg8 (by simp; omega); replace hall := hall.grown hg8 (by have := hs.lt; omega) (fun k' e => by injection e with e; omega); clear hs hg8 k2; have hs := hs8; clear hs8; refine kl0 H fun a H => ?_
      refine wpList_nil ?_
      refine n_block ?_
      refine c_next ?_
      refine wp_region_lit ?_
      refine wl_v _ (r_add (q := ((k + 1 : Nat) : Int)) Try.underlying3 (H.ev rfl) evc (by omega) (by omega)) ?_; refine kl H rfl fun a H => ?_
      refine wl_v _ (r_move (H.ev rfl)) ?_; refine kl H rfl fun a H => ?_
      refine wpList_nil ?_
      refine n_then ⟨⟨k + 1, H.pick [1, 3, 8, 9, 10], by omega, had_nodup hnd HY.out he, hs, k0, hall⟩, ?_⟩
      rw [H.ev (j := 10) rfl, H0.ev (j := 10) rfl]
      simp only [intOf]
      omega
  · skip
    obtain rfl : k = L.length := by omega
    refine wp_seq ?_
    refine wp_region_lit ?_
    refine wl_v _ (r_lt Try.underlying3 (H.ev rfl) (H.ev rfl) (dec_f (by omega))) ?_; refine kl H rfl fun a H => ?_
    refine wpList_nil ?_
    refine c_next ?_
    refine wp_seq ?_
    refine c_cond_f H rfl ?_
    refine wp_exit ?_
    refine e_then ?_
    refine e_then ?_
    refine e_here ?_
    refine c_next ?_
    refine wp_seq ?_
    refine wp_region_lit ?_
    refine wl_v _ (r_fld (q := 0) fld24_0 (H.ev rfl) rfl) ?_; refine kl H rfl fun a H => ?_
    refine wl_v _ (r_ld Try.underlying22 rfl (H.ev rfl) ((Block.cell k0 0).trans rfl)) ?_; refine kl H rfl fun a H => ?_
    refine wl_v _ (r_len Try.underlying22 (H.ev rfl)) ?_; refine kl H rfl fun a H => ?_
    by_cases hcc0 : ((L.length : Nat) : Int) ≤ 512
    · skip
      refine wl_v _ (r_le Try.underlying3 (H.ev rfl) evc (dec_t (hcc0))) ?_; refine kl H rfl fun a H => ?_
      refine wl_v _ (r_assign (H.ev rfl)) ?_; refine kl H rfl fun a H => ?_
      refine wpList_nil ?_
      refine c_next ?_
      refine wp_ret ?_
      exact k_ret1 H rfl rfl ⟨by rw [show rightF L = true from dec_t ⟨by rw [List.take_length] at hnd; exact hnd, by omega⟩], hall⟩
    · skip
      refine wl_v _ (r_le Try.underlying3 (H.ev rfl) evc (dec_f (hcc0))) ?_; refine kl H rfl fun a H => ?_
      refine wl_v _ (r_assign (H.ev rfl)) ?_; refine kl H rfl fun a H => ?_
      refine wpList_nil ?_
      refine c_next ?_
      refine wp_ret ?_
      exact k_ret1 H rfl rfl ⟨by rw [show rightF L = false from dec_f (fun e => absurd e.2 (by omega))], hall⟩
end Go.Proofs.Ytpegfbdepgmbjaa
