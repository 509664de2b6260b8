/- Roster: Watchers, Targets, State. -/
import Derived.Test.YtfehhenbdiageaaUc
namespace Go.Proofs.Ytfehhenbdiageaa
open Go.RowKit
set_option linter.unusedVariables false
set_option linter.unusedSimpArgs false

theorem c39_any (bc : Nat) (x : Int) (y : Tm) (w : World) (hc : w.cell? ⟨bc, 0, none⟩ = some (.int .i64 x)) :
    Calls Try.prog 39 #[.agg #[.int .i64 y.1, .int .i64 y.2.1, .int .i64 y.2.2], .pointer (some ⟨bc, 0, none⟩)] w fun e w' => e = .returned (.bool (decide (y.2.1 = x))) ∧ Below w.heap.size w w' := by
  have hall := Below.refl w.heap.size w
  refine K_enter 8 Try.func39 rfl rfl fun a H => ?_
  replace H := H.pick [0, 1]
  refine wp_seq ?_
  refine wp_region_lit ?_
  refine op_box 37 _ #[.int .i64 y.1, .int .i64 y.2.1, .int .i64 y.2.2] (H.ev rfl) fun w0 b0 hge hb k0 => ?_; have g0 := Nat.le_trans hall.size hge; replace hc := cell_ups hc hb; replace hall := hall.trans (hb.mono hall.size); clear hb; clear hge; refine kl H rfl fun a H => ?_
  refine wl_v _ (r_assign evc) ?_; refine kl H rfl fun a H => ?_
  refine wpList_nil ?_
  refine c_next ?_
  refine wp_seq ?_
  refine wp_region_lit ?_
  refine wl_v _ (r_fld (q := 1) fld37_1 (H.ev rfl) rfl) ?_; refine kl H rfl fun a H => ?_
  refine wl_v _ (r_ld Try.underlying3 rfl (H.ev rfl) ((Block.cell k0 1).trans rfl)) ?_; refine kl H rfl fun a H => ?_
  refine wl_v _ (r_ld Try.underlying3 rfl (H.ev rfl) (hc)) ?_; refine kl H rfl fun a H => ?_
  by_cases c0 : y.2.1 = x
  · skip
    refine wl_v _ (r_eq Try.underlying3 (H.ev rfl) (H.ev rfl) (dec_t (c0))) ?_; refine kl H rfl fun a H => ?_
    refine wl_v _ (r_assign (H.ev rfl)) ?_; refine kl H rfl fun a H => ?_
    refine wpList_nil ?_
    refine c_next ?_
    refine wp_ret ?_
    exact k_ret1 H rfl rfl ⟨by rw [show decide (y.2.1 = x) = true from dec_t (by omega)], hall⟩
  · skip
    refine wl_v _ (r_eq Try.underlying3 (H.ev rfl) (H.ev rfl) (dec_f (c0))) ?_; refine kl H rfl fun a H => ?_
    refine wl_v _ (r_assign (H.ev rfl)) ?_; refine kl H rfl fun a H => ?_
    refine wpList_nil ?_
    refine c_next ?_
    refine wp_ret ?_
    exact k_ret1 H rfl rfl ⟨by rw [show decide (y.2.1 = x) = false from dec_f (by omega)], hall⟩
theorem c41_any (bc : Nat) (x : Int) (y : Tm) (w : World) (hc : w.cell? ⟨bc, 0, none⟩ = some (.int .i64 x)) :
    Calls Try.prog 41 #[.agg #[.int .i64 y.1, .int .i64 y.2.1, .int .i64 y.2.2], .pointer (some ⟨bc, 0, none⟩)] w fun e w' => e = .returned (.bool (decide (y.1 = x))) ∧ Below w.heap.size w w' := by
  have hall := Below.refl w.heap.size w
  refine K_enter 8 Try.func41 rfl rfl fun a H => ?_
  replace H := H.pick [0, 1]
  refine wp_seq ?_
  refine wp_region_lit ?_
  refine op_box 37 _ #[.int .i64 y.1, .int .i64 y.2.1, .int .i64 y.2.2] (H.ev rfl) fun w0 b0 hge hb k0 => ?_; have g0 := Nat.le_trans hall.size hge; replace hc := cell_ups hc hb; replace hall := hall.trans (hb.mono hall.size); clear hb; clear hge; refine kl H rfl fun a H => ?_
  refine wl_v _ (r_assign evc) ?_; refine kl H rfl fun a H => ?_
  refine wpList_nil ?_
  refine c_next ?_
  refine wp_seq ?_
  refine wp_region_lit ?_
  refine wl_v _ (r_fld (q := 0) fld37_0 (H.ev rfl) rfl) ?_; refine kl H rfl fun a H => ?_
  refine wl_v _ (r_ld Try.underlying3 rfl (H.ev rfl) ((Block.cell k0 0).trans rfl)) ?_; refine kl H rfl fun a H => ?_
  refine wl_v _ (r_ld Try.underlying3 rfl (H.ev rfl) (hc)) ?_; refine kl H rfl fun a H => ?_
  by_cases c0 : y.1 = x
  · skip
    refine wl_v _ (r_eq Try.underlying3 (H.ev rfl) (H.ev rfl) (dec_t (c0))) ?_; refine kl H rfl fun a H => ?_
    refine wl_v _ (r_assign (H.ev rfl)) ?_; refine kl H rfl fun a H => ?_
    refine wpList_nil ?_
    refine c_next ?_
    refine wp_ret ?_
    exact k_ret1 H rfl rfl ⟨by rw [show decide (y.1 = x) = true from dec_t (by omega)], hall⟩
  · skip
    refine wl_v _ (r_eq Try.underlying3 (H.ev rfl) (H.ev rfl) (dec_f (c0))) ?_; refine kl H rfl fun a H => ?_
    refine wl_v _ (r_assign (H.ev rfl)) ?_; refine kl H rfl fun a H => ?_
    refine wpList_nil ?_
    refine c_next ?_
    refine wp_ret ?_
    exact k_ret1 H rfl rfl ⟨by rw [show decide (y.1 = x) = false from dec_f (by omega)], hall⟩
theorem c40_any (y : Tm) (w : World) :
    Calls Try.prog 40 #[.agg #[.int .i64 y.1, .int .i64 y.2.1, .int .i64 y.2.2]] w fun e w' => e = .returned (.int .i64 y.1) ∧ Below w.heap.size w w' := by
  have hall := Below.refl w.heap.size w
  refine K_enter 5 Try.func40 rfl rfl fun a H => ?_
  replace H := H.pick [0]
  refine wp_seq ?_
  refine wp_region_lit ?_
  refine op_box 37 _ #[.int .i64 y.1, .int .i64 y.2.1, .int .i64 y.2.2] (H.ev rfl) fun w0 b0 hge hb k0 => ?_; have g0 := Nat.le_trans hall.size hge; replace hall := hall.trans (hb.mono hall.size); clear hb; clear hge; refine kl H rfl fun a H => ?_
  refine wl_v _ (r_assign evc) ?_; refine kl H rfl fun a H => ?_
  refine wpList_nil ?_
  refine c_next ?_
  refine wp_seq ?_
  refine wp_region_lit ?_
  refine wl_v _ (r_fld (q := 0) fld37_0 (H.ev rfl) rfl) ?_; refine kl H rfl fun a H => ?_
  refine wl_v _ (r_ld Try.underlying3 rfl (H.ev rfl) ((Block.cell k0 0).trans rfl)) ?_; refine kl H rfl fun a H => ?_
  refine wl_v _ (r_assign (H.ev rfl)) ?_; refine kl H rfl fun a H => ?_
  refine wpList_nil ?_
  refine c_next ?_
  refine wp_ret ?_
  exact k_ret1 H rfl rfl ⟨rfl, hall⟩
theorem c42_any (y : Tm) (w : World) :
    Calls Try.prog 42 #[.agg #[.int .i64 y.1, .int .i64 y.2.1, .int .i64 y.2.2]] w fun e w' => e = .returned (.int .i64 y.2.1) ∧ Below w.heap.size w w' := by
  have hall := Below.refl w.heap.size w
  refine K_enter 5 Try.func42 rfl rfl fun a H => ?_
  replace H := H.pick [0]
  refine wp_seq ?_
  refine wp_region_lit ?_
  refine op_box 37 _ #[.int .i64 y.1, .int .i64 y.2.1, .int .i64 y.2.2] (H.ev rfl) fun w0 b0 hge hb k0 => ?_; have g0 := Nat.le_trans hall.size hge; replace hall := hall.trans (hb.mono hall.size); clear hb; clear hge; refine kl H rfl fun a H => ?_
  refine wl_v _ (r_assign evc) ?_; refine kl H rfl fun a H => ?_
  refine wpList_nil ?_
  refine c_next ?_
  refine wp_seq ?_
  refine wp_region_lit ?_
  refine wl_v _ (r_fld (q := 1) fld37_1 (H.ev rfl) rfl) ?_; refine kl H rfl fun a H => ?_
  refine wl_v _ (r_ld Try.underlying3 rfl (H.ev rfl) ((Block.cell k0 1).trans rfl)) ?_; refine kl H rfl fun a H => ?_
  refine wl_v _ (r_assign (H.ev rfl)) ?_; refine kl H rfl fun a H => ?_
  refine wpList_nil ?_
  refine c_next ?_
  refine wp_ret ?_
  exact k_ret1 H rfl rfl ⟨rfl, hall⟩
def ThI (W : World) (A : Option Addr) (c : Nat) (L : List Tm) (fp fq : FuncId) (bc : Nat) (x : Int) (p : Tm → Bool) (q : Tm → Int) (a : Act) (w : World) : Prop :=
  ∃ (k : Nat) (v5 : Value), Kn a 31 [(0, .slice A L.length c), (1, .func (.func fp) #[] #[.pointer (some ⟨bc, 0, none⟩)]), (2, .func (.func fq) #[] #[]), (6, v5), (9, .slice A L.length c), (10, .int .i64 (L.length : Nat)), (11, .int .i64 (k : Nat))] ∧ k ≤ L.length ∧ IOwn w W.heap.size v5 (fmF (fun y => decide (y.2.2 = 2) && p y) q (L.take k)) ∧ w.cell? ⟨bc, 0, none⟩ = some (.int .i64 x) ∧ Below W.heap.size W w
theorem those_any (fp fq : FuncId) (p : Tm → Bool) (q : Tm → Int) (bc : Nat) (x : Int) (ep : entF Try.prog fp) (eq : entF Try.prog fq)
    (hp : ∀ (y : Tm) w, w.cell? ⟨bc, 0, none⟩ = some (.int .i64 x) → Calls Try.prog fp #[.agg #[.int .i64 y.1, .int .i64 y.2.1, .int .i64 y.2.2], .pointer (some ⟨bc, 0, none⟩)] w fun e w' => e = .returned (.bool (p y)) ∧ Below w.heap.size w w')
    (hq : ∀ (y : Tm) w, Calls Try.prog fq #[.agg #[.int .i64 y.1, .int .i64 y.2.1, .int .i64 y.2.2]] w fun e w' => e = .returned (.int .i64 (q y)) ∧ Below w.heap.size w w')
    (w : World) (v : Value) (L : List Tm) (h : TRow w v L) (hn : L.length ≤ 100000) (hc : w.cell? ⟨bc, 0, none⟩ = some (.int .i64 x)) :
    Calls Try.prog 38 #[v, .func (.func fp) #[] #[.pointer (some ⟨bc, 0, none⟩)], .func (.func fq) #[] #[]] w fun e w' => (∃ v', e = .returned v' ∧ IOwn w' w.heap.size v' (fmF (fun y => decide (y.2.2 = 2) && p y) q L)) ∧ Below w.heap.size w w' := by
  obtain ⟨A, c, rfl, h1, h2, h3, hh⟩ := h
  replace hh := Lib.hid hh
  have hall := Below.refl w.heap.size w
  have hbc : bc < w.heap.size := World.block_lt_of_cell? w _ hc
  refine K_enter 31 Try.func38 rfl rfl fun a H => ?_
  replace H := H.pick [0, 1, 2]
  refine wp_seq ?_
  refine wp_region_lit ?_
  refine wl_v _ (r_assign evc) ?_; refine kl H rfl fun a H => ?_
  refine wpList_nil ?_
  refine c_next ?_
  refine wp_seq ?_
  refine wp_seq ?_
  refine wp_region_lit ?_
  refine wl_v _ (r_move (H.ev rfl)) ?_; refine kl H rfl fun a H => ?_
  refine wl_v _ (r_len Try.underlying22 (H.ev rfl)) ?_; refine kl H rfl fun a H => ?_
  refine wl_v _ (r_move evc) ?_; refine kl H rfl fun a H => ?_
  refine wpList_nil ?_
  refine c_next ?_
  refine wp_block ?_
  refine wp_loop (ThI w A c L fp fq bc x p q) (fun a _ => L.length - (intOf (a.eval (.tmp 11))).toNat) ⟨0, _, H.pick [0, 1, 2, 6, 9, 10, 11], by omega, World.ownsRow_nil _ _ _ _, hc, hall⟩ ?_
  clear H hall hc
  rintro a w' ⟨k, v5, H, hk, hown, hc, hall⟩
  have H0 := H
  by_cases hlt : k < L.length
  · skip
    obtain ⟨b, o, hA, hr⟩ := flat_some encT_len hh.out (by omega) hlt
    subst hA
    have hy : L[k]? = some L[k] := List.getElem?_eq_getElem hlt
    have HY := Lib.hid hy
    have HRG := Lib.hid hr
    generalize L[k] = y at *
    clear hy hr
    refine wp_seq ?_
    refine wp_region_lit ?_
    refine wl_v _ (r_lt Try.underlying3 (H.ev rfl) (H.ev rfl) (dec_t (by omega))) ?_; refine kl H rfl fun a H => ?_
    refine wpList_nil ?_
    refine c_next ?_
    refine wp_seq ?_
    refine c_cond_t H rfl ?_
    refine wp_skip ?_
    refine c_next ?_
    refine wp_seq ?_
    refine wp_block ?_
    refine wp_seq ?_
    obtain ⟨pz, hpz⟩ : ∃ pz, p y = pz := ⟨_, rfl⟩
    have HP := Lib.hid hpz
    clear hpz
    cases pz
    · skip
      refine wp_region_lit ?_
      refine wl_v _ (r_idx (j := k) (q := o + k * 3) Try.underlying22 s37 (H.ev rfl) (H.ev rfl) (by omega) rfl) ?_; refine kl H rfl fun a H => ?_
      refine wl_v _ (r_row (cs := [.int .i64 y.1, .int .i64 y.2.1, .int .i64 y.2.2]) (H.ev rfl) (range_ups HRG.out hall) (by kernel_rfl) s37 rfl) ?_; refine kl H rfl fun a H => ?_
      refine op_new 37 8 (.tmp 14) #[.int .i64 y.1, .int .i64 y.2.1, .int .i64 y.2.2] _ z37 s37 rfl (ints_one [y.1, y.2.1, y.2.2]) (fun p => (H.put 8 p rfl).ev rfl) (fun p => (H.put 8 p rfl).ev rfl) fun w0 b0 hge hb k0 => ?_; have g0 := Nat.le_trans hall.size hge; replace hown := own_ups hown hb; replace hc := cell_ups hc hb; replace hall := hall.trans (hb.mono hall.size); clear hb; clear hge; refine kl H rfl fun a H => ?_
      refine wpList_nil ?_
      refine c_next ?_
      refine wp_seq ?_
      refine wp_region_lit ?_
      refine wl_v _ (r_fld (q := 2) fld37_2 (H.ev rfl) rfl) ?_; refine kl H rfl fun a H => ?_
      refine wl_v _ (r_ld Try.underlying3 rfl (H.ev rfl) ((Block.cell k0 2).trans rfl)) ?_; refine kl H rfl fun a H => ?_
      by_cases c0 : y.2.2 = 2
      · skip
        refine wl_v _ (r_eq Try.underlying3 (H.ev rfl) evc (dec_t (c0))) ?_; refine kl H rfl fun a H => ?_
        refine wl_v _ (r_move (H.ev rfl)) ?_; refine kl H rfl fun a H => ?_
        refine op_unguard _ _ (kg_yes rfl H rfl rfl rfl) ?_; refine wl_v _ (r_move (H.ev rfl)) ?_; refine kl H rfl fun a H => ?_
        refine op_unguard _ _ (kg_yes rfl H rfl rfl rfl) ?_; refine wl_v _ (r_row (cs := [.int .i64 y.1, .int .i64 y.2.1, .int .i64 y.2.2]) (H.ev rfl) (block_range k0) (by kernel_rfl) s37 rfl) ?_; refine kl H rfl fun a H => ?_
        refine op_unguard _ _ (kg_yes rfl H rfl rfl rfl) ?_; refine wl_call fp _ _ (hp y _ hc) (r_callc ep (H.ev rfl) (H.ev rfl)) ?_; rintro e w9 ⟨rfl, hb⟩; refine ⟨_, rfl, ?_⟩; rw [HP.out]; replace hown := own_ups hown hb; replace hc := cell_ups hc hb; replace k0 := Block.ups k0 hb; replace hall := hall.trans (hb.mono hall.size); clear hb; refine kl H rfl fun a H => ?_
        refine wl_v _ (r_pick_t (H.ev rfl) (H.ev rfl)) ?_; refine kl H rfl fun a H => ?_
        refine wpList_nil ?_
        refine c_next ?_
        refine c_cond_f H rfl ?_
        refine wp_skip ?_
        refine n_block ?_
        refine c_next ?_
        refine wp_region_lit ?_
        refine wl_v _ (r_add (q := ((k + 1 : Nat) : Int)) Try.underlying3 (H.ev rfl) evc (by omega) (by omega)) ?_; refine kl H rfl fun a H => ?_
        refine wl_v _ (r_move (H.ev rfl)) ?_; refine kl H rfl fun a H => ?_
        refine wpList_nil ?_
        refine n_then ⟨⟨k + 1, v5, H.pick [0, 1, 2, 6, 9, 10, 11], by omega, iown_no HY.out (by simp only [HP.out, Bool.and_false]) hown, hc, hall⟩, ?_⟩
        rw [H.ev (j := 11) rfl, H0.ev (j := 11) rfl]
        simp only [intOf]
        omega
      · skip
        refine wl_v _ (r_eq Try.underlying3 (H.ev rfl) evc (dec_f (c0))) ?_; refine kl H rfl fun a H => ?_
        refine wl_v _ (r_move (H.ev rfl)) ?_; refine kl H rfl fun a H => ?_
        refine wl_s (kg_no rfl H rfl rfl rfl) ?_; refine kl H rfl fun a H => ?_
        refine wl_s (kg_no rfl H rfl rfl rfl) ?_; refine kl H rfl fun a H => ?_
        refine wl_s (kg_no rfl H rfl rfl rfl) ?_; refine kl H rfl fun a H => ?_
        refine wl_v _ (r_pick_f (H.ev rfl) evc) ?_; refine kl H rfl fun a H => ?_
        refine wpList_nil ?_
        refine c_next ?_
        refine c_cond_f H rfl ?_
        refine wp_skip ?_
        refine n_block ?_
        refine c_next ?_
        refine wp_region_lit ?_
        refine wl_v _ (r_add (q := ((k + 1 : Nat) : Int)) Try.underlying3 (H.ev rfl) evc (by omega) (by omega)) ?_; refine kl H rfl fun a H => ?_
        refine wl_v _ (r_move (H.ev rfl)) ?_; refine kl H rfl fun a H => ?_
        refine wpList_nil ?_
        refine n_then ⟨⟨k + 1, v5, H.pick [0, 1, 2, 6, 9, 10, 11], by omega, iown_no HY.out (by simp only [HP.out, Bool.and_false]) hown, hc, hall⟩, ?_⟩
        rw [H.ev (j := 11) rfl, H0.ev (j := 11) rfl]
        simp only [intOf]
        omega
    · skip
      refine wp_region_lit ?_
      refine wl_v _ (r_idx (j := k) (q := o + k * 3) Try.underlying22 s37 (H.ev rfl) (H.ev rfl) (by omega) rfl) ?_; refine kl H rfl fun a H => ?_
      refine wl_v _ (r_row (cs := [.int .i64 y.1, .int .i64 y.2.1, .int .i64 y.2.2]) (H.ev rfl) (range_ups HRG.out hall) (by kernel_rfl) s37 rfl) ?_; refine kl H rfl fun a H => ?_
      refine op_new 37 8 (.tmp 14) #[.int .i64 y.1, .int .i64 y.2.1, .int .i64 y.2.2] _ z37 s37 rfl (ints_one [y.1, y.2.1, y.2.2]) (fun p => (H.put 8 p rfl).ev rfl) (fun p => (H.put 8 p rfl).ev rfl) fun w1 b1 hge hb k1 => ?_; have g1 := Nat.le_trans hall.size hge; replace hown := own_ups hown hb; replace hc := cell_ups hc hb; replace hall := hall.trans (hb.mono hall.size); clear hb; clear hge; refine kl H rfl fun a H => ?_
      refine wpList_nil ?_
      refine c_next ?_
      refine wp_seq ?_
      refine wp_region_lit ?_
      refine wl_v _ (r_fld (q := 2) fld37_2 (H.ev rfl) rfl) ?_; refine kl H rfl fun a H => ?_
      refine wl_v _ (r_ld Try.underlying3 rfl (H.ev rfl) ((Block.cell k1 2).trans rfl)) ?_; refine kl H rfl fun a H => ?_
      by_cases c1 : y.2.2 = 2
      · skip
        refine wl_v _ (r_eq Try.underlying3 (H.ev rfl) evc (dec_t (c1))) ?_; refine kl H rfl fun a H => ?_
        refine wl_v _ (r_move (H.ev rfl)) ?_; refine kl H rfl fun a H => ?_
        refine op_unguard _ _ (kg_yes rfl H rfl rfl rfl) ?_; refine wl_v _ (r_move (H.ev rfl)) ?_; refine kl H rfl fun a H => ?_
        refine op_unguard _ _ (kg_yes rfl H rfl rfl rfl) ?_; refine wl_v _ (r_row (cs := [.int .i64 y.1, .int .i64 y.2.1, .int .i64 y.2.2]) (H.ev rfl) (block_range k1) (by kernel_rfl) s37 rfl) ?_; refine kl H rfl fun a H => ?_
        refine op_unguard _ _ (kg_yes rfl H rfl rfl rfl) ?_; refine wl_call fp _ _ (hp y _ hc) (r_callc ep (H.ev rfl) (H.ev rfl)) ?_; rintro e w9 ⟨rfl, hb⟩; refine ⟨_, rfl, ?_⟩; rw [HP.out]; replace hown := own_ups hown hb; replace hc := cell_ups hc hb; replace k1 := Block.ups k1 hb; replace hall := hall.trans (hb.mono hall.size); clear hb; refine kl H rfl fun a H => ?_
        refine wl_v _ (r_pick_t (H.ev rfl) (H.ev rfl)) ?_; refine kl H rfl fun a H => ?_
        refine wpList_nil ?_
        refine c_next ?_
        refine c_cond_t H rfl ?_
        refine wp_region_lit ?_
        refine wl_v _ (r_move (H.ev rfl)) ?_; refine kl H rfl fun a H => ?_
        refine wl_v _ (r_move (H.ev rfl)) ?_; refine kl H rfl fun a H => ?_
        refine wl_v _ (r_row (cs := [.int .i64 y.1, .int .i64 y.2.1, .int .i64 y.2.2]) (H.ev rfl) (block_range k1) (by kernel_rfl) s37 rfl) ?_; refine kl H rfl fun a H => ?_
        refine wl_call fq _ _ (hq y _) (r_callf eq (H.ev rfl) (H.ev rfl)) ?_; rintro e w9 ⟨rfl, hb⟩; refine ⟨_, rfl, ?_⟩; replace hown := own_ups hown hb; replace hc := cell_ups hc hb; replace k1 := Block.ups k1 hb; replace hall := hall.trans (hb.mono hall.size); clear hb; refine kl H rfl fun a H => ?_
        refine op_litv 34 1 #[(0, .int .i64 (q y))] 3 #[.int .i64 (q y)] (by simp [evc, H.ev (j := 26) rfl]) (fun w => by kernel_rfl) fun w2 b2 hge hb k2 => ?_; have g2 := Nat.le_trans hall.size hge; replace hown := own_ups hown hb; replace hc := cell_ups hc hb; replace k1 := Block.ups k1 hb; replace hall := hall.trans (hb.mono hall.size); clear hb; clear hge; refine kl H rfl fun a H => ?_
        refine op_append 34 3 (.tmp 23) (.tmp 27) w.heap.size (.int .i64 0) 1 8 v5 _ _ (some ⟨b2, 0, none⟩) 1 1 (FV enc1 [q y]) (H.ev rfl) (H.ev rfl) Try.underlying34 i3 rfl (by omega) hown (by rw [FV_len enc1_len]; rfl) (block1 k2) (FV_one _ _) (fm_room hk hn) (fm_bytes hk hn) hall.size fun v9 w9 hown2 hg9 _ hb2 => ?_; replace hc := (hb2.cell (p := ⟨bc, 0, none⟩) hbc).trans hc; replace hall := hall.trans hb2; clear hb2 hown; have hown := hown2; clear hown2; refine kl H rfl fun a H => ?_
        refine wl_v _ (r_assign (H.ev rfl)) ?_; refine kl H rfl fun a H => ?_
        refine wpList_nil ?_
        refine n_block ?_
        refine c_next ?_
        refine wp_region_lit ?_
        refine wl_v _ (r_add (q := ((k + 1 : Nat) : Int)) Try.underlying3 (H.ev rfl) evc (by omega) (by omega)) ?_; refine kl H rfl fun a H => ?_
        refine wl_v _ (r_move (H.ev rfl)) ?_; refine kl H rfl fun a H => ?_
        refine wpList_nil ?_
        refine n_then ⟨⟨k + 1, v9, H.pick [0, 1, 2, 6, 9, 10, 11], by omega, iown_yes HY.out (by simp only [HP.out, Bool.and_true, decide_eq_true_eq]; omega) hown, hc, hall⟩, ?_⟩
        rw [H.ev (j := 11) rfl, H0.ev (j := 11) rfl]
        simp only [intOf]
        omega
      · skip
        refine wl_v _ (r_eq Try.underlying3 (H.ev rfl) evc (dec_f (c1))) ?_; refine kl H rfl fun a H => ?_
        refine wl_v _ (r_move (H.ev rfl)) ?_; refine kl H rfl fun a H => ?_
        refine wl_s (kg_no rfl H rfl rfl rfl) ?_; refine kl H rfl fun a H => ?_
        refine wl_s (kg_no rfl H rfl rfl rfl) ?_; refine kl H rfl fun a H => ?_
        refine wl_s (kg_no rfl H rfl rfl rfl) ?_; refine kl H rfl fun a H => ?_
        refine wl_v _ (r_pick_f (H.ev rfl) evc) ?_; refine kl H rfl fun a H => ?_
        refine wpList_nil ?_
        refine c_next ?_
        refine c_cond_f H rfl ?_
        refine wp_skip ?_
        refine n_block ?_
        refine c_next ?_
        refine wp_region_lit ?_
        refine wl_v _ (r_add (q := ((k + 1 : Nat) : Int)) Try.underlying3 (H.ev rfl) evc (by omega) (by omega)) ?_; refine kl H rfl fun a H => ?_
        refine wl_v _ (r_move (H.ev rfl)) ?_; refine kl H rfl fun a H => ?_
        refine wpList_nil ?_
        refine n_then ⟨⟨k + 1, v5, H.pick [0, 1, 2, 6, 9, 10, 11], by omega, iown_no HY.out (by simp only [HP.out, Bool.and_true, decide_eq_false_iff_not]; omega) hown, hc, hall⟩, ?_⟩
        rw [H.ev (j := 11) rfl, H0.ev (j := 11) rfl]
        simp only [intOf]
        omega
  · skip
    obtain rfl : k = L.length := by omega
    refine wp_seq ?_
    refine wp_region_lit ?_
    refine wl_v _ (r_lt Try.underlying3 (H.ev rfl) (H.ev rfl) (dec_f (by omega))) ?_; refine kl H rfl fun a H => ?_
    refine wpList_nil ?_
    refine c_next ?_
    refine wp_seq ?_
    refine c_cond_f H rfl ?_
    refine wp_exit ?_
    refine e_then ?_
    refine e_then ?_
    refine e_here ?_
    refine c_next ?_
    refine wp_seq ?_
    refine wp_region_lit ?_
    refine wl_v _ (r_move (H.ev rfl)) ?_; refine kl H rfl fun a H => ?_
    refine wl_v _ (r_assign (H.ev rfl)) ?_; refine kl H rfl fun a H => ?_
    refine wpList_nil ?_
    refine c_next ?_
    refine wp_ret ?_
    exact k_ret1 H rfl rfl ⟨⟨_, rfl, by rw [List.take_length] at hown; exact hown⟩, hall⟩
theorem fm_swap19 (L : List Tm) (x : Int) : fmF (fun y => decide (y.2.2 = 2) && decide (y.2.1 = x)) (fun y => y.1) L = watF L x := by
  unfold fmF
  congr 1
  apply List.filter_congr
  intro y _
  by_cases e1 : y.2.2 = 2 <;> by_cases e2 : y.2.1 = x <;> simp [e1, e2]
theorem wat_any (w : World) (v : Value) (L : List Tm) (x : Int) (h : TRow w v L) (hn : L.length ≤ 100000) :
    Calls Try.prog 19 #[v, .int .i64 x] w fun e w' => (∃ v', e = .returned v' ∧ IOwn w' w.heap.size v' (watF L x)) ∧ Below w.heap.size w w' := by
  have hall := Below.refl w.heap.size w
  refine K_enter 8 Try.func19 rfl rfl fun a H => ?_
  replace H := H.pick [0, 1]
  refine wp_seq ?_
  refine wp_region_lit ?_
  refine op_box1 3 _ (.int .i64 x) (H.ev rfl) rfl fun w0 b0 hge hb k0 => ?_; have g0 := Nat.le_trans hall.size hge; replace h := Row.up h hb; replace hall := hall.trans (hb.mono hall.size); clear hb; clear hge; refine kl H rfl fun a H => ?_
  refine wl_v _ (r_assign evc) ?_; refine kl H rfl fun a H => ?_
  refine wpList_nil ?_
  refine c_next ?_
  refine wp_seq ?_
  refine wp_region_lit ?_
  refine wl_v _ (r_move (H.ev rfl)) ?_; refine kl H rfl fun a H => ?_
  refine wl_v (.func (.func 39) #[] #[.pointer (some ⟨b0, 0, none⟩)]) (r_mkfn1 (H.ev rfl)) ?_; refine kl H rfl fun a H => ?_
  refine wl_call _ _ _ (those_any 39 40 (fun y => decide (y.2.1 = x)) (fun y => y.1) b0 x cf39 cf40 (fun y w hc => c39_any b0 x y w hc) (fun y w => c40_any y w) _ _ L h hn ((k0.cell 0).trans rfl)) (r_call3 cf38 (H.ev rfl) (H.ev rfl) rfl) ?_; rintro e w9 ⟨⟨v1, rfl, hown⟩, hb⟩; refine ⟨_, rfl, ?_⟩; have g0' := hall.size; replace hown := own_base hown g0'; replace hall := hall.trans (hb.mono hall.size); clear hb; refine kl H rfl fun a H => ?_
  refine wl_v _ (r_assign (H.ev rfl)) ?_; refine kl H rfl fun a H => ?_
  refine wpList_nil ?_
  refine c_next ?_
  refine wp_ret ?_
  exact k_ret1 H rfl rfl ⟨⟨_, rfl, by rw [fm_swap19] at hown; exact hown⟩, hall⟩
theorem fm_swap21 (L : List Tm) (x : Int) : fmF (fun y => decide (y.2.2 = 2) && decide (y.1 = x)) (fun y => y.2.1) L = tarF L x := by
  unfold fmF
  congr 1
  apply List.filter_congr
  intro y _
  by_cases e1 : y.2.2 = 2 <;> by_cases e2 : y.1 = x <;> simp [e1, e2]
theorem tar_any (w : World) (v : Value) (L : List Tm) (x : Int) (h : TRow w v L) (hn : L.length ≤ 100000) :
    Calls Try.prog 21 #[v, .int .i64 x] w fun e w' => (∃ v', e = .returned v' ∧ IOwn w' w.heap.size v' (tarF L x)) ∧ Below w.heap.size w w' := by
  have hall := Below.refl w.heap.size w
  refine K_enter 8 Try.func21 rfl rfl fun a H => ?_
  replace H := H.pick [0, 1]
  refine wp_seq ?_
  refine wp_region_lit ?_
  refine op_box1 3 _ (.int .i64 x) (H.ev rfl) rfl fun w0 b0 hge hb k0 => ?_; have g0 := Nat.le_trans hall.size hge; replace h := Row.up h hb; replace hall := hall.trans (hb.mono hall.size); clear hb; clear hge; refine kl H rfl fun a H => ?_
  refine wl_v _ (r_assign evc) ?_; refine kl H rfl fun a H => ?_
  refine wpList_nil ?_
  refine c_next ?_
  refine wp_seq ?_
  refine wp_region_lit ?_
  refine wl_v _ (r_move (H.ev rfl)) ?_; refine kl H rfl fun a H => ?_
  refine wl_v (.func (.func 41) #[] #[.pointer (some ⟨b0, 0, none⟩)]) (r_mkfn1 (H.ev rfl)) ?_; refine kl H rfl fun a H => ?_
  refine wl_call _ _ _ (those_any 41 42 (fun y => decide (y.1 = x)) (fun y => y.2.1) b0 x cf41 cf42 (fun y w hc => c41_any b0 x y w hc) (fun y w => c42_any y w) _ _ L h hn ((k0.cell 0).trans rfl)) (r_call3 cf38 (H.ev rfl) (H.ev rfl) rfl) ?_; rintro e w9 ⟨⟨v1, rfl, hown⟩, hb⟩; refine ⟨_, rfl, ?_⟩; have g0' := hall.size; replace hown := own_base hown g0'; replace hall := hall.trans (hb.mono hall.size); clear hb; refine kl H rfl fun a H => ?_
  refine wl_v _ (r_assign (H.ev rfl)) ?_; refine kl H rfl fun a H => ?_
  refine wpList_nil ?_
  refine c_next ?_
  refine wp_ret ?_
  exact k_ret1 H rfl rfl ⟨⟨_, rfl, by rw [fm_swap21] at hown; exact hown⟩, hall⟩
theorem ord_key (y : Tm) (x z : Int) : ordF y (x, z, 0) = 0 ↔ y.1 = x ∧ y.2.1 = z := by
  unfold ordF orI cmpI
  simp only
  by_cases h1 : y.1 < x
  · simp [h1]; omega
  · by_cases h2 : x < y.1
    · simp [h1, h2]; omega
    · have e : y.1 = x := by omega
      by_cases h3 : y.2.1 < z
      · simp [h1, h2, h3]; omega
      · by_cases h4 : z < y.2.1
        · simp [h1, h2, h3, h4]; omega
        · simp [h1, h2, h3, h4]; omega
theorem ord_lt (a b : Tm) : ordF a b < 0 ↔ Lt a b := by
  unfold ordF orI cmpI Lt
  by_cases h1 : a.1 < b.1
  · simp [h1]
  · by_cases h2 : b.1 < a.1
    · simp only [h1, h2, if_true, if_false]; simp; omega
    · have e : a.1 = b.1 := by omega
      simp only [e, Int.lt_irrefl, if_false, if_true]
      by_cases h3 : a.2.1 < b.2.1
      · simp [h3]
      · by_cases h4 : b.2.1 < a.2.1
        · simp [h3, h4]
        · simp [h3, h4]
def FindP (L : List Tm) (x z : Int) (k : Nat) (f : Bool) : Prop := k ≤ L.length ∧ Ahead L (x, z, 0) k ∧ Behind L (x, z, 0) k ∧ (f = true ↔ ∃ y, L[k]? = some y ∧ y.1 = x ∧ y.2.1 = z)
theorem find_any (w : World) (v : Value) (L : List Tm) (x z : Int) (h : TRow w v L) (hn : L.length ≤ 100000) (hs : Mono L (x, z, 0)) :
    Calls Try.prog 32 #[v, .int .i64 x, .int .i64 z] w fun e w' => (∃ (k : Nat) (f : Bool), e = .returned (.tuple #[.int .i64 (k : Nat), .bool f]) ∧ FindP L x z k f) ∧ Below w.heap.size w w' := by
  have hall := Below.refl w.heap.size w
  refine K_enter 15 Try.func32 rfl rfl fun a H => ?_
  replace H := H.pick [0, 1, 2]
  refine wp_seq ?_
  refine wp_region_lit ?_
  refine wl_v _ (r_assign evc) ?_; refine kl H rfl fun a H => ?_
  refine wl_v _ (r_assign evc) ?_; refine kl H rfl fun a H => ?_
  refine wpList_nil ?_
  refine c_next ?_
  refine wp_seq ?_
  refine wp_region_lit ?_
  refine wl_v _ (r_move (H.ev rfl)) ?_; refine kl H rfl fun a H => ?_
  refine wl_v _ (r_move (H.ev rfl)) ?_; refine kl H rfl fun a H => ?_
  refine wl_v _ (r_move (H.ev rfl)) ?_; refine kl H rfl fun a H => ?_
  refine wl_v _ (r_build #[(0, .int .i64 x), (1, .int .i64 z)] (.agg #[.int .i64 x, .int .i64 z, .int .i64 0]) (by simp [evc, H.ev (j := 9) rfl, H.ev (j := 10) rfl]) (fun w => by kernel_rfl)) ?_; refine kl H rfl fun a H => ?_
  refine wl_call _ _ _ (bsearch_any _ _ L (x, z, 0) h hn hs) (r_call3 cf46 (H.ev rfl) (H.ev rfl) rfl) ?_; rintro e w9 ⟨⟨k, f, rfl, hk, ha, hb', hf⟩, hb⟩; refine ⟨_, rfl, ?_⟩; replace hall := hall.trans (hb.mono hall.size); clear hb; refine kl H rfl fun a H => ?_
  refine wl_v _ (r_extract (H.ev rfl) rfl) ?_; refine kl H rfl fun a H => ?_
  refine wl_v _ (r_extract (H.ev rfl) rfl) ?_; refine kl H rfl fun a H => ?_
  refine wl_v _ (r_assign (H.ev rfl)) ?_; refine kl H rfl fun a H => ?_
  refine wl_v _ (r_assign (H.ev rfl)) ?_; refine kl H rfl fun a H => ?_
  refine wpList_nil ?_
  refine c_next ?_
  refine wp_ret ?_
  exact k_ret2 H rfl rfl rfl ⟨⟨k, f, rfl, hk, ha, hb', hf.trans (by simp only [ord_key])⟩, hall⟩
theorem Lt.trans {a b c : Tm} (h : Lt a b) (g : Lt b c) : Lt a c := by unfold Lt at *; omega
theorem mono_of {L : List Tm} (h : L.Pairwise Lt) (x : Tm) : Mono L x := by
  intro q r hqr y z hy hz hlt
  by_cases e : q = r
  · subst e
    rw [hy] at hz
    injection hz with hz
    rw [hz]; exact hlt
  · obtain ⟨h1, rfl⟩ := List.getElem?_eq_some_iff.1 hy
    obtain ⟨h2, rfl⟩ := List.getElem?_eq_some_iff.1 hz
    exact (ord_lt _ _).2 ((List.pairwise_iff_getElem.1 h q r h1 h2 (by omega)).trans ((ord_lt _ _).1 hlt))
theorem find_yes {L : List Tm} {x z : Int} {k : Nat} {f : Bool} {y : Tm} (h : FindP L x z k f) (hy : L[k]? = some y) (he : y.1 = x ∧ y.2.1 = z) : stF L x z = y.2.2 := by
  refine st_here (k := k) (fun j hj u hu => ?_) hy he
  have := (ord_lt _ _).1 (h.2.1 j hj u hu)
  unfold Lt at this
  simp only at this
  omega
theorem find_no {L : List Tm} {x z : Int} {k : Nat} (hP : L.Pairwise Lt) (h : FindP L x z k false) : stF L x z = 0 := by
  refine st_none fun j hj u hu he => ?_
  by_cases hjk : j < k
  · have := (ord_lt _ _).1 (h.2.1 j hjk u hu)
    unfold Lt at this
    simp only at this
    omega
  · by_cases e : j = k
    · subst e
      have := h.2.2.2.2 ⟨u, hu, he⟩
      cases this
    · obtain ⟨hk', rfl⟩ := List.getElem?_eq_some_iff.1 hu
      have hlt := List.pairwise_iff_getElem.1 hP k j (by omega) hk' (by omega)
      have hb := h.2.2.1 k (Nat.le_refl _) L[k] (List.getElem?_eq_getElem (by omega))
      apply hb
      rw [ord_lt]
      unfold Lt at hlt ⊢
      simp only
      omega
theorem state_any (w : World) (v : Value) (L : List Tm) (x z : Int) (h : TRow w v L) (hn : L.length ≤ 100000) (hP : L.Pairwise Lt) :
    Calls Try.prog 16 #[v, .int .i64 x, .int .i64 z] w fun e w' => e = .returned (.int .i64 (stF L x z)) ∧ Below w.heap.size w w' := by
  have hall := Below.refl w.heap.size w
  have hs := mono_of hP (x, z, 0)
  refine K_enter 22 Try.func16 rfl rfl fun a H => ?_
  replace H := H.pick [0, 1, 2]
  refine wp_seq ?_
  refine wp_region_lit ?_
  refine wl_v _ (r_assign evc) ?_; refine kl H rfl fun a H => ?_
  refine wpList_nil ?_
  refine c_next ?_
  refine wp_seq ?_
  refine wp_seq ?_
  refine wp_region_lit ?_
  refine wl_v _ (r_move (H.ev rfl)) ?_; refine kl H rfl fun a H => ?_
  refine wl_v _ (r_move (H.ev rfl)) ?_; refine kl H rfl fun a H => ?_
  refine wl_v _ (r_move (H.ev rfl)) ?_; refine kl H rfl fun a H => ?_
  refine wl_call _ _ _ (find_any _ _ L x z h hn hs) (r_call3 cf32 (H.ev rfl) (H.ev rfl) (H.ev rfl)) ?_; rintro e w9 ⟨⟨k, f, rfl, hF⟩, hb⟩; refine ⟨_, rfl, ?_⟩; replace h := Row.up h hb; replace hall := hall.trans (hb.mono hall.size); clear hb; refine kl H rfl fun a H => ?_
  refine wl_v _ (r_move (H.ev rfl)) ?_; refine kl H rfl fun a H => ?_
  refine wl_v _ (r_extract (H.ev rfl) rfl) ?_; refine kl H rfl fun a H => ?_
  refine wl_v _ (r_extract (H.ev rfl) rfl) ?_; refine kl H rfl fun a H => ?_
  refine wl_v _ (r_assign (H.ev rfl)) ?_; refine kl H rfl fun a H => ?_
  refine wl_v _ (r_assign (H.ev rfl)) ?_; refine kl H rfl fun a H => ?_
  refine wpList_nil ?_
  refine c_next ?_
  refine wp_seq ?_
  cases f
  · skip
    have HS := Lib.hid (find_no hP hF)
    refine wp_region_lit ?_
    refine wl_v _ (r_move (H.ev rfl)) ?_; refine kl H rfl fun a H => ?_
    refine wpList_nil ?_
    refine c_next ?_
    refine c_cond_f H rfl ?_
    refine wp_skip ?_
    refine c_next ?_
    refine wp_seq ?_
    refine wp_region_lit ?_
    refine wl_v _ (r_assign evc) ?_; refine kl H rfl fun a H => ?_
    refine wpList_nil ?_
    refine c_next ?_
    refine wp_ret ?_
    exact k_ret1 H rfl rfl ⟨by rw [HS.out], hall⟩
  · skip
    obtain ⟨y, hy, hy1, hy2⟩ := hF.2.2.2.1 rfl
    have hlt := (List.getElem?_eq_some_iff.1 hy).1
    have HS := Lib.hid (find_yes hF hy ⟨hy1, hy2⟩)
    obtain ⟨A, c, rfl, q1, q2, q3, hh⟩ := h
    obtain ⟨b, o, hA, hr⟩ := flat_some encT_len hh (by omega) hlt
    subst hA
    have e : L[k] = y := (List.getElem?_eq_some_iff.1 hy).2
    rw [e] at hr
    refine wp_region_lit ?_
    refine wl_v _ (r_move (H.ev rfl)) ?_; refine kl H rfl fun a H => ?_
    refine wpList_nil ?_
    refine c_next ?_
    refine c_cond_t H rfl ?_
    refine wp_seq ?_
    refine wp_region_lit ?_
    refine wl_v _ (r_move (H.ev rfl)) ?_; refine kl H rfl fun a H => ?_
    refine wl_v _ (r_move (H.ev rfl)) ?_; refine kl H rfl fun a H => ?_
    refine wl_v _ (r_idx (j := k) (q := o + k * 3) Try.underlying22 s37 (H.ev rfl) (H.ev rfl) (by omega) rfl) ?_; refine kl H rfl fun a H => ?_
    refine wl_v _ (r_fld (q := o + k * 3 + 2) fld37_2 (H.ev rfl) rfl) ?_; refine kl H rfl fun a H => ?_
    refine wl_v _ (r_ld Try.underlying3 rfl (H.ev rfl) (range_cell hr 2 rfl)) ?_; refine kl H rfl fun a H => ?_
    refine wl_v _ (r_assign (H.ev rfl)) ?_; refine kl H rfl fun a H => ?_
    refine wpList_nil ?_
    refine c_next ?_
    refine wp_ret ?_
    refine r_then ?_
    exact k_ret1 H rfl rfl ⟨by rw [HS.out], hall⟩
end Go.Proofs.Ytfehhenbdiageaa
