/- Fanout: Equal, Same, Index, Contains at marks. -/
import Derived.Test.YtpegfbdepgmbjaaF
namespace Go.Proofs.Ytpegfbdepgmbjaa
open Go.RowKit
set_option linter.unusedVariables false
set_option linter.unusedSimpArgs false

theorem g29 : Try.prog.eqGuardType Try.prog.depth 29 = false := by kernel_rfl
theorem hh29 : Try.prog.stoodInHeld 29 = false := by kernel_rfl
theorem eq29 (x y : Mk) (w : World) : (Op.equalIn 10000 29 (.agg #[.int .i64 x.1, .int .i64 x.2]) (.agg #[.int .i64 y.1, .int .i64 y.2])).run Try.prog w = .ok (decide (x = y)) w := by
  have h0 := hh29
  have u29 := Try.underlying29
  have u3 := Try.underlying3
  obtain ⟨a1, a2⟩ := x
  obtain ⟨b1, b2⟩ := y
  go_simp
  by_cases e0 : a1 = b1 <;> by_cases e1 : a2 = b2 <;> simp [e0, e1]
section
variable {a : Act} {w : World} {d : Option Tmp} {tt t2 : TypeId} {ps : String} {af : Array Edge} {gd : Option (Nat × Bool)} {p q : Operand} {x y : Mk} (hx : a.eval p = .agg #[.int .i64 x.1, .int .i64 x.2]) (hy : a.eval q = .agg #[.int .i64 y.1, .int .i64 y.2])
include hx hy
theorem r_ne29 {b : Bool} (hb : decide (x ≠ y) = b) :
    (execOp a.eval ⟨d, .binOp .neq 29 p q t2, tt, ps, af, gd⟩).run Try.prog w = .ok (.value (.bool b)) w := by
  subst hb
  have hg := g29
  have heq := fun w => eq29 x y w
  unfold execOp
  simp only [hx, hy]
  go_simp
theorem r_eq29 {b : Bool} (hb : decide (x = y) = b) :
    (execOp a.eval ⟨d, .binOp .eql 29 p q t2, tt, ps, af, gd⟩).run Try.prog w = .ok (.value (.bool b)) w := by
  subst hb
  have hg := g29
  have heq := fun w => eq29 x y w
  unfold execOp
  simp only [hx, hy]
  go_simp
end
def Eq24 (W : World) (A : Option Addr) (c : Nat) (L : List Mk) (A2 : Option Addr) (c2 : Nat) (M : List Mk) (a : Act) (w : World) : Prop :=
  ∃ k : Nat, Kn a 26 [(0, .slice A L.length c), (1, .slice A2 M.length c2), (11, .slice A L.length c), (12, .int .i64 (L.length : Nat)), (13, .int .i64 (k : Nat))] ∧ k ≤ L.length ∧ (∀ j, j < k → L[j]? = M[j]?) ∧ Below W.heap.size W w
theorem equal_any (w : World) (v u : Value) (L M : List Mk) (h : MRow w v L) (hu : MRow w u M) (hn : L.length ≤ 9223372036854775807) :
    Calls Try.prog 24 #[v, u] w fun e w' => e = .returned (.bool (decide (L = M))) ∧ Below w.heap.size w w' := by
  obtain ⟨A, c, rfl, h1, h2, h3, hh⟩ := h
  obtain ⟨A2, c2, rfl, g1, g2, g3, hg⟩ := hu
  replace hh := Lib.hid hh
  replace hg := Lib.hid hg
  have hall := Below.refl w.heap.size w
  by_cases hlen : L.length = M.length
  · skip
    refine K_enter 26 Try.func24 rfl rfl fun a H => ?_
    replace H := H.pick [0, 1]
    refine wp_seq ?_
    refine wp_region_lit ?_
    refine wl_v _ (r_assign evc) ?_; refine kl H rfl fun a H => ?_
    refine wpList_nil ?_
    refine c_next ?_
    refine wp_seq ?_
    refine wp_seq ?_
    refine wp_region_lit ?_
    refine wl_v _ (r_move (H.ev rfl)) ?_; refine kl H rfl fun a H => ?_
    refine wl_v _ (r_len Try.underlying22 (H.ev rfl)) ?_; refine kl H rfl fun a H => ?_
    refine wl_v _ (r_move (H.ev rfl)) ?_; refine kl H rfl fun a H => ?_
    refine wl_v _ (r_len Try.underlying22 (H.ev rfl)) ?_; refine kl H rfl fun a H => ?_
    refine wl_v _ (r_ne Try.underlying3 (H.ev rfl) (H.ev rfl) (dec_f (by omega))) ?_; refine kl H rfl fun a H => ?_
    refine wpList_nil ?_
    refine c_next ?_
    refine c_cond_f H rfl ?_
    refine wp_skip ?_
    refine c_next ?_
    refine wp_seq ?_
    refine wp_seq ?_
    refine wp_region_lit ?_
    refine wl_v _ (r_move (H.ev rfl)) ?_; refine kl H rfl fun a H => ?_
    refine wl_v _ (r_len Try.underlying22 (H.ev rfl)) ?_; refine kl H rfl fun a H => ?_
    refine wl_v _ (r_move evc) ?_; refine kl H rfl fun a H => ?_
    refine wpList_nil ?_
    refine c_next ?_
    refine wp_block ?_
    refine wp_loop (Eq24 w A c L A2 c2 M) (fun a _ => L.length - (intOf (a.eval (.tmp 13))).toNat) ⟨0, H.pick [0, 1, 11, 12, 13], by omega, fun j hj => by omega, hall⟩ ?_
    clear H hall
    rintro a w' ⟨k, H, hk, hsame, hall⟩
    have H0 := H
    by_cases hlt : k < L.length
    · skip
      obtain ⟨b1, o1, hA1, hr1⟩ := flat_some encM_len hh.out (by omega) hlt
      obtain ⟨b2, o2, hA2, hr2⟩ := flat_some encM_len hg.out (by omega) (j := k) (by omega)
      subst hA1 hA2
      have hy1 : L[k]? = some L[k] := List.getElem?_eq_getElem hlt
      have hy2 : M[k]? = some (M[k]'(by omega)) := List.getElem?_eq_getElem _
      have HY1 := Lib.hid hy1
      have HY2 := Lib.hid hy2
      have HR1 := Lib.hid hr1
      have HR2 := Lib.hid hr2
      generalize L[k] = x at *
      generalize M[k]'_ = y at *
      clear hy1 hy2 hr1 hr2
      by_cases he : x = y
      · skip
        refine wp_seq ?_
        refine wp_region_lit ?_
        refine wl_v _ (r_lt Try.underlying3 (H.ev rfl) (H.ev rfl) (dec_t (by omega))) ?_; refine kl H rfl fun a H => ?_
        refine wpList_nil ?_
        refine c_next ?_
        refine wp_seq ?_
        refine c_cond_t H rfl ?_
        refine wp_skip ?_
        refine c_next ?_
        refine wp_seq ?_
        refine wp_block ?_
        refine wp_seq ?_
        refine wp_region_lit ?_
        refine wl_v _ (r_move (H.ev rfl)) ?_; refine kl H rfl fun a H => ?_
        refine wl_v _ (r_assign (H.ev rfl)) ?_; refine kl H rfl fun a H => ?_
        refine wpList_nil ?_
        refine c_next ?_
        refine wp_seq ?_
        have hS : BelowOf w _ := hall.drew
        refine region_pi (BelowOf w) [(0, true), (1, true), (2, true), (3, true), (4, true), (5, true), (6, true), (7, true), (8, true)] (by kernel_rfl) (by kernel_rfl) rfl (by kernel_rfl) hS ?_
        refine pi_f0 _ rfl (fun w' hS' => r_move (H.ev rfl)) ?_; refine kp H rfl fun a H => ?_
        refine pi_f0 _ rfl (fun w' hS' => r_move (H.ev rfl)) ?_; refine kp H rfl fun a H => ?_
        refine pi_f0 _ rfl (fun w' hS' => r_idx (j := k) (q := o1 + k * 2) Try.underlying22 s29 (H.ev rfl) (H.ev rfl) (by omega) rfl) ?_; refine kp H rfl fun a H => ?_
        refine pi_f0 _ rfl (fun w' hS' => r_row (cs := [.int .i64 x.1, .int .i64 x.2]) (H.ev rfl) (range_ups HR1.out hS') (by kernel_rfl) s29 rfl) ?_; refine kp H rfl fun a H => ?_
        refine pi_f0 _ rfl (fun w' hS' => r_move (H.ev rfl)) ?_; refine kp H rfl fun a H => ?_
        refine pi_f0 _ rfl (fun w' hS' => r_move (H.ev rfl)) ?_; refine kp H rfl fun a H => ?_
        refine pi_f0 _ rfl (fun w' hS' => r_idx (j := k) (q := o2 + k * 2) Try.underlying22 s29 (H.ev rfl) (H.ev rfl) (by omega) rfl) ?_; refine kp H rfl fun a H => ?_
        refine pi_f0 _ rfl (fun w' hS' => r_row (cs := [.int .i64 y.1, .int .i64 y.2]) (H.ev rfl) (range_ups HR2.out hS') (by kernel_rfl) s29 rfl) ?_; refine kp H rfl fun a H => ?_
        refine pi_f0 (.bool false) rfl (fun w' hS' => r_ne29 (H.ev rfl) (H.ev rfl) (dec_f (not_not_intro he))) ?_; refine kp H rfl fun a H => ?_
        refine pi_nil (NoPanic.normal ?_)
        have hall : Below w.heap.size w _ := hS
        clear hS
        refine c_next ?_
        refine c_cond_f H rfl ?_
        refine wp_skip ?_
        refine n_block ?_
        refine c_next ?_
        refine wp_region_lit ?_
        refine wl_v _ (r_add (q := ((k + 1 : Nat) : Int)) Try.underlying3 (H.ev rfl) evc (by omega) (by omega)) ?_; refine kl H rfl fun a H => ?_
        refine wl_v _ (r_move (H.ev rfl)) ?_; refine kl H rfl fun a H => ?_
        refine wpList_nil ?_
        refine n_then ⟨⟨k + 1, H.pick [0, 1, 11, 12, 13], by omega, same_next hsame HY1.out HY2.out he, hall⟩, ?_⟩
        rw [H.ev (j := 13) rfl, H0.ev (j := 13) rfl]
        simp only [intOf]
        omega
      · skip
        refine wp_seq ?_
        refine wp_region_lit ?_
        refine wl_v _ (r_lt Try.underlying3 (H.ev rfl) (H.ev rfl) (dec_t (by omega))) ?_; refine kl H rfl fun a H => ?_
        refine wpList_nil ?_
        refine c_next ?_
        refine wp_seq ?_
        refine c_cond_t H rfl ?_
        refine wp_skip ?_
        refine c_next ?_
        refine wp_seq ?_
        refine wp_block ?_
        refine wp_seq ?_
        refine wp_region_lit ?_
        refine wl_v _ (r_move (H.ev rfl)) ?_; refine kl H rfl fun a H => ?_
        refine wl_v _ (r_assign (H.ev rfl)) ?_; refine kl H rfl fun a H => ?_
        refine wpList_nil ?_
        refine c_next ?_
        refine wp_seq ?_
        have hS : BelowOf w _ := hall.drew
        refine region_pi (BelowOf w) [(0, true), (1, true), (2, true), (3, true), (4, true), (5, true), (6, true), (7, true), (8, true)] (by kernel_rfl) (by kernel_rfl) rfl (by kernel_rfl) hS ?_
        refine pi_f0 _ rfl (fun w' hS' => r_move (H.ev rfl)) ?_; refine kp H rfl fun a H => ?_
        refine pi_f0 _ rfl (fun w' hS' => r_move (H.ev rfl)) ?_; refine kp H rfl fun a H => ?_
        refine pi_f0 _ rfl (fun w' hS' => r_idx (j := k) (q := o1 + k * 2) Try.underlying22 s29 (H.ev rfl) (H.ev rfl) (by omega) rfl) ?_; refine kp H rfl fun a H => ?_
        refine pi_f0 _ rfl (fun w' hS' => r_row (cs := [.int .i64 x.1, .int .i64 x.2]) (H.ev rfl) (range_ups HR1.out hS') (by kernel_rfl) s29 rfl) ?_; refine kp H rfl fun a H => ?_
        refine pi_f0 _ rfl (fun w' hS' => r_move (H.ev rfl)) ?_; refine kp H rfl fun a H => ?_
        refine pi_f0 _ rfl (fun w' hS' => r_move (H.ev rfl)) ?_; refine kp H rfl fun a H => ?_
        refine pi_f0 _ rfl (fun w' hS' => r_idx (j := k) (q := o2 + k * 2) Try.underlying22 s29 (H.ev rfl) (H.ev rfl) (by omega) rfl) ?_; refine kp H rfl fun a H => ?_
        refine pi_f0 _ rfl (fun w' hS' => r_row (cs := [.int .i64 y.1, .int .i64 y.2]) (H.ev rfl) (range_ups HR2.out hS') (by kernel_rfl) s29 rfl) ?_; refine kp H rfl fun a H => ?_
        refine pi_f0 (.bool true) rfl (fun w' hS' => r_ne29 (H.ev rfl) (H.ev rfl) (dec_t he)) ?_; refine kp H rfl fun a H => ?_
        refine pi_nil (NoPanic.normal ?_)
        have hall : Below w.heap.size w _ := hS
        clear hS
        refine c_next ?_
        refine c_cond_t H rfl ?_
        refine wp_seq ?_
        refine wp_region_lit ?_
        refine wl_v _ (r_assign evc) ?_; refine kl H rfl fun a H => ?_
        refine wpList_nil ?_
        refine c_next ?_
        refine wp_ret ?_
        refine r_block ?_
        refine r_then ?_
        refine r_then ?_
        refine r_block ?_
        refine r_then ?_
        exact k_ret1 H rfl rfl ⟨by rw [dec_f (p := L = M) (ne_of_at HY1.out HY2.out he)], hall⟩
    · skip
      obtain rfl : k = L.length := by omega
      refine wp_seq ?_
      refine wp_region_lit ?_
      refine wl_v _ (r_lt Try.underlying3 (H.ev rfl) (H.ev rfl) (dec_f (by omega))) ?_; refine kl H rfl fun a H => ?_
      refine wpList_nil ?_
      refine c_next ?_
      refine wp_seq ?_
      refine c_cond_f H rfl ?_
      refine wp_exit ?_
      refine e_then ?_
      refine e_then ?_
      refine e_here ?_
      refine c_next ?_
      refine wp_seq ?_
      refine wp_region_lit ?_
      refine wl_v _ (r_assign evc) ?_; refine kl H rfl fun a H => ?_
      refine wpList_nil ?_
      refine c_next ?_
      refine wp_ret ?_
      exact k_ret1 H rfl rfl ⟨by rw [dec_t (p := L = M) (same_end hlen hsame)], hall⟩
  · skip
    refine K_enter 26 Try.func24 rfl rfl fun a H => ?_
    replace H := H.pick [0, 1]
    refine wp_seq ?_
    refine wp_region_lit ?_
    refine wl_v _ (r_assign evc) ?_; refine kl H rfl fun a H => ?_
    refine wpList_nil ?_
    refine c_next ?_
    refine wp_seq ?_
    refine wp_seq ?_
    refine wp_region_lit ?_
    refine wl_v _ (r_move (H.ev rfl)) ?_; refine kl H rfl fun a H => ?_
    refine wl_v _ (r_len Try.underlying22 (H.ev rfl)) ?_; refine kl H rfl fun a H => ?_
    refine wl_v _ (r_move (H.ev rfl)) ?_; refine kl H rfl fun a H => ?_
    refine wl_v _ (r_len Try.underlying22 (H.ev rfl)) ?_; refine kl H rfl fun a H => ?_
    refine wl_v _ (r_ne Try.underlying3 (H.ev rfl) (H.ev rfl) (dec_t (by omega))) ?_; refine kl H rfl fun a H => ?_
    refine wpList_nil ?_
    refine c_next ?_
    refine c_cond_t H rfl ?_
    refine wp_seq ?_
    refine wp_region_lit ?_
    refine wl_v _ (r_assign evc) ?_; refine kl H rfl fun a H => ?_
    refine wpList_nil ?_
    refine c_next ?_
    refine wp_ret ?_
    refine r_then ?_
    exact k_ret1 H rfl rfl ⟨by rw [dec_f (p := L = M) (fun e => hlen (by rw [e]))], hall⟩
def sameB (L : List Mk) (t : Int) (M : List Mk) (q : Int) : Bool := decide (t = q ∧ L = M)
theorem same_any (w : World) (t q : Int) (v u : Value) (L M : List Mk) (h : MRow w v L) (hu : MRow w u M) (hn : L.length ≤ 9223372036854775807) :
    Calls Try.prog 13 #[.agg #[v, .int .i64 t], .agg #[u, .int .i64 q]] w fun e w' => e = .returned (.bool (sameB L t M q)) ∧ Below w.heap.size w w' := by
  have hall := Below.refl w.heap.size w
  cases hlm : decide (L = M)
  · skip
    refine K_enter 17 Try.func13 rfl rfl fun a H => ?_
    replace H := H.pick [0, 1]
    refine wp_seq ?_
    refine wp_region_lit ?_
    refine op_box 24 _ #[v, .int .i64 t] (H.ev rfl) fun w0 b0 hge hb k0 => ?_; have g0 := Nat.le_trans hall.size hge; replace hall := hall.trans (hb.mono hall.size); clear hb; clear hge; refine kl H rfl fun a H => ?_
    refine op_box 24 _ #[u, .int .i64 q] (H.ev rfl) fun w1 b1 hge hb k1 => ?_; have g1 := Nat.le_trans hall.size hge; replace k0 := Block.ups k0 hb; replace hall := hall.trans (hb.mono hall.size); clear hb; clear hge; refine kl H rfl fun a H => ?_
    refine wl_v _ (r_assign evc) ?_; refine kl H rfl fun a H => ?_
    refine wpList_nil ?_
    refine c_next ?_
    refine wp_seq ?_
    refine wp_region_lit ?_
    refine wl_v _ (r_fld (q := 1) fld24_1 (H.ev rfl) rfl) ?_; refine kl H rfl fun a H => ?_
    refine wl_v _ (r_ld Try.underlying3 rfl (H.ev rfl) ((Block.cell k0 1).trans rfl)) ?_; refine kl H rfl fun a H => ?_
    refine wl_v _ (r_fld (q := 1) fld24_1 (H.ev rfl) rfl) ?_; refine kl H rfl fun a H => ?_
    refine wl_v _ (r_ld Try.underlying3 rfl (H.ev rfl) ((Block.cell k1 1).trans rfl)) ?_; refine kl H rfl fun a H => ?_
    by_cases hcc0 : t = q
    · skip
      refine wl_v _ (r_eq Try.underlying3 (H.ev rfl) (H.ev rfl) (dec_t (hcc0))) ?_; refine kl H rfl fun a H => ?_
      refine wl_v _ (r_move (H.ev rfl)) ?_; refine kl H rfl fun a H => ?_
      refine op_unguard _ _ (kg_yes rfl H rfl rfl rfl) ?_; refine wl_v _ (r_fld (q := 0) fld24_0 (H.ev rfl) rfl) ?_; refine kl H rfl fun a H => ?_
      refine op_unguard _ _ (kg_yes rfl H rfl rfl rfl) ?_; refine wl_v _ (r_ld Try.underlying22 rfl (H.ev rfl) ((Block.cell k0 0).trans rfl)) ?_; refine kl H rfl fun a H => ?_
      refine op_unguard _ _ (kg_yes rfl H rfl rfl rfl) ?_; refine wl_v _ (r_fld (q := 0) fld24_0 (H.ev rfl) rfl) ?_; refine kl H rfl fun a H => ?_
      refine op_unguard _ _ (kg_yes rfl H rfl rfl rfl) ?_; refine wl_v _ (r_ld Try.underlying22 rfl (H.ev rfl) ((Block.cell k1 0).trans rfl)) ?_; refine kl H rfl fun a H => ?_
      refine op_unguard _ _ (kg_yes rfl H rfl rfl rfl) ?_; refine wl_call _ _ _ (equal_any _ _ _ L M (Row.up h hall) (Row.up hu hall) hn) (r_call2 cf24 (H.ev rfl) (H.ev rfl)) ?_; rintro e w9 ⟨rfl, hb⟩; refine ⟨_, rfl, ?_⟩; rw [hlm]; replace k0 := Block.ups k0 hb; replace k1 := Block.ups k1 hb; replace hall := hall.trans (hb.mono hall.size); clear hb; refine kl H rfl fun a H => ?_
      refine wl_v _ (r_pick_t (H.ev rfl) (H.ev rfl)) ?_; refine kl H rfl fun a H => ?_
      refine wl_v _ (r_assign (H.ev rfl)) ?_; refine kl H rfl fun a H => ?_
      refine wpList_nil ?_
      refine c_next ?_
      refine wp_ret ?_
      exact k_ret1 H rfl rfl ⟨by rw [show sameB L t M q = false from dec_f (fun e => of_decide_eq_false hlm e.2)], hall⟩
    · skip
      refine wl_v _ (r_eq Try.underlying3 (H.ev rfl) (H.ev rfl) (dec_f (hcc0))) ?_; refine kl H rfl fun a H => ?_
      refine wl_v _ (r_move (H.ev rfl)) ?_; refine kl H rfl fun a H => ?_
      refine wl_s (kg_no rfl H rfl rfl rfl) ?_; refine kl H rfl fun a H => ?_
      refine wl_s (kg_no rfl H rfl rfl rfl) ?_; refine kl H rfl fun a H => ?_
      refine wl_s (kg_no rfl H rfl rfl rfl) ?_; refine kl H rfl fun a H => ?_
      refine wl_s (kg_no rfl H rfl rfl rfl) ?_; refine kl H rfl fun a H => ?_
      refine wl_s (kg_no rfl H rfl rfl rfl) ?_; refine kl H rfl fun a H => ?_
      refine wl_v _ (r_pick_f (H.ev rfl) evc) ?_; refine kl H rfl fun a H => ?_
      refine wl_v _ (r_assign (H.ev rfl)) ?_; refine kl H rfl fun a H => ?_
      refine wpList_nil ?_
      refine c_next ?_
      refine wp_ret ?_
      exact k_ret1 H rfl rfl ⟨by rw [show sameB L t M q = false from dec_f (fun e => absurd e.1 (by omega))], hall⟩
  · skip
    refine K_enter 17 Try.func13 rfl rfl fun a H => ?_
    replace H := H.pick [0, 1]
    refine wp_seq ?_
    refine wp_region_lit ?_
    refine op_box 24 _ #[v, .int .i64 t] (H.ev rfl) fun w0 b0 hge hb k0 => ?_; have g0 := Nat.le_trans hall.size hge; replace hall := hall.trans (hb.mono hall.size); clear hb; clear hge; refine kl H rfl fun a H => ?_
    refine op_box 24 _ #[u, .int .i64 q] (H.ev rfl) fun w1 b1 hge hb k1 => ?_; have g1 := Nat.le_trans hall.size hge; replace k0 := Block.ups k0 hb; replace hall := hall.trans (hb.mono hall.size); clear hb; clear hge; refine kl H rfl fun a H => ?_
    refine wl_v _ (r_assign evc) ?_; refine kl H rfl fun a H => ?_
    refine wpList_nil ?_
    refine c_next ?_
    refine wp_seq ?_
    refine wp_region_lit ?_
    refine wl_v _ (r_fld (q := 1) fld24_1 (H.ev rfl) rfl) ?_; refine kl H rfl fun a H => ?_
    refine wl_v _ (r_ld Try.underlying3 rfl (H.ev rfl) ((Block.cell k0 1).trans rfl)) ?_; refine kl H rfl fun a H => ?_
    refine wl_v _ (r_fld (q := 1) fld24_1 (H.ev rfl) rfl) ?_; refine kl H rfl fun a H => ?_
    refine wl_v _ (r_ld Try.underlying3 rfl (H.ev rfl) ((Block.cell k1 1).trans rfl)) ?_; refine kl H rfl fun a H => ?_
    by_cases hcc1 : t = q
    · skip
      refine wl_v _ (r_eq Try.underlying3 (H.ev rfl) (H.ev rfl) (dec_t (hcc1))) ?_; refine kl H rfl fun a H => ?_
      refine wl_v _ (r_move (H.ev rfl)) ?_; refine kl H rfl fun a H => ?_
      refine op_unguard _ _ (kg_yes rfl H rfl rfl rfl) ?_; refine wl_v _ (r_fld (q := 0) fld24_0 (H.ev rfl) rfl) ?_; refine kl H rfl fun a H => ?_
      refine op_unguard _ _ (kg_yes rfl H rfl rfl rfl) ?_; refine wl_v _ (r_ld Try.underlying22 rfl (H.ev rfl) ((Block.cell k0 0).trans rfl)) ?_; refine kl H rfl fun a H => ?_
      refine op_unguard _ _ (kg_yes rfl H rfl rfl rfl) ?_; refine wl_v _ (r_fld (q := 0) fld24_0 (H.ev rfl) rfl) ?_; refine kl H rfl fun a H => ?_
      refine op_unguard _ _ (kg_yes rfl H rfl rfl rfl) ?_; refine wl_v _ (r_ld Try.underlying22 rfl (H.ev rfl) ((Block.cell k1 0).trans rfl)) ?_; refine kl H rfl fun a H => ?_
      refine op_unguard _ _ (kg_yes rfl H rfl rfl rfl) ?_; refine wl_call _ _ _ (equal_any _ _ _ L M (Row.up h hall) (Row.up hu hall) hn) (r_call2 cf24 (H.ev rfl) (H.ev rfl)) ?_; rintro e w9 ⟨rfl, hb⟩; refine ⟨_, rfl, ?_⟩; rw [hlm]; replace k0 := Block.ups k0 hb; replace k1 := Block.ups k1 hb; replace hall := hall.trans (hb.mono hall.size); clear hb; refine kl H rfl fun a H => ?_
      refine wl_v _ (r_pick_t (H.ev rfl) (H.ev rfl)) ?_; refine kl H rfl fun a H => ?_
      refine wl_v _ (r_assign (H.ev rfl)) ?_; refine kl H rfl fun a H => ?_
      refine wpList_nil ?_
      refine c_next ?_
      refine wp_ret ?_
      exact k_ret1 H rfl rfl ⟨by rw [show sameB L t M q = true from dec_t ⟨by omega, of_decide_eq_true hlm⟩], hall⟩
    · skip
      refine wl_v _ (r_eq Try.underlying3 (H.ev rfl) (H.ev rfl) (dec_f (hcc1))) ?_; refine kl H rfl fun a H => ?_
      refine wl_v _ (r_move (H.ev rfl)) ?_; refine kl H rfl fun a H => ?_
      refine wl_s (kg_no rfl H rfl rfl rfl) ?_; refine kl H rfl fun a H => ?_
      refine wl_s (kg_no rfl H rfl rfl rfl) ?_; refine kl H rfl fun a H => ?_
      refine wl_s (kg_no rfl H rfl rfl rfl) ?_; refine kl H rfl fun a H => ?_
      refine wl_s (kg_no rfl H rfl rfl rfl) ?_; refine kl H rfl fun a H => ?_
      refine wl_s (kg_no rfl H rfl rfl rfl) ?_; refine kl H rfl fun a H => ?_
      refine wl_v _ (r_pick_f (H.ev rfl) evc) ?_; refine kl H rfl fun a H => ?_
      refine wl_v _ (r_assign (H.ev rfl)) ?_; refine kl H rfl fun a H => ?_
      refine wpList_nil ?_
      refine c_next ?_
      refine wp_ret ?_
      exact k_ret1 H rfl rfl ⟨by rw [show sameB L t M q = false from dec_f (fun e => absurd e.1 (by omega))], hall⟩
def NoM (L : List Mk) (m : Mk) (k : Nat) : Prop := ∀ j : Nat, j < k → L[j]? ≠ some m
theorem nom_next {L : List Mk} {m : Mk} {k : Nat} {y : Mk} (h : NoM L m k) (hy : L[k]? = some y) (hn : ¬ m = y) : NoM L m (k + 1) := by
  intro j hj
  by_cases e : j = k
  · subst e
    rw [hy]
    intro h2; injection h2 with h2; exact hn h2.symm
  · exact h j (by omega)
theorem hasm_here {L : List Mk} {m y : Mk} {k : Nat} (hy : L[k]? = some y) (he : m = y) : (0 ≤ (k : Int)) = (m ∈ L) := by
  subst he
  have := List.mem_of_getElem? hy
  simp [this]
theorem hasm_none {L : List Mk} {m : Mk} (h : NoM L m L.length) : (0 ≤ (-1 : Int)) = (m ∈ L) := by
  have : ¬ m ∈ L := fun hm => by
    obtain ⟨j, hj, e⟩ := List.mem_iff_getElem.1 hm
    exact h j hj (by rw [List.getElem?_eq_getElem hj, e])
  simp [this]
def SIx (W : World) (b0 : Nat) (m : Mk) (w : World) : Prop := Below W.heap.size W w ∧ Block w b0 29 #[.int .i64 m.1, .int .i64 m.2]
def Ix29 (W : World) (A : Option Addr) (c : Nat) (L : List Mk) (m : Mk) (b0 : Nat) (a : Act) (w : World) : Prop :=
  ∃ k : Nat, Kn a 19 [(0, .slice A L.length c), (3, .pointer (some ⟨b0, 0, none⟩)), (7, .int .i64 (L.length : Nat)), (8, .int .i64 (k : Nat))] ∧ k ≤ L.length ∧ NoM L m k ∧ Block w b0 29 #[.int .i64 m.1, .int .i64 m.2] ∧ Below W.heap.size W w
theorem index_any (w : World) (v : Value) (L : List Mk) (m : Mk) (h : MRow w v L) (hn : L.length ≤ 9223372036854775807) :
    Calls Try.prog 29 #[v, .agg #[.int .i64 m.1, .int .i64 m.2]] w fun e w' => (∃ k : Int, e = .returned (.int .i64 k) ∧ (0 ≤ k) = (m ∈ L)) ∧ Below w.heap.size w w' := by
  obtain ⟨A, c, rfl, h1, h2, h3, hh⟩ := h
  replace hh := Lib.hid hh
  have hall := Below.refl w.heap.size w
  refine K_enter 19 Try.func29 rfl rfl fun a H => ?_
  replace H := H.pick [0, 1]
  refine wp_seq ?_
  refine wp_region_lit ?_
  refine op_box 29 _ #[.int .i64 m.1, .int .i64 m.2] (H.ev rfl) fun w0 b0 hge hb k0 => ?_; have g0 := Nat.le_trans hall.size hge; replace hall := hall.trans (hb.mono hall.size); clear hb; clear hge; refine kl H rfl fun a H => ?_
  refine wl_v _ (r_assign evc) ?_; refine kl H rfl fun a H => ?_
  refine wpList_nil ?_
  refine c_next ?_
  refine wp_seq ?_
  refine wp_seq ?_
  refine wp_region_lit ?_
  refine wl_v _ (r_move (H.ev rfl)) ?_; refine kl H rfl fun a H => ?_
  refine wl_v _ (r_len Try.underlying22 (H.ev rfl)) ?_; refine kl H rfl fun a H => ?_
  refine wl_v _ (r_move evc) ?_; refine kl H rfl fun a H => ?_
  refine wpList_nil ?_
  refine c_next ?_
  refine wp_block ?_
  refine wp_loop (Ix29 w A c L m b0) (fun a _ => L.length - (intOf (a.eval (.tmp 8))).toNat) ⟨0, H.pick [0, 3, 7, 8], by omega, fun j hj => by omega, k0, hall⟩ ?_
  clear H hall k0
  rintro a w' ⟨k, H, hk, hno, k0, hall⟩
  have H0 := H
  by_cases hlt : k < L.length
  · skip
    obtain ⟨b, o, hA, hr⟩ := flat_some encM_len hh.out (by omega) hlt
    subst hA
    have hy : L[k]? = some L[k] := List.getElem?_eq_getElem hlt
    have HY := Lib.hid hy
    have HRG := Lib.hid hr
    generalize L[k] = y at *
    clear hy hr
    by_cases he : m = y
    · skip
      refine wp_seq ?_
      refine wp_region_lit ?_
      refine wl_v _ (r_lt Try.underlying3 (H.ev rfl) (H.ev rfl) (dec_t (by omega))) ?_; refine kl H rfl fun a H => ?_
      refine wpList_nil ?_
      refine c_next ?_
      refine wp_seq ?_
      refine c_cond_t H rfl ?_
      refine wp_skip ?_
      refine c_next ?_
      refine wp_seq ?_
      refine wp_block ?_
      refine wp_seq ?_
      refine wp_region_lit ?_
      refine wl_v _ (r_move (H.ev rfl)) ?_; refine kl H rfl fun a H => ?_
      refine wl_v _ (r_assign (H.ev rfl)) ?_; refine kl H rfl fun a H => ?_
      refine wpList_nil ?_
      refine c_next ?_
      refine wp_seq ?_
      have hS : SIx w b0 m _ := ⟨hall.drew, k0⟩
      refine region_pi (SIx w b0 m) [(0, true), (1, true), (2, true), (3, true), (4, true), (5, true)] (by kernel_rfl) (by kernel_rfl) rfl (by kernel_rfl) hS ?_
      clear hall k0
      refine pi_f0 _ rfl (fun w' hS' => r_row (cs := [.int .i64 m.1, .int .i64 m.2]) (H.ev rfl) (block_range (hS'.2)) (by kernel_rfl) s29 rfl) ?_; refine kp H rfl fun a H => ?_
      refine pi_f0 _ rfl (fun w' hS' => r_move (H.ev rfl)) ?_; refine kp H rfl fun a H => ?_
      refine pi_f0 _ rfl (fun w' hS' => r_move (H.ev rfl)) ?_; refine kp H rfl fun a H => ?_
      refine pi_f0 _ rfl (fun w' hS' => r_idx (j := k) (q := o + k * 2) Try.underlying22 s29 (H.ev rfl) (H.ev rfl) (by omega) rfl) ?_; refine kp H rfl fun a H => ?_
      refine pi_f0 _ rfl (fun w' hS' => r_row (cs := [.int .i64 y.1, .int .i64 y.2]) (H.ev rfl) (range_ups HRG.out hS'.1) (by kernel_rfl) s29 rfl) ?_; refine kp H rfl fun a H => ?_
      refine pi_f0 (.bool true) rfl (fun w' hS' => r_eq29 (H.ev rfl) (H.ev rfl) (dec_t he)) ?_; refine kp H rfl fun a H => ?_
      refine pi_nil (NoPanic.normal ?_)
      have hall := hS.1
      have k0 := hS.2
      clear hS
      refine c_next ?_
      refine c_cond_t H rfl ?_
      refine wp_seq ?_
      refine wp_region_lit ?_
      refine wl_v _ (r_move (H.ev rfl)) ?_; refine kl H rfl fun a H => ?_
      refine wl_v _ (r_assign (H.ev rfl)) ?_; refine kl H rfl fun a H => ?_
      refine wpList_nil ?_
      refine c_next ?_
      refine wp_ret ?_
      refine r_block ?_
      refine r_then ?_
      refine r_then ?_
      refine r_block ?_
      refine r_then ?_
      exact k_ret1 H rfl rfl ⟨⟨_, rfl, hasm_here HY.out he⟩, hall⟩
    · skip
      refine wp_seq ?_
      refine wp_region_lit ?_
      refine wl_v _ (r_lt Try.underlying3 (H.ev rfl) (H.ev rfl) (dec_t (by omega))) ?_; refine kl H rfl fun a H => ?_
      refine wpList_nil ?_
      refine c_next ?_
      refine wp_seq ?_
      refine c_cond_t H rfl ?_
      refine wp_skip ?_
      refine c_next ?_
      refine wp_seq ?_
      refine wp_block ?_
      refine wp_seq ?_
      refine wp_region_lit ?_
      refine wl_v _ (r_move (H.ev rfl)) ?_; refine kl H rfl fun a H => ?_
      refine wl_v _ (r_assign (H.ev rfl)) ?_; refine kl H rfl fun a H => ?_
      refine wpList_nil ?_
      refine c_next ?_
      refine wp_seq ?_
      have hS : SIx w b0 m _ := ⟨hall.drew, k0⟩
      refine region_pi (SIx w b0 m) [(0, true), (1, true), (2, true), (3, true), (4, true), (5, true)] (by kernel_rfl) (by kernel_rfl) rfl (by kernel_rfl) hS ?_
      clear hall k0
      refine pi_f0 _ rfl (fun w' hS' => r_row (cs := [.int .i64 m.1, .int .i64 m.2]) (H.ev rfl) (block_range (hS'.2)) (by kernel_rfl) s29 rfl) ?_; refine kp H rfl fun a H => ?_
      refine pi_f0 _ rfl (fun w' hS' => r_move (H.ev rfl)) ?_; refine kp H rfl fun a H => ?_
      refine pi_f0 _ rfl (fun w' hS' => r_move (H.ev rfl)) ?_; refine kp H rfl fun a H => ?_
      refine pi_f0 _ rfl (fun w' hS' => r_idx (j := k) (q := o + k * 2) Try.underlying22 s29 (H.ev rfl) (H.ev rfl) (by omega) rfl) ?_; refine kp H rfl fun a H => ?_
      refine pi_f0 _ rfl (fun w' hS' => r_row (cs := [.int .i64 y.1, .int .i64 y.2]) (H.ev rfl) (range_ups HRG.out hS'.1) (by kernel_rfl) s29 rfl) ?_; refine kp H rfl fun a H => ?_
      refine pi_f0 (.bool false) rfl (fun w' hS' => r_eq29 (H.ev rfl) (H.ev rfl) (dec_f he)) ?_; refine kp H rfl fun a H => ?_
      refine pi_nil (NoPanic.normal ?_)
      have hall := hS.1
      have k0 := hS.2
      clear hS
      refine c_next ?_
      refine c_cond_f H rfl ?_
      refine wp_skip ?_
      refine n_block ?_
      refine c_next ?_
      refine wp_region_lit ?_
      refine wl_v _ (r_add (q := ((k + 1 : Nat) : Int)) Try.underlying3 (H.ev rfl) evc (by omega) (by omega)) ?_; refine kl H rfl fun a H => ?_
      refine wl_v _ (r_move (H.ev rfl)) ?_; refine kl H rfl fun a H => ?_
      refine wpList_nil ?_
      refine n_then ⟨⟨k + 1, H.pick [0, 3, 7, 8], by omega, nom_next hno HY.out he, k0, hall⟩, ?_⟩
      rw [H.ev (j := 8) rfl, H0.ev (j := 8) rfl]
      simp only [intOf]
      omega
  · skip
    obtain rfl : k = L.length := by omega
    refine wp_seq ?_
    refine wp_region_lit ?_
    refine wl_v _ (r_lt Try.underlying3 (H.ev rfl) (H.ev rfl) (dec_f (by omega))) ?_; refine kl H rfl fun a H => ?_
    refine wpList_nil ?_
    refine c_next ?_
    refine wp_seq ?_
    refine c_cond_f H rfl ?_
    refine wp_exit ?_
    refine e_then ?_
    refine e_then ?_
    refine e_here ?_
    refine c_next ?_
    refine wp_seq ?_
    refine wp_region_lit ?_
    refine wl_v _ (r_assign evc) ?_; refine kl H rfl fun a H => ?_
    refine wpList_nil ?_
    refine c_next ?_
    refine wp_ret ?_
    exact k_ret1 H rfl rfl ⟨⟨_, rfl, hasm_none hno⟩, hall⟩
theorem contains_any (w : World) (v : Value) (L : List Mk) (m : Mk) (h : MRow w v L) (hn : L.length ≤ 9223372036854775807) :
    Calls Try.prog 20 #[v, .agg #[.int .i64 m.1, .int .i64 m.2]] w fun e w' => e = .returned (.bool (decide (m ∈ L))) ∧ Below w.heap.size w w' := by
  have hall := Below.refl w.heap.size w
  refine K_enter 9 Try.func20 rfl rfl fun a H => ?_
  replace H := H.pick [0, 1]
  refine wp_seq ?_
  refine wp_region_lit ?_
  refine op_box 29 _ #[.int .i64 m.1, .int .i64 m.2] (H.ev rfl) fun w0 b0 hge hb k0 => ?_; have g0 := Nat.le_trans hall.size hge; replace hall := hall.trans (hb.mono hall.size); clear hb; clear hge; refine kl H rfl fun a H => ?_
  refine wl_v _ (r_assign evc) ?_; refine kl H rfl fun a H => ?_
  refine wpList_nil ?_
  refine c_next ?_
  refine wp_seq ?_
  refine wp_region_lit ?_
  refine wl_v _ (r_move (H.ev rfl)) ?_; refine kl H rfl fun a H => ?_
  refine wl_v _ (r_row (cs := [.int .i64 m.1, .int .i64 m.2]) (H.ev rfl) (block_range k0) (by kernel_rfl) s29 rfl) ?_; refine kl H rfl fun a H => ?_
  refine wl_call _ _ _ (index_any _ _ L m (Row.up h hall) hn) (r_call2 cf29 (H.ev rfl) (H.ev rfl)) ?_; rintro e w9 ⟨⟨k, rfl, hk⟩, hb⟩; refine ⟨_, rfl, ?_⟩; replace k0 := Block.ups k0 hb; replace hall := hall.trans (hb.mono hall.size); clear hb; refine kl H rfl fun a H => ?_
  by_cases hcc0 : k ≥ 0
  · skip
    refine wl_v _ (r_ge Try.underlying3 (H.ev rfl) evc (dec_t (hcc0))) ?_; refine kl H rfl fun a H => ?_
    refine wl_v _ (r_assign (H.ev rfl)) ?_; refine kl H rfl fun a H => ?_
    refine wpList_nil ?_
    refine c_next ?_
    refine wp_ret ?_
    have he : decide (m ∈ L) = true := dec_t (by rw [← hk]; omega)
    exact k_ret1 H rfl rfl ⟨by rw [he], hall⟩
  · skip
    refine wl_v _ (r_ge Try.underlying3 (H.ev rfl) evc (dec_f (hcc0))) ?_; refine kl H rfl fun a H => ?_
    refine wl_v _ (r_assign (H.ev rfl)) ?_; refine kl H rfl fun a H => ?_
    refine wpList_nil ?_
    refine c_next ?_
    refine wp_ret ?_
    have he : decide (m ∈ L) = false := dec_f (by rw [← hk]; omega)
    exact k_ret1 H rfl rfl ⟨by rw [he], hall⟩
end Go.Proofs.Ytpegfbdepgmbjaa
