/- Fanout: Clone, closures. -/
import Derived.Test.YtpegfbdepgmbjaaKp
import Derived.WalkSpells
namespace Go.Proofs.Ytpegfbdepgmbjaa
open Go.RowKit
set_option linter.unusedVariables false
set_option linter.unusedSimpArgs false

theorem r_eqnil {P : Program} {a : Act} {w : World} {d : Option Tmp} {tt : TypeId} {ps : String} {af : Array Edge} {gd : Option (Nat × Bool)} {t e t2 : TypeId} {x : Operand} {A : Option Addr} {n c : Nat} (ht : P.underlying t = some (.slice e)) (hx : a.eval x = .slice A n c) {b : Bool} (hb : A.isNone = b) :
    (execOp a.eval ⟨d, .binOp .eql t x (.const (.slice none 0 0)) t2, tt, ps, af, gd⟩).run P w = .ok (.value (.bool b)) w := by
  subst hb
  have h := Lib.run_eql_slice_nil (P := P) w t e A n c 0 0 ht
  unfold execOp
  simp only [hx]
  go_simp
theorem clone_any (w : World) (v : Value) (L : List Mk) (h : MRow w v L) (hn : L.length ≤ 100000) :
    Calls Try.prog 25 #[v] w fun e w' => (∃ v', e = .returned v' ∧ MOwn w' w.heap.size v' L) ∧ Below w.heap.size w w' := by
  obtain ⟨A, c, rfl, hc, hm, hA, hh⟩ := h
  cases A with
  | none =>
    obtain rfl := hA rfl
    obtain rfl : L = [] := List.eq_nil_of_length_eq_zero (by omega)
    refine K_enter 8 Try.func25 rfl rfl fun a H => ?_
    replace H := H.pick [0]
    refine wp_seq ?_
    refine wp_region_lit ?_
    refine wl_v _ (r_assign evc) ?_; refine kl H rfl fun a H => ?_
    refine wpList_nil ?_
    refine c_next ?_
    refine wp_seq ?_
    refine wp_seq ?_
    refine wp_region_lit ?_
    refine wl_v _ (r_move (H.ev rfl)) ?_; refine kl H rfl fun a H => ?_
    refine wl_v (.bool true) (r_eqnil Try.underlying22 (H.ev rfl) rfl) ?_; refine kl H rfl fun a H => ?_
    refine wpList_nil ?_
    refine c_next ?_
    refine c_cond_t H rfl ?_
    refine wp_seq ?_
    refine wp_region_lit ?_
    refine wl_v _ (r_assign evc) ?_; refine kl H rfl fun a H => ?_
    refine wpList_nil ?_
    refine c_next ?_
    refine wp_ret ?_
    refine r_then ?_
    exact k_ret1 H rfl rfl ⟨⟨_, rfl, ROwn.nil⟩, Below.refl _ _⟩
  | some ad =>
    refine K_enter 8 Try.func25 rfl rfl fun a H => ?_
    replace H := H.pick [0]
    refine wp_seq ?_
    refine wp_region_lit ?_
    refine wl_v _ (r_assign evc) ?_; refine kl H rfl fun a H => ?_
    refine wpList_nil ?_
    refine c_next ?_
    refine wp_seq ?_
    refine wp_seq ?_
    refine wp_region_lit ?_
    refine wl_v _ (r_move (H.ev rfl)) ?_; refine kl H rfl fun a H => ?_
    refine wl_v (.bool false) (r_eqnil Try.underlying22 (H.ev rfl) rfl) ?_; refine kl H rfl fun a H => ?_
    refine wpList_nil ?_
    refine c_next ?_
    refine c_cond_f H rfl ?_
    refine wp_skip ?_
    refine c_next ?_
    refine wp_seq ?_
    refine wp_region_lit ?_
    refine op_litv 22 0 #[] 29 #[] (by simp) (fun w => by kernel_rfl) fun w1 bl hge hb kk => ?_; have hn0 := own_empty (size := 2) kk hge; clear hge kk; refine kl H rfl fun a H => ?_
    refine wl_v _ (r_move (H.ev rfl)) ?_; refine kl H rfl fun a H => ?_
    refine op_append 22 29 (.tmp 5) (.tmp 6) _ (.agg #[.int .i64 0, .int .i64 0]) 2 16 _ 0 [] (some ad) L.length c (FV encM L) (H.ev rfl) (H.ev rfl) Try.underlying22 i29 rfl (by omega) hn0 (by rw [FV_len encM_len]) (hh.up hb) (FV_one _ _) (by unfold maxLen; omega) (by omega) hb.size fun v9 w9 hown2 _ _ hb2 => ?_; have hown : MOwn _ _ v9 L := own_cast encM_len (by omega) hown2 rfl; have hb := hb.trans hb2; clear hb2 hown2 hn0; refine kl H rfl fun a H => ?_
    refine wl_v _ (r_assign (H.ev rfl)) ?_; refine kl H rfl fun a H => ?_
    refine wpList_nil ?_
    refine c_next ?_
    refine wp_ret ?_
    exact k_ret1 H rfl rfl ⟨⟨_, rfl, hown⟩, hb⟩
theorem c18_any (bc : Nat) (u : Int) (y : Mk) (w : World) (hc : w.cell? ⟨bc, 0, none⟩ = some (.int .i64 u)) :
    Calls Try.prog 18 #[.agg #[.int .i64 y.1, .int .i64 y.2], .pointer (some ⟨bc, 0, none⟩)] w fun e w' => e = .returned (.bool (decide (y.1 = u))) ∧ Below w.heap.size w w' := by
  have hall := Below.refl w.heap.size w
  refine K_enter 8 Try.func18 rfl rfl fun a H => ?_
  replace H := H.pick [0, 1]
  refine wp_seq ?_
  refine wp_region_lit ?_
  refine op_box 29 _ #[.int .i64 y.1, .int .i64 y.2] (H.ev rfl) fun w0 b0 hge hb k0 => ?_; have g0 := Nat.le_trans hall.size hge; replace hc := cell_ups hc hb; replace hall := hall.trans (hb.mono hall.size); clear hb; clear hge; refine kl H rfl fun a H => ?_
  refine wl_v _ (r_assign evc) ?_; refine kl H rfl fun a H => ?_
  refine wpList_nil ?_
  refine c_next ?_
  refine wp_seq ?_
  refine wp_region_lit ?_
  refine wl_v _ (r_fld (q := 0) fld29_0 (H.ev rfl) rfl) ?_; refine kl H rfl fun a H => ?_
  refine wl_v _ (r_ld Try.underlying3 rfl (H.ev rfl) ((Block.cell k0 0).trans rfl)) ?_; refine kl H rfl fun a H => ?_
  refine wl_v _ (r_ld Try.underlying3 rfl (H.ev rfl) (hc)) ?_; refine kl H rfl fun a H => ?_
  by_cases hcc0 : y.1 = u
  · skip
    refine wl_v _ (r_eq Try.underlying3 (H.ev rfl) (H.ev rfl) (dec_t (hcc0))) ?_; refine kl H rfl fun a H => ?_
    refine wl_v _ (r_assign (H.ev rfl)) ?_; refine kl H rfl fun a H => ?_
    refine wpList_nil ?_
    refine c_next ?_
    refine wp_ret ?_
    exact k_ret1 H rfl rfl ⟨by rw [show decide (y.1 = u) = true from dec_t (by omega)], hall⟩
  · skip
    refine wl_v _ (r_eq Try.underlying3 (H.ev rfl) (H.ev rfl) (dec_f (hcc0))) ?_; refine kl H rfl fun a H => ?_
    refine wl_v _ (r_assign (H.ev rfl)) ?_; refine kl H rfl fun a H => ?_
    refine wpList_nil ?_
    refine c_next ?_
    refine wp_ret ?_
    exact k_ret1 H rfl rfl ⟨by rw [show decide (y.1 = u) = false from dec_f (by omega)], hall⟩
theorem c23_any (bc : Nat) (u : Int) (y : Mk) (w : World) (hc : w.cell? ⟨bc, 0, none⟩ = some (.int .i64 u)) :
    Calls Try.prog 23 #[.agg #[.int .i64 y.1, .int .i64 y.2], .pointer (some ⟨bc, 0, none⟩)] w fun e w' => e = .returned (.bool (decide (y.1 = u))) ∧ Below w.heap.size w w' := by
  have hall := Below.refl w.heap.size w
  refine K_enter 8 Try.func23 rfl rfl fun a H => ?_
  replace H := H.pick [0, 1]
  refine wp_seq ?_
  refine wp_region_lit ?_
  refine op_box 29 _ #[.int .i64 y.1, .int .i64 y.2] (H.ev rfl) fun w0 b0 hge hb k0 => ?_; have g0 := Nat.le_trans hall.size hge; replace hc := cell_ups hc hb; replace hall := hall.trans (hb.mono hall.size); clear hb; clear hge; refine kl H rfl fun a H => ?_
  refine wl_v _ (r_assign evc) ?_; refine kl H rfl fun a H => ?_
  refine wpList_nil ?_
  refine c_next ?_
  refine wp_seq ?_
  refine wp_region_lit ?_
  refine wl_v _ (r_fld (q := 0) fld29_0 (H.ev rfl) rfl) ?_; refine kl H rfl fun a H => ?_
  refine wl_v _ (r_ld Try.underlying3 rfl (H.ev rfl) ((Block.cell k0 0).trans rfl)) ?_; refine kl H rfl fun a H => ?_
  refine wl_v _ (r_ld Try.underlying3 rfl (H.ev rfl) (hc)) ?_; refine kl H rfl fun a H => ?_
  by_cases hcc0 : y.1 = u
  · skip
    refine wl_v _ (r_eq Try.underlying3 (H.ev rfl) (H.ev rfl) (dec_t (hcc0))) ?_; refine kl H rfl fun a H => ?_
    refine wl_v _ (r_assign (H.ev rfl)) ?_; refine kl H rfl fun a H => ?_
    refine wpList_nil ?_
    refine c_next ?_
    refine wp_ret ?_
    exact k_ret1 H rfl rfl ⟨by rw [show decide (y.1 = u) = true from dec_t (by omega)], hall⟩
  · skip
    refine wl_v _ (r_eq Try.underlying3 (H.ev rfl) (H.ev rfl) (dec_f (hcc0))) ?_; refine kl H rfl fun a H => ?_
    refine wl_v _ (r_assign (H.ev rfl)) ?_; refine kl H rfl fun a H => ?_
    refine wpList_nil ?_
    refine c_next ?_
    refine wp_ret ?_
    exact k_ret1 H rfl rfl ⟨by rw [show decide (y.1 = u) = false from dec_f (by omega)], hall⟩
end Go.Proofs.Ytpegfbdepgmbjaa
