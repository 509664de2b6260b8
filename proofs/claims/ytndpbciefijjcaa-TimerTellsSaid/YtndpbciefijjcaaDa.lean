/- Timer: the document's less, without, At, Clear. -/
import Derived.Test.YtndpbciefijjcaaV
import Derived.Test.YtndpbciefijjcaaKp
import Derived.Test.YtndpbciefijjcaaKq
namespace Go.Proofs.Ytndpbciefijjcaa
open Go.RowKit
set_option linter.unusedVariables false
set_option linter.unusedSimpArgs false

instance (a b : Tm) : Decidable (Lt a b) := by unfold Lt; infer_instance
def lessB (a b : Tm) : Bool := decide (Lt a b)
set_option maxHeartbeats 1000000 in
theorem less_any (w : World) (x y : Tm) : Calls Try.prog 23 #[.agg #[.int .i64 x.1, .int .i64 x.2], .agg #[.int .i64 y.1, .int .i64 y.2]] w fun e w' => e = .returned (.bool (lessB x y)) ∧ Below w.heap.size w w' := by
  have hall := Below.refl w.heap.size w
  by_cases h1 : x.2 < y.2
  · skip
    have HL : Hid (lessB x y = true) := Lib.hid (dec_t (by unfold Lt; omega))
    refine K_enter 24 Try.func23 rfl rfl fun a H => ?_
    replace H := H.pick [0, 1]
    refine wp_seq ?_
    refine wp_region_lit ?_
    refine op_box 40 _ #[.int .i64 x.1, .int .i64 x.2] (H.ev rfl) fun w1 b1 hge hb k1 => ?_; replace hall := hall.trans (hb.mono hall.size); clear hb hge; refine kl H rfl fun a H => ?_
    refine op_box 40 _ #[.int .i64 y.1, .int .i64 y.2] (H.ev rfl) fun w2 b2 hge hb k2 => ?_; replace k1 := k1.ups hb; replace hall := hall.trans (hb.mono hall.size); clear hb hge; refine kl H rfl fun a H => ?_
    refine wl_v _ (r_assign evc) ?_; refine kl H rfl fun a H => ?_
    refine wpList_nil ?_
    refine c_next ?_
    refine wp_seq ?_
    refine wp_region_lit ?_
    refine wl_v _ (r_fld (q := 1) fld40_1 (H.ev rfl) rfl) ?_; refine kl H rfl fun a H => ?_
    refine wl_v _ (r_ld Try.underlying3 rfl (H.ev rfl) ((k1.cell 1).trans rfl)) ?_; refine kl H rfl fun a H => ?_
    refine wl_v _ (r_fld (q := 1) fld40_1 (H.ev rfl) rfl) ?_; refine kl H rfl fun a H => ?_
    refine wl_v _ (r_ld Try.underlying3 rfl (H.ev rfl) ((k2.cell 1).trans rfl)) ?_; refine kl H rfl fun a H => ?_
    refine wl_v _ (r_lt Try.underlying3 (H.ev rfl) (H.ev rfl) (dec_t (by omega))) ?_; refine kl H rfl fun a H => ?_
    refine wl_v _ (r_move (H.ev rfl)) ?_; refine kl H rfl fun a H => ?_
    refine wl_s (kg_no rfl H rfl rfl rfl) ?_; refine kl H rfl fun a H => ?_
    refine wl_s (kg_no rfl H rfl rfl rfl) ?_; refine kl H rfl fun a H => ?_
    refine wl_s (kg_no rfl H rfl rfl rfl) ?_; refine kl H rfl fun a H => ?_
    refine wl_s (kg_no rfl H rfl rfl rfl) ?_; refine kl H rfl fun a H => ?_
    refine wl_s (kg_no rfl H rfl rfl rfl) ?_; refine kl H rfl fun a H => ?_
    refine wl_s (kg_no rfl H rfl rfl rfl) ?_; refine kl H rfl fun a H => ?_
    refine wl_s (kg_un rfl H rfl rfl rfl) ?_; refine kl H rfl fun a H => ?_
    refine wl_s (kg_un rfl H rfl rfl rfl) ?_; refine kl H rfl fun a H => ?_
    refine wl_s (kg_un rfl H rfl rfl rfl) ?_; refine kl H rfl fun a H => ?_
    refine wl_s (kg_un rfl H rfl rfl rfl) ?_; refine kl H rfl fun a H => ?_
    refine wl_s (kg_un rfl H rfl rfl rfl) ?_; refine kl H rfl fun a H => ?_
    refine wl_s (kg_no rfl H rfl rfl rfl) ?_; refine kl H rfl fun a H => ?_
    refine wl_v _ (r_pick_t (H.ev rfl) evc) ?_; refine kl H rfl fun a H => ?_
    refine wl_v _ (r_assign (H.ev rfl)) ?_; refine kl H rfl fun a H => ?_
    refine wpList_nil ?_
    refine c_next ?_
    refine wp_ret ?_
    exact k_ret1 H rfl rfl ⟨by rw [HL.out], hall⟩
  · skip
    by_cases h2 : x.2 = y.2
    · skip
      by_cases h3 : x.1 < y.1
      · skip
        have HL : Hid (lessB x y = true) := Lib.hid (dec_t (by unfold Lt; omega))
        refine K_enter 24 Try.func23 rfl rfl fun a H => ?_
        replace H := H.pick [0, 1]
        refine wp_seq ?_
        refine wp_region_lit ?_
        refine op_box 40 _ #[.int .i64 x.1, .int .i64 x.2] (H.ev rfl) fun w1 b1 hge hb k1 => ?_; replace hall := hall.trans (hb.mono hall.size); clear hb hge; refine kl H rfl fun a H => ?_
        refine op_box 40 _ #[.int .i64 y.1, .int .i64 y.2] (H.ev rfl) fun w2 b2 hge hb k2 => ?_; replace k1 := k1.ups hb; replace hall := hall.trans (hb.mono hall.size); clear hb hge; refine kl H rfl fun a H => ?_
        refine wl_v _ (r_assign evc) ?_; refine kl H rfl fun a H => ?_
        refine wpList_nil ?_
        refine c_next ?_
        refine wp_seq ?_
        refine wp_region_lit ?_
        refine wl_v _ (r_fld (q := 1) fld40_1 (H.ev rfl) rfl) ?_; refine kl H rfl fun a H => ?_
        refine wl_v _ (r_ld Try.underlying3 rfl (H.ev rfl) ((k1.cell 1).trans rfl)) ?_; refine kl H rfl fun a H => ?_
        refine wl_v _ (r_fld (q := 1) fld40_1 (H.ev rfl) rfl) ?_; refine kl H rfl fun a H => ?_
        refine wl_v _ (r_ld Try.underlying3 rfl (H.ev rfl) ((k2.cell 1).trans rfl)) ?_; refine kl H rfl fun a H => ?_
        refine wl_v _ (r_lt Try.underlying3 (H.ev rfl) (H.ev rfl) (dec_f (by omega))) ?_; refine kl H rfl fun a H => ?_
        refine wl_v _ (r_move (H.ev rfl)) ?_; refine kl H rfl fun a H => ?_
        refine op_unguard _ _ (kg_yes rfl H rfl rfl rfl) ?_; refine wl_v _ (r_fld (q := 1) fld40_1 (H.ev rfl) rfl) ?_; refine kl H rfl fun a H => ?_
        refine op_unguard _ _ (kg_yes rfl H rfl rfl rfl) ?_; refine wl_v _ (r_ld Try.underlying3 rfl (H.ev rfl) ((k1.cell 1).trans rfl)) ?_; refine kl H rfl fun a H => ?_
        refine op_unguard _ _ (kg_yes rfl H rfl rfl rfl) ?_; refine wl_v _ (r_fld (q := 1) fld40_1 (H.ev rfl) rfl) ?_; refine kl H rfl fun a H => ?_
        refine op_unguard _ _ (kg_yes rfl H rfl rfl rfl) ?_; refine wl_v _ (r_ld Try.underlying3 rfl (H.ev rfl) ((k2.cell 1).trans rfl)) ?_; refine kl H rfl fun a H => ?_
        refine op_unguard _ _ (kg_yes rfl H rfl rfl rfl) ?_; refine wl_v _ (r_eq Try.underlying3 (H.ev rfl) (H.ev rfl) (dec_t (by omega))) ?_; refine kl H rfl fun a H => ?_
        refine op_unguard _ _ (kg_yes rfl H rfl rfl rfl) ?_; refine wl_v _ (r_move (H.ev rfl)) ?_; refine kl H rfl fun a H => ?_
        refine op_unguard _ _ (kg_yes rfl H rfl rfl rfl) ?_; refine wl_v _ (r_fld (q := 0) fld40_0 (H.ev rfl) rfl) ?_; refine kl H rfl fun a H => ?_
        refine op_unguard _ _ (kg_yes rfl H rfl rfl rfl) ?_; refine wl_v _ (r_ld Try.underlying3 rfl (H.ev rfl) ((k1.cell 0).trans rfl)) ?_; refine kl H rfl fun a H => ?_
        refine op_unguard _ _ (kg_yes rfl H rfl rfl rfl) ?_; refine wl_v _ (r_fld (q := 0) fld40_0 (H.ev rfl) rfl) ?_; refine kl H rfl fun a H => ?_
        refine op_unguard _ _ (kg_yes rfl H rfl rfl rfl) ?_; refine wl_v _ (r_ld Try.underlying3 rfl (H.ev rfl) ((k2.cell 0).trans rfl)) ?_; refine kl H rfl fun a H => ?_
        refine op_unguard _ _ (kg_yes rfl H rfl rfl rfl) ?_; refine wl_v _ (r_lt Try.underlying3 (H.ev rfl) (H.ev rfl) (dec_t (by omega))) ?_; refine kl H rfl fun a H => ?_
        refine op_unguard _ _ (kg_yes rfl H rfl rfl rfl) ?_; refine wl_v _ (r_pick_t (H.ev rfl) (H.ev rfl)) ?_; refine kl H rfl fun a H => ?_
        refine wl_v _ (r_pick_f (H.ev rfl) (H.ev rfl)) ?_; refine kl H rfl fun a H => ?_
        refine wl_v _ (r_assign (H.ev rfl)) ?_; refine kl H rfl fun a H => ?_
        refine wpList_nil ?_
        refine c_next ?_
        refine wp_ret ?_
        exact k_ret1 H rfl rfl ⟨by rw [HL.out], hall⟩
      · skip
        have HL : Hid (lessB x y = false) := Lib.hid (dec_f (by unfold Lt; omega))
        refine K_enter 24 Try.func23 rfl rfl fun a H => ?_
        replace H := H.pick [0, 1]
        refine wp_seq ?_
        refine wp_region_lit ?_
        refine op_box 40 _ #[.int .i64 x.1, .int .i64 x.2] (H.ev rfl) fun w1 b1 hge hb k1 => ?_; replace hall := hall.trans (hb.mono hall.size); clear hb hge; refine kl H rfl fun a H => ?_
        refine op_box 40 _ #[.int .i64 y.1, .int .i64 y.2] (H.ev rfl) fun w2 b2 hge hb k2 => ?_; replace k1 := k1.ups hb; replace hall := hall.trans (hb.mono hall.size); clear hb hge; refine kl H rfl fun a H => ?_
        refine wl_v _ (r_assign evc) ?_; refine kl H rfl fun a H => ?_
        refine wpList_nil ?_
        refine c_next ?_
        refine wp_seq ?_
        refine wp_region_lit ?_
        refine wl_v _ (r_fld (q := 1) fld40_1 (H.ev rfl) rfl) ?_; refine kl H rfl fun a H => ?_
        refine wl_v _ (r_ld Try.underlying3 rfl (H.ev rfl) ((k1.cell 1).trans rfl)) ?_; refine kl H rfl fun a H => ?_
        refine wl_v _ (r_fld (q := 1) fld40_1 (H.ev rfl) rfl) ?_; refine kl H rfl fun a H => ?_
        refine wl_v _ (r_ld Try.underlying3 rfl (H.ev rfl) ((k2.cell 1).trans rfl)) ?_; refine kl H rfl fun a H => ?_
        refine wl_v _ (r_lt Try.underlying3 (H.ev rfl) (H.ev rfl) (dec_f (by omega))) ?_; refine kl H rfl fun a H => ?_
        refine wl_v _ (r_move (H.ev rfl)) ?_; refine kl H rfl fun a H => ?_
        refine op_unguard _ _ (kg_yes rfl H rfl rfl rfl) ?_; refine wl_v _ (r_fld (q := 1) fld40_1 (H.ev rfl) rfl) ?_; refine kl H rfl fun a H => ?_
        refine op_unguard _ _ (kg_yes rfl H rfl rfl rfl) ?_; refine wl_v _ (r_ld Try.underlying3 rfl (H.ev rfl) ((k1.cell 1).trans rfl)) ?_; refine kl H rfl fun a H => ?_
        refine op_unguard _ _ (kg_yes rfl H rfl rfl rfl) ?_; refine wl_v _ (r_fld (q := 1) fld40_1 (H.ev rfl) rfl) ?_; refine kl H rfl fun a H => ?_
        refine op_unguard _ _ (kg_yes rfl H rfl rfl rfl) ?_; refine wl_v _ (r_ld Try.underlying3 rfl (H.ev rfl) ((k2.cell 1).trans rfl)) ?_; refine kl H rfl fun a H => ?_
        refine op_unguard _ _ (kg_yes rfl H rfl rfl rfl) ?_; refine wl_v _ (r_eq Try.underlying3 (H.ev rfl) (H.ev rfl) (dec_t (by omega))) ?_; refine kl H rfl fun a H => ?_
        refine op_unguard _ _ (kg_yes rfl H rfl rfl rfl) ?_; refine wl_v _ (r_move (H.ev rfl)) ?_; refine kl H rfl fun a H => ?_
        refine op_unguard _ _ (kg_yes rfl H rfl rfl rfl) ?_; refine wl_v _ (r_fld (q := 0) fld40_0 (H.ev rfl) rfl) ?_; refine kl H rfl fun a H => ?_
        refine op_unguard _ _ (kg_yes rfl H rfl rfl rfl) ?_; refine wl_v _ (r_ld Try.underlying3 rfl (H.ev rfl) ((k1.cell 0).trans rfl)) ?_; refine kl H rfl fun a H => ?_
        refine op_unguard _ _ (kg_yes rfl H rfl rfl rfl) ?_; refine wl_v _ (r_fld (q := 0) fld40_0 (H.ev rfl) rfl) ?_; refine kl H rfl fun a H => ?_
        refine op_unguard _ _ (kg_yes rfl H rfl rfl rfl) ?_; refine wl_v _ (r_ld Try.underlying3 rfl (H.ev rfl) ((k2.cell 0).trans rfl)) ?_; refine kl H rfl fun a H => ?_
        refine op_unguard _ _ (kg_yes rfl H rfl rfl rfl) ?_; refine wl_v _ (r_lt Try.underlying3 (H.ev rfl) (H.ev rfl) (dec_f (by omega))) ?_; refine kl H rfl fun a H => ?_
        refine op_unguard _ _ (kg_yes rfl H rfl rfl rfl) ?_; refine wl_v _ (r_pick_t (H.ev rfl) (H.ev rfl)) ?_; refine kl H rfl fun a H => ?_
        refine wl_v _ (r_pick_f (H.ev rfl) (H.ev rfl)) ?_; refine kl H rfl fun a H => ?_
        refine wl_v _ (r_assign (H.ev rfl)) ?_; refine kl H rfl fun a H => ?_
        refine wpList_nil ?_
        refine c_next ?_
        refine wp_ret ?_
        exact k_ret1 H rfl rfl ⟨by rw [HL.out], hall⟩
    · skip
      have HL : Hid (lessB x y = false) := Lib.hid (dec_f (by unfold Lt; omega))
      refine K_enter 24 Try.func23 rfl rfl fun a H => ?_
      replace H := H.pick [0, 1]
      refine wp_seq ?_
      refine wp_region_lit ?_
      refine op_box 40 _ #[.int .i64 x.1, .int .i64 x.2] (H.ev rfl) fun w1 b1 hge hb k1 => ?_; replace hall := hall.trans (hb.mono hall.size); clear hb hge; refine kl H rfl fun a H => ?_
      refine op_box 40 _ #[.int .i64 y.1, .int .i64 y.2] (H.ev rfl) fun w2 b2 hge hb k2 => ?_; replace k1 := k1.ups hb; replace hall := hall.trans (hb.mono hall.size); clear hb hge; refine kl H rfl fun a H => ?_
      refine wl_v _ (r_assign evc) ?_; refine kl H rfl fun a H => ?_
      refine wpList_nil ?_
      refine c_next ?_
      refine wp_seq ?_
      refine wp_region_lit ?_
      refine wl_v _ (r_fld (q := 1) fld40_1 (H.ev rfl) rfl) ?_; refine kl H rfl fun a H => ?_
      refine wl_v _ (r_ld Try.underlying3 rfl (H.ev rfl) ((k1.cell 1).trans rfl)) ?_; refine kl H rfl fun a H => ?_
      refine wl_v _ (r_fld (q := 1) fld40_1 (H.ev rfl) rfl) ?_; refine kl H rfl fun a H => ?_
      refine wl_v _ (r_ld Try.underlying3 rfl (H.ev rfl) ((k2.cell 1).trans rfl)) ?_; refine kl H rfl fun a H => ?_
      refine wl_v _ (r_lt Try.underlying3 (H.ev rfl) (H.ev rfl) (dec_f (by omega))) ?_; refine kl H rfl fun a H => ?_
      refine wl_v _ (r_move (H.ev rfl)) ?_; refine kl H rfl fun a H => ?_
      refine op_unguard _ _ (kg_yes rfl H rfl rfl rfl) ?_; refine wl_v _ (r_fld (q := 1) fld40_1 (H.ev rfl) rfl) ?_; refine kl H rfl fun a H => ?_
      refine op_unguard _ _ (kg_yes rfl H rfl rfl rfl) ?_; refine wl_v _ (r_ld Try.underlying3 rfl (H.ev rfl) ((k1.cell 1).trans rfl)) ?_; refine kl H rfl fun a H => ?_
      refine op_unguard _ _ (kg_yes rfl H rfl rfl rfl) ?_; refine wl_v _ (r_fld (q := 1) fld40_1 (H.ev rfl) rfl) ?_; refine kl H rfl fun a H => ?_
      refine op_unguard _ _ (kg_yes rfl H rfl rfl rfl) ?_; refine wl_v _ (r_ld Try.underlying3 rfl (H.ev rfl) ((k2.cell 1).trans rfl)) ?_; refine kl H rfl fun a H => ?_
      refine op_unguard _ _ (kg_yes rfl H rfl rfl rfl) ?_; refine wl_v _ (r_eq Try.underlying3 (H.ev rfl) (H.ev rfl) (dec_f (by omega))) ?_; refine kl H rfl fun a H => ?_
      refine op_unguard _ _ (kg_yes rfl H rfl rfl rfl) ?_; refine wl_v _ (r_move (H.ev rfl)) ?_; refine kl H rfl fun a H => ?_
      refine wl_s (kg_no rfl H rfl rfl rfl) ?_; refine kl H rfl fun a H => ?_
      refine wl_s (kg_no rfl H rfl rfl rfl) ?_; refine kl H rfl fun a H => ?_
      refine wl_s (kg_no rfl H rfl rfl rfl) ?_; refine kl H rfl fun a H => ?_
      refine wl_s (kg_no rfl H rfl rfl rfl) ?_; refine kl H rfl fun a H => ?_
      refine wl_s (kg_no rfl H rfl rfl rfl) ?_; refine kl H rfl fun a H => ?_
      refine op_unguard _ _ (kg_yes rfl H rfl rfl rfl) ?_; refine wl_v _ (r_pick_f (H.ev rfl) evc) ?_; refine kl H rfl fun a H => ?_
      refine wl_v _ (r_pick_f (H.ev rfl) (H.ev rfl)) ?_; refine kl H rfl fun a H => ?_
      refine wl_v _ (r_assign (H.ev rfl)) ?_; refine kl H rfl fun a H => ?_
      refine wpList_nil ?_
      refine c_next ?_
      refine wp_ret ?_
      exact k_ret1 H rfl rfl ⟨by rw [HL.out], hall⟩
def wthF (L : List Tm) (id : Int) : List Tm := L.filter fun x => decide (x.1 ≠ id)
theorem wo_skip {w : World} {base : Nat} {v : Value} {L : List Tm} {id : Int} {k : Nat} {y : Tm} (hy : L[k]? = some y) (hid : y.1 = id) (h : TOwn w base v (wthF (L.take k) id)) : TOwn w base v (wthF (L.take (k + 1)) id) := by
  obtain ⟨hk, e⟩ := List.getElem?_eq_some_iff.1 hy
  have : wthF (L.take (k + 1)) id = wthF (L.take k) id := by
    unfold wthF
    rw [List.take_succ_eq_append_getElem hk, List.filter_append, e]
    simp [hid]
  rw [this]; exact h
theorem wo_take {w : World} {base : Nat} {v : Value} {L : List Tm} {id : Int} {k : Nat} {y : Tm} (hy : L[k]? = some y) (hid : ¬ y.1 = id) (h : w.ownsRow base 40 2 v ((wthF (L.take k) id).length + 1) (FV encT (wthF (L.take k) id) ++ FV encT [y])) : TOwn w base v (wthF (L.take (k + 1)) id) := by
  obtain ⟨hk, e⟩ := List.getElem?_eq_some_iff.1 hy
  have : wthF (L.take (k + 1)) id = wthF (L.take k) id ++ [y] := by
    unfold wthF
    rw [List.take_succ_eq_append_getElem hk, List.filter_append, e]
    simp [hid]
  rw [this]
  unfold TOwn
  rw [FV_append, List.length_append]
  exact h
theorem wth_le (L : List Tm) (id : Int) (k : Nat) : (wthF (L.take k) id).length ≤ k := Nat.le_trans (List.length_filter_le _ _) (by simp; omega)
theorem wo_room {L : List Tm} {id : Int} {k : Nat} (hk : k ≤ L.length) (hn : L.length ≤ 100000) : (wthF (L.take k) id).length + 1 ≤ maxLen := by have := wth_le L id k; unfold maxLen; omega
theorem wo_bytes {L : List Tm} {id : Int} {k : Nat} (hk : k ≤ L.length) (hn : L.length ≤ 100000) : ((wthF (L.take k) id).length + 1) * 16 ≤ 140737488355328 := by have := wth_le L id k; omega
theorem wo_end {w : World} {base : Nat} {v : Value} {L : List Tm} {id : Int} (h : TOwn w base v (wthF (L.take L.length) id)) : TOwn w base v (wthF L id) := by rwa [List.take_length] at h
def WoI (W : World) (A : Option Addr) (c : Nat) (L : List Tm) (id : Int) (a : Act) (w : World) : Prop :=
  ∃ (k : Nat) (v5 : Value), Kn a 28 [(0, .slice A L.length c), (1, .int .i64 id), (5, v5), (6, .int .i64 (k : Nat))] ∧ k ≤ L.length ∧ TOwn w W.heap.size v5 (wthF (L.take k) id) ∧ Below W.heap.size W w
set_option maxHeartbeats 1000000 in
theorem without_any (w : World) (v : Value) (L : List Tm) (id : Int) (h : TRow w v L) (hn : L.length ≤ 100000) :
    Calls Try.prog 26 #[v, .int .i64 id] w fun e w' => (∃ v', e = .returned v' ∧ TOwn w' w.heap.size v' (wthF L id)) ∧ Below w.heap.size w w' := by
  obtain ⟨A, c, rfl, h1, h2, h3, hh⟩ := h
  replace hh := Lib.hid hh
  have hall := Below.refl w.heap.size w
  refine K_enter 28 Try.func26 rfl rfl fun a H => ?_
  replace H := H.pick [0, 1]
  refine wp_seq ?_
  refine wp_region_lit ?_
  refine wl_v _ (r_assign evc) ?_; refine kl H rfl fun a H => ?_
  refine wpList_nil ?_
  refine c_next ?_
  refine wp_seq ?_
  refine wp_region_lit ?_
  refine wl_v _ (r_assign evc) ?_; refine kl H rfl fun a H => ?_
  refine wpList_nil ?_
  refine c_next ?_
  refine wp_seq ?_
  refine wp_seq ?_
  refine wp_region_lit ?_
  refine wl_v _ (r_assign evc) ?_; refine kl H rfl fun a H => ?_
  refine wpList_nil ?_
  refine c_next ?_
  refine wp_block ?_
  refine wp_loop (WoI w A c L id) (fun a _ => L.length - (intOf (a.eval (.tmp 6))).toNat) ⟨0, _, H.pick [0, 1, 5, 6], by omega, World.ownsRow_nil _ _ _ _, hall⟩ ?_
  clear hall H
  rintro a w' ⟨k, v5, H, hk, hown, hall⟩
  have H0 := H
  by_cases hlt : k < L.length
  · skip
    obtain ⟨b, o, hA, hr⟩ := flat_some encT_len hh.out (by omega) hlt
    subst hA
    have hy : L[k]? = some L[k] := List.getElem?_eq_getElem hlt
    have HY := Lib.hid hy
    have HRG := Lib.hid hr
    generalize L[k] = y at *
    clear hy hr
    by_cases hid : y.1 = id
    · skip
      refine wp_seq ?_
      refine wp_seq ?_
      refine wp_region_lit ?_
      refine wl_v _ (r_move (H.ev rfl)) ?_; refine kl H rfl fun a H => ?_
      refine wl_v _ (r_move (H.ev rfl)) ?_; refine kl H rfl fun a H => ?_
      refine wl_v _ (r_len Try.underlying22 (H.ev rfl)) ?_; refine kl H rfl fun a H => ?_
      refine wl_v _ (r_lt Try.underlying3 (H.ev rfl) (H.ev rfl) (dec_t (by omega))) ?_; refine kl H rfl fun a H => ?_
      refine wpList_nil ?_
      refine c_next ?_
      refine c_cond_t H rfl ?_
      refine wp_skip ?_
      refine c_next ?_
      refine wp_seq ?_
      refine wp_block ?_
      refine wp_seq ?_
      refine wp_region_lit ?_
      refine wl_v _ (r_move (H.ev rfl)) ?_; refine kl H rfl fun a H => ?_
      refine wl_v _ (r_move (H.ev rfl)) ?_; refine kl H rfl fun a H => ?_
      refine wl_v _ (r_idx (j := k) (q := o + k * 2) Try.underlying22 s40 (H.ev rfl) (H.ev rfl) (by omega) rfl) ?_; refine kl H rfl fun a H => ?_
      refine wl_v _ (r_fld (q := o + k * 2) fld40_0 (H.ev rfl) rfl) ?_; refine kl H rfl fun a H => ?_
      refine wl_v (.int .i64 y.1) (r_ld Try.underlying3 rfl (H.ev rfl) (range_cell (range_ups HRG.out hall) 0 rfl)) ?_; refine kl H rfl fun a H => ?_
      refine wl_v _ (r_move (H.ev rfl)) ?_; refine kl H rfl fun a H => ?_
      refine wl_v _ (r_ne Try.underlying3 (H.ev rfl) (H.ev rfl) (dec_f (by omega))) ?_; refine kl H rfl fun a H => ?_
      refine wpList_nil ?_
      refine c_next ?_
      refine c_cond_f H rfl ?_
      refine wp_skip ?_
      refine n_block ?_
      refine c_next ?_
      refine wp_region_lit ?_
      refine wl_v _ (r_move (H.ev rfl)) ?_; refine kl H rfl fun a H => ?_
      refine wl_v _ (r_add (q := ((k + 1 : Nat) : Int)) Try.underlying3 (H.ev rfl) evc (by omega) (by omega)) ?_; refine kl H rfl fun a H => ?_
      refine wl_v _ (r_assign (H.ev rfl)) ?_; refine kl H rfl fun a H => ?_
      refine wpList_nil ?_
      have hown2 := wo_skip HY.out hid hown
      refine n_then ⟨⟨k + 1, _, H.pick [0, 1, 5, 6], by omega, hown2, hall⟩, ?_⟩
      rw [H.ev (j := 6) rfl, H0.ev (j := 6) rfl]
      simp only [intOf]
      omega
    · skip
      refine wp_seq ?_
      refine wp_seq ?_
      refine wp_region_lit ?_
      refine wl_v _ (r_move (H.ev rfl)) ?_; refine kl H rfl fun a H => ?_
      refine wl_v _ (r_move (H.ev rfl)) ?_; refine kl H rfl fun a H => ?_
      refine wl_v _ (r_len Try.underlying22 (H.ev rfl)) ?_; refine kl H rfl fun a H => ?_
      refine wl_v _ (r_lt Try.underlying3 (H.ev rfl) (H.ev rfl) (dec_t (by omega))) ?_; refine kl H rfl fun a H => ?_
      refine wpList_nil ?_
      refine c_next ?_
      refine c_cond_t H rfl ?_
      refine wp_skip ?_
      refine c_next ?_
      refine wp_seq ?_
      refine wp_block ?_
      refine wp_seq ?_
      refine wp_region_lit ?_
      refine wl_v _ (r_move (H.ev rfl)) ?_; refine kl H rfl fun a H => ?_
      refine wl_v _ (r_move (H.ev rfl)) ?_; refine kl H rfl fun a H => ?_
      refine wl_v _ (r_idx (j := k) (q := o + k * 2) Try.underlying22 s40 (H.ev rfl) (H.ev rfl) (by omega) rfl) ?_; refine kl H rfl fun a H => ?_
      refine wl_v _ (r_fld (q := o + k * 2) fld40_0 (H.ev rfl) rfl) ?_; refine kl H rfl fun a H => ?_
      refine wl_v (.int .i64 y.1) (r_ld Try.underlying3 rfl (H.ev rfl) (range_cell (range_ups HRG.out hall) 0 rfl)) ?_; refine kl H rfl fun a H => ?_
      refine wl_v _ (r_move (H.ev rfl)) ?_; refine kl H rfl fun a H => ?_
      refine wl_v _ (r_ne Try.underlying3 (H.ev rfl) (H.ev rfl) (dec_t (by omega))) ?_; refine kl H rfl fun a H => ?_
      refine wpList_nil ?_
      refine c_next ?_
      refine c_cond_t H rfl ?_
      refine wp_region_lit ?_
      refine wl_v _ (r_move (H.ev rfl)) ?_; refine kl H rfl fun a H => ?_
      refine wl_v _ (r_move (H.ev rfl)) ?_; refine kl H rfl fun a H => ?_
      refine wl_v _ (r_move (H.ev rfl)) ?_; refine kl H rfl fun a H => ?_
      refine wl_v _ (r_idx (j := k) (q := o + k * 2) Try.underlying22 s40 (H.ev rfl) (H.ev rfl) (by omega) rfl) ?_; refine kl H rfl fun a H => ?_
      refine wl_v (.agg #[.int .i64 y.1, .int .i64 y.2]) (r_row (cs := [.int .i64 y.1, .int .i64 y.2]) (H.ev rfl) (range_ups HRG.out hall) (by kernel_rfl) s40 rfl) ?_; refine kl H rfl fun a H => ?_
      refine op_litv 22 1 #[(0, .agg #[.int .i64 y.1, .int .i64 y.2])] 40 #[.int .i64 y.1, .int .i64 y.2] (by simp [H.ev (j := 24) rfl]) (fun w => by kernel_rfl) fun w1 b1 hge hb k1 => ?_; replace hown := own_ups hown hb; replace hall := hall.trans (hb.mono hall.size); clear hb hge; refine kl H rfl fun a H => ?_
      refine op_append 22 40 (.tmp 20) (.tmp 25) w.heap.size (.agg #[.int .i64 0, .int .i64 0]) 2 16 v5 _ _ (some ⟨b1, 0, none⟩) 1 1 (FV encT [y]) (H.ev rfl) (H.ev rfl) Try.underlying22 i40 rfl (by omega) hown (by rw [FV_len encT_len]; rfl) (block_x k1) (FV_one _ _) (wo_room hk hn) (wo_bytes hk hn) hall.size fun v6 w2 hown2 _ _ hb2 => ?_; replace hall := hall.trans hb2; clear hb2 hown k1; have hown := hown2; clear hown2; refine kl H rfl fun a H => ?_
      refine wl_v _ (r_assign (H.ev rfl)) ?_; refine kl H rfl fun a H => ?_
      refine wpList_nil ?_
      refine n_block ?_
      refine c_next ?_
      refine wp_region_lit ?_
      refine wl_v _ (r_move (H.ev rfl)) ?_; refine kl H rfl fun a H => ?_
      refine wl_v _ (r_add (q := ((k + 1 : Nat) : Int)) Try.underlying3 (H.ev rfl) evc (by omega) (by omega)) ?_; refine kl H rfl fun a H => ?_
      refine wl_v _ (r_assign (H.ev rfl)) ?_; refine kl H rfl fun a H => ?_
      refine wpList_nil ?_
      have hown2 := wo_take HY.out hid hown
      refine n_then ⟨⟨k + 1, _, H.pick [0, 1, 5, 6], by omega, hown2, hall⟩, ?_⟩
      rw [H.ev (j := 6) rfl, H0.ev (j := 6) rfl]
      simp only [intOf]
      omega
  · skip
    obtain rfl : k = L.length := by omega
    refine wp_seq ?_
    refine wp_seq ?_
    refine wp_region_lit ?_
    refine wl_v _ (r_move (H.ev rfl)) ?_; refine kl H rfl fun a H => ?_
    refine wl_v _ (r_move (H.ev rfl)) ?_; refine kl H rfl fun a H => ?_
    refine wl_v _ (r_len Try.underlying22 (H.ev rfl)) ?_; refine kl H rfl fun a H => ?_
    refine wl_v _ (r_lt Try.underlying3 (H.ev rfl) (H.ev rfl) (dec_f (by omega))) ?_; refine kl H rfl fun a H => ?_
    refine wpList_nil ?_
    refine c_next ?_
    refine c_cond_f H rfl ?_
    refine wp_exit ?_
    refine e_then ?_
    refine e_then ?_
    refine e_here ?_
    refine c_next ?_
    refine wp_seq ?_
    refine wp_region_lit ?_
    refine wl_v _ (r_move (H.ev rfl)) ?_; refine kl H rfl fun a H => ?_
    refine wl_v _ (r_assign (H.ev rfl)) ?_; refine kl H rfl fun a H => ?_
    refine wpList_nil ?_
    refine c_next ?_
    refine wp_ret ?_
    exact k_ret1 H rfl rfl ⟨⟨_, rfl, wo_end hown⟩, hall⟩
def AtI (W : World) (A : Option Addr) (c : Nat) (L : List Tm) (id : Int) (a : Act) (w : World) : Prop :=
  ∃ k : Nat, Kn a 25 [(0, .slice A L.length c), (1, .int .i64 id), (6, .int .i64 (k : Nat))] ∧ k ≤ L.length ∧ (∀ j, j < k → ∀ x, L[j]? = some x → (x.1 == id) = false) ∧ w = W
theorem at_none {L : List Tm} {id : Int} (h : ∀ j, j < L.length → ∀ x, L[j]? = some x → (x.1 == id) = false) : atF L id = 0 ∧ hasF L id = false := by
  have hp := plF_none h
  rcases pl_cases L id with ⟨_, h1, h2, _⟩ | ⟨k, y, _, _, h1, _⟩
  · exact ⟨h2, h1⟩
  · omega
theorem at_here {L : List Tm} {id : Int} {k : Nat} {x : Tm} (h : ∀ j, j < k → ∀ x, L[j]? = some x → (x.1 == id) = false) (hx : L[k]? = some x) (hi : x.1 = id) : atF L id = x.2 ∧ hasF L id = true := by
  have hp := plF_some h hx (by simpa using hi)
  rcases pl_cases L id with ⟨h1, _⟩ | ⟨k', y, _, hy, h1, h2, h3, _⟩
  · omega
  · have : k = k' := by omega
    subst this
    rw [hx] at hy
    injection hy with hy
    subst hy
    exact ⟨h3, h2⟩
set_option maxHeartbeats 1000000 in
theorem rat_any (w : World) (v : Value) (L : List Tm) (id : Int) (h : TRow w v L) (hn : L.length ≤ 9223372036854775807) :
    Calls Try.prog 18 #[v, .int .i64 id] w fun e w' => e = .returned (.tuple #[.int .i64 (atF L id), .bool (hasF L id)]) ∧ w' = w := by
  obtain ⟨A, c, rfl, h1, h2, h3, hh⟩ := h
  replace hh := Lib.hid hh
  refine K_enter 25 Try.func18 rfl rfl fun a H => ?_
  replace H := H.pick [0, 1]
  refine wp_seq ?_
  refine wp_region_lit ?_
  refine wl_v _ (r_assign evc) ?_; refine kl H rfl fun a H => ?_
  refine wl_v _ (r_assign evc) ?_; refine kl H rfl fun a H => ?_
  refine wpList_nil ?_
  refine c_next ?_
  refine wp_seq ?_
  refine wp_seq ?_
  refine wp_region_lit ?_
  refine wl_v _ (r_assign evc) ?_; refine kl H rfl fun a H => ?_
  refine wpList_nil ?_
  refine c_next ?_
  refine wp_block ?_
  refine wp_loop (AtI w A c L id) (fun a _ => L.length - (intOf (a.eval (.tmp 6))).toNat) ⟨0, H.pick [0, 1, 6], by omega, fun j hj => by omega, rfl⟩ ?_
  clear H
  rintro a w' ⟨k, H, hk, hno, hw⟩
  subst hw
  have H0 := H
  by_cases hlt : k < L.length
  · skip
    obtain ⟨b, o, hA, hr⟩ := flat_some encT_len hh.out (by omega) hlt
    subst hA
    have hy : L[k]? = some L[k] := List.getElem?_eq_getElem hlt
    have HY := Lib.hid hy
    have HRG := Lib.hid hr
    generalize L[k] = y at *
    clear hy hr
    by_cases hid : y.1 = id
    · skip
      refine wp_seq ?_
      refine wp_seq ?_
      refine wp_region_lit ?_
      refine wl_v _ (r_move (H.ev rfl)) ?_; refine kl H rfl fun a H => ?_
      refine wl_v _ (r_move (H.ev rfl)) ?_; refine kl H rfl fun a H => ?_
      refine wl_v _ (r_len Try.underlying22 (H.ev rfl)) ?_; refine kl H rfl fun a H => ?_
      refine wl_v _ (r_lt Try.underlying3 (H.ev rfl) (H.ev rfl) (dec_t (by omega))) ?_; refine kl H rfl fun a H => ?_
      refine wpList_nil ?_
      refine c_next ?_
      refine c_cond_t H rfl ?_
      refine wp_skip ?_
      refine c_next ?_
      refine wp_seq ?_
      refine wp_block ?_
      refine wp_seq ?_
      refine wp_region_lit ?_
      refine wl_v _ (r_move (H.ev rfl)) ?_; refine kl H rfl fun a H => ?_
      refine wl_v _ (r_move (H.ev rfl)) ?_; refine kl H rfl fun a H => ?_
      refine wl_v _ (r_idx (j := k) (q := o + k * 2) Try.underlying22 s40 (H.ev rfl) (H.ev rfl) (by omega) rfl) ?_; refine kl H rfl fun a H => ?_
      refine wl_v _ (r_fld (q := o + k * 2) fld40_0 (H.ev rfl) rfl) ?_; refine kl H rfl fun a H => ?_
      refine wl_v _ (r_ld Try.underlying3 rfl (H.ev rfl) (range_cell HRG.out 0 rfl)) ?_; refine kl H rfl fun a H => ?_
      refine wl_v _ (r_move (H.ev rfl)) ?_; refine kl H rfl fun a H => ?_
      refine wl_v _ (r_eq Try.underlying3 (H.ev rfl) (H.ev rfl) (dec_t (by omega))) ?_; refine kl H rfl fun a H => ?_
      refine wpList_nil ?_
      refine c_next ?_
      refine c_cond_t H rfl ?_
      refine wp_seq ?_
      refine wp_region_lit ?_
      refine wl_v _ (r_move (H.ev rfl)) ?_; refine kl H rfl fun a H => ?_
      refine wl_v _ (r_move (H.ev rfl)) ?_; refine kl H rfl fun a H => ?_
      refine wl_v _ (r_idx (j := k) (q := o + k * 2) Try.underlying22 s40 (H.ev rfl) (H.ev rfl) (by omega) rfl) ?_; refine kl H rfl fun a H => ?_
      refine wl_v _ (r_fld (q := o + k * 2 + 1) fld40_1 (H.ev rfl) rfl) ?_; refine kl H rfl fun a H => ?_
      refine wl_v _ (r_ld Try.underlying3 rfl (H.ev rfl) (range_cell HRG.out 1 rfl)) ?_; refine kl H rfl fun a H => ?_
      refine wl_v _ (r_assign (H.ev rfl)) ?_; refine kl H rfl fun a H => ?_
      refine wl_v _ (r_assign evc) ?_; refine kl H rfl fun a H => ?_
      refine wpList_nil ?_
      refine c_next ?_
      refine wp_ret ?_
      refine r_block ?_
      refine r_then ?_
      refine r_then ?_
      refine r_block ?_
      refine r_then ?_
      exact k_ret2 H rfl rfl rfl ⟨by rw [(at_here hno HY.out hid).1, (at_here hno HY.out hid).2], rfl⟩
    · skip
      refine wp_seq ?_
      refine wp_seq ?_
      refine wp_region_lit ?_
      refine wl_v _ (r_move (H.ev rfl)) ?_; refine kl H rfl fun a H => ?_
      refine wl_v _ (r_move (H.ev rfl)) ?_; refine kl H rfl fun a H => ?_
      refine wl_v _ (r_len Try.underlying22 (H.ev rfl)) ?_; refine kl H rfl fun a H => ?_
      refine wl_v _ (r_lt Try.underlying3 (H.ev rfl) (H.ev rfl) (dec_t (by omega))) ?_; refine kl H rfl fun a H => ?_
      refine wpList_nil ?_
      refine c_next ?_
      refine c_cond_t H rfl ?_
      refine wp_skip ?_
      refine c_next ?_
      refine wp_seq ?_
      refine wp_block ?_
      refine wp_seq ?_
      refine wp_region_lit ?_
      refine wl_v _ (r_move (H.ev rfl)) ?_; refine kl H rfl fun a H => ?_
      refine wl_v _ (r_move (H.ev rfl)) ?_; refine kl H rfl fun a H => ?_
      refine wl_v _ (r_idx (j := k) (q := o + k * 2) Try.underlying22 s40 (H.ev rfl) (H.ev rfl) (by omega) rfl) ?_; refine kl H rfl fun a H => ?_
      refine wl_v _ (r_fld (q := o + k * 2) fld40_0 (H.ev rfl) rfl) ?_; refine kl H rfl fun a H => ?_
      refine wl_v _ (r_ld Try.underlying3 rfl (H.ev rfl) (range_cell HRG.out 0 rfl)) ?_; refine kl H rfl fun a H => ?_
      refine wl_v _ (r_move (H.ev rfl)) ?_; refine kl H rfl fun a H => ?_
      refine wl_v _ (r_eq Try.underlying3 (H.ev rfl) (H.ev rfl) (dec_f (by omega))) ?_; refine kl H rfl fun a H => ?_
      refine wpList_nil ?_
      refine c_next ?_
      refine c_cond_f H rfl ?_
      refine wp_skip ?_
      refine n_block ?_
      refine c_next ?_
      refine wp_region_lit ?_
      refine wl_v _ (r_move (H.ev rfl)) ?_; refine kl H rfl fun a H => ?_
      refine wl_v _ (r_add (q := ((k + 1 : Nat) : Int)) Try.underlying3 (H.ev rfl) evc (by omega) (by omega)) ?_; refine kl H rfl fun a H => ?_
      refine wl_v _ (r_assign (H.ev rfl)) ?_; refine kl H rfl fun a H => ?_
      refine wpList_nil ?_
      refine n_then ⟨⟨k + 1, H.pick [0, 1, 6], by omega, idx_next hno HY.out (by simpa using hid), rfl⟩, ?_⟩
      rw [H.ev (j := 6) rfl, H0.ev (j := 6) rfl]
      simp only [intOf]
      omega
  · skip
    obtain rfl : k = L.length := by omega
    refine wp_seq ?_
    refine wp_seq ?_
    refine wp_region_lit ?_
    refine wl_v _ (r_move (H.ev rfl)) ?_; refine kl H rfl fun a H => ?_
    refine wl_v _ (r_move (H.ev rfl)) ?_; refine kl H rfl fun a H => ?_
    refine wl_v _ (r_len Try.underlying22 (H.ev rfl)) ?_; refine kl H rfl fun a H => ?_
    refine wl_v _ (r_lt Try.underlying3 (H.ev rfl) (H.ev rfl) (dec_f (by omega))) ?_; refine kl H rfl fun a H => ?_
    refine wpList_nil ?_
    refine c_next ?_
    refine c_cond_f H rfl ?_
    refine wp_exit ?_
    refine e_then ?_
    refine e_then ?_
    refine e_here ?_
    refine c_next ?_
    refine wp_seq ?_
    refine wp_region_lit ?_
    refine wl_v _ (r_assign evc) ?_; refine kl H rfl fun a H => ?_
    refine wl_v _ (r_assign evc) ?_; refine kl H rfl fun a H => ?_
    refine wpList_nil ?_
    refine c_next ?_
    refine wp_ret ?_
    exact k_ret2 H rfl rfl rfl ⟨by rw [(at_none hno).1, (at_none hno).2], rfl⟩
set_option maxHeartbeats 1000000 in
theorem rclear_any (w : World) (v : Value) (L : List Tm) (id : Int) (h : TRow w v L) (hn : L.length ≤ 100000) :
    Calls Try.prog 13 #[v, .int .i64 id] w fun e w' => (∃ v', e = .returned (.tuple #[v', .bool (decide ((wthF L id).length < L.length))]) ∧ TOwn w' w.heap.size v' (wthF L id)) ∧ Below w.heap.size w w' := by
  have hall := Below.refl w.heap.size w
  by_cases hlt : (wthF L id).length < L.length
  · skip
    have HL : Hid (decide ((wthF L id).length < L.length) = true) := Lib.hid (dec_t hlt)
    refine K_enter 16 Try.func13 rfl rfl fun a H => ?_
    replace H := H.pick [0, 1]
    refine wp_seq ?_
    refine wp_region_lit ?_
    refine wl_v _ (r_assign evc) ?_; refine kl H rfl fun a H => ?_
    refine wl_v _ (r_assign evc) ?_; refine kl H rfl fun a H => ?_
    refine wpList_nil ?_
    refine c_next ?_
    refine wp_seq ?_
    refine wp_region_lit ?_
    refine wl_v _ (r_move (H.ev rfl)) ?_; refine kl H rfl fun a H => ?_
    refine wl_v _ (r_move (H.ev rfl)) ?_; refine kl H rfl fun a H => ?_
    refine wl_call _ _ _ (without_any _ _ L id h hn) (r_call2 cf26 (H.ev rfl) (H.ev rfl)) ?_; rintro e w9 ⟨⟨v1, rfl, hown⟩, hb⟩; refine ⟨_, rfl, ?_⟩; replace hall := hall.trans (hb.mono hall.size); clear hb; obtain ⟨A1, c1, rfl, hh1, hm1, hm2⟩ := own_slice hown; obtain ⟨A, c, rfl, e1, e2, e3, e4⟩ := h; refine kl H rfl fun a H => ?_
    refine wl_v _ (r_assign (H.ev rfl)) ?_; refine kl H rfl fun a H => ?_
    refine wpList_nil ?_
    refine c_next ?_
    refine wp_seq ?_
    replace H := (H.pick [6]).add H (k := 0) rfl
    refine wp_region_lit ?_
    refine wl_v _ (r_move (H.ev rfl)) ?_; refine kl H rfl fun a H => ?_
    refine wl_v _ (r_move (H.ev rfl)) ?_; refine kl H rfl fun a H => ?_
    refine wl_v _ (r_len Try.underlying22 (H.ev rfl)) ?_; refine kl H rfl fun a H => ?_
    refine wl_v _ (r_move (H.ev rfl)) ?_; refine kl H rfl fun a H => ?_
    refine wl_v _ (r_len Try.underlying22 (H.ev rfl)) ?_; refine kl H rfl fun a H => ?_
    refine wl_v _ (r_lt Try.underlying3 (H.ev rfl) (H.ev rfl) (dec_t (by omega))) ?_; refine kl H rfl fun a H => ?_
    refine wl_v _ (r_assign (H.ev rfl)) ?_; refine kl H rfl fun a H => ?_
    refine wl_v _ (r_assign (H.ev rfl)) ?_; refine kl H rfl fun a H => ?_
    refine wpList_nil ?_
    refine c_next ?_
    refine wp_ret ?_
    exact k_ret2 H rfl rfl rfl ⟨⟨_, by rw [HL.out], hown⟩, hall⟩
  · skip
    have HL : Hid (decide ((wthF L id).length < L.length) = false) := Lib.hid (dec_f hlt)
    refine K_enter 16 Try.func13 rfl rfl fun a H => ?_
    replace H := H.pick [0, 1]
    refine wp_seq ?_
    refine wp_region_lit ?_
    refine wl_v _ (r_assign evc) ?_; refine kl H rfl fun a H => ?_
    refine wl_v _ (r_assign evc) ?_; refine kl H rfl fun a H => ?_
    refine wpList_nil ?_
    refine c_next ?_
    refine wp_seq ?_
    refine wp_region_lit ?_
    refine wl_v _ (r_move (H.ev rfl)) ?_; refine kl H rfl fun a H => ?_
    refine wl_v _ (r_move (H.ev rfl)) ?_; refine kl H rfl fun a H => ?_
    refine wl_call _ _ _ (without_any _ _ L id h hn) (r_call2 cf26 (H.ev rfl) (H.ev rfl)) ?_; rintro e w9 ⟨⟨v1, rfl, hown⟩, hb⟩; refine ⟨_, rfl, ?_⟩; replace hall := hall.trans (hb.mono hall.size); clear hb; obtain ⟨A1, c1, rfl, hh1, hm1, hm2⟩ := own_slice hown; obtain ⟨A, c, rfl, e1, e2, e3, e4⟩ := h; refine kl H rfl fun a H => ?_
    refine wl_v _ (r_assign (H.ev rfl)) ?_; refine kl H rfl fun a H => ?_
    refine wpList_nil ?_
    refine c_next ?_
    refine wp_seq ?_
    replace H := (H.pick [6]).add H (k := 0) rfl
    refine wp_region_lit ?_
    refine wl_v _ (r_move (H.ev rfl)) ?_; refine kl H rfl fun a H => ?_
    refine wl_v _ (r_move (H.ev rfl)) ?_; refine kl H rfl fun a H => ?_
    refine wl_v _ (r_len Try.underlying22 (H.ev rfl)) ?_; refine kl H rfl fun a H => ?_
    refine wl_v _ (r_move (H.ev rfl)) ?_; refine kl H rfl fun a H => ?_
    refine wl_v _ (r_len Try.underlying22 (H.ev rfl)) ?_; refine kl H rfl fun a H => ?_
    refine wl_v _ (r_lt Try.underlying3 (H.ev rfl) (H.ev rfl) (dec_f (by omega))) ?_; refine kl H rfl fun a H => ?_
    refine wl_v _ (r_assign (H.ev rfl)) ?_; refine kl H rfl fun a H => ?_
    refine wl_v _ (r_assign (H.ev rfl)) ?_; refine kl H rfl fun a H => ?_
    refine wpList_nil ?_
    refine c_next ?_
    refine wp_ret ?_
    exact k_ret2 H rfl rfl rfl ⟨⟨_, by rw [HL.out], hown⟩, hall⟩
end Go.Proofs.Ytndpbciefijjcaa
