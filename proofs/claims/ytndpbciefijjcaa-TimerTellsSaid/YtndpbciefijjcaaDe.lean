/- TimerTells: the walk. -/
import Derived.Test.YtndpbciefijjcaaDd
import Derived.Test.YtndpbciefijjcaaY
namespace Go.Proofs.Ytndpbciefijjcaa
open Go.RowKit
set_option linter.unusedVariables false
set_option linter.unusedSimpArgs false

theorem was_own {w : World} {base : Nat} {v : Value} {L : List Tm} (h : w.ownsRow base 40 2 v (0 + L.length) ([] ++ FV encT L)) : TOwn w base v L := by
  unfold TOwn
  rwa [Nat.zero_add, List.nil_append] at h
theorem was_own0 {w : World} {base : Nat} {v : Value} {L : List Tm} (h0 : L.length = 0) (h : w.ownsRow base 40 2 v (0 + 0) ([] ++ FV encT L)) : TOwn w base v L := by
  unfold TOwn
  rw [h0]
  simpa using h
theorem was_row {w : World} {base : Nat} {v : Value} {L : List Tm} (h : w.ownsRow base 40 2 v (0 + L.length) ([] ++ FV encT L)) : TRow w v L := TOwn.row (was_own h)
def TeI (W : World) (AV : Option Addr) (cV : Nat) (V : List Ac) (a : Act) (w : World) : Prop :=
  ∃ (k : Nat) (L : List Tm) (tv : Value), Kn a 246 [(1, .slice AV V.length cV), (5, .bool true), (6, tv), (7, .int .i64 (k : Nat))] ∧ k ≤ V.length ∧ TRow w tv L ∧ RightL L ∧ Below W.heap.size W w
def SpI (W : World) (V : List Ac) (b o cV k : Nat) (vx : Value) (M : List Tm) (g cp bx : Nat) (a : Act) (w : World) : Prop :=
  ∃ (j : Nat) (cu : Array Value), Kn a 246 [(1, .slice (some ⟨b, o, none⟩) V.length cV), (5, .bool true), (6, vx), (7, .int .i64 (k : Nat)), (9, .slice (some ⟨g, 0, none⟩) M.length cp), (32, .int .i64 (j : Nat))] ∧
    j ≤ M.length ∧ Block w g 40 cu ∧ M.length * 2 ≤ cu.size ∧ TOwn w bx vx M ∧ Below W.heap.size W w
set_option maxHeartbeats 20000000 in
set_option maxRecDepth 100000 in
theorem tells_walk (w : World) (v : Value) (L : List Tm) (AV : Option Addr) (cV : Nat) (V : List Ac) (h : TRow w v L) (hn : L.length ≤ 9223372036854775807) (hwf0 : ∀ x ∈ L, (Lit.int .i64 x.1).wf = true) (hVn : V.length ≤ 9223372036854775807) (hhV0 : Holds w AV (FV encA V)) :
    Calls Try.prog 3 #[v, .slice AV V.length cV] w fun e w' => e = .returned (.bool true) ∧ Below w.heap.size w w' := by
  have hall := Below.refl w.heap.size w
  have hwf := Lib.hid hwf0
  have hhV := Lib.hid hhV0
  clear hwf0 hhV0
  obtain ⟨A, c, rfl, e1, e2, e3, e4⟩ := h
  have h : TRow w (.slice A L.length c) L := ⟨A, c, rfl, e1, e2, e3, e4⟩
  clear e1 e2 e3 e4
  by_cases hn1 : 100 < L.length
  · skip
    refine K_enter 246 Try.func3 rfl rfl fun a H => ?_
    replace H := H.pick [0, 1]
    refine wp_seq ?_
    refine wp_region_lit ?_
    refine wl_v _ (r_assign evc) ?_; refine kl H rfl fun a H => ?_
    refine wpList_nil ?_
    refine c_next ?_
    refine wp_seq ?_
    refine wp_region_lit ?_
    refine wl_call _ _ _ (small_any _) (r_call0 cf7) ?_; rintro e w9 ⟨rfl, hb⟩; refine ⟨_, rfl, ?_⟩; replace h := Row.up h hb; replace hall := hall.trans (hb.mono hall.size); clear hb; refine kl H rfl fun a H => ?_
    refine wl_v _ (r_assign (H.ev rfl)) ?_; refine kl H rfl fun a H => ?_
    refine wpList_nil ?_
    refine c_next ?_
    refine wp_seq ?_
    refine wp_seq ?_
    refine wp_region_lit ?_
    refine wl_v _ (r_move (H.ev rfl)) ?_; refine kl H rfl fun a H => ?_
    refine wl_v _ (r_len Try.underlying22 (H.ev rfl)) ?_; refine kl H rfl fun a H => ?_
    refine wl_v _ (r_gt Try.underlying3 (H.ev rfl) evc (dec_t (by omega))) ?_; refine kl H rfl fun a H => ?_
    refine wl_v _ (r_move (H.ev rfl)) ?_; refine kl H rfl fun a H => ?_
    refine wl_s (kg_no rfl H rfl rfl rfl) ?_; refine kl H rfl fun a H => ?_
    refine wl_s (kg_no rfl H rfl rfl rfl) ?_; refine kl H rfl fun a H => ?_
    refine wl_s (kg_no rfl H rfl rfl rfl) ?_; refine kl H rfl fun a H => ?_
    refine wl_v _ (r_pick_t (H.ev rfl) evc) ?_; refine kl H rfl fun a H => ?_
    refine wl_v _ (r_move (H.ev rfl)) ?_; refine kl H rfl fun a H => ?_
    refine wl_s (kg_no rfl H rfl rfl rfl) ?_; refine kl H rfl fun a H => ?_
    refine wl_s (kg_no rfl H rfl rfl rfl) ?_; refine kl H rfl fun a H => ?_
    refine wl_s (kg_no rfl H rfl rfl rfl) ?_; refine kl H rfl fun a H => ?_
    refine wl_s (kg_no rfl H rfl rfl rfl) ?_; refine kl H rfl fun a H => ?_
    refine wl_s (kg_no rfl H rfl rfl rfl) ?_; refine kl H rfl fun a H => ?_
    refine wl_v _ (r_pick_t (H.ev rfl) evc) ?_; refine kl H rfl fun a H => ?_
    refine wpList_nil ?_
    refine c_next ?_
    refine c_cond_t H rfl ?_
    refine wp_seq ?_
    refine wp_region_lit ?_
    refine wl_v _ (r_move (H.ev rfl)) ?_; refine kl H rfl fun a H => ?_
    refine wl_v _ (r_move (H.ev rfl)) ?_; refine kl H rfl fun a H => ?_
    refine op_unguard _ _ (kg_yes rfl H rfl rfl rfl) ?_; refine wl_v _ (r_move (H.ev rfl)) ?_; refine kl H rfl fun a H => ?_
    refine op_unguard _ _ (kg_yes rfl H rfl rfl rfl) ?_; refine wl_v _ (r_len Try.underlying22 (H.ev rfl)) ?_; refine kl H rfl fun a H => ?_
    refine op_unguard _ _ (kg_yes rfl H rfl rfl rfl) ?_; refine wl_v _ (r_gt Try.underlying3 (H.ev rfl) evc (dec_t (by omega))) ?_; refine kl H rfl fun a H => ?_
    refine op_unguard _ _ (kg_yes rfl H rfl rfl rfl) ?_; refine wl_v _ (r_move (H.ev rfl)) ?_; refine kl H rfl fun a H => ?_
    refine wl_s (kg_no rfl H rfl rfl rfl) ?_; refine kl H rfl fun a H => ?_
    refine wl_s (kg_no rfl H rfl rfl rfl) ?_; refine kl H rfl fun a H => ?_
    refine wl_s (kg_no rfl H rfl rfl rfl) ?_; refine kl H rfl fun a H => ?_
    refine op_unguard _ _ (kg_yes rfl H rfl rfl rfl) ?_; refine wl_v _ (r_pick_t (H.ev rfl) evc) ?_; refine kl H rfl fun a H => ?_
    refine wl_v _ (r_pick_t (H.ev rfl) (H.ev rfl)) ?_; refine kl H rfl fun a H => ?_
    refine wl_v _ (r_assign (H.ev rfl)) ?_; refine kl H rfl fun a H => ?_
    refine wpList_nil ?_
    refine c_next ?_
    refine wp_ret ?_
    refine r_then ?_
    exact k_ret1 H rfl rfl ⟨rfl, hall⟩
  · skip
    by_cases hv1 : 100 < V.length
    · skip
      refine K_enter 246 Try.func3 rfl rfl fun a H => ?_
      replace H := H.pick [0, 1]
      refine wp_seq ?_
      refine wp_region_lit ?_
      refine wl_v _ (r_assign evc) ?_; refine kl H rfl fun a H => ?_
      refine wpList_nil ?_
      refine c_next ?_
      refine wp_seq ?_
      refine wp_region_lit ?_
      refine wl_call _ _ _ (small_any _) (r_call0 cf7) ?_; rintro e w9 ⟨rfl, hb⟩; refine ⟨_, rfl, ?_⟩; replace h := Row.up h hb; replace hall := hall.trans (hb.mono hall.size); clear hb; refine kl H rfl fun a H => ?_
      refine wl_v _ (r_assign (H.ev rfl)) ?_; refine kl H rfl fun a H => ?_
      refine wpList_nil ?_
      refine c_next ?_
      refine wp_seq ?_
      refine wp_seq ?_
      refine wp_region_lit ?_
      refine wl_v _ (r_move (H.ev rfl)) ?_; refine kl H rfl fun a H => ?_
      refine wl_v _ (r_len Try.underlying22 (H.ev rfl)) ?_; refine kl H rfl fun a H => ?_
      refine wl_v _ (r_gt Try.underlying3 (H.ev rfl) evc (dec_f (by omega))) ?_; refine kl H rfl fun a H => ?_
      refine wl_v _ (r_move (H.ev rfl)) ?_; refine kl H rfl fun a H => ?_
      refine op_unguard _ _ (kg_yes rfl H rfl rfl rfl) ?_; refine wl_v _ (r_move (H.ev rfl)) ?_; refine kl H rfl fun a H => ?_
      refine op_unguard _ _ (kg_yes rfl H rfl rfl rfl) ?_; refine wl_v _ (r_len Try.underlying23 (H.ev rfl)) ?_; refine kl H rfl fun a H => ?_
      refine op_unguard _ _ (kg_yes rfl H rfl rfl rfl) ?_; refine wl_v _ (r_gt Try.underlying3 (H.ev rfl) evc (dec_t (by omega))) ?_; refine kl H rfl fun a H => ?_
      refine wl_v _ (r_pick_f (H.ev rfl) (H.ev rfl)) ?_; refine kl H rfl fun a H => ?_
      refine wl_v _ (r_move (H.ev rfl)) ?_; refine kl H rfl fun a H => ?_
      refine wl_s (kg_no rfl H rfl rfl rfl) ?_; refine kl H rfl fun a H => ?_
      refine wl_s (kg_no rfl H rfl rfl rfl) ?_; refine kl H rfl fun a H => ?_
      refine wl_s (kg_no rfl H rfl rfl rfl) ?_; refine kl H rfl fun a H => ?_
      refine wl_s (kg_no rfl H rfl rfl rfl) ?_; refine kl H rfl fun a H => ?_
      refine wl_s (kg_no rfl H rfl rfl rfl) ?_; refine kl H rfl fun a H => ?_
      refine wl_v _ (r_pick_t (H.ev rfl) evc) ?_; refine kl H rfl fun a H => ?_
      refine wpList_nil ?_
      refine c_next ?_
      refine c_cond_t H rfl ?_
      refine wp_seq ?_
      refine wp_region_lit ?_
      refine wl_v _ (r_move (H.ev rfl)) ?_; refine kl H rfl fun a H => ?_
      refine wl_v _ (r_move (H.ev rfl)) ?_; refine kl H rfl fun a H => ?_
      refine op_unguard _ _ (kg_yes rfl H rfl rfl rfl) ?_; refine wl_v _ (r_move (H.ev rfl)) ?_; refine kl H rfl fun a H => ?_
      refine op_unguard _ _ (kg_yes rfl H rfl rfl rfl) ?_; refine wl_v _ (r_len Try.underlying22 (H.ev rfl)) ?_; refine kl H rfl fun a H => ?_
      refine op_unguard _ _ (kg_yes rfl H rfl rfl rfl) ?_; refine wl_v _ (r_gt Try.underlying3 (H.ev rfl) evc (dec_f (by omega))) ?_; refine kl H rfl fun a H => ?_
      refine op_unguard _ _ (kg_yes rfl H rfl rfl rfl) ?_; refine wl_v _ (r_move (H.ev rfl)) ?_; refine kl H rfl fun a H => ?_
      refine op_unguard _ _ (kg_yes rfl H rfl rfl rfl) ?_; refine wl_v _ (r_move (H.ev rfl)) ?_; refine kl H rfl fun a H => ?_
      refine op_unguard _ _ (kg_yes rfl H rfl rfl rfl) ?_; refine wl_v _ (r_len Try.underlying23 (H.ev rfl)) ?_; refine kl H rfl fun a H => ?_
      refine op_unguard _ _ (kg_yes rfl H rfl rfl rfl) ?_; refine wl_v _ (r_gt Try.underlying3 (H.ev rfl) evc (dec_t (by omega))) ?_; refine kl H rfl fun a H => ?_
      refine op_unguard _ _ (kg_yes rfl H rfl rfl rfl) ?_; refine wl_v _ (r_pick_f (H.ev rfl) (H.ev rfl)) ?_; refine kl H rfl fun a H => ?_
      refine wl_v _ (r_pick_t (H.ev rfl) (H.ev rfl)) ?_; refine kl H rfl fun a H => ?_
      refine wl_v _ (r_assign (H.ev rfl)) ?_; refine kl H rfl fun a H => ?_
      refine wpList_nil ?_
      refine c_next ?_
      refine wp_ret ?_
      refine r_then ?_
      exact k_ret1 H rfl rfl ⟨rfl, hall⟩
    · skip
      cases hr : rightF L
      · skip
        have HR := Lib.hid hr
        clear hr
        refine K_enter 246 Try.func3 rfl rfl fun a H => ?_
        replace H := H.pick [0, 1]
        refine wp_seq ?_
        refine wp_region_lit ?_
        refine wl_v _ (r_assign evc) ?_; refine kl H rfl fun a H => ?_
        refine wpList_nil ?_
        refine c_next ?_
        refine wp_seq ?_
        refine wp_region_lit ?_
        refine wl_call _ _ _ (small_any _) (r_call0 cf7) ?_; rintro e w9 ⟨rfl, hb⟩; refine ⟨_, rfl, ?_⟩; replace h := Row.up h hb; replace hall := hall.trans (hb.mono hall.size); clear hb; refine kl H rfl fun a H => ?_
        refine wl_v _ (r_assign (H.ev rfl)) ?_; refine kl H rfl fun a H => ?_
        refine wpList_nil ?_
        refine c_next ?_
        refine wp_seq ?_
        refine wp_seq ?_
        refine wp_region_lit ?_
        refine wl_v _ (r_move (H.ev rfl)) ?_; refine kl H rfl fun a H => ?_
        refine wl_v _ (r_len Try.underlying22 (H.ev rfl)) ?_; refine kl H rfl fun a H => ?_
        refine wl_v _ (r_gt Try.underlying3 (H.ev rfl) evc (dec_f (by omega))) ?_; refine kl H rfl fun a H => ?_
        refine wl_v _ (r_move (H.ev rfl)) ?_; refine kl H rfl fun a H => ?_
        refine op_unguard _ _ (kg_yes rfl H rfl rfl rfl) ?_; refine wl_v _ (r_move (H.ev rfl)) ?_; refine kl H rfl fun a H => ?_
        refine op_unguard _ _ (kg_yes rfl H rfl rfl rfl) ?_; refine wl_v _ (r_len Try.underlying23 (H.ev rfl)) ?_; refine kl H rfl fun a H => ?_
        refine op_unguard _ _ (kg_yes rfl H rfl rfl rfl) ?_; refine wl_v _ (r_gt Try.underlying3 (H.ev rfl) evc (dec_f (by omega))) ?_; refine kl H rfl fun a H => ?_
        refine wl_v _ (r_pick_f (H.ev rfl) (H.ev rfl)) ?_; refine kl H rfl fun a H => ?_
        refine wl_v _ (r_move (H.ev rfl)) ?_; refine kl H rfl fun a H => ?_
        refine op_unguard _ _ (kg_yes rfl H rfl rfl rfl) ?_; refine wl_v _ (r_move (H.ev rfl)) ?_; refine kl H rfl fun a H => ?_
        refine op_unguard _ _ (kg_yes rfl H rfl rfl rfl) ?_; refine wl_call _ _ _ (right_any _ _ L h (by omega) hwf.out) (r_call1 cf8 (H.ev rfl)) ?_; rintro e w9 ⟨rfl, hb⟩; refine ⟨_, rfl, ?_⟩; rw [HR.out]; replace h := Row.up h hb; replace hall := hall.trans (hb.mono hall.size); clear hb; refine kl H rfl fun a H => ?_
        refine op_unguard _ _ (kg_yes rfl H rfl rfl rfl) ?_; refine wl_v _ (r_move (H.ev rfl)) ?_; refine kl H rfl fun a H => ?_
        refine op_unguard _ _ (kg_yes rfl H rfl rfl rfl) ?_; refine wl_call _ _ _ (rright_any _ _ L h (by omega)) (r_call1 cf9 (H.ev rfl)) ?_; rintro e w9 ⟨rfl, hb⟩; refine ⟨_, rfl, ?_⟩; rw [HR.out]; replace h := Row.up h hb; replace hall := hall.trans (hb.mono hall.size); clear hb; refine kl H rfl fun a H => ?_
        refine op_unguard _ _ (kg_yes rfl H rfl rfl rfl) ?_; refine wl_v _ (r_bne Try.underlying4 (H.ev rfl) (H.ev rfl) rfl) ?_; refine kl H rfl fun a H => ?_
        refine wl_v _ (r_pick_f (H.ev rfl) (H.ev rfl)) ?_; refine kl H rfl fun a H => ?_
        refine wpList_nil ?_
        refine c_next ?_
        refine c_cond_f H rfl ?_
        refine wp_skip ?_
        refine c_next ?_
        refine wp_seq ?_
        refine wp_seq ?_
        refine wp_region_lit ?_
        refine wl_v _ (r_move (H.ev rfl)) ?_; refine kl H rfl fun a H => ?_
        refine wl_call _ _ _ (rright_any _ _ L h (by omega)) (r_call1 cf9 (H.ev rfl)) ?_; rintro e w9 ⟨rfl, hb⟩; refine ⟨_, rfl, ?_⟩; rw [HR.out]; replace h := Row.up h hb; replace hall := hall.trans (hb.mono hall.size); clear hb; refine kl H rfl fun a H => ?_
        refine wl_v _ (r_not (H.ev rfl) rfl) ?_; refine kl H rfl fun a H => ?_
        refine wpList_nil ?_
        refine c_next ?_
        refine c_cond_t H rfl ?_
        refine wp_seq ?_
        refine wp_region_lit ?_
        refine wl_v _ (r_move (H.ev rfl)) ?_; refine kl H rfl fun a H => ?_
        refine wl_v _ (r_assign (H.ev rfl)) ?_; refine kl H rfl fun a H => ?_
        refine wpList_nil ?_
        refine c_next ?_
        refine wp_ret ?_
        refine r_then ?_
        exact k_ret1 H rfl rfl ⟨rfl, hall⟩
      · skip
        have hR := Lib.hid ((right_iff L).1 hr)
        have HR := Lib.hid hr
        clear hr
        refine K_enter 246 Try.func3 rfl rfl fun a H => ?_
        replace H := H.pick [0, 1]
        refine wp_seq ?_
        refine wp_region_lit ?_
        refine wl_v _ (r_assign evc) ?_; refine kl H rfl fun a H => ?_
        refine wpList_nil ?_
        refine c_next ?_
        refine wp_seq ?_
        refine wp_region_lit ?_
        refine wl_call _ _ _ (small_any _) (r_call0 cf7) ?_; rintro e w9 ⟨rfl, hb⟩; refine ⟨_, rfl, ?_⟩; replace h := Row.up h hb; replace hall := hall.trans (hb.mono hall.size); clear hb; refine kl H rfl fun a H => ?_
        refine wl_v _ (r_assign (H.ev rfl)) ?_; refine kl H rfl fun a H => ?_
        refine wpList_nil ?_
        refine c_next ?_
        refine wp_seq ?_
        refine wp_seq ?_
        refine wp_region_lit ?_
        refine wl_v _ (r_move (H.ev rfl)) ?_; refine kl H rfl fun a H => ?_
        refine wl_v _ (r_len Try.underlying22 (H.ev rfl)) ?_; refine kl H rfl fun a H => ?_
        refine wl_v _ (r_gt Try.underlying3 (H.ev rfl) evc (dec_f (by omega))) ?_; refine kl H rfl fun a H => ?_
        refine wl_v _ (r_move (H.ev rfl)) ?_; refine kl H rfl fun a H => ?_
        refine op_unguard _ _ (kg_yes rfl H rfl rfl rfl) ?_; refine wl_v _ (r_move (H.ev rfl)) ?_; refine kl H rfl fun a H => ?_
        refine op_unguard _ _ (kg_yes rfl H rfl rfl rfl) ?_; refine wl_v _ (r_len Try.underlying23 (H.ev rfl)) ?_; refine kl H rfl fun a H => ?_
        refine op_unguard _ _ (kg_yes rfl H rfl rfl rfl) ?_; refine wl_v _ (r_gt Try.underlying3 (H.ev rfl) evc (dec_f (by omega))) ?_; refine kl H rfl fun a H => ?_
        refine wl_v _ (r_pick_f (H.ev rfl) (H.ev rfl)) ?_; refine kl H rfl fun a H => ?_
        refine wl_v _ (r_move (H.ev rfl)) ?_; refine kl H rfl fun a H => ?_
        refine op_unguard _ _ (kg_yes rfl H rfl rfl rfl) ?_; refine wl_v _ (r_move (H.ev rfl)) ?_; refine kl H rfl fun a H => ?_
        refine op_unguard _ _ (kg_yes rfl H rfl rfl rfl) ?_; refine wl_call _ _ _ (right_any _ _ L h (by omega) hwf.out) (r_call1 cf8 (H.ev rfl)) ?_; rintro e w9 ⟨rfl, hb⟩; refine ⟨_, rfl, ?_⟩; rw [HR.out]; replace h := Row.up h hb; replace hall := hall.trans (hb.mono hall.size); clear hb; refine kl H rfl fun a H => ?_
        refine op_unguard _ _ (kg_yes rfl H rfl rfl rfl) ?_; refine wl_v _ (r_move (H.ev rfl)) ?_; refine kl H rfl fun a H => ?_
        refine op_unguard _ _ (kg_yes rfl H rfl rfl rfl) ?_; refine wl_call _ _ _ (rright_any _ _ L h (by omega)) (r_call1 cf9 (H.ev rfl)) ?_; rintro e w9 ⟨rfl, hb⟩; refine ⟨_, rfl, ?_⟩; rw [HR.out]; replace h := Row.up h hb; replace hall := hall.trans (hb.mono hall.size); clear hb; refine kl H rfl fun a H => ?_
        refine op_unguard _ _ (kg_yes rfl H rfl rfl rfl) ?_; refine wl_v _ (r_bne Try.underlying4 (H.ev rfl) (H.ev rfl) rfl) ?_; refine kl H rfl fun a H => ?_
        refine wl_v _ (r_pick_f (H.ev rfl) (H.ev rfl)) ?_; refine kl H rfl fun a H => ?_
        refine wpList_nil ?_
        refine c_next ?_
        refine c_cond_f H rfl ?_
        refine wp_skip ?_
        refine c_next ?_
        refine wp_seq ?_
        refine wp_seq ?_
        refine wp_region_lit ?_
        refine wl_v _ (r_move (H.ev rfl)) ?_; refine kl H rfl fun a H => ?_
        refine wl_call _ _ _ (rright_any _ _ L h (by omega)) (r_call1 cf9 (H.ev rfl)) ?_; rintro e w9 ⟨rfl, hb⟩; refine ⟨_, rfl, ?_⟩; rw [HR.out]; replace h := Row.up h hb; replace hall := hall.trans (hb.mono hall.size); clear hb; refine kl H rfl fun a H => ?_
        refine wl_v _ (r_not (H.ev rfl) rfl) ?_; refine kl H rfl fun a H => ?_
        refine wpList_nil ?_
        refine c_next ?_
        refine c_cond_f H rfl ?_
        refine wp_skip ?_
        refine c_next ?_
        refine wp_seq ?_
        refine wp_region_lit ?_
        refine wl_v _ (r_move (H.ev rfl)) ?_; refine kl H rfl fun a H => ?_
        refine wl_v _ (r_assign (H.ev rfl)) ?_; refine kl H rfl fun a H => ?_
        refine wpList_nil ?_
        refine c_next ?_
        refine wp_seq ?_
        refine wp_seq ?_
        refine wp_region_lit ?_
        refine wl_v _ (r_assign evc) ?_; refine kl H rfl fun a H => ?_
        refine wpList_nil ?_
        refine c_next ?_
        refine wp_block ?_
        refine wp_loop (TeI w AV cV V) (fun a _ => V.length - (intOf (a.eval (.tmp 7))).toNat) ⟨0, L, _, H.pick [1, 5, 6, 7], by omega, h, hR.out, hall⟩ ?_
        clear hall h hR HR hwf hn H
        rintro a w' ⟨k, L, tv, H, hk, h, hR, hall⟩
        have H0 := H
        obtain ⟨A, c, rfl, e1, e2, e3, e4⟩ := h
        have h : TRow w' (.slice A L.length c) L := ⟨A, c, rfl, e1, e2, e3, e4⟩
        have hh := e4
        clear e1 e2 e3 e4
        by_cases hlt : k < V.length
        · skip
          obtain ⟨b, o, hA, hr⟩ := flat_some encA_len hhV.out (by omega) hlt
          subst hA
          have hltI : (k : Int) < V.length := by omega
          generalize V[k] = y at *
          obtain ⟨d, id, at'⟩ := y
          have HRG : Hid (w.rangeAt b (o + k * 3) [.int .i64 d, .int .i64 id, .int .i64 at']) := Lib.hid hr
          have hl := hR.2.2
          have HRL := Lib.hid hR
          clear hr hR
          refine wp_seq ?_
          refine wp_seq ?_
          refine wp_region_lit ?_
          refine wl_v _ (r_move (H.ev rfl)) ?_; refine kl H rfl fun a H => ?_
          refine wl_v _ (r_move (H.ev rfl)) ?_; refine kl H rfl fun a H => ?_
          refine wl_v _ (r_len Try.underlying23 (H.ev rfl)) ?_; refine kl H rfl fun a H => ?_
          refine wl_v _ (r_lt Try.underlying3 (H.ev rfl) (H.ev rfl) (dec_t (by omega))) ?_; refine kl H rfl fun a H => ?_
          refine wpList_nil ?_
          refine c_next ?_
          refine c_cond_t H rfl ?_
          refine wp_skip ?_
          refine c_next ?_
          refine wp_seq ?_
          refine wp_block ?_
          refine wp_seq ?_
          refine wp_region_lit ?_
          refine op_litv 22 0 #[] 40 #[] (by simp) (fun w => by kernel_rfl) fun w1 bl hge hb kk => ?_; have q0 := own_empty (base := bl) (size := 2) kk (Nat.le_refl _); have hbl := kk.lt; have hhw := hh.up hb; have hwb := Nat.le_trans hall.size hge; have hlo := hge; have hb0 := hb; replace hall := hall.trans (hb.mono hall.size); clear hb hge kk hh; refine kl H rfl fun a H => ?_
          refine wl_v _ (r_move (H.ev rfl)) ?_; refine kl H rfl fun a H => ?_
          refine op_append 22 40 (.tmp 71) (.tmp 72) bl (.agg #[.int .i64 0, .int .i64 0]) 2 16 _ 0 [] A L.length c (FV encT L) (H.ev rfl) (H.ev rfl) Try.underlying22 i40 rfl (by omega) q0 (by rw [FV_len encT_len]) hhw (FV_one _ _) (by unfold maxLen; omega) (by omega) (Nat.le_of_lt hbl) fun v8 w2 q8 _ _ hb2 => ?_; replace h := Row.up h (hb0.trans (hb2.mono hlo)); replace hall := hall.trans (hb2.mono hwb); have h8 := was_row q8; clear hb2 q0 hhw hwb hbl hlo q8 hb0; refine kl H rfl fun a H => ?_
          refine wl_v _ (r_assign (H.ev rfl)) ?_; refine kl H rfl fun a H => ?_
          refine wpList_nil ?_
          refine c_next ?_
          refine wp_seq ?_
          refine wp_region_lit ?_
          refine wl_v _ (r_assign evc) ?_; refine kl H rfl fun a H => ?_
          refine wpList_nil ?_
          refine c_next ?_
          refine wp_seq ?_
          refine wp_region_lit ?_
          refine wl_v _ (r_assign evc) ?_; refine kl H rfl fun a H => ?_
          refine wpList_nil ?_
          refine c_next ?_
          refine wp_seq ?_
          refine wp_region_lit ?_
          refine wl_v _ (r_assign evc) ?_; refine kl H rfl fun a H => ?_
          refine wpList_nil ?_
          refine c_next ?_
          refine wp_seq ?_
          refine wp_seq ?_
          refine wp_region_lit ?_
          refine wl_v _ (r_move (H.ev rfl)) ?_; refine kl H rfl fun a H => ?_
          refine wl_v _ (r_move (H.ev rfl)) ?_; refine kl H rfl fun a H => ?_
          refine wl_v _ (r_idx (j := k) (q := o + k * 3) Try.underlying23 s27 (H.ev rfl) (H.ev rfl) (by omega) rfl) ?_; refine kl H rfl fun a H => ?_
          refine wl_v _ (r_fld (q := o + k * 3) fld27_0 (H.ev rfl) rfl) ?_; refine kl H rfl fun a H => ?_
          refine wl_v _ (r_ld Try.underlying3 rfl (H.ev rfl) (range_cell (range_ups HRG.out hall) 0 rfl)) ?_; refine kl H rfl fun a H => ?_
          refine wpList_nil ?_
          refine c_next ?_
          refine wp_block ?_
          refine wp_seq ?_
          by_cases hd : d = 0
          · obtain rfl : d = 0 := hd
            refine wp_region_lit ?_
            refine wl_v _ (r_eq Try.underlying3 (H.ev rfl) evc (dec_t (by omega))) ?_; refine kl H rfl fun a H => ?_
            refine wl_v _ (r_assign (H.ev rfl)) ?_; refine kl H rfl fun a H => ?_
            refine wpList_nil ?_
            refine c_next ?_
            refine c_cond_t H rfl ?_
            refine wp_seq ?_
            have HMO : Hid (Mono (clrF L id) (id, at')) := Lib.hid (mono_of (HRL.out.clr id).1 _)
            have HE1 := Lib.hid (rok_eq (id := id) HRL.out.2.1)
            have HE2 := Lib.hid (rset_eq (id := id) (at' := at') HRL.out.2.1)
            have hall8 := hall
            have hS : BelowOf (BelowTo hall8) _ := Below.drew (Below.refl _ (BelowTo hall8))
            refine region_pi (BelowOf (BelowTo hall8)) [(0, true), (1, true), (2, true), (3, true), (4, true), (5, true), (6, true), (7, true), (8, true), (9, true), (10, true), (11, false), (12, true), (13, true), (14, true), (15, true), (16, true)] (by kernel_rfl) (by kernel_rfl) rfl (by kernel_rfl) hS ?_
            refine pi_f0 _ rfl (fun w' hS' => r_move (H.ev rfl)) ?_; refine kp H rfl fun a H => ?_
            refine pi_f0 _ rfl (fun w' hS' => r_move (H.ev rfl)) ?_; refine kp H rfl fun a H => ?_
            refine pi_f0 _ rfl (fun w' hS' => r_move (H.ev rfl)) ?_; refine kp H rfl fun a H => ?_
            refine pi_f0 _ rfl (fun w' hS' => r_idx (j := k) (q := o + k * 3) Try.underlying23 s27 (H.ev rfl) (H.ev rfl) (by omega) rfl) ?_; refine kp H rfl fun a H => ?_
            refine pi_f0 _ rfl (fun w' hS' => r_fld (q := o + k * 3 + 1) fld27_1 (H.ev rfl) rfl) ?_; refine kp H rfl fun a H => ?_
            refine pi_f0 _ rfl (fun w' hS' => r_ld Try.underlying3 rfl (H.ev rfl) (range_cell (range_ups HRG.out (Below.trans hall8 (Below.mono hS' (Below.size hall8)))) 1 rfl)) ?_; refine kp H rfl fun a H => ?_
            refine pi_f0 _ rfl (fun w' hS' => r_move (H.ev rfl)) ?_; refine kp H rfl fun a H => ?_
            refine pi_f0 _ rfl (fun w' hS' => r_move (H.ev rfl)) ?_; refine kp H rfl fun a H => ?_
            refine pi_f0 _ rfl (fun w' hS' => r_idx (j := k) (q := o + k * 3) Try.underlying23 s27 (H.ev rfl) (H.ev rfl) (by omega) rfl) ?_; refine kp H rfl fun a H => ?_
            refine pi_f0 _ rfl (fun w' hS' => r_fld (q := o + k * 3 + 2) fld27_2 (H.ev rfl) rfl) ?_; refine kp H rfl fun a H => ?_
            refine pi_f0 _ rfl (fun w' hS' => r_ld Try.underlying3 rfl (H.ev rfl) (range_cell (range_ups HRG.out (Below.trans hall8 (Below.mono hS' (Below.size hall8)))) 2 rfl)) ?_; refine kp H rfl fun a H => ?_
            refine pi_a0 rfl (fun K hK => ?_); refine wpo_call _ _ _ (set_any _ _ L id at' (Row.up h hS) (by omega) HMO.out) (r_call3 cf10 (H.ev rfl) (H.ev rfl) (H.ev rfl)) ?_; rintro e w9 ⟨⟨vp, rfl, hp⟩, hb⟩; refine ⟨_, rfl, ?_⟩; replace hp := own_base hp (Nat.le_trans hall8.size (BelowOf.size hS)); replace hS := BelowOf.step hS hb; clear hb; refine hK _ _ ⟨hS, ?_⟩; clear hK; clear K; refine kp H rfl fun a H => ?_
            refine pi_f0 _ rfl (fun w' hS' => r_move (H.ev rfl)) ?_; refine kp H rfl fun a H => ?_
            refine pi_f0 _ rfl (fun w' hS' => r_extract (H.ev rfl) rfl) ?_; refine kp H rfl fun a H => ?_
            refine pi_f0 _ rfl (fun w' hS' => r_extract (H.ev rfl) rfl) ?_; refine kp H rfl fun a H => ?_
            refine pi_f0 _ rfl (fun w' hS' => r_assign (H.ev rfl)) ?_; refine kp H rfl fun a H => ?_
            refine pi_f0 _ rfl (fun w' hS' => r_assign (H.ev rfl)) ?_; refine kp H rfl fun a H => ?_
            refine pi_nil (NoPanic.normal ?_)
            have hb : Below (BelowTo hall8).heap.size (BelowTo hall8) _ := hS
            clear hS
            replace h := Row.up h hb
            replace h8 := Row.up h8 hb
            replace hall := hall.trans (hb.mono hall.size)
            clear hb
            clear hall8
            refine c_next ?_
            refine wp_seq ?_
            have hall8 := hall
            have hS : BelowOf (BelowTo hall8) _ := Below.drew (Below.refl _ (BelowTo hall8))
            refine region_pi (BelowOf (BelowTo hall8)) [(0, true), (1, true), (2, true), (3, true), (4, true), (5, true), (6, true), (7, true), (8, true), (9, true), (10, true), (11, false), (12, true), (13, true), (14, true), (15, true), (16, true)] (by kernel_rfl) (by kernel_rfl) rfl (by kernel_rfl) hS ?_
            refine pi_f0 _ rfl (fun w' hS' => r_move (H.ev rfl)) ?_; refine kp H rfl fun a H => ?_
            refine pi_f0 _ rfl (fun w' hS' => r_move (H.ev rfl)) ?_; refine kp H rfl fun a H => ?_
            refine pi_f0 _ rfl (fun w' hS' => r_move (H.ev rfl)) ?_; refine kp H rfl fun a H => ?_
            refine pi_f0 _ rfl (fun w' hS' => r_idx (j := k) (q := o + k * 3) Try.underlying23 s27 (H.ev rfl) (H.ev rfl) (by omega) rfl) ?_; refine kp H rfl fun a H => ?_
            refine pi_f0 _ rfl (fun w' hS' => r_fld (q := o + k * 3 + 1) fld27_1 (H.ev rfl) rfl) ?_; refine kp H rfl fun a H => ?_
            refine pi_f0 _ rfl (fun w' hS' => r_ld Try.underlying3 rfl (H.ev rfl) (range_cell (range_ups HRG.out (Below.trans hall8 (Below.mono hS' (Below.size hall8)))) 1 rfl)) ?_; refine kp H rfl fun a H => ?_
            refine pi_f0 _ rfl (fun w' hS' => r_move (H.ev rfl)) ?_; refine kp H rfl fun a H => ?_
            refine pi_f0 _ rfl (fun w' hS' => r_move (H.ev rfl)) ?_; refine kp H rfl fun a H => ?_
            refine pi_f0 _ rfl (fun w' hS' => r_idx (j := k) (q := o + k * 3) Try.underlying23 s27 (H.ev rfl) (H.ev rfl) (by omega) rfl) ?_; refine kp H rfl fun a H => ?_
            refine pi_f0 _ rfl (fun w' hS' => r_fld (q := o + k * 3 + 2) fld27_2 (H.ev rfl) rfl) ?_; refine kp H rfl fun a H => ?_
            refine pi_f0 _ rfl (fun w' hS' => r_ld Try.underlying3 rfl (H.ev rfl) (range_cell (range_ups HRG.out (Below.trans hall8 (Below.mono hS' (Below.size hall8)))) 2 rfl)) ?_; refine kp H rfl fun a H => ?_
            refine pi_a0 rfl (fun K hK => ?_); refine wpo_call _ _ _ (rset_any _ _ L id at' (Row.up h hS) (by omega)) (r_call3 cf11 (H.ev rfl) (H.ev rfl) (H.ev rfl)) ?_; rintro e w9 ⟨⟨vq, rfl, hq⟩, hb⟩; refine ⟨_, rfl, ?_⟩; rw [HE1.out]; rw [HE2.out] at hq; replace hq := TOwn.row hq; replace hS := BelowOf.step hS hb; clear hb; refine hK _ _ ⟨hS, ?_⟩; clear hK; clear K; refine kp H rfl fun a H => ?_
            refine pi_f0 _ rfl (fun w' hS' => r_move (H.ev rfl)) ?_; refine kp H rfl fun a H => ?_
            refine pi_f0 _ rfl (fun w' hS' => r_extract (H.ev rfl) rfl) ?_; refine kp H rfl fun a H => ?_
            refine pi_f0 _ rfl (fun w' hS' => r_extract (H.ev rfl) rfl) ?_; refine kp H rfl fun a H => ?_
            refine pi_f0 _ rfl (fun w' hS' => r_assign (H.ev rfl)) ?_; refine kp H rfl fun a H => ?_
            refine pi_f0 _ rfl (fun w' hS' => r_assign (H.ev rfl)) ?_; refine kp H rfl fun a H => ?_
            refine pi_nil (NoPanic.normal ?_)
            have hb : Below (BelowTo hall8).heap.size (BelowTo hall8) _ := hS
            clear hS
            replace h := Row.up h hb
            replace h8 := Row.up h8 hb
            replace hp := own_ups hp hb
            replace hall := hall.trans (hb.mono hall.size)
            clear hb
            clear hall8
            refine c_next ?_
            refine wp_seq ?_
            refine wp_region_lit ?_
            refine wl_v _ (r_move (H.ev rfl)) ?_; refine kl H rfl fun a H => ?_
            refine wl_v _ (r_assign (H.ev rfl)) ?_; refine kl H rfl fun a H => ?_
            refine wpList_nil ?_
            refine c_next ?_
            refine wp_seq ?_
            refine wp_region_lit ?_
            refine wl_v _ (r_move (H.ev rfl)) ?_; refine kl H rfl fun a H => ?_
            refine wl_v _ (r_assign (H.ev rfl)) ?_; refine kl H rfl fun a H => ?_
            refine wpList_nil ?_
            refine c_next ?_
            refine wp_region_lit ?_
            refine wl_v _ (r_move (H.ev rfl)) ?_; refine kl H rfl fun a H => ?_
            refine wl_v _ (r_move (H.ev rfl)) ?_; refine kl H rfl fun a H => ?_
            refine wl_v (.bool true) (r_beq Try.underlying4 (H.ev rfl) (H.ev rfl) (by simp)) ?_; refine kl H rfl fun a H => ?_
            refine wl_v _ (r_assign (H.ev rfl)) ?_; refine kl H rfl fun a H => ?_
            refine wpList_nil ?_
            refine n_block ?_
            refine c_next ?_
            refine wp_seq ?_
            replace H : Kn _ 246 [(1, _), (5, _), (6, _), (7, _), (8, _), (9, _), (10, _), (11, _)] := H.pick [1, 5, 6, 7, 8, 9, 10, 11]
            obtain ⟨M, hM⟩ : ∃ M, (setF L id at') = M := ⟨_, rfl⟩
            rw [hM] at hp hq
            have hRM : RightL M := hM ▸ (HRL.out.set id at')
            have hlM := hRM.2.2
            have HRM := Lib.hid hRM
            clear hM hRM
            refine wp_region_lit ?_
            refine wl_v _ (r_move (H.ev rfl)) ?_; refine kl H rfl fun a H => ?_
            refine wl_v _ (r_move (H.ev rfl)) ?_; refine kl H rfl fun a H => ?_
            refine wl_v _ (r_move (H.ev rfl)) ?_; refine kl H rfl fun a H => ?_
            refine wl_v _ (r_idx (j := k) (q := o + k * 3) Try.underlying23 s27 (H.ev rfl) (H.ev rfl) (by omega) rfl) ?_; refine kl H rfl fun a H => ?_
            refine wl_v _ (r_fld (q := o + k * 3 + 1) fld27_1 (H.ev rfl) rfl) ?_; refine kl H rfl fun a H => ?_
            refine wl_v _ (r_ld Try.underlying3 rfl (H.ev rfl) (range_cell (range_ups HRG.out hall) 1 rfl)) ?_; refine kl H rfl fun a H => ?_
            refine wl_call _ _ _ (at_any _ _ M id (TOwn.row hp) (by omega)) (r_call2 cf17 (H.ev rfl) (H.ev rfl)) ?_; rintro e w9 ⟨rfl, hb⟩; refine ⟨_, rfl, ?_⟩; replace h := Row.up h hb; replace h8 := Row.up h8 hb; replace hp := own_ups hp hb; replace hq := Row.up hq hb; replace hall := hall.trans (hb.mono hall.size); clear hb; refine kl H rfl fun a H => ?_
            refine wl_v _ (r_move (H.ev rfl)) ?_; refine kl H rfl fun a H => ?_
            refine wl_v _ (r_extract (H.ev rfl) rfl) ?_; refine kl H rfl fun a H => ?_
            refine wl_v _ (r_extract (H.ev rfl) rfl) ?_; refine kl H rfl fun a H => ?_
            refine wl_v _ (r_assign (H.ev rfl)) ?_; refine kl H rfl fun a H => ?_
            refine wl_v _ (r_assign (H.ev rfl)) ?_; refine kl H rfl fun a H => ?_
            refine wpList_nil ?_
            refine c_next ?_
            refine wp_seq ?_
            refine wp_region_lit ?_
            refine wl_v _ (r_move (H.ev rfl)) ?_; refine kl H rfl fun a H => ?_
            refine wl_v _ (r_move (H.ev rfl)) ?_; refine kl H rfl fun a H => ?_
            refine wl_v _ (r_move (H.ev rfl)) ?_; refine kl H rfl fun a H => ?_
            refine wl_v _ (r_idx (j := k) (q := o + k * 3) Try.underlying23 s27 (H.ev rfl) (H.ev rfl) (by omega) rfl) ?_; refine kl H rfl fun a H => ?_
            refine wl_v _ (r_fld (q := o + k * 3 + 1) fld27_1 (H.ev rfl) rfl) ?_; refine kl H rfl fun a H => ?_
            refine wl_v _ (r_ld Try.underlying3 rfl (H.ev rfl) (range_cell (range_ups HRG.out hall) 1 rfl)) ?_; refine kl H rfl fun a H => ?_
            refine wl_call _ _ _ (rat_any _ _ M id hq (by omega)) (r_call2 cf18 (H.ev rfl) (H.ev rfl)) ?_; rintro e w9 ⟨rfl, hw⟩; refine ⟨_, rfl, ?_⟩; subst hw; refine kl H rfl fun a H => ?_
            refine wl_v _ (r_move (H.ev rfl)) ?_; refine kl H rfl fun a H => ?_
            refine wl_v _ (r_extract (H.ev rfl) rfl) ?_; refine kl H rfl fun a H => ?_
            refine wl_v _ (r_extract (H.ev rfl) rfl) ?_; refine kl H rfl fun a H => ?_
            refine wl_v _ (r_assign (H.ev rfl)) ?_; refine kl H rfl fun a H => ?_
            refine wl_v _ (r_assign (H.ev rfl)) ?_; refine kl H rfl fun a H => ?_
            refine wpList_nil ?_
            refine c_next ?_
            refine wp_seq ?_
            refine wp_region_lit ?_
            refine wl_v _ (r_move (H.ev rfl)) ?_; refine kl H rfl fun a H => ?_
            refine wl_call _ _ _ (next19_any _ _ M (TOwn.row hp) (by omega)) (r_call1 cf19 (H.ev rfl)) ?_; rintro e w9 ⟨rfl, rfl⟩; refine ⟨_, rfl, ?_⟩; skip; refine kl H rfl fun a H => ?_
            refine wl_v _ (r_move (H.ev rfl)) ?_; refine kl H rfl fun a H => ?_
            refine wl_v _ (r_extract (H.ev rfl) rfl) ?_; refine kl H rfl fun a H => ?_
            refine wl_v _ (r_extract (H.ev rfl) rfl) ?_; refine kl H rfl fun a H => ?_
            refine wl_v _ (r_assign (H.ev rfl)) ?_; refine kl H rfl fun a H => ?_
            refine wl_v _ (r_assign (H.ev rfl)) ?_; refine kl H rfl fun a H => ?_
            refine wpList_nil ?_
            refine c_next ?_
            refine wp_seq ?_
            refine wp_region_lit ?_
            refine wl_v _ (r_move (H.ev rfl)) ?_; refine kl H rfl fun a H => ?_
            refine wl_call _ _ _ (next20_any _ _ M hq (by omega)) (r_call1 cf20 (H.ev rfl)) ?_; rintro e w9 ⟨rfl, rfl⟩; refine ⟨_, rfl, ?_⟩; skip; refine kl H rfl fun a H => ?_
            refine wl_v _ (r_move (H.ev rfl)) ?_; refine kl H rfl fun a H => ?_
            refine wl_v _ (r_extract (H.ev rfl) rfl) ?_; refine kl H rfl fun a H => ?_
            refine wl_v _ (r_extract (H.ev rfl) rfl) ?_; refine kl H rfl fun a H => ?_
            refine wl_v _ (r_assign (H.ev rfl)) ?_; refine kl H rfl fun a H => ?_
            refine wl_v _ (r_assign (H.ev rfl)) ?_; refine kl H rfl fun a H => ?_
            refine wpList_nil ?_
            refine c_next ?_
            refine wp_seq ?_
            refine wp_seq ?_
            refine wp_region_lit ?_
            refine wl_v _ (r_move (H.ev rfl)) ?_; refine kl H rfl fun a H => ?_
            refine wl_v _ (r_not (H.ev rfl) rfl) ?_; refine kl H rfl fun a H => ?_
            refine wl_v _ (r_move (H.ev rfl)) ?_; refine kl H rfl fun a H => ?_
            refine op_unguard _ _ (kg_yes rfl H rfl rfl rfl) ?_; refine wl_v _ (r_move (H.ev rfl)) ?_; refine kl H rfl fun a H => ?_
            refine op_unguard _ _ (kg_yes rfl H rfl rfl rfl) ?_; refine wl_v _ (r_move (H.ev rfl)) ?_; refine kl H rfl fun a H => ?_
            refine op_unguard _ _ (kg_yes rfl H rfl rfl rfl) ?_; refine wl_call _ _ _ (same21_any _ _ _ M M (TOwn.row hp) hq (by omega) (by omega)) (r_call2 cf21 (H.ev rfl) (H.ev rfl)) ?_; rintro e w9 ⟨rfl, hb⟩; refine ⟨_, rfl, ?_⟩; rw [decide_eq_true (rfl : M = M)]; replace h := Row.up h hb; replace h8 := Row.up h8 hb; replace hp := own_ups hp hb; replace hq := Row.up hq hb; replace hall := hall.trans (hb.mono hall.size); clear hb; refine kl H rfl fun a H => ?_
            refine op_unguard _ _ (kg_yes rfl H rfl rfl rfl) ?_; refine wl_v _ (r_not (H.ev rfl) rfl) ?_; refine kl H rfl fun a H => ?_
            refine wl_v _ (r_pick_f (H.ev rfl) (H.ev rfl)) ?_; refine kl H rfl fun a H => ?_
            refine wl_v _ (r_move (H.ev rfl)) ?_; refine kl H rfl fun a H => ?_
            refine op_unguard _ _ (kg_yes rfl H rfl rfl rfl) ?_; refine wl_v _ (r_move (H.ev rfl)) ?_; refine kl H rfl fun a H => ?_
            refine op_unguard _ _ (kg_yes rfl H rfl rfl rfl) ?_; refine wl_v _ (r_move (H.ev rfl)) ?_; refine kl H rfl fun a H => ?_
            refine op_unguard _ _ (kg_yes rfl H rfl rfl rfl) ?_; refine wl_v _ (r_ne Try.underlying3 (H.ev rfl) (H.ev rfl) (dec_f (by omega))) ?_; refine kl H rfl fun a H => ?_
            refine wl_v _ (r_pick_f (H.ev rfl) (H.ev rfl)) ?_; refine kl H rfl fun a H => ?_
            refine wl_v _ (r_move (H.ev rfl)) ?_; refine kl H rfl fun a H => ?_
            refine op_unguard _ _ (kg_yes rfl H rfl rfl rfl) ?_; refine wl_v _ (r_move (H.ev rfl)) ?_; refine kl H rfl fun a H => ?_
            refine op_unguard _ _ (kg_yes rfl H rfl rfl rfl) ?_; refine wl_v _ (r_move (H.ev rfl)) ?_; refine kl H rfl fun a H => ?_
            refine op_unguard _ _ (kg_yes rfl H rfl rfl rfl) ?_; refine wl_v (.bool false) (r_bne Try.underlying4 (H.ev rfl) (H.ev rfl) (by simp)) ?_; refine kl H rfl fun a H => ?_
            refine wl_v _ (r_pick_f (H.ev rfl) (H.ev rfl)) ?_; refine kl H rfl fun a H => ?_
            refine wl_v _ (r_move (H.ev rfl)) ?_; refine kl H rfl fun a H => ?_
            refine op_unguard _ _ (kg_yes rfl H rfl rfl rfl) ?_; refine wl_v _ (r_move (H.ev rfl)) ?_; refine kl H rfl fun a H => ?_
            refine op_unguard _ _ (kg_yes rfl H rfl rfl rfl) ?_; refine wl_v _ (r_move (H.ev rfl)) ?_; refine kl H rfl fun a H => ?_
            refine op_unguard _ _ (kg_yes rfl H rfl rfl rfl) ?_; refine wl_v _ (r_ne Try.underlying3 (H.ev rfl) (H.ev rfl) (dec_f (by omega))) ?_; refine kl H rfl fun a H => ?_
            refine wl_v _ (r_pick_f (H.ev rfl) (H.ev rfl)) ?_; refine kl H rfl fun a H => ?_
            refine wl_v _ (r_move (H.ev rfl)) ?_; refine kl H rfl fun a H => ?_
            refine op_unguard _ _ (kg_yes rfl H rfl rfl rfl) ?_; refine wl_v _ (r_move (H.ev rfl)) ?_; refine kl H rfl fun a H => ?_
            refine op_unguard _ _ (kg_yes rfl H rfl rfl rfl) ?_; refine wl_v _ (r_move (H.ev rfl)) ?_; refine kl H rfl fun a H => ?_
            refine op_unguard _ _ (kg_yes rfl H rfl rfl rfl) ?_; refine wl_v (.bool false) (r_bne Try.underlying4 (H.ev rfl) (H.ev rfl) (by simp)) ?_; refine kl H rfl fun a H => ?_
            refine wl_v _ (r_pick_f (H.ev rfl) (H.ev rfl)) ?_; refine kl H rfl fun a H => ?_
            refine wl_v _ (r_move (H.ev rfl)) ?_; refine kl H rfl fun a H => ?_
            refine op_unguard _ _ (kg_yes rfl H rfl rfl rfl) ?_; refine wl_v _ (r_move (H.ev rfl)) ?_; refine kl H rfl fun a H => ?_
            refine op_unguard _ _ (kg_yes rfl H rfl rfl rfl) ?_; refine wl_v _ (r_move (H.ev rfl)) ?_; refine kl H rfl fun a H => ?_
            refine op_unguard _ _ (kg_yes rfl H rfl rfl rfl) ?_; refine wl_call _ _ _ (same21_any _ _ _ L L h8 h (by omega) (by omega)) (r_call2 cf21 (H.ev rfl) (H.ev rfl)) ?_; rintro e w9 ⟨rfl, hb⟩; refine ⟨_, rfl, ?_⟩; rw [decide_eq_true (rfl : L = L)]; replace h := Row.up h hb; replace h8 := Row.up h8 hb; replace hp := own_ups hp hb; replace hq := Row.up hq hb; replace hall := hall.trans (hb.mono hall.size); clear hb; refine kl H rfl fun a H => ?_
            refine op_unguard _ _ (kg_yes rfl H rfl rfl rfl) ?_; refine wl_v _ (r_not (H.ev rfl) rfl) ?_; refine kl H rfl fun a H => ?_
            refine wl_v _ (r_pick_f (H.ev rfl) (H.ev rfl)) ?_; refine kl H rfl fun a H => ?_
            refine wpList_nil ?_
            refine c_next ?_
            refine c_cond_f H rfl ?_
            refine wp_skip ?_
            refine c_next ?_
            refine wp_seq ?_
            replace H : Kn _ 246 [(1, _), (5, _), (7, _), (9, _)] := H.pick [1, 5, 7, 9]
            clear h h8 hq
            obtain ⟨hpl, ⟨rfl, hp0⟩ | ⟨g, cp, cur, rfl, hbg, hg, hnc, hcm, hcs, htk⟩⟩ := hp
            · skip
              have hM0 : M = [] := List.eq_nil_of_length_eq_zero hp0
              have hgl : True := trivial
              have hph : Holds (BelowTo hall) none (FV encT M) := by rw [hM0]; intro j hj; simp [FV, IV] at hj
              clear hM0
              refine wp_region_lit ?_
              refine op_litv 22 0 #[] 40 #[] (by simp) (fun w => by kernel_rfl) fun w1 bx hge hb kk => ?_; have q0 := own_empty (base := bx) (size := 2) kk (Nat.le_refl _); have hbl := kk.lt; replace hph := hph.up hb; have hwb := Nat.le_trans hall.size hge; replace hall := hall.trans (hb.mono hall.size); clear hb; clear hge kk hgl; refine kl H rfl fun a H => ?_
              refine wl_v _ (r_move (H.ev rfl)) ?_; refine kl H rfl fun a H => ?_
              refine op_append 22 40 (.tmp 232) (.tmp 233) bx (.agg #[.int .i64 0, .int .i64 0]) 2 16 _ 0 [] none 0 0 (FV encT M) (H.ev rfl) (H.ev rfl) Try.underlying22 i40 rfl (by omega) q0 (by rw [FV_len encT_len, hp0]) hph (FV_one _ _) (by unfold maxLen; omega) (by omega) (Nat.le_of_lt hbl) fun vx w2 qx _ _ hb2 => ?_; replace hall := hall.trans (hb2.mono hwb); have hx := was_own0 hp0 qx; clear hb2 q0 hph hbl qx; refine kl H rfl fun a H => ?_
              refine wl_v _ (r_assign (H.ev rfl)) ?_; refine kl H rfl fun a H => ?_
              refine wpList_nil ?_
              refine c_next ?_
              refine wp_seq ?_
              refine wp_region_lit ?_
              refine wl_v _ (r_assign evc) ?_; refine kl H rfl fun a H => ?_
              refine wpList_nil ?_
              refine c_next ?_
              refine wp_block ?_
              refine wp_loop (fun a w' => Kn a 246 [(1, .slice (some ⟨b, o, none⟩) V.length cV), (5, .bool true), (6, vx), (7, .int .i64 (k : Nat)), (9, .slice none 0 0), (32, .int .i64 0)] ∧ TRow w' vx M ∧ Below w.heap.size w w') (fun _ _ => 0) ⟨H.pick [1, 5, 6, 7, 9, 32], TOwn.row hx, hall⟩ ?_
              clear hall hx H
              rintro a w' ⟨H, hx, hall⟩
              refine wp_seq ?_
              refine wp_seq ?_
              refine wp_region_lit ?_
              refine wl_v _ (r_move (H.ev rfl)) ?_; refine kl H rfl fun a H => ?_
              refine wl_v _ (r_move (H.ev rfl)) ?_; refine kl H rfl fun a H => ?_
              refine wl_v _ (r_len Try.underlying22 (H.ev rfl)) ?_; refine kl H rfl fun a H => ?_
              refine wl_v _ (r_lt Try.underlying3 (H.ev rfl) (H.ev rfl) (dec_f (by omega))) ?_; refine kl H rfl fun a H => ?_
              refine wpList_nil ?_
              refine c_next ?_
              refine c_cond_f H rfl ?_
              refine wp_exit ?_
              refine e_then ?_
              refine e_then ?_
              refine e_here ?_
              refine n_block ?_
              refine c_next ?_
              refine wp_region_lit ?_
              refine wl_v _ (r_move (H.ev rfl)) ?_; refine kl H rfl fun a H => ?_
              refine wl_v _ (r_add (q := ((k + 1 : Nat) : Int)) Try.underlying3 (H.ev rfl) evc (by omega) (by omega)) ?_; refine kl H rfl fun a H => ?_
              refine wl_v _ (r_assign (H.ev rfl)) ?_; refine kl H rfl fun a H => ?_
              refine wpList_nil ?_
              refine n_then ⟨⟨k + 1, M, _, H.pick [1, 5, 6, 7], by omega, hx, HRM.out, hall⟩, ?_⟩
              rw [H.ev (j := 7) rfl, H0.ev (j := 7) rfl]
              simp only [intOf]
              omega
            · skip
              replace hg : Block (BelowTo hall) g 40 cur := hg
              have hph := own_holds hg rfl htk
              have hgl := hg.lt
              have hfit : M.length * 2 ≤ cur.size := by rw [hcs]; omega
              clear htk hcs hpl
              refine wp_region_lit ?_
              refine op_litv 22 0 #[] 40 #[] (by simp) (fun w => by kernel_rfl) fun w1 bx hge hb kk => ?_; have q0 := own_empty (base := bx) (size := 2) kk (Nat.le_refl _); have hbl := kk.lt; replace hph := hph.up hb; have hwb := Nat.le_trans hall.size hge; have hgx : g < bx := Nat.lt_of_lt_of_le hgl hge; replace hg := Block.ups hg hb; replace hall := hall.trans (hb.mono hall.size); clear hb; clear hge kk hgl; refine kl H rfl fun a H => ?_
              refine wl_v _ (r_move (H.ev rfl)) ?_; refine kl H rfl fun a H => ?_
              refine op_append 22 40 (.tmp 232) (.tmp 233) bx (.agg #[.int .i64 0, .int .i64 0]) 2 16 _ 0 [] (some ⟨g, 0, none⟩) M.length cp (FV encT M) (H.ev rfl) (H.ev rfl) Try.underlying22 i40 rfl (by omega) q0 (by rw [FV_len encT_len]) hph (FV_one _ _) (by unfold maxLen; omega) (by omega) (Nat.le_of_lt hbl) fun vx w2 qx _ _ hb2 => ?_; replace hg := hg.up hb2 hgx; replace hall := hall.trans (hb2.mono hwb); have hx := was_own qx; clear hb2 q0 hph hbl qx; refine kl H rfl fun a H => ?_
              refine wl_v _ (r_assign (H.ev rfl)) ?_; refine kl H rfl fun a H => ?_
              refine wpList_nil ?_
              refine c_next ?_
              refine wp_seq ?_
              refine wp_region_lit ?_
              refine wl_v _ (r_assign evc) ?_; refine kl H rfl fun a H => ?_
              refine wpList_nil ?_
              refine c_next ?_
              refine wp_block ?_
              refine wp_loop (SpI w V b o cV k vx M g cp bx) (fun a _ => M.length - (intOf (a.eval (.tmp 32))).toNat) ⟨0, cur, H.pick [1, 5, 6, 7, 9, 32], by omega, hg, hfit, hx, hall⟩ ?_
              clear hall hx H hg hfit
              rintro a w' ⟨j, cu, H, hj, hg, hfit, hx, hall⟩
              have H1 := H
              by_cases hlj : j < M.length
              · skip
                refine wp_seq ?_
                refine wp_seq ?_
                refine wp_region_lit ?_
                refine wl_v _ (r_move (H.ev rfl)) ?_; refine kl H rfl fun a H => ?_
                refine wl_v _ (r_move (H.ev rfl)) ?_; refine kl H rfl fun a H => ?_
                refine wl_v _ (r_len Try.underlying22 (H.ev rfl)) ?_; refine kl H rfl fun a H => ?_
                refine wl_v _ (r_lt Try.underlying3 (H.ev rfl) (H.ev rfl) (dec_t (by omega))) ?_; refine kl H rfl fun a H => ?_
                refine wpList_nil ?_
                refine c_next ?_
                refine c_cond_t H rfl ?_
                refine wp_skip ?_
                refine c_next ?_
                refine wp_seq ?_
                refine wp_block ?_
                refine wp_region_lit ?_
                refine wl_v _ (r_move (H.ev rfl)) ?_; refine kl H rfl fun a H => ?_
                refine wl_v _ (r_move (H.ev rfl)) ?_; refine kl H rfl fun a H => ?_
                refine wl_v _ (r_idx (j := j) (q := 0 + j * 2) Try.underlying22 s40 (H.ev rfl) (H.ev rfl) (by omega) rfl) ?_; refine kl H rfl fun a H => ?_
                refine wl_v _ (r_fld (q := 0 + j * 2) fld40_0 (H.ev rfl) rfl) ?_; refine kl H rfl fun a H => ?_
                refine op_store1 3 _ _ g (0 + j * 2) 40 (.int .i64 (-77)) cu (H.ev rfl) evc hg s3 (by show 0 + j * 2 + 1 ≤ _; omega) (ints_one [-77]) fun w2 hb2 ho hg2 => ?_; replace hx := own_block hx (fun q e => ho q (by have := (hx.lt q e).1; omega)); replace hall := hall.trans (hb2 _ hbg); clear hg hb2 ho; have hg := hg2; clear hg2; refine kl0 H fun a H => ?_
                refine wpList_nil ?_
                refine n_block ?_
                refine c_next ?_
                refine wp_region_lit ?_
                refine wl_v _ (r_move (H.ev rfl)) ?_; refine kl H rfl fun a H => ?_
                refine wl_v _ (r_add (q := ((j + 1 : Nat) : Int)) Try.underlying3 (H.ev rfl) evc (by omega) (by omega)) ?_; refine kl H rfl fun a H => ?_
                refine wl_v _ (r_assign (H.ev rfl)) ?_; refine kl H rfl fun a H => ?_
                refine wpList_nil ?_
                refine n_then ⟨⟨j + 1, _, H.pick [1, 5, 6, 7, 9, 32], by omega, hg, by rw [setL_size]; exact hfit, hx, hall⟩, ?_⟩
                rw [H.ev (j := 32) rfl, H1.ev (j := 32) rfl]
                simp only [intOf]
                omega
              · skip
                obtain rfl : j = M.length := by omega
                replace hx := TOwn.row hx
                refine wp_seq ?_
                refine wp_seq ?_
                refine wp_region_lit ?_
                refine wl_v _ (r_move (H.ev rfl)) ?_; refine kl H rfl fun a H => ?_
                refine wl_v _ (r_move (H.ev rfl)) ?_; refine kl H rfl fun a H => ?_
                refine wl_v _ (r_len Try.underlying22 (H.ev rfl)) ?_; refine kl H rfl fun a H => ?_
                refine wl_v _ (r_lt Try.underlying3 (H.ev rfl) (H.ev rfl) (dec_f (by omega))) ?_; refine kl H rfl fun a H => ?_
                refine wpList_nil ?_
                refine c_next ?_
                refine c_cond_f H rfl ?_
                refine wp_exit ?_
                refine e_then ?_
                refine e_then ?_
                refine e_here ?_
                refine n_block ?_
                refine c_next ?_
                refine wp_region_lit ?_
                refine wl_v _ (r_move (H.ev rfl)) ?_; refine kl H rfl fun a H => ?_
                refine wl_v _ (r_add (q := ((k + 1 : Nat) : Int)) Try.underlying3 (H.ev rfl) evc (by omega) (by omega)) ?_; refine kl H rfl fun a H => ?_
                refine wl_v _ (r_assign (H.ev rfl)) ?_; refine kl H rfl fun a H => ?_
                refine wpList_nil ?_
                refine n_then ⟨⟨k + 1, M, _, H.pick [1, 5, 6, 7], by omega, hx, HRM.out, hall⟩, ?_⟩
                rw [H.ev (j := 7) rfl, H0.ev (j := 7) rfl]
                simp only [intOf]
                omega
          · skip
            by_cases hd1 : d = 1
            · obtain rfl : d = 1 := hd1
              refine wp_region_lit ?_
              refine wl_v _ (r_eq Try.underlying3 (H.ev rfl) evc (dec_f (by omega))) ?_; refine kl H rfl fun a H => ?_
              refine wl_v _ (r_assign (H.ev rfl)) ?_; refine kl H rfl fun a H => ?_
              refine wpList_nil ?_
              refine c_next ?_
              refine c_cond_f H rfl ?_
              refine wp_seq ?_
              refine wp_region_lit ?_
              refine wl_v _ (r_eq Try.underlying3 (H.ev rfl) evc (dec_t (by omega))) ?_; refine kl H rfl fun a H => ?_
              refine wl_v _ (r_assign (H.ev rfl)) ?_; refine kl H rfl fun a H => ?_
              refine wpList_nil ?_
              refine c_next ?_
              refine c_cond_t H rfl ?_
              refine wp_seq ?_
              have HE1 := Lib.hid (rclr_eq (id := id) HRL.out.2.1)
              have HE2 := Lib.hid (wth_eq (id := id) HRL.out.2.1)
              refine wp_region_lit ?_
              refine wl_v _ (r_move (H.ev rfl)) ?_; refine kl H rfl fun a H => ?_
              refine wl_v _ (r_move (H.ev rfl)) ?_; refine kl H rfl fun a H => ?_
              refine wl_v _ (r_move (H.ev rfl)) ?_; refine kl H rfl fun a H => ?_
              refine wl_v _ (r_idx (j := k) (q := o + k * 3) Try.underlying23 s27 (H.ev rfl) (H.ev rfl) (by omega) rfl) ?_; refine kl H rfl fun a H => ?_
              refine wl_v _ (r_fld (q := o + k * 3 + 1) fld27_1 (H.ev rfl) rfl) ?_; refine kl H rfl fun a H => ?_
              refine wl_v _ (r_ld Try.underlying3 rfl (H.ev rfl) (range_cell (range_ups HRG.out hall) 1 rfl)) ?_; refine kl H rfl fun a H => ?_
              refine wl_call _ _ _ (clear_any _ _ L id h (by omega)) (r_call2 cf12 (H.ev rfl) (H.ev rfl)) ?_; rintro e w9 ⟨⟨vp, rfl, hp⟩, hb⟩; refine ⟨_, rfl, ?_⟩; replace hp := own_base hp hall.size; replace h := Row.up h hb; replace h8 := Row.up h8 hb; replace hall := hall.trans (hb.mono hall.size); clear hb; refine kl H rfl fun a H => ?_
              refine wl_v _ (r_move (H.ev rfl)) ?_; refine kl H rfl fun a H => ?_
              refine wl_v _ (r_extract (H.ev rfl) rfl) ?_; refine kl H rfl fun a H => ?_
              refine wl_v _ (r_extract (H.ev rfl) rfl) ?_; refine kl H rfl fun a H => ?_
              refine wl_v _ (r_assign (H.ev rfl)) ?_; refine kl H rfl fun a H => ?_
              refine wl_v _ (r_assign (H.ev rfl)) ?_; refine kl H rfl fun a H => ?_
              refine wpList_nil ?_
              refine c_next ?_
              refine wp_seq ?_
              refine wp_region_lit ?_
              refine wl_v _ (r_move (H.ev rfl)) ?_; refine kl H rfl fun a H => ?_
              refine wl_v _ (r_move (H.ev rfl)) ?_; refine kl H rfl fun a H => ?_
              refine wl_v _ (r_move (H.ev rfl)) ?_; refine kl H rfl fun a H => ?_
              refine wl_v _ (r_idx (j := k) (q := o + k * 3) Try.underlying23 s27 (H.ev rfl) (H.ev rfl) (by omega) rfl) ?_; refine kl H rfl fun a H => ?_
              refine wl_v _ (r_fld (q := o + k * 3 + 1) fld27_1 (H.ev rfl) rfl) ?_; refine kl H rfl fun a H => ?_
              refine wl_v _ (r_ld Try.underlying3 rfl (H.ev rfl) (range_cell (range_ups HRG.out hall) 1 rfl)) ?_; refine kl H rfl fun a H => ?_
              refine wl_call _ _ _ (rclear_any _ _ L id h (by omega)) (r_call2 cf13 (H.ev rfl) (H.ev rfl)) ?_; rintro e w9 ⟨⟨vq, rfl, hq⟩, hb⟩; refine ⟨_, rfl, ?_⟩; rw [HE1.out]; rw [HE2.out] at hq; replace hq := TOwn.row hq; replace h := Row.up h hb; replace h8 := Row.up h8 hb; replace hp := own_ups hp hb; replace hall := hall.trans (hb.mono hall.size); clear hb; refine kl H rfl fun a H => ?_
              refine wl_v _ (r_move (H.ev rfl)) ?_; refine kl H rfl fun a H => ?_
              refine wl_v _ (r_extract (H.ev rfl) rfl) ?_; refine kl H rfl fun a H => ?_
              refine wl_v _ (r_extract (H.ev rfl) rfl) ?_; refine kl H rfl fun a H => ?_
              refine wl_v _ (r_assign (H.ev rfl)) ?_; refine kl H rfl fun a H => ?_
              refine wl_v _ (r_assign (H.ev rfl)) ?_; refine kl H rfl fun a H => ?_
              refine wpList_nil ?_
              refine c_next ?_
              refine wp_seq ?_
              refine wp_region_lit ?_
              refine wl_v _ (r_move (H.ev rfl)) ?_; refine kl H rfl fun a H => ?_
              refine wl_v _ (r_assign (H.ev rfl)) ?_; refine kl H rfl fun a H => ?_
              refine wpList_nil ?_
              refine c_next ?_
              refine wp_seq ?_
              refine wp_region_lit ?_
              refine wl_v _ (r_move (H.ev rfl)) ?_; refine kl H rfl fun a H => ?_
              refine wl_v _ (r_assign (H.ev rfl)) ?_; refine kl H rfl fun a H => ?_
              refine wpList_nil ?_
              refine c_next ?_
              refine wp_region_lit ?_
              refine wl_v _ (r_move (H.ev rfl)) ?_; refine kl H rfl fun a H => ?_
              refine wl_v _ (r_move (H.ev rfl)) ?_; refine kl H rfl fun a H => ?_
              refine wl_v (.bool true) (r_beq Try.underlying4 (H.ev rfl) (H.ev rfl) (by simp)) ?_; refine kl H rfl fun a H => ?_
              refine wl_v _ (r_assign (H.ev rfl)) ?_; refine kl H rfl fun a H => ?_
              refine wpList_nil ?_
              refine n_block ?_
              refine c_next ?_
              refine wp_seq ?_
              replace H : Kn _ 246 [(1, _), (5, _), (6, _), (7, _), (8, _), (9, _), (10, _), (11, _)] := H.pick [1, 5, 6, 7, 8, 9, 10, 11]
              obtain ⟨M, hM⟩ : ∃ M, (clrF L id) = M := ⟨_, rfl⟩
              rw [hM] at hp hq
              have hRM : RightL M := hM ▸ (HRL.out.clr id)
              have hlM := hRM.2.2
              have HRM := Lib.hid hRM
              clear hM hRM
              refine wp_region_lit ?_
              refine wl_v _ (r_move (H.ev rfl)) ?_; refine kl H rfl fun a H => ?_
              refine wl_v _ (r_move (H.ev rfl)) ?_; refine kl H rfl fun a H => ?_
              refine wl_v _ (r_move (H.ev rfl)) ?_; refine kl H rfl fun a H => ?_
              refine wl_v _ (r_idx (j := k) (q := o + k * 3) Try.underlying23 s27 (H.ev rfl) (H.ev rfl) (by omega) rfl) ?_; refine kl H rfl fun a H => ?_
              refine wl_v _ (r_fld (q := o + k * 3 + 1) fld27_1 (H.ev rfl) rfl) ?_; refine kl H rfl fun a H => ?_
              refine wl_v _ (r_ld Try.underlying3 rfl (H.ev rfl) (range_cell (range_ups HRG.out hall) 1 rfl)) ?_; refine kl H rfl fun a H => ?_
              refine wl_call _ _ _ (at_any _ _ M id (TOwn.row hp) (by omega)) (r_call2 cf17 (H.ev rfl) (H.ev rfl)) ?_; rintro e w9 ⟨rfl, hb⟩; refine ⟨_, rfl, ?_⟩; replace h := Row.up h hb; replace h8 := Row.up h8 hb; replace hp := own_ups hp hb; replace hq := Row.up hq hb; replace hall := hall.trans (hb.mono hall.size); clear hb; refine kl H rfl fun a H => ?_
              refine wl_v _ (r_move (H.ev rfl)) ?_; refine kl H rfl fun a H => ?_
              refine wl_v _ (r_extract (H.ev rfl) rfl) ?_; refine kl H rfl fun a H => ?_
              refine wl_v _ (r_extract (H.ev rfl) rfl) ?_; refine kl H rfl fun a H => ?_
              refine wl_v _ (r_assign (H.ev rfl)) ?_; refine kl H rfl fun a H => ?_
              refine wl_v _ (r_assign (H.ev rfl)) ?_; refine kl H rfl fun a H => ?_
              refine wpList_nil ?_
              refine c_next ?_
              refine wp_seq ?_
              refine wp_region_lit ?_
              refine wl_v _ (r_move (H.ev rfl)) ?_; refine kl H rfl fun a H => ?_
              refine wl_v _ (r_move (H.ev rfl)) ?_; refine kl H rfl fun a H => ?_
              refine wl_v _ (r_move (H.ev rfl)) ?_; refine kl H rfl fun a H => ?_
              refine wl_v _ (r_idx (j := k) (q := o + k * 3) Try.underlying23 s27 (H.ev rfl) (H.ev rfl) (by omega) rfl) ?_; refine kl H rfl fun a H => ?_
              refine wl_v _ (r_fld (q := o + k * 3 + 1) fld27_1 (H.ev rfl) rfl) ?_; refine kl H rfl fun a H => ?_
              refine wl_v _ (r_ld Try.underlying3 rfl (H.ev rfl) (range_cell (range_ups HRG.out hall) 1 rfl)) ?_; refine kl H rfl fun a H => ?_
              refine wl_call _ _ _ (rat_any _ _ M id hq (by omega)) (r_call2 cf18 (H.ev rfl) (H.ev rfl)) ?_; rintro e w9 ⟨rfl, hw⟩; refine ⟨_, rfl, ?_⟩; subst hw; refine kl H rfl fun a H => ?_
              refine wl_v _ (r_move (H.ev rfl)) ?_; refine kl H rfl fun a H => ?_
              refine wl_v _ (r_extract (H.ev rfl) rfl) ?_; refine kl H rfl fun a H => ?_
              refine wl_v _ (r_extract (H.ev rfl) rfl) ?_; refine kl H rfl fun a H => ?_
              refine wl_v _ (r_assign (H.ev rfl)) ?_; refine kl H rfl fun a H => ?_
              refine wl_v _ (r_assign (H.ev rfl)) ?_; refine kl H rfl fun a H => ?_
              refine wpList_nil ?_
              refine c_next ?_
              refine wp_seq ?_
              refine wp_region_lit ?_
              refine wl_v _ (r_move (H.ev rfl)) ?_; refine kl H rfl fun a H => ?_
              refine wl_call _ _ _ (next19_any _ _ M (TOwn.row hp) (by omega)) (r_call1 cf19 (H.ev rfl)) ?_; rintro e w9 ⟨rfl, rfl⟩; refine ⟨_, rfl, ?_⟩; skip; refine kl H rfl fun a H => ?_
              refine wl_v _ (r_move (H.ev rfl)) ?_; refine kl H rfl fun a H => ?_
              refine wl_v _ (r_extract (H.ev rfl) rfl) ?_; refine kl H rfl fun a H => ?_
              refine wl_v _ (r_extract (H.ev rfl) rfl) ?_; refine kl H rfl fun a H => ?_
              refine wl_v _ (r_assign (H.ev rfl)) ?_; refine kl H rfl fun a H => ?_
              refine wl_v _ (r_assign (H.ev rfl)) ?_; refine kl H rfl fun a H => ?_
              refine wpList_nil ?_
              refine c_next ?_
              refine wp_seq ?_
              refine wp_region_lit ?_
              refine wl_v _ (r_move (H.ev rfl)) ?_; refine kl H rfl fun a H => ?_
              refine wl_call _ _ _ (next20_any _ _ M hq (by omega)) (r_call1 cf20 (H.ev rfl)) ?_; rintro e w9 ⟨rfl, rfl⟩; refine ⟨_, rfl, ?_⟩; skip; refine kl H rfl fun a H => ?_
              refine wl_v _ (r_move (H.ev rfl)) ?_; refine kl H rfl fun a H => ?_
              refine wl_v _ (r_extract (H.ev rfl) rfl) ?_; refine kl H rfl fun a H => ?_
              refine wl_v _ (r_extract (H.ev rfl) rfl) ?_; refine kl H rfl fun a H => ?_
              refine wl_v _ (r_assign (H.ev rfl)) ?_; refine kl H rfl fun a H => ?_
              refine wl_v _ (r_assign (H.ev rfl)) ?_; refine kl H rfl fun a H => ?_
              refine wpList_nil ?_
              refine c_next ?_
              refine wp_seq ?_
              refine wp_seq ?_
              refine wp_region_lit ?_
              refine wl_v _ (r_move (H.ev rfl)) ?_; refine kl H rfl fun a H => ?_
              refine wl_v _ (r_not (H.ev rfl) rfl) ?_; refine kl H rfl fun a H => ?_
              refine wl_v _ (r_move (H.ev rfl)) ?_; refine kl H rfl fun a H => ?_
              refine op_unguard _ _ (kg_yes rfl H rfl rfl rfl) ?_; refine wl_v _ (r_move (H.ev rfl)) ?_; refine kl H rfl fun a H => ?_
              refine op_unguard _ _ (kg_yes rfl H rfl rfl rfl) ?_; refine wl_v _ (r_move (H.ev rfl)) ?_; refine kl H rfl fun a H => ?_
              refine op_unguard _ _ (kg_yes rfl H rfl rfl rfl) ?_; refine wl_call _ _ _ (same21_any _ _ _ M M (TOwn.row hp) hq (by omega) (by omega)) (r_call2 cf21 (H.ev rfl) (H.ev rfl)) ?_; rintro e w9 ⟨rfl, hb⟩; refine ⟨_, rfl, ?_⟩; rw [decide_eq_true (rfl : M = M)]; replace h := Row.up h hb; replace h8 := Row.up h8 hb; replace hp := own_ups hp hb; replace hq := Row.up hq hb; replace hall := hall.trans (hb.mono hall.size); clear hb; refine kl H rfl fun a H => ?_
              refine op_unguard _ _ (kg_yes rfl H rfl rfl rfl) ?_; refine wl_v _ (r_not (H.ev rfl) rfl) ?_; refine kl H rfl fun a H => ?_
              refine wl_v _ (r_pick_f (H.ev rfl) (H.ev rfl)) ?_; refine kl H rfl fun a H => ?_
              refine wl_v _ (r_move (H.ev rfl)) ?_; refine kl H rfl fun a H => ?_
              refine op_unguard _ _ (kg_yes rfl H rfl rfl rfl) ?_; refine wl_v _ (r_move (H.ev rfl)) ?_; refine kl H rfl fun a H => ?_
              refine op_unguard _ _ (kg_yes rfl H rfl rfl rfl) ?_; refine wl_v _ (r_move (H.ev rfl)) ?_; refine kl H rfl fun a H => ?_
              refine op_unguard _ _ (kg_yes rfl H rfl rfl rfl) ?_; refine wl_v _ (r_ne Try.underlying3 (H.ev rfl) (H.ev rfl) (dec_f (by omega))) ?_; refine kl H rfl fun a H => ?_
              refine wl_v _ (r_pick_f (H.ev rfl) (H.ev rfl)) ?_; refine kl H rfl fun a H => ?_
              refine wl_v _ (r_move (H.ev rfl)) ?_; refine kl H rfl fun a H => ?_
              refine op_unguard _ _ (kg_yes rfl H rfl rfl rfl) ?_; refine wl_v _ (r_move (H.ev rfl)) ?_; refine kl H rfl fun a H => ?_
              refine op_unguard _ _ (kg_yes rfl H rfl rfl rfl) ?_; refine wl_v _ (r_move (H.ev rfl)) ?_; refine kl H rfl fun a H => ?_
              refine op_unguard _ _ (kg_yes rfl H rfl rfl rfl) ?_; refine wl_v (.bool false) (r_bne Try.underlying4 (H.ev rfl) (H.ev rfl) (by simp)) ?_; refine kl H rfl fun a H => ?_
              refine wl_v _ (r_pick_f (H.ev rfl) (H.ev rfl)) ?_; refine kl H rfl fun a H => ?_
              refine wl_v _ (r_move (H.ev rfl)) ?_; refine kl H rfl fun a H => ?_
              refine op_unguard _ _ (kg_yes rfl H rfl rfl rfl) ?_; refine wl_v _ (r_move (H.ev rfl)) ?_; refine kl H rfl fun a H => ?_
              refine op_unguard _ _ (kg_yes rfl H rfl rfl rfl) ?_; refine wl_v _ (r_move (H.ev rfl)) ?_; refine kl H rfl fun a H => ?_
              refine op_unguard _ _ (kg_yes rfl H rfl rfl rfl) ?_; refine wl_v _ (r_ne Try.underlying3 (H.ev rfl) (H.ev rfl) (dec_f (by omega))) ?_; refine kl H rfl fun a H => ?_
              refine wl_v _ (r_pick_f (H.ev rfl) (H.ev rfl)) ?_; refine kl H rfl fun a H => ?_
              refine wl_v _ (r_move (H.ev rfl)) ?_; refine kl H rfl fun a H => ?_
              refine op_unguard _ _ (kg_yes rfl H rfl rfl rfl) ?_; refine wl_v _ (r_move (H.ev rfl)) ?_; refine kl H rfl fun a H => ?_
              refine op_unguard _ _ (kg_yes rfl H rfl rfl rfl) ?_; refine wl_v _ (r_move (H.ev rfl)) ?_; refine kl H rfl fun a H => ?_
              refine op_unguard _ _ (kg_yes rfl H rfl rfl rfl) ?_; refine wl_v (.bool false) (r_bne Try.underlying4 (H.ev rfl) (H.ev rfl) (by simp)) ?_; refine kl H rfl fun a H => ?_
              refine wl_v _ (r_pick_f (H.ev rfl) (H.ev rfl)) ?_; refine kl H rfl fun a H => ?_
              refine wl_v _ (r_move (H.ev rfl)) ?_; refine kl H rfl fun a H => ?_
              refine op_unguard _ _ (kg_yes rfl H rfl rfl rfl) ?_; refine wl_v _ (r_move (H.ev rfl)) ?_; refine kl H rfl fun a H => ?_
              refine op_unguard _ _ (kg_yes rfl H rfl rfl rfl) ?_; refine wl_v _ (r_move (H.ev rfl)) ?_; refine kl H rfl fun a H => ?_
              refine op_unguard _ _ (kg_yes rfl H rfl rfl rfl) ?_; refine wl_call _ _ _ (same21_any _ _ _ L L h8 h (by omega) (by omega)) (r_call2 cf21 (H.ev rfl) (H.ev rfl)) ?_; rintro e w9 ⟨rfl, hb⟩; refine ⟨_, rfl, ?_⟩; rw [decide_eq_true (rfl : L = L)]; replace h := Row.up h hb; replace h8 := Row.up h8 hb; replace hp := own_ups hp hb; replace hq := Row.up hq hb; replace hall := hall.trans (hb.mono hall.size); clear hb; refine kl H rfl fun a H => ?_
              refine op_unguard _ _ (kg_yes rfl H rfl rfl rfl) ?_; refine wl_v _ (r_not (H.ev rfl) rfl) ?_; refine kl H rfl fun a H => ?_
              refine wl_v _ (r_pick_f (H.ev rfl) (H.ev rfl)) ?_; refine kl H rfl fun a H => ?_
              refine wpList_nil ?_
              refine c_next ?_
              refine c_cond_f H rfl ?_
              refine wp_skip ?_
              refine c_next ?_
              refine wp_seq ?_
              replace H : Kn _ 246 [(1, _), (5, _), (7, _), (9, _)] := H.pick [1, 5, 7, 9]
              clear h h8 hq
              obtain ⟨hpl, ⟨rfl, hp0⟩ | ⟨g, cp, cur, rfl, hbg, hg, hnc, hcm, hcs, htk⟩⟩ := hp
              · skip
                have hM0 : M = [] := List.eq_nil_of_length_eq_zero hp0
                have hgl : True := trivial
                have hph : Holds (BelowTo hall) none (FV encT M) := by rw [hM0]; intro j hj; simp [FV, IV] at hj
                clear hM0
                refine wp_region_lit ?_
                refine op_litv 22 0 #[] 40 #[] (by simp) (fun w => by kernel_rfl) fun w1 bx hge hb kk => ?_; have q0 := own_empty (base := bx) (size := 2) kk (Nat.le_refl _); have hbl := kk.lt; replace hph := hph.up hb; have hwb := Nat.le_trans hall.size hge; replace hall := hall.trans (hb.mono hall.size); clear hb; clear hge kk hgl; refine kl H rfl fun a H => ?_
                refine wl_v _ (r_move (H.ev rfl)) ?_; refine kl H rfl fun a H => ?_
                refine op_append 22 40 (.tmp 232) (.tmp 233) bx (.agg #[.int .i64 0, .int .i64 0]) 2 16 _ 0 [] none 0 0 (FV encT M) (H.ev rfl) (H.ev rfl) Try.underlying22 i40 rfl (by omega) q0 (by rw [FV_len encT_len, hp0]) hph (FV_one _ _) (by unfold maxLen; omega) (by omega) (Nat.le_of_lt hbl) fun vx w2 qx _ _ hb2 => ?_; replace hall := hall.trans (hb2.mono hwb); have hx := was_own0 hp0 qx; clear hb2 q0 hph hbl qx; refine kl H rfl fun a H => ?_
                refine wl_v _ (r_assign (H.ev rfl)) ?_; refine kl H rfl fun a H => ?_
                refine wpList_nil ?_
                refine c_next ?_
                refine wp_seq ?_
                refine wp_region_lit ?_
                refine wl_v _ (r_assign evc) ?_; refine kl H rfl fun a H => ?_
                refine wpList_nil ?_
                refine c_next ?_
                refine wp_block ?_
                refine wp_loop (fun a w' => Kn a 246 [(1, .slice (some ⟨b, o, none⟩) V.length cV), (5, .bool true), (6, vx), (7, .int .i64 (k : Nat)), (9, .slice none 0 0), (32, .int .i64 0)] ∧ TRow w' vx M ∧ Below w.heap.size w w') (fun _ _ => 0) ⟨H.pick [1, 5, 6, 7, 9, 32], TOwn.row hx, hall⟩ ?_
                clear hall hx H
                rintro a w' ⟨H, hx, hall⟩
                refine wp_seq ?_
                refine wp_seq ?_
                refine wp_region_lit ?_
                refine wl_v _ (r_move (H.ev rfl)) ?_; refine kl H rfl fun a H => ?_
                refine wl_v _ (r_move (H.ev rfl)) ?_; refine kl H rfl fun a H => ?_
                refine wl_v _ (r_len Try.underlying22 (H.ev rfl)) ?_; refine kl H rfl fun a H => ?_
                refine wl_v _ (r_lt Try.underlying3 (H.ev rfl) (H.ev rfl) (dec_f (by omega))) ?_; refine kl H rfl fun a H => ?_
                refine wpList_nil ?_
                refine c_next ?_
                refine c_cond_f H rfl ?_
                refine wp_exit ?_
                refine e_then ?_
                refine e_then ?_
                refine e_here ?_
                refine n_block ?_
                refine c_next ?_
                refine wp_region_lit ?_
                refine wl_v _ (r_move (H.ev rfl)) ?_; refine kl H rfl fun a H => ?_
                refine wl_v _ (r_add (q := ((k + 1 : Nat) : Int)) Try.underlying3 (H.ev rfl) evc (by omega) (by omega)) ?_; refine kl H rfl fun a H => ?_
                refine wl_v _ (r_assign (H.ev rfl)) ?_; refine kl H rfl fun a H => ?_
                refine wpList_nil ?_
                refine n_then ⟨⟨k + 1, M, _, H.pick [1, 5, 6, 7], by omega, hx, HRM.out, hall⟩, ?_⟩
                rw [H.ev (j := 7) rfl, H0.ev (j := 7) rfl]
                simp only [intOf]
                omega
              · skip
                replace hg : Block (BelowTo hall) g 40 cur := hg
                have hph := own_holds hg rfl htk
                have hgl := hg.lt
                have hfit : M.length * 2 ≤ cur.size := by rw [hcs]; omega
                clear htk hcs hpl
                refine wp_region_lit ?_
                refine op_litv 22 0 #[] 40 #[] (by simp) (fun w => by kernel_rfl) fun w1 bx hge hb kk => ?_; have q0 := own_empty (base := bx) (size := 2) kk (Nat.le_refl _); have hbl := kk.lt; replace hph := hph.up hb; have hwb := Nat.le_trans hall.size hge; have hgx : g < bx := Nat.lt_of_lt_of_le hgl hge; replace hg := Block.ups hg hb; replace hall := hall.trans (hb.mono hall.size); clear hb; clear hge kk hgl; refine kl H rfl fun a H => ?_
                refine wl_v _ (r_move (H.ev rfl)) ?_; refine kl H rfl fun a H => ?_
                refine op_append 22 40 (.tmp 232) (.tmp 233) bx (.agg #[.int .i64 0, .int .i64 0]) 2 16 _ 0 [] (some ⟨g, 0, none⟩) M.length cp (FV encT M) (H.ev rfl) (H.ev rfl) Try.underlying22 i40 rfl (by omega) q0 (by rw [FV_len encT_len]) hph (FV_one _ _) (by unfold maxLen; omega) (by omega) (Nat.le_of_lt hbl) fun vx w2 qx _ _ hb2 => ?_; replace hg := hg.up hb2 hgx; replace hall := hall.trans (hb2.mono hwb); have hx := was_own qx; clear hb2 q0 hph hbl qx; refine kl H rfl fun a H => ?_
                refine wl_v _ (r_assign (H.ev rfl)) ?_; refine kl H rfl fun a H => ?_
                refine wpList_nil ?_
                refine c_next ?_
                refine wp_seq ?_
                refine wp_region_lit ?_
                refine wl_v _ (r_assign evc) ?_; refine kl H rfl fun a H => ?_
                refine wpList_nil ?_
                refine c_next ?_
                refine wp_block ?_
                refine wp_loop (SpI w V b o cV k vx M g cp bx) (fun a _ => M.length - (intOf (a.eval (.tmp 32))).toNat) ⟨0, cur, H.pick [1, 5, 6, 7, 9, 32], by omega, hg, hfit, hx, hall⟩ ?_
                clear hall hx H hg hfit
                rintro a w' ⟨j, cu, H, hj, hg, hfit, hx, hall⟩
                have H1 := H
                by_cases hlj : j < M.length
                · skip
                  refine wp_seq ?_
                  refine wp_seq ?_
                  refine wp_region_lit ?_
                  refine wl_v _ (r_move (H.ev rfl)) ?_; refine kl H rfl fun a H => ?_
                  refine wl_v _ (r_move (H.ev rfl)) ?_; refine kl H rfl fun a H => ?_
                  refine wl_v _ (r_len Try.underlying22 (H.ev rfl)) ?_; refine kl H rfl fun a H => ?_
                  refine wl_v _ (r_lt Try.underlying3 (H.ev rfl) (H.ev rfl) (dec_t (by omega))) ?_; refine kl H rfl fun a H => ?_
                  refine wpList_nil ?_
                  refine c_next ?_
                  refine c_cond_t H rfl ?_
                  refine wp_skip ?_
                  refine c_next ?_
                  refine wp_seq ?_
                  refine wp_block ?_
                  refine wp_region_lit ?_
                  refine wl_v _ (r_move (H.ev rfl)) ?_; refine kl H rfl fun a H => ?_
                  refine wl_v _ (r_move (H.ev rfl)) ?_; refine kl H rfl fun a H => ?_
                  refine wl_v _ (r_idx (j := j) (q := 0 + j * 2) Try.underlying22 s40 (H.ev rfl) (H.ev rfl) (by omega) rfl) ?_; refine kl H rfl fun a H => ?_
                  refine wl_v _ (r_fld (q := 0 + j * 2) fld40_0 (H.ev rfl) rfl) ?_; refine kl H rfl fun a H => ?_
                  refine op_store1 3 _ _ g (0 + j * 2) 40 (.int .i64 (-77)) cu (H.ev rfl) evc hg s3 (by show 0 + j * 2 + 1 ≤ _; omega) (ints_one [-77]) fun w2 hb2 ho hg2 => ?_; replace hx := own_block hx (fun q e => ho q (by have := (hx.lt q e).1; omega)); replace hall := hall.trans (hb2 _ hbg); clear hg hb2 ho; have hg := hg2; clear hg2; refine kl0 H fun a H => ?_
                  refine wpList_nil ?_
                  refine n_block ?_
                  refine c_next ?_
                  refine wp_region_lit ?_
                  refine wl_v _ (r_move (H.ev rfl)) ?_; refine kl H rfl fun a H => ?_
                  refine wl_v _ (r_add (q := ((j + 1 : Nat) : Int)) Try.underlying3 (H.ev rfl) evc (by omega) (by omega)) ?_; refine kl H rfl fun a H => ?_
                  refine wl_v _ (r_assign (H.ev rfl)) ?_; refine kl H rfl fun a H => ?_
                  refine wpList_nil ?_
                  refine n_then ⟨⟨j + 1, _, H.pick [1, 5, 6, 7, 9, 32], by omega, hg, by rw [setL_size]; exact hfit, hx, hall⟩, ?_⟩
                  rw [H.ev (j := 32) rfl, H1.ev (j := 32) rfl]
                  simp only [intOf]
                  omega
                · skip
                  obtain rfl : j = M.length := by omega
                  replace hx := TOwn.row hx
                  refine wp_seq ?_
                  refine wp_seq ?_
                  refine wp_region_lit ?_
                  refine wl_v _ (r_move (H.ev rfl)) ?_; refine kl H rfl fun a H => ?_
                  refine wl_v _ (r_move (H.ev rfl)) ?_; refine kl H rfl fun a H => ?_
                  refine wl_v _ (r_len Try.underlying22 (H.ev rfl)) ?_; refine kl H rfl fun a H => ?_
                  refine wl_v _ (r_lt Try.underlying3 (H.ev rfl) (H.ev rfl) (dec_f (by omega))) ?_; refine kl H rfl fun a H => ?_
                  refine wpList_nil ?_
                  refine c_next ?_
                  refine c_cond_f H rfl ?_
                  refine wp_exit ?_
                  refine e_then ?_
                  refine e_then ?_
                  refine e_here ?_
                  refine n_block ?_
                  refine c_next ?_
                  refine wp_region_lit ?_
                  refine wl_v _ (r_move (H.ev rfl)) ?_; refine kl H rfl fun a H => ?_
                  refine wl_v _ (r_add (q := ((k + 1 : Nat) : Int)) Try.underlying3 (H.ev rfl) evc (by omega) (by omega)) ?_; refine kl H rfl fun a H => ?_
                  refine wl_v _ (r_assign (H.ev rfl)) ?_; refine kl H rfl fun a H => ?_
                  refine wpList_nil ?_
                  refine n_then ⟨⟨k + 1, M, _, H.pick [1, 5, 6, 7], by omega, hx, HRM.out, hall⟩, ?_⟩
                  rw [H.ev (j := 7) rfl, H0.ev (j := 7) rfl]
                  simp only [intOf]
                  omega
            · skip
              refine wp_region_lit ?_
              refine wl_v _ (r_eq Try.underlying3 (H.ev rfl) evc (dec_f (by omega))) ?_; refine kl H rfl fun a H => ?_
              refine wl_v _ (r_assign (H.ev rfl)) ?_; refine kl H rfl fun a H => ?_
              refine wpList_nil ?_
              refine c_next ?_
              refine c_cond_f H rfl ?_
              refine wp_seq ?_
              refine wp_region_lit ?_
              refine wl_v _ (r_eq Try.underlying3 (H.ev rfl) evc (dec_f (by omega))) ?_; refine kl H rfl fun a H => ?_
              refine wl_v _ (r_assign (H.ev rfl)) ?_; refine kl H rfl fun a H => ?_
              refine wpList_nil ?_
              refine c_next ?_
              refine c_cond_f H rfl ?_
              refine wp_seq ?_
              obtain ⟨r1, r2⟩ := rd_eq HRL.out.1 at'
              have HE1 := Lib.hid r1
              have HE2 := Lib.hid r2
              clear r1 r2
              have hdl := due_len L at'
              have hdl2 : (dueIds L at').length ≤ 64 := by omega
              clear hdl
              refine wp_region_lit ?_
              refine wl_v _ (r_move (H.ev rfl)) ?_; refine kl H rfl fun a H => ?_
              refine wl_v _ (r_move (H.ev rfl)) ?_; refine kl H rfl fun a H => ?_
              refine wl_v _ (r_move (H.ev rfl)) ?_; refine kl H rfl fun a H => ?_
              refine wl_v _ (r_idx (j := k) (q := o + k * 3) Try.underlying23 s27 (H.ev rfl) (H.ev rfl) (by omega) rfl) ?_; refine kl H rfl fun a H => ?_
              refine wl_v _ (r_fld (q := o + k * 3 + 2) fld27_2 (H.ev rfl) rfl) ?_; refine kl H rfl fun a H => ?_
              refine wl_v _ (r_ld Try.underlying3 rfl (H.ev rfl) (range_cell (range_ups HRG.out hall) 2 rfl)) ?_; refine kl H rfl fun a H => ?_
              refine wl_call _ _ _ (due_any _ _ L at' h (by omega)) (r_call2 cf14 (H.ev rfl) (H.ev rfl)) ?_; rintro e w9 ⟨⟨vp, vm, rfl, hp, hm⟩, hb⟩; refine ⟨_, rfl, ?_⟩; replace hp := own_base hp hall.size; replace hm := IOwn.row hm; replace h := Row.up h hb; replace h8 := Row.up h8 hb; replace hall := hall.trans (hb.mono hall.size); clear hb; refine kl H rfl fun a H => ?_
              refine wl_v _ (r_move (H.ev rfl)) ?_; refine kl H rfl fun a H => ?_
              refine wl_v _ (r_extract (H.ev rfl) rfl) ?_; refine kl H rfl fun a H => ?_
              refine wl_v _ (r_extract (H.ev rfl) rfl) ?_; refine kl H rfl fun a H => ?_
              refine wl_v _ (r_assign (H.ev rfl)) ?_; refine kl H rfl fun a H => ?_
              refine wl_v _ (r_assign (H.ev rfl)) ?_; refine kl H rfl fun a H => ?_
              refine wpList_nil ?_
              refine c_next ?_
              refine wp_seq ?_
              refine wp_region_lit ?_
              refine wl_v _ (r_move (H.ev rfl)) ?_; refine kl H rfl fun a H => ?_
              refine wl_v _ (r_move (H.ev rfl)) ?_; refine kl H rfl fun a H => ?_
              refine wl_v _ (r_move (H.ev rfl)) ?_; refine kl H rfl fun a H => ?_
              refine wl_v _ (r_idx (j := k) (q := o + k * 3) Try.underlying23 s27 (H.ev rfl) (H.ev rfl) (by omega) rfl) ?_; refine kl H rfl fun a H => ?_
              refine wl_v _ (r_fld (q := o + k * 3 + 2) fld27_2 (H.ev rfl) rfl) ?_; refine kl H rfl fun a H => ?_
              refine wl_v _ (r_ld Try.underlying3 rfl (H.ev rfl) (range_cell (range_ups HRG.out hall) 2 rfl)) ?_; refine kl H rfl fun a H => ?_
              refine wl_call _ _ _ (rdue_any _ _ L at' h (by omega)) (r_call2 cf15 (H.ev rfl) (H.ev rfl)) ?_; rintro e w9 ⟨⟨vq, vn, rfl, hq, hn⟩, hb⟩; refine ⟨_, rfl, ?_⟩; rw [HE1.out] at hq; rw [HE2.out] at hn; replace hq := TOwn.row hq; replace hn := IOwn.row hn; replace h := Row.up h hb; replace h8 := Row.up h8 hb; replace hp := own_ups hp hb; replace hm := Row.up hm hb; replace hall := hall.trans (hb.mono hall.size); clear hb; refine kl H rfl fun a H => ?_
              refine wl_v _ (r_move (H.ev rfl)) ?_; refine kl H rfl fun a H => ?_
              refine wl_v _ (r_extract (H.ev rfl) rfl) ?_; refine kl H rfl fun a H => ?_
              refine wl_v _ (r_extract (H.ev rfl) rfl) ?_; refine kl H rfl fun a H => ?_
              refine wl_v _ (r_assign (H.ev rfl)) ?_; refine kl H rfl fun a H => ?_
              refine wl_v _ (r_assign (H.ev rfl)) ?_; refine kl H rfl fun a H => ?_
              refine wpList_nil ?_
              refine c_next ?_
              refine wp_seq ?_
              refine wp_region_lit ?_
              refine wl_v _ (r_move (H.ev rfl)) ?_; refine kl H rfl fun a H => ?_
              refine wl_v _ (r_assign (H.ev rfl)) ?_; refine kl H rfl fun a H => ?_
              refine wpList_nil ?_
              refine c_next ?_
              refine wp_seq ?_
              refine wp_region_lit ?_
              refine wl_v _ (r_move (H.ev rfl)) ?_; refine kl H rfl fun a H => ?_
              refine wl_v _ (r_assign (H.ev rfl)) ?_; refine kl H rfl fun a H => ?_
              refine wpList_nil ?_
              refine c_next ?_
              refine wp_region_lit ?_
              refine wl_v _ (r_move (H.ev rfl)) ?_; refine kl H rfl fun a H => ?_
              refine wl_v _ (r_move (H.ev rfl)) ?_; refine kl H rfl fun a H => ?_
              refine wl_call _ _ _ (same16_any _ _ _ (dueIds L at') (dueIds L at') hm hn (by omega) (by omega)) (r_call2 cf16 (H.ev rfl) (H.ev rfl)) ?_; rintro e w9 ⟨rfl, hb⟩; refine ⟨_, rfl, ?_⟩; rw [decide_eq_true (rfl : dueIds L at' = dueIds L at')]; replace h := Row.up h hb; replace h8 := Row.up h8 hb; replace hp := own_ups hp hb; replace hm := Row.up hm hb; replace hq := Row.up hq hb; replace hn := Row.up hn hb; replace hall := hall.trans (hb.mono hall.size); clear hb; refine kl H rfl fun a H => ?_
              refine wl_v _ (r_assign (H.ev rfl)) ?_; refine kl H rfl fun a H => ?_
              refine wpList_nil ?_
              refine n_block ?_
              refine c_next ?_
              refine wp_seq ?_
              replace H : Kn _ 246 [(1, _), (5, _), (6, _), (7, _), (8, _), (9, _), (10, _), (11, _)] := H.pick [1, 5, 6, 7, 8, 9, 10, 11]
              obtain ⟨M, hM⟩ : ∃ M, (dueRest L at') = M := ⟨_, rfl⟩
              rw [hM] at hp hq
              have hRM : RightL M := hM ▸ (HRL.out.rest at')
              have hlM := hRM.2.2
              have HRM := Lib.hid hRM
              clear hM hRM
              refine wp_region_lit ?_
              refine wl_v _ (r_move (H.ev rfl)) ?_; refine kl H rfl fun a H => ?_
              refine wl_v _ (r_move (H.ev rfl)) ?_; refine kl H rfl fun a H => ?_
              refine wl_v _ (r_move (H.ev rfl)) ?_; refine kl H rfl fun a H => ?_
              refine wl_v _ (r_idx (j := k) (q := o + k * 3) Try.underlying23 s27 (H.ev rfl) (H.ev rfl) (by omega) rfl) ?_; refine kl H rfl fun a H => ?_
              refine wl_v _ (r_fld (q := o + k * 3 + 1) fld27_1 (H.ev rfl) rfl) ?_; refine kl H rfl fun a H => ?_
              refine wl_v _ (r_ld Try.underlying3 rfl (H.ev rfl) (range_cell (range_ups HRG.out hall) 1 rfl)) ?_; refine kl H rfl fun a H => ?_
              refine wl_call _ _ _ (at_any _ _ M id (TOwn.row hp) (by omega)) (r_call2 cf17 (H.ev rfl) (H.ev rfl)) ?_; rintro e w9 ⟨rfl, hb⟩; refine ⟨_, rfl, ?_⟩; replace h := Row.up h hb; replace h8 := Row.up h8 hb; replace hp := own_ups hp hb; replace hq := Row.up hq hb; replace hall := hall.trans (hb.mono hall.size); clear hb; refine kl H rfl fun a H => ?_
              refine wl_v _ (r_move (H.ev rfl)) ?_; refine kl H rfl fun a H => ?_
              refine wl_v _ (r_extract (H.ev rfl) rfl) ?_; refine kl H rfl fun a H => ?_
              refine wl_v _ (r_extract (H.ev rfl) rfl) ?_; refine kl H rfl fun a H => ?_
              refine wl_v _ (r_assign (H.ev rfl)) ?_; refine kl H rfl fun a H => ?_
              refine wl_v _ (r_assign (H.ev rfl)) ?_; refine kl H rfl fun a H => ?_
              refine wpList_nil ?_
              refine c_next ?_
              refine wp_seq ?_
              refine wp_region_lit ?_
              refine wl_v _ (r_move (H.ev rfl)) ?_; refine kl H rfl fun a H => ?_
              refine wl_v _ (r_move (H.ev rfl)) ?_; refine kl H rfl fun a H => ?_
              refine wl_v _ (r_move (H.ev rfl)) ?_; refine kl H rfl fun a H => ?_
              refine wl_v _ (r_idx (j := k) (q := o + k * 3) Try.underlying23 s27 (H.ev rfl) (H.ev rfl) (by omega) rfl) ?_; refine kl H rfl fun a H => ?_
              refine wl_v _ (r_fld (q := o + k * 3 + 1) fld27_1 (H.ev rfl) rfl) ?_; refine kl H rfl fun a H => ?_
              refine wl_v _ (r_ld Try.underlying3 rfl (H.ev rfl) (range_cell (range_ups HRG.out hall) 1 rfl)) ?_; refine kl H rfl fun a H => ?_
              refine wl_call _ _ _ (rat_any _ _ M id hq (by omega)) (r_call2 cf18 (H.ev rfl) (H.ev rfl)) ?_; rintro e w9 ⟨rfl, hw⟩; refine ⟨_, rfl, ?_⟩; subst hw; refine kl H rfl fun a H => ?_
              refine wl_v _ (r_move (H.ev rfl)) ?_; refine kl H rfl fun a H => ?_
              refine wl_v _ (r_extract (H.ev rfl) rfl) ?_; refine kl H rfl fun a H => ?_
              refine wl_v _ (r_extract (H.ev rfl) rfl) ?_; refine kl H rfl fun a H => ?_
              refine wl_v _ (r_assign (H.ev rfl)) ?_; refine kl H rfl fun a H => ?_
              refine wl_v _ (r_assign (H.ev rfl)) ?_; refine kl H rfl fun a H => ?_
              refine wpList_nil ?_
              refine c_next ?_
              refine wp_seq ?_
              refine wp_region_lit ?_
              refine wl_v _ (r_move (H.ev rfl)) ?_; refine kl H rfl fun a H => ?_
              refine wl_call _ _ _ (next19_any _ _ M (TOwn.row hp) (by omega)) (r_call1 cf19 (H.ev rfl)) ?_; rintro e w9 ⟨rfl, rfl⟩; refine ⟨_, rfl, ?_⟩; skip; refine kl H rfl fun a H => ?_
              refine wl_v _ (r_move (H.ev rfl)) ?_; refine kl H rfl fun a H => ?_
              refine wl_v _ (r_extract (H.ev rfl) rfl) ?_; refine kl H rfl fun a H => ?_
              refine wl_v _ (r_extract (H.ev rfl) rfl) ?_; refine kl H rfl fun a H => ?_
              refine wl_v _ (r_assign (H.ev rfl)) ?_; refine kl H rfl fun a H => ?_
              refine wl_v _ (r_assign (H.ev rfl)) ?_; refine kl H rfl fun a H => ?_
              refine wpList_nil ?_
              refine c_next ?_
              refine wp_seq ?_
              refine wp_region_lit ?_
              refine wl_v _ (r_move (H.ev rfl)) ?_; refine kl H rfl fun a H => ?_
              refine wl_call _ _ _ (next20_any _ _ M hq (by omega)) (r_call1 cf20 (H.ev rfl)) ?_; rintro e w9 ⟨rfl, rfl⟩; refine ⟨_, rfl, ?_⟩; skip; refine kl H rfl fun a H => ?_
              refine wl_v _ (r_move (H.ev rfl)) ?_; refine kl H rfl fun a H => ?_
              refine wl_v _ (r_extract (H.ev rfl) rfl) ?_; refine kl H rfl fun a H => ?_
              refine wl_v _ (r_extract (H.ev rfl) rfl) ?_; refine kl H rfl fun a H => ?_
              refine wl_v _ (r_assign (H.ev rfl)) ?_; refine kl H rfl fun a H => ?_
              refine wl_v _ (r_assign (H.ev rfl)) ?_; refine kl H rfl fun a H => ?_
              refine wpList_nil ?_
              refine c_next ?_
              refine wp_seq ?_
              refine wp_seq ?_
              refine wp_region_lit ?_
              refine wl_v _ (r_move (H.ev rfl)) ?_; refine kl H rfl fun a H => ?_
              refine wl_v _ (r_not (H.ev rfl) rfl) ?_; refine kl H rfl fun a H => ?_
              refine wl_v _ (r_move (H.ev rfl)) ?_; refine kl H rfl fun a H => ?_
              refine op_unguard _ _ (kg_yes rfl H rfl rfl rfl) ?_; refine wl_v _ (r_move (H.ev rfl)) ?_; refine kl H rfl fun a H => ?_
              refine op_unguard _ _ (kg_yes rfl H rfl rfl rfl) ?_; refine wl_v _ (r_move (H.ev rfl)) ?_; refine kl H rfl fun a H => ?_
              refine op_unguard _ _ (kg_yes rfl H rfl rfl rfl) ?_; refine wl_call _ _ _ (same21_any _ _ _ M M (TOwn.row hp) hq (by omega) (by omega)) (r_call2 cf21 (H.ev rfl) (H.ev rfl)) ?_; rintro e w9 ⟨rfl, hb⟩; refine ⟨_, rfl, ?_⟩; rw [decide_eq_true (rfl : M = M)]; replace h := Row.up h hb; replace h8 := Row.up h8 hb; replace hp := own_ups hp hb; replace hq := Row.up hq hb; replace hall := hall.trans (hb.mono hall.size); clear hb; refine kl H rfl fun a H => ?_
              refine op_unguard _ _ (kg_yes rfl H rfl rfl rfl) ?_; refine wl_v _ (r_not (H.ev rfl) rfl) ?_; refine kl H rfl fun a H => ?_
              refine wl_v _ (r_pick_f (H.ev rfl) (H.ev rfl)) ?_; refine kl H rfl fun a H => ?_
              refine wl_v _ (r_move (H.ev rfl)) ?_; refine kl H rfl fun a H => ?_
              refine op_unguard _ _ (kg_yes rfl H rfl rfl rfl) ?_; refine wl_v _ (r_move (H.ev rfl)) ?_; refine kl H rfl fun a H => ?_
              refine op_unguard _ _ (kg_yes rfl H rfl rfl rfl) ?_; refine wl_v _ (r_move (H.ev rfl)) ?_; refine kl H rfl fun a H => ?_
              refine op_unguard _ _ (kg_yes rfl H rfl rfl rfl) ?_; refine wl_v _ (r_ne Try.underlying3 (H.ev rfl) (H.ev rfl) (dec_f (by omega))) ?_; refine kl H rfl fun a H => ?_
              refine wl_v _ (r_pick_f (H.ev rfl) (H.ev rfl)) ?_; refine kl H rfl fun a H => ?_
              refine wl_v _ (r_move (H.ev rfl)) ?_; refine kl H rfl fun a H => ?_
              refine op_unguard _ _ (kg_yes rfl H rfl rfl rfl) ?_; refine wl_v _ (r_move (H.ev rfl)) ?_; refine kl H rfl fun a H => ?_
              refine op_unguard _ _ (kg_yes rfl H rfl rfl rfl) ?_; refine wl_v _ (r_move (H.ev rfl)) ?_; refine kl H rfl fun a H => ?_
              refine op_unguard _ _ (kg_yes rfl H rfl rfl rfl) ?_; refine wl_v (.bool false) (r_bne Try.underlying4 (H.ev rfl) (H.ev rfl) (by simp)) ?_; refine kl H rfl fun a H => ?_
              refine wl_v _ (r_pick_f (H.ev rfl) (H.ev rfl)) ?_; refine kl H rfl fun a H => ?_
              refine wl_v _ (r_move (H.ev rfl)) ?_; refine kl H rfl fun a H => ?_
              refine op_unguard _ _ (kg_yes rfl H rfl rfl rfl) ?_; refine wl_v _ (r_move (H.ev rfl)) ?_; refine kl H rfl fun a H => ?_
              refine op_unguard _ _ (kg_yes rfl H rfl rfl rfl) ?_; refine wl_v _ (r_move (H.ev rfl)) ?_; refine kl H rfl fun a H => ?_
              refine op_unguard _ _ (kg_yes rfl H rfl rfl rfl) ?_; refine wl_v _ (r_ne Try.underlying3 (H.ev rfl) (H.ev rfl) (dec_f (by omega))) ?_; refine kl H rfl fun a H => ?_
              refine wl_v _ (r_pick_f (H.ev rfl) (H.ev rfl)) ?_; refine kl H rfl fun a H => ?_
              refine wl_v _ (r_move (H.ev rfl)) ?_; refine kl H rfl fun a H => ?_
              refine op_unguard _ _ (kg_yes rfl H rfl rfl rfl) ?_; refine wl_v _ (r_move (H.ev rfl)) ?_; refine kl H rfl fun a H => ?_
              refine op_unguard _ _ (kg_yes rfl H rfl rfl rfl) ?_; refine wl_v _ (r_move (H.ev rfl)) ?_; refine kl H rfl fun a H => ?_
              refine op_unguard _ _ (kg_yes rfl H rfl rfl rfl) ?_; refine wl_v (.bool false) (r_bne Try.underlying4 (H.ev rfl) (H.ev rfl) (by simp)) ?_; refine kl H rfl fun a H => ?_
              refine wl_v _ (r_pick_f (H.ev rfl) (H.ev rfl)) ?_; refine kl H rfl fun a H => ?_
              refine wl_v _ (r_move (H.ev rfl)) ?_; refine kl H rfl fun a H => ?_
              refine op_unguard _ _ (kg_yes rfl H rfl rfl rfl) ?_; refine wl_v _ (r_move (H.ev rfl)) ?_; refine kl H rfl fun a H => ?_
              refine op_unguard _ _ (kg_yes rfl H rfl rfl rfl) ?_; refine wl_v _ (r_move (H.ev rfl)) ?_; refine kl H rfl fun a H => ?_
              refine op_unguard _ _ (kg_yes rfl H rfl rfl rfl) ?_; refine wl_call _ _ _ (same21_any _ _ _ L L h8 h (by omega) (by omega)) (r_call2 cf21 (H.ev rfl) (H.ev rfl)) ?_; rintro e w9 ⟨rfl, hb⟩; refine ⟨_, rfl, ?_⟩; rw [decide_eq_true (rfl : L = L)]; replace h := Row.up h hb; replace h8 := Row.up h8 hb; replace hp := own_ups hp hb; replace hq := Row.up hq hb; replace hall := hall.trans (hb.mono hall.size); clear hb; refine kl H rfl fun a H => ?_
              refine op_unguard _ _ (kg_yes rfl H rfl rfl rfl) ?_; refine wl_v _ (r_not (H.ev rfl) rfl) ?_; refine kl H rfl fun a H => ?_
              refine wl_v _ (r_pick_f (H.ev rfl) (H.ev rfl)) ?_; refine kl H rfl fun a H => ?_
              refine wpList_nil ?_
              refine c_next ?_
              refine c_cond_f H rfl ?_
              refine wp_skip ?_
              refine c_next ?_
              refine wp_seq ?_
              replace H : Kn _ 246 [(1, _), (5, _), (7, _), (9, _)] := H.pick [1, 5, 7, 9]
              clear h h8 hq
              obtain ⟨hpl, ⟨rfl, hp0⟩ | ⟨g, cp, cur, rfl, hbg, hg, hnc, hcm, hcs, htk⟩⟩ := hp
              · skip
                have hM0 : M = [] := List.eq_nil_of_length_eq_zero hp0
                have hgl : True := trivial
                have hph : Holds (BelowTo hall) none (FV encT M) := by rw [hM0]; intro j hj; simp [FV, IV] at hj
                clear hM0
                refine wp_region_lit ?_
                refine op_litv 22 0 #[] 40 #[] (by simp) (fun w => by kernel_rfl) fun w1 bx hge hb kk => ?_; have q0 := own_empty (base := bx) (size := 2) kk (Nat.le_refl _); have hbl := kk.lt; replace hph := hph.up hb; have hwb := Nat.le_trans hall.size hge; replace hall := hall.trans (hb.mono hall.size); clear hb; clear hge kk hgl; refine kl H rfl fun a H => ?_
                refine wl_v _ (r_move (H.ev rfl)) ?_; refine kl H rfl fun a H => ?_
                refine op_append 22 40 (.tmp 232) (.tmp 233) bx (.agg #[.int .i64 0, .int .i64 0]) 2 16 _ 0 [] none 0 0 (FV encT M) (H.ev rfl) (H.ev rfl) Try.underlying22 i40 rfl (by omega) q0 (by rw [FV_len encT_len, hp0]) hph (FV_one _ _) (by unfold maxLen; omega) (by omega) (Nat.le_of_lt hbl) fun vx w2 qx _ _ hb2 => ?_; replace hall := hall.trans (hb2.mono hwb); have hx := was_own0 hp0 qx; clear hb2 q0 hph hbl qx; refine kl H rfl fun a H => ?_
                refine wl_v _ (r_assign (H.ev rfl)) ?_; refine kl H rfl fun a H => ?_
                refine wpList_nil ?_
                refine c_next ?_
                refine wp_seq ?_
                refine wp_region_lit ?_
                refine wl_v _ (r_assign evc) ?_; refine kl H rfl fun a H => ?_
                refine wpList_nil ?_
                refine c_next ?_
                refine wp_block ?_
                refine wp_loop (fun a w' => Kn a 246 [(1, .slice (some ⟨b, o, none⟩) V.length cV), (5, .bool true), (6, vx), (7, .int .i64 (k : Nat)), (9, .slice none 0 0), (32, .int .i64 0)] ∧ TRow w' vx M ∧ Below w.heap.size w w') (fun _ _ => 0) ⟨H.pick [1, 5, 6, 7, 9, 32], TOwn.row hx, hall⟩ ?_
                clear hall hx H
                rintro a w' ⟨H, hx, hall⟩
                refine wp_seq ?_
                refine wp_seq ?_
                refine wp_region_lit ?_
                refine wl_v _ (r_move (H.ev rfl)) ?_; refine kl H rfl fun a H => ?_
                refine wl_v _ (r_move (H.ev rfl)) ?_; refine kl H rfl fun a H => ?_
                refine wl_v _ (r_len Try.underlying22 (H.ev rfl)) ?_; refine kl H rfl fun a H => ?_
                refine wl_v _ (r_lt Try.underlying3 (H.ev rfl) (H.ev rfl) (dec_f (by omega))) ?_; refine kl H rfl fun a H => ?_
                refine wpList_nil ?_
                refine c_next ?_
                refine c_cond_f H rfl ?_
                refine wp_exit ?_
                refine e_then ?_
                refine e_then ?_
                refine e_here ?_
                refine n_block ?_
                refine c_next ?_
                refine wp_region_lit ?_
                refine wl_v _ (r_move (H.ev rfl)) ?_; refine kl H rfl fun a H => ?_
                refine wl_v _ (r_add (q := ((k + 1 : Nat) : Int)) Try.underlying3 (H.ev rfl) evc (by omega) (by omega)) ?_; refine kl H rfl fun a H => ?_
                refine wl_v _ (r_assign (H.ev rfl)) ?_; refine kl H rfl fun a H => ?_
                refine wpList_nil ?_
                refine n_then ⟨⟨k + 1, M, _, H.pick [1, 5, 6, 7], by omega, hx, HRM.out, hall⟩, ?_⟩
                rw [H.ev (j := 7) rfl, H0.ev (j := 7) rfl]
                simp only [intOf]
                omega
              · skip
                replace hg : Block (BelowTo hall) g 40 cur := hg
                have hph := own_holds hg rfl htk
                have hgl := hg.lt
                have hfit : M.length * 2 ≤ cur.size := by rw [hcs]; omega
                clear htk hcs hpl
                refine wp_region_lit ?_
                refine op_litv 22 0 #[] 40 #[] (by simp) (fun w => by kernel_rfl) fun w1 bx hge hb kk => ?_; have q0 := own_empty (base := bx) (size := 2) kk (Nat.le_refl _); have hbl := kk.lt; replace hph := hph.up hb; have hwb := Nat.le_trans hall.size hge; have hgx : g < bx := Nat.lt_of_lt_of_le hgl hge; replace hg := Block.ups hg hb; replace hall := hall.trans (hb.mono hall.size); clear hb; clear hge kk hgl; refine kl H rfl fun a H => ?_
                refine wl_v _ (r_move (H.ev rfl)) ?_; refine kl H rfl fun a H => ?_
                refine op_append 22 40 (.tmp 232) (.tmp 233) bx (.agg #[.int .i64 0, .int .i64 0]) 2 16 _ 0 [] (some ⟨g, 0, none⟩) M.length cp (FV encT M) (H.ev rfl) (H.ev rfl) Try.underlying22 i40 rfl (by omega) q0 (by rw [FV_len encT_len]) hph (FV_one _ _) (by unfold maxLen; omega) (by omega) (Nat.le_of_lt hbl) fun vx w2 qx _ _ hb2 => ?_; replace hg := hg.up hb2 hgx; replace hall := hall.trans (hb2.mono hwb); have hx := was_own qx; clear hb2 q0 hph hbl qx; refine kl H rfl fun a H => ?_
                refine wl_v _ (r_assign (H.ev rfl)) ?_; refine kl H rfl fun a H => ?_
                refine wpList_nil ?_
                refine c_next ?_
                refine wp_seq ?_
                refine wp_region_lit ?_
                refine wl_v _ (r_assign evc) ?_; refine kl H rfl fun a H => ?_
                refine wpList_nil ?_
                refine c_next ?_
                refine wp_block ?_
                refine wp_loop (SpI w V b o cV k vx M g cp bx) (fun a _ => M.length - (intOf (a.eval (.tmp 32))).toNat) ⟨0, cur, H.pick [1, 5, 6, 7, 9, 32], by omega, hg, hfit, hx, hall⟩ ?_
                clear hall hx H hg hfit
                rintro a w' ⟨j, cu, H, hj, hg, hfit, hx, hall⟩
                have H1 := H
                by_cases hlj : j < M.length
                · skip
                  refine wp_seq ?_
                  refine wp_seq ?_
                  refine wp_region_lit ?_
                  refine wl_v _ (r_move (H.ev rfl)) ?_; refine kl H rfl fun a H => ?_
                  refine wl_v _ (r_move (H.ev rfl)) ?_; refine kl H rfl fun a H => ?_
                  refine wl_v _ (r_len Try.underlying22 (H.ev rfl)) ?_; refine kl H rfl fun a H => ?_
                  refine wl_v _ (r_lt Try.underlying3 (H.ev rfl) (H.ev rfl) (dec_t (by omega))) ?_; refine kl H rfl fun a H => ?_
                  refine wpList_nil ?_
                  refine c_next ?_
                  refine c_cond_t H rfl ?_
                  refine wp_skip ?_
                  refine c_next ?_
                  refine wp_seq ?_
                  refine wp_block ?_
                  refine wp_region_lit ?_
                  refine wl_v _ (r_move (H.ev rfl)) ?_; refine kl H rfl fun a H => ?_
                  refine wl_v _ (r_move (H.ev rfl)) ?_; refine kl H rfl fun a H => ?_
                  refine wl_v _ (r_idx (j := j) (q := 0 + j * 2) Try.underlying22 s40 (H.ev rfl) (H.ev rfl) (by omega) rfl) ?_; refine kl H rfl fun a H => ?_
                  refine wl_v _ (r_fld (q := 0 + j * 2) fld40_0 (H.ev rfl) rfl) ?_; refine kl H rfl fun a H => ?_
                  refine op_store1 3 _ _ g (0 + j * 2) 40 (.int .i64 (-77)) cu (H.ev rfl) evc hg s3 (by show 0 + j * 2 + 1 ≤ _; omega) (ints_one [-77]) fun w2 hb2 ho hg2 => ?_; replace hx := own_block hx (fun q e => ho q (by have := (hx.lt q e).1; omega)); replace hall := hall.trans (hb2 _ hbg); clear hg hb2 ho; have hg := hg2; clear hg2; refine kl0 H fun a H => ?_
                  refine wpList_nil ?_
                  refine n_block ?_
                  refine c_next ?_
                  refine wp_region_lit ?_
                  refine wl_v _ (r_move (H.ev rfl)) ?_; refine kl H rfl fun a H => ?_
                  refine wl_v _ (r_add (q := ((j + 1 : Nat) : Int)) Try.underlying3 (H.ev rfl) evc (by omega) (by omega)) ?_; refine kl H rfl fun a H => ?_
                  refine wl_v _ (r_assign (H.ev rfl)) ?_; refine kl H rfl fun a H => ?_
                  refine wpList_nil ?_
                  refine n_then ⟨⟨j + 1, _, H.pick [1, 5, 6, 7, 9, 32], by omega, hg, by rw [setL_size]; exact hfit, hx, hall⟩, ?_⟩
                  rw [H.ev (j := 32) rfl, H1.ev (j := 32) rfl]
                  simp only [intOf]
                  omega
                · skip
                  obtain rfl : j = M.length := by omega
                  replace hx := TOwn.row hx
                  refine wp_seq ?_
                  refine wp_seq ?_
                  refine wp_region_lit ?_
                  refine wl_v _ (r_move (H.ev rfl)) ?_; refine kl H rfl fun a H => ?_
                  refine wl_v _ (r_move (H.ev rfl)) ?_; refine kl H rfl fun a H => ?_
                  refine wl_v _ (r_len Try.underlying22 (H.ev rfl)) ?_; refine kl H rfl fun a H => ?_
                  refine wl_v _ (r_lt Try.underlying3 (H.ev rfl) (H.ev rfl) (dec_f (by omega))) ?_; refine kl H rfl fun a H => ?_
                  refine wpList_nil ?_
                  refine c_next ?_
                  refine c_cond_f H rfl ?_
                  refine wp_exit ?_
                  refine e_then ?_
                  refine e_then ?_
                  refine e_here ?_
                  refine n_block ?_
                  refine c_next ?_
                  refine wp_region_lit ?_
                  refine wl_v _ (r_move (H.ev rfl)) ?_; refine kl H rfl fun a H => ?_
                  refine wl_v _ (r_add (q := ((k + 1 : Nat) : Int)) Try.underlying3 (H.ev rfl) evc (by omega) (by omega)) ?_; refine kl H rfl fun a H => ?_
                  refine wl_v _ (r_assign (H.ev rfl)) ?_; refine kl H rfl fun a H => ?_
                  refine wpList_nil ?_
                  refine n_then ⟨⟨k + 1, M, _, H.pick [1, 5, 6, 7], by omega, hx, HRM.out, hall⟩, ?_⟩
                  rw [H.ev (j := 7) rfl, H0.ev (j := 7) rfl]
                  simp only [intOf]
                  omega
        · skip
          obtain rfl : k = V.length := by omega
          clear hR h
          refine wp_seq ?_
          refine wp_seq ?_
          refine wp_region_lit ?_
          refine wl_v _ (r_move (H.ev rfl)) ?_; refine kl H rfl fun a H => ?_
          refine wl_v _ (r_move (H.ev rfl)) ?_; refine kl H rfl fun a H => ?_
          refine wl_v _ (r_len Try.underlying23 (H.ev rfl)) ?_; refine kl H rfl fun a H => ?_
          refine wl_v _ (r_lt Try.underlying3 (H.ev rfl) (H.ev rfl) (dec_f (by omega))) ?_; refine kl H rfl fun a H => ?_
          refine wpList_nil ?_
          refine c_next ?_
          refine c_cond_f H rfl ?_
          refine wp_exit ?_
          refine e_then ?_
          refine e_then ?_
          refine e_here ?_
          refine c_next ?_
          refine wp_seq ?_
          refine wp_region_lit ?_
          refine wl_v _ (r_move (H.ev rfl)) ?_; refine kl H rfl fun a H => ?_
          refine wl_v _ (r_assign (H.ev rfl)) ?_; refine kl H rfl fun a H => ?_
          refine wpList_nil ?_
          refine c_next ?_
          refine wp_ret ?_
          exact k_ret1 H rfl rfl ⟨rfl, hall⟩
theorem tells_all (w : World) (A : Option Addr) (n c : Nat) (B : List Int) (AV : Option Addr) (nV cV : Nat) (BV : List Int) (hB : B.length = n * 2) (hw : WF B) (hnc : n ≤ c) (hc : c ≤ maxLen) (hh : Holds w A (B.map (Value.int .i64))) (hz : A = none → c = 0) (hn : n ≤ 9223372036854775807)
    (hBV : BV.length = nV * 3) (hwV : WF BV) (hhV : Holds w AV (BV.map (Value.int .i64))) (hnV : nV ≤ 9223372036854775807) :
    Calls Try.prog 3 #[.slice A n c, .slice AV nV cV] w fun e w' => e = .returned (.bool true) ∧ Below w.heap.size w w' := by
  obtain ⟨L, h, rfl, hwf⟩ := row_in hB hw hnc hc hh hz
  obtain ⟨V, rfl, hVw, hV⟩ := acts_in hBV hwV hhV
  exact tells_walk w _ L AV cV V h hn (fun x hx => (hwf x hx).1) hnV hV
end Go.Proofs.Ytndpbciefijjcaa
