/- Roster: RosterTells, proved: what becomes of a row, act by act, and who watches whom. -/
import Derived.Test.YtfehhenbdiageaaUk
namespace Go.Proofs.Ytfehhenbdiageaa
open Go.ChangeShapes Go.WideShapes Go.ChangeAt Go.RowKit Go.Maps
set_option linter.unusedVariables false
set_option linter.unusedSimpArgs false

theorem row_holds {α : Type} {enc : α → List Int} {w : World} {A : Option Addr} {n c : Nat} {L : List α} (h : Row enc w (.slice A n c) L) : Holds w A (FV enc L) := by
  obtain ⟨A', c', e, _, _, _, h⟩ := h
  injection e with e1 e2 e3
  subst e1
  exact h
theorem apart_new {w w2 : World} {b : Nat} {v x : Value} {L M : List Tm} (h : TOwn w b v L) (hx : TOwn w2 w.heap.size x M) : x.ownBlock = none ∨ x.ownBlock ≠ v.ownBlock := by
  cases e : x.ownBlock with
  | none => exact .inl rfl
  | some q =>
    right
    intro e2
    have h1 := (World.ownsRow.lt hx q e).1
    have h2 := (World.ownsRow.lt h q e2.symm).2
    omega
def STl (W : World) (bx : Nat) (op who peer : Int) (w : World) : Prop := Below W.heap.size W w ∧ Block w bx 27 #[.int .i64 op, .int .i64 who, .int .i64 peer]
theorem STl.up {W w w' : World} {bx : Nat} {op who peer : Int} (h : STl W bx op who peer w) (hb : Below w.heap.size w w') : STl W bx op who peer w' := ⟨h.1.trans (hb.mono h.1.size), h.2.ups hb⟩
def TlO (W : World) (AV : Option Addr) (cV : Nat) (V : List Tm) (a : Act) (w : World) : Prop :=
  ∃ (k : Nat) (L : List Tm) (v : Value), Kn a 150 [(1, .slice AV V.length cV), (5, .bool true), (6, v), (7, .int .i64 (k : Nat))] ∧ k ≤ V.length ∧ TRow w v L ∧ RightL L ∧ Below W.heap.size W w
def TlP (W : World) (b o cV : Nat) (V : List Tm) (k : Nat) (vx : Value) (M : List Tm) (A10 : Option Addr) (c10 : Nat) (a : Act) (w : World) : Prop :=
  ∃ (i : Nat) (M' : List Tm), Kn a 150 [(1, .slice (some ⟨b, o, none⟩) V.length cV), (5, .bool true), (6, vx), (7, .int .i64 (k : Nat)), (10, .slice A10 M.length c10), (14, .int .i64 (i : Nat))] ∧ i ≤ M.length ∧
    TOwn w W.heap.size (.slice A10 M.length c10) M' ∧ M'.length = M.length ∧ TOwn w W.heap.size vx M ∧ (vx.ownBlock = none ∨ vx.ownBlock ≠ (Value.slice A10 M.length c10).ownBlock) ∧ Below W.heap.size W w
set_option maxHeartbeats 8000000 in
theorem tells_walk (w : World) (v : Value) (L : List Tm) (AV : Option Addr) (cV : Nat) (V : List Tm) (h0 : TRow w v L) (hn : L.length ≤ 9223372036854775807) (hLW : LWF L) (hVn : V.length ≤ 9223372036854775807) (hhV : Holds w AV (FV encT V)) :
    Calls Try.prog 3 #[v, .slice AV V.length cV] w fun e w' => e = .returned (.bool true) ∧ Below w.heap.size w w' := by
  have hall := Below.refl w.heap.size w
  replace hhV := Lib.hid hhV
  obtain ⟨A, c, rfl, q1, q2, q3, q4⟩ := h0
  have h : TRow w (.slice A L.length c) L := ⟨A, c, rfl, q1, q2, q3, q4⟩
  clear q1 q2 q3 q4
  have hwf : Hid (∀ x ∈ L, (Lit.int .i64 x.1).wf = true) := Lib.hid fun x hx => (hLW x hx).1
  cases hr : rightF L
  · skip
    refine K_enter 150 Try.func3 rfl rfl fun a H => ?_
    replace H := H.pick [0, 1]
    refine wp_seq ?_
    refine wp_region_lit ?_
    refine wl_v _ (r_assign evc) ?_; refine kl H rfl fun a H => ?_
    refine wpList_nil ?_
    refine c_next ?_
    refine wp_seq ?_
    refine wp_region_lit ?_
    refine wl_call _ _ _ (small_any _) (r_call0 cf10) ?_; rintro e w9 ⟨rfl, hb⟩; refine ⟨_, rfl, ?_⟩; replace h := Row.up h hb; replace hall := hall.trans (hb.mono hall.size); clear hb; refine kl H rfl fun a H => ?_
    refine wl_v _ (r_assign (H.ev rfl)) ?_; refine kl H rfl fun a H => ?_
    refine wpList_nil ?_
    refine c_next ?_
    refine wp_seq ?_
    refine wp_seq ?_
    refine wp_region_lit ?_
    refine wl_v _ (r_move (H.ev rfl)) ?_; refine kl H rfl fun a H => ?_
    refine wl_v _ (r_len Try.underlying22 (H.ev rfl)) ?_; refine kl H rfl fun a H => ?_
    by_cases c0 : ((L.length : Nat) : Int) > 200
    · skip
      refine wl_v _ (r_gt Try.underlying3 (H.ev rfl) evc (dec_t (c0))) ?_; refine kl H rfl fun a H => ?_
      refine wl_v _ (r_move (H.ev rfl)) ?_; refine kl H rfl fun a H => ?_
      refine wl_s (kg_no rfl H rfl rfl rfl) ?_; refine kl H rfl fun a H => ?_
      refine wl_s (kg_no rfl H rfl rfl rfl) ?_; refine kl H rfl fun a H => ?_
      refine wl_s (kg_no rfl H rfl rfl rfl) ?_; refine kl H rfl fun a H => ?_
      refine wl_v _ (r_pick_t (H.ev rfl) evc) ?_; refine kl H rfl fun a H => ?_
      refine wl_v _ (r_move (H.ev rfl)) ?_; refine kl H rfl fun a H => ?_
      refine wl_s (kg_no rfl H rfl rfl rfl) ?_; refine kl H rfl fun a H => ?_
      refine wl_s (kg_no rfl H rfl rfl rfl) ?_; refine kl H rfl fun a H => ?_
      refine wl_s (kg_no rfl H rfl rfl rfl) ?_; refine kl H rfl fun a H => ?_
      refine wl_s (kg_no rfl H rfl rfl rfl) ?_; refine kl H rfl fun a H => ?_
      refine wl_s (kg_no rfl H rfl rfl rfl) ?_; refine kl H rfl fun a H => ?_
      refine wl_v _ (r_pick_t (H.ev rfl) evc) ?_; refine kl H rfl fun a H => ?_
      refine wpList_nil ?_
      refine c_next ?_
      refine c_cond_t H rfl ?_
      refine wp_seq ?_
      refine wp_region_lit ?_
      refine wl_v _ (r_move (H.ev rfl)) ?_; refine kl H rfl fun a H => ?_
      refine wl_v _ (r_move (H.ev rfl)) ?_; refine kl H rfl fun a H => ?_
      refine op_unguard _ _ (kg_yes rfl H rfl rfl rfl) ?_; refine wl_v _ (r_move (H.ev rfl)) ?_; refine kl H rfl fun a H => ?_
      refine op_unguard _ _ (kg_yes rfl H rfl rfl rfl) ?_; refine wl_v _ (r_len Try.underlying22 (H.ev rfl)) ?_; refine kl H rfl fun a H => ?_
      refine op_unguard _ _ (kg_yes rfl H rfl rfl rfl) ?_; refine wl_v _ (r_gt Try.underlying3 (H.ev rfl) evc (dec_t (c0))) ?_; refine kl H rfl fun a H => ?_
      refine op_unguard _ _ (kg_yes rfl H rfl rfl rfl) ?_; refine wl_v _ (r_move (H.ev rfl)) ?_; refine kl H rfl fun a H => ?_
      refine wl_s (kg_no rfl H rfl rfl rfl) ?_; refine kl H rfl fun a H => ?_
      refine wl_s (kg_no rfl H rfl rfl rfl) ?_; refine kl H rfl fun a H => ?_
      refine wl_s (kg_no rfl H rfl rfl rfl) ?_; refine kl H rfl fun a H => ?_
      refine op_unguard _ _ (kg_yes rfl H rfl rfl rfl) ?_; refine wl_v _ (r_pick_t (H.ev rfl) evc) ?_; refine kl H rfl fun a H => ?_
      refine wl_v _ (r_pick_t (H.ev rfl) (H.ev rfl)) ?_; refine kl H rfl fun a H => ?_
      refine wl_v _ (r_assign (H.ev rfl)) ?_; refine kl H rfl fun a H => ?_
      refine wpList_nil ?_
      refine c_next ?_
      refine wp_ret ?_
      refine r_then ?_
      exact k_ret1 H rfl rfl ⟨rfl, hall⟩
    · skip
      refine wl_v _ (r_gt Try.underlying3 (H.ev rfl) evc (dec_f (c0))) ?_; refine kl H rfl fun a H => ?_
      refine wl_v _ (r_move (H.ev rfl)) ?_; refine kl H rfl fun a H => ?_
      refine op_unguard _ _ (kg_yes rfl H rfl rfl rfl) ?_; refine wl_v _ (r_move (H.ev rfl)) ?_; refine kl H rfl fun a H => ?_
      refine op_unguard _ _ (kg_yes rfl H rfl rfl rfl) ?_; refine wl_v _ (r_len Try.underlying23 (H.ev rfl)) ?_; refine kl H rfl fun a H => ?_
      by_cases c1 : ((V.length : Nat) : Int) > 100
      · skip
        refine op_unguard _ _ (kg_yes rfl H rfl rfl rfl) ?_; refine wl_v _ (r_gt Try.underlying3 (H.ev rfl) evc (dec_t (c1))) ?_; refine kl H rfl fun a H => ?_
        refine wl_v _ (r_pick_f (H.ev rfl) (H.ev rfl)) ?_; refine kl H rfl fun a H => ?_
        refine wl_v _ (r_move (H.ev rfl)) ?_; refine kl H rfl fun a H => ?_
        refine wl_s (kg_no rfl H rfl rfl rfl) ?_; refine kl H rfl fun a H => ?_
        refine wl_s (kg_no rfl H rfl rfl rfl) ?_; refine kl H rfl fun a H => ?_
        refine wl_s (kg_no rfl H rfl rfl rfl) ?_; refine kl H rfl fun a H => ?_
        refine wl_s (kg_no rfl H rfl rfl rfl) ?_; refine kl H rfl fun a H => ?_
        refine wl_s (kg_no rfl H rfl rfl rfl) ?_; refine kl H rfl fun a H => ?_
        refine wl_v _ (r_pick_t (H.ev rfl) evc) ?_; refine kl H rfl fun a H => ?_
        refine wpList_nil ?_
        refine c_next ?_
        refine c_cond_t H rfl ?_
        refine wp_seq ?_
        refine wp_region_lit ?_
        refine wl_v _ (r_move (H.ev rfl)) ?_; refine kl H rfl fun a H => ?_
        refine wl_v _ (r_move (H.ev rfl)) ?_; refine kl H rfl fun a H => ?_
        refine op_unguard _ _ (kg_yes rfl H rfl rfl rfl) ?_; refine wl_v _ (r_move (H.ev rfl)) ?_; refine kl H rfl fun a H => ?_
        refine op_unguard _ _ (kg_yes rfl H rfl rfl rfl) ?_; refine wl_v _ (r_len Try.underlying22 (H.ev rfl)) ?_; refine kl H rfl fun a H => ?_
        refine op_unguard _ _ (kg_yes rfl H rfl rfl rfl) ?_; refine wl_v _ (r_gt Try.underlying3 (H.ev rfl) evc (dec_f (c0))) ?_; refine kl H rfl fun a H => ?_
        refine op_unguard _ _ (kg_yes rfl H rfl rfl rfl) ?_; refine wl_v _ (r_move (H.ev rfl)) ?_; refine kl H rfl fun a H => ?_
        refine op_unguard _ _ (kg_yes rfl H rfl rfl rfl) ?_; refine wl_v _ (r_move (H.ev rfl)) ?_; refine kl H rfl fun a H => ?_
        refine op_unguard _ _ (kg_yes rfl H rfl rfl rfl) ?_; refine wl_v _ (r_len Try.underlying23 (H.ev rfl)) ?_; refine kl H rfl fun a H => ?_
        refine op_unguard _ _ (kg_yes rfl H rfl rfl rfl) ?_; refine wl_v _ (r_gt Try.underlying3 (H.ev rfl) evc (dec_t (c1))) ?_; refine kl H rfl fun a H => ?_
        refine op_unguard _ _ (kg_yes rfl H rfl rfl rfl) ?_; refine wl_v _ (r_pick_f (H.ev rfl) (H.ev rfl)) ?_; refine kl H rfl fun a H => ?_
        refine wl_v _ (r_pick_t (H.ev rfl) (H.ev rfl)) ?_; refine kl H rfl fun a H => ?_
        refine wl_v _ (r_assign (H.ev rfl)) ?_; refine kl H rfl fun a H => ?_
        refine wpList_nil ?_
        refine c_next ?_
        refine wp_ret ?_
        refine r_then ?_
        exact k_ret1 H rfl rfl ⟨rfl, hall⟩
      · skip
        refine op_unguard _ _ (kg_yes rfl H rfl rfl rfl) ?_; refine wl_v _ (r_gt Try.underlying3 (H.ev rfl) evc (dec_f (c1))) ?_; refine kl H rfl fun a H => ?_
        refine wl_v _ (r_pick_f (H.ev rfl) (H.ev rfl)) ?_; refine kl H rfl fun a H => ?_
        refine wl_v _ (r_move (H.ev rfl)) ?_; refine kl H rfl fun a H => ?_
        refine op_unguard _ _ (kg_yes rfl H rfl rfl rfl) ?_; refine wl_v _ (r_move (H.ev rfl)) ?_; refine kl H rfl fun a H => ?_
        refine op_unguard _ _ (kg_yes rfl H rfl rfl rfl) ?_; refine wl_call _ _ _ (right_any _ _ L h hn hwf.out) (r_call1 cf11 (H.ev rfl)) ?_; rintro e w9 ⟨rfl, hb⟩; refine ⟨_, rfl, ?_⟩; rw [hr]; replace h := Row.up h hb; replace hall := hall.trans (hb.mono hall.size); clear hb; refine kl H rfl fun a H => ?_
        refine op_unguard _ _ (kg_yes rfl H rfl rfl rfl) ?_; refine wl_v _ (r_move (H.ev rfl)) ?_; refine kl H rfl fun a H => ?_
        refine op_unguard _ _ (kg_yes rfl H rfl rfl rfl) ?_; refine wl_call _ _ _ (rright_any _ _ L h hn) (r_call1 cf12 (H.ev rfl)) ?_; rintro e w9 ⟨rfl, hb⟩; refine ⟨_, rfl, ?_⟩; rw [hr]; replace h := Row.up h hb; replace hall := hall.trans (hb.mono hall.size); clear hb; refine kl H rfl fun a H => ?_
        refine op_unguard _ _ (kg_yes rfl H rfl rfl rfl) ?_; refine wl_v _ (r_bne Try.underlying4 (H.ev rfl) (H.ev rfl) rfl) ?_; refine kl H rfl fun a H => ?_
        refine wl_v _ (r_pick_f (H.ev rfl) (H.ev rfl)) ?_; refine kl H rfl fun a H => ?_
        refine wpList_nil ?_
        refine c_next ?_
        refine c_cond_f H rfl ?_
        refine wp_skip ?_
        refine c_next ?_
        refine wp_seq ?_
        refine wp_seq ?_
        refine wp_region_lit ?_
        refine wl_v _ (r_move (H.ev rfl)) ?_; refine kl H rfl fun a H => ?_
        refine wl_call _ _ _ (rright_any _ _ L h hn) (r_call1 cf12 (H.ev rfl)) ?_; rintro e w9 ⟨rfl, hb⟩; refine ⟨_, rfl, ?_⟩; rw [hr]; replace h := Row.up h hb; replace hall := hall.trans (hb.mono hall.size); clear hb; refine kl H rfl fun a H => ?_
        refine wl_v _ (r_not (H.ev rfl) rfl) ?_; refine kl H rfl fun a H => ?_
        refine wpList_nil ?_
        refine c_next ?_
        refine c_cond_t H rfl ?_
        refine wp_seq ?_
        refine wp_region_lit ?_
        refine wl_v _ (r_move (H.ev rfl)) ?_; refine kl H rfl fun a H => ?_
        refine wl_v _ (r_assign (H.ev rfl)) ?_; refine kl H rfl fun a H => ?_
        refine wpList_nil ?_
        refine c_next ?_
        refine wp_ret ?_
        refine r_then ?_
        exact k_ret1 H rfl rfl ⟨rfl, hall⟩
  · skip
    have HR0 := Lib.hid ((right_iff L).1 hr)
    refine K_enter 150 Try.func3 rfl rfl fun a H => ?_
    replace H := H.pick [0, 1]
    refine wp_seq ?_
    refine wp_region_lit ?_
    refine wl_v _ (r_assign evc) ?_; refine kl H rfl fun a H => ?_
    refine wpList_nil ?_
    refine c_next ?_
    refine wp_seq ?_
    refine wp_region_lit ?_
    refine wl_call _ _ _ (small_any _) (r_call0 cf10) ?_; rintro e w9 ⟨rfl, hb⟩; refine ⟨_, rfl, ?_⟩; replace h := Row.up h hb; replace hall := hall.trans (hb.mono hall.size); clear hb; refine kl H rfl fun a H => ?_
    refine wl_v _ (r_assign (H.ev rfl)) ?_; refine kl H rfl fun a H => ?_
    refine wpList_nil ?_
    refine c_next ?_
    refine wp_seq ?_
    refine wp_seq ?_
    refine wp_region_lit ?_
    refine wl_v _ (r_move (H.ev rfl)) ?_; refine kl H rfl fun a H => ?_
    refine wl_v _ (r_len Try.underlying22 (H.ev rfl)) ?_; refine kl H rfl fun a H => ?_
    by_cases c2 : ((L.length : Nat) : Int) > 200
    · skip
      refine wl_v _ (r_gt Try.underlying3 (H.ev rfl) evc (dec_t (c2))) ?_; refine kl H rfl fun a H => ?_
      refine wl_v _ (r_move (H.ev rfl)) ?_; refine kl H rfl fun a H => ?_
      refine wl_s (kg_no rfl H rfl rfl rfl) ?_; refine kl H rfl fun a H => ?_
      refine wl_s (kg_no rfl H rfl rfl rfl) ?_; refine kl H rfl fun a H => ?_
      refine wl_s (kg_no rfl H rfl rfl rfl) ?_; refine kl H rfl fun a H => ?_
      refine wl_v _ (r_pick_t (H.ev rfl) evc) ?_; refine kl H rfl fun a H => ?_
      refine wl_v _ (r_move (H.ev rfl)) ?_; refine kl H rfl fun a H => ?_
      refine wl_s (kg_no rfl H rfl rfl rfl) ?_; refine kl H rfl fun a H => ?_
      refine wl_s (kg_no rfl H rfl rfl rfl) ?_; refine kl H rfl fun a H => ?_
      refine wl_s (kg_no rfl H rfl rfl rfl) ?_; refine kl H rfl fun a H => ?_
      refine wl_s (kg_no rfl H rfl rfl rfl) ?_; refine kl H rfl fun a H => ?_
      refine wl_s (kg_no rfl H rfl rfl rfl) ?_; refine kl H rfl fun a H => ?_
      refine wl_v _ (r_pick_t (H.ev rfl) evc) ?_; refine kl H rfl fun a H => ?_
      refine wpList_nil ?_
      refine c_next ?_
      refine c_cond_t H rfl ?_
      refine wp_seq ?_
      refine wp_region_lit ?_
      refine wl_v _ (r_move (H.ev rfl)) ?_; refine kl H rfl fun a H => ?_
      refine wl_v _ (r_move (H.ev rfl)) ?_; refine kl H rfl fun a H => ?_
      refine op_unguard _ _ (kg_yes rfl H rfl rfl rfl) ?_; refine wl_v _ (r_move (H.ev rfl)) ?_; refine kl H rfl fun a H => ?_
      refine op_unguard _ _ (kg_yes rfl H rfl rfl rfl) ?_; refine wl_v _ (r_len Try.underlying22 (H.ev rfl)) ?_; refine kl H rfl fun a H => ?_
      refine op_unguard _ _ (kg_yes rfl H rfl rfl rfl) ?_; refine wl_v _ (r_gt Try.underlying3 (H.ev rfl) evc (dec_t (c2))) ?_; refine kl H rfl fun a H => ?_
      refine op_unguard _ _ (kg_yes rfl H rfl rfl rfl) ?_; refine wl_v _ (r_move (H.ev rfl)) ?_; refine kl H rfl fun a H => ?_
      refine wl_s (kg_no rfl H rfl rfl rfl) ?_; refine kl H rfl fun a H => ?_
      refine wl_s (kg_no rfl H rfl rfl rfl) ?_; refine kl H rfl fun a H => ?_
      refine wl_s (kg_no rfl H rfl rfl rfl) ?_; refine kl H rfl fun a H => ?_
      refine op_unguard _ _ (kg_yes rfl H rfl rfl rfl) ?_; refine wl_v _ (r_pick_t (H.ev rfl) evc) ?_; refine kl H rfl fun a H => ?_
      refine wl_v _ (r_pick_t (H.ev rfl) (H.ev rfl)) ?_; refine kl H rfl fun a H => ?_
      refine wl_v _ (r_assign (H.ev rfl)) ?_; refine kl H rfl fun a H => ?_
      refine wpList_nil ?_
      refine c_next ?_
      refine wp_ret ?_
      refine r_then ?_
      exact k_ret1 H rfl rfl ⟨rfl, hall⟩
    · skip
      refine wl_v _ (r_gt Try.underlying3 (H.ev rfl) evc (dec_f (c2))) ?_; refine kl H rfl fun a H => ?_
      refine wl_v _ (r_move (H.ev rfl)) ?_; refine kl H rfl fun a H => ?_
      refine op_unguard _ _ (kg_yes rfl H rfl rfl rfl) ?_; refine wl_v _ (r_move (H.ev rfl)) ?_; refine kl H rfl fun a H => ?_
      refine op_unguard _ _ (kg_yes rfl H rfl rfl rfl) ?_; refine wl_v _ (r_len Try.underlying23 (H.ev rfl)) ?_; refine kl H rfl fun a H => ?_
      by_cases c3 : ((V.length : Nat) : Int) > 100
      · skip
        refine op_unguard _ _ (kg_yes rfl H rfl rfl rfl) ?_; refine wl_v _ (r_gt Try.underlying3 (H.ev rfl) evc (dec_t (c3))) ?_; refine kl H rfl fun a H => ?_
        refine wl_v _ (r_pick_f (H.ev rfl) (H.ev rfl)) ?_; refine kl H rfl fun a H => ?_
        refine wl_v _ (r_move (H.ev rfl)) ?_; refine kl H rfl fun a H => ?_
        refine wl_s (kg_no rfl H rfl rfl rfl) ?_; refine kl H rfl fun a H => ?_
        refine wl_s (kg_no rfl H rfl rfl rfl) ?_; refine kl H rfl fun a H => ?_
        refine wl_s (kg_no rfl H rfl rfl rfl) ?_; refine kl H rfl fun a H => ?_
        refine wl_s (kg_no rfl H rfl rfl rfl) ?_; refine kl H rfl fun a H => ?_
        refine wl_s (kg_no rfl H rfl rfl rfl) ?_; refine kl H rfl fun a H => ?_
        refine wl_v _ (r_pick_t (H.ev rfl) evc) ?_; refine kl H rfl fun a H => ?_
        refine wpList_nil ?_
        refine c_next ?_
        refine c_cond_t H rfl ?_
        refine wp_seq ?_
        refine wp_region_lit ?_
        refine wl_v _ (r_move (H.ev rfl)) ?_; refine kl H rfl fun a H => ?_
        refine wl_v _ (r_move (H.ev rfl)) ?_; refine kl H rfl fun a H => ?_
        refine op_unguard _ _ (kg_yes rfl H rfl rfl rfl) ?_; refine wl_v _ (r_move (H.ev rfl)) ?_; refine kl H rfl fun a H => ?_
        refine op_unguard _ _ (kg_yes rfl H rfl rfl rfl) ?_; refine wl_v _ (r_len Try.underlying22 (H.ev rfl)) ?_; refine kl H rfl fun a H => ?_
        refine op_unguard _ _ (kg_yes rfl H rfl rfl rfl) ?_; refine wl_v _ (r_gt Try.underlying3 (H.ev rfl) evc (dec_f (c2))) ?_; refine kl H rfl fun a H => ?_
        refine op_unguard _ _ (kg_yes rfl H rfl rfl rfl) ?_; refine wl_v _ (r_move (H.ev rfl)) ?_; refine kl H rfl fun a H => ?_
        refine op_unguard _ _ (kg_yes rfl H rfl rfl rfl) ?_; refine wl_v _ (r_move (H.ev rfl)) ?_; refine kl H rfl fun a H => ?_
        refine op_unguard _ _ (kg_yes rfl H rfl rfl rfl) ?_; refine wl_v _ (r_len Try.underlying23 (H.ev rfl)) ?_; refine kl H rfl fun a H => ?_
        refine op_unguard _ _ (kg_yes rfl H rfl rfl rfl) ?_; refine wl_v _ (r_gt Try.underlying3 (H.ev rfl) evc (dec_t (c3))) ?_; refine kl H rfl fun a H => ?_
        refine op_unguard _ _ (kg_yes rfl H rfl rfl rfl) ?_; refine wl_v _ (r_pick_f (H.ev rfl) (H.ev rfl)) ?_; refine kl H rfl fun a H => ?_
        refine wl_v _ (r_pick_t (H.ev rfl) (H.ev rfl)) ?_; refine kl H rfl fun a H => ?_
        refine wl_v _ (r_assign (H.ev rfl)) ?_; refine kl H rfl fun a H => ?_
        refine wpList_nil ?_
        refine c_next ?_
        refine wp_ret ?_
        refine r_then ?_
        exact k_ret1 H rfl rfl ⟨rfl, hall⟩
      · skip
        refine op_unguard _ _ (kg_yes rfl H rfl rfl rfl) ?_; refine wl_v _ (r_gt Try.underlying3 (H.ev rfl) evc (dec_f (c3))) ?_; refine kl H rfl fun a H => ?_
        refine wl_v _ (r_pick_f (H.ev rfl) (H.ev rfl)) ?_; refine kl H rfl fun a H => ?_
        refine wl_v _ (r_move (H.ev rfl)) ?_; refine kl H rfl fun a H => ?_
        refine op_unguard _ _ (kg_yes rfl H rfl rfl rfl) ?_; refine wl_v _ (r_move (H.ev rfl)) ?_; refine kl H rfl fun a H => ?_
        refine op_unguard _ _ (kg_yes rfl H rfl rfl rfl) ?_; refine wl_call _ _ _ (right_any _ _ L h hn hwf.out) (r_call1 cf11 (H.ev rfl)) ?_; rintro e w9 ⟨rfl, hb⟩; refine ⟨_, rfl, ?_⟩; rw [hr]; replace h := Row.up h hb; replace hall := hall.trans (hb.mono hall.size); clear hb; refine kl H rfl fun a H => ?_
        refine op_unguard _ _ (kg_yes rfl H rfl rfl rfl) ?_; refine wl_v _ (r_move (H.ev rfl)) ?_; refine kl H rfl fun a H => ?_
        refine op_unguard _ _ (kg_yes rfl H rfl rfl rfl) ?_; refine wl_call _ _ _ (rright_any _ _ L h hn) (r_call1 cf12 (H.ev rfl)) ?_; rintro e w9 ⟨rfl, hb⟩; refine ⟨_, rfl, ?_⟩; rw [hr]; replace h := Row.up h hb; replace hall := hall.trans (hb.mono hall.size); clear hb; refine kl H rfl fun a H => ?_
        refine op_unguard _ _ (kg_yes rfl H rfl rfl rfl) ?_; refine wl_v _ (r_bne Try.underlying4 (H.ev rfl) (H.ev rfl) rfl) ?_; refine kl H rfl fun a H => ?_
        refine wl_v _ (r_pick_f (H.ev rfl) (H.ev rfl)) ?_; refine kl H rfl fun a H => ?_
        refine wpList_nil ?_
        refine c_next ?_
        refine c_cond_f H rfl ?_
        refine wp_skip ?_
        refine c_next ?_
        refine wp_seq ?_
        refine wp_seq ?_
        refine wp_region_lit ?_
        refine wl_v _ (r_move (H.ev rfl)) ?_; refine kl H rfl fun a H => ?_
        refine wl_call _ _ _ (rright_any _ _ L h hn) (r_call1 cf12 (H.ev rfl)) ?_; rintro e w9 ⟨rfl, hb⟩; refine ⟨_, rfl, ?_⟩; rw [hr]; replace h := Row.up h hb; replace hall := hall.trans (hb.mono hall.size); clear hb; refine kl H rfl fun a H => ?_
        refine wl_v _ (r_not (H.ev rfl) rfl) ?_; refine kl H rfl fun a H => ?_
        refine wpList_nil ?_
        refine c_next ?_
        refine c_cond_f H rfl ?_
        refine wp_skip ?_
        refine c_next ?_
        refine wp_seq ?_
        refine wp_region_lit ?_
        refine wl_v _ (r_move (H.ev rfl)) ?_; refine kl H rfl fun a H => ?_
        refine wl_v _ (r_assign (H.ev rfl)) ?_; refine kl H rfl fun a H => ?_
        refine wpList_nil ?_
        refine c_next ?_
        refine wp_seq ?_
        refine wp_seq ?_
        refine wp_region_lit ?_
        refine wl_v _ (r_assign evc) ?_; refine kl H rfl fun a H => ?_
        refine wpList_nil ?_
        refine c_next ?_
        refine wp_block ?_
        refine wp_loop (TlO w AV cV V) (fun a _ => V.length - (intOf (a.eval (.tmp 7))).toNat) ⟨0, L, _, H.pick [1, 5, 6, 7], by omega, h, HR0.out, hall⟩ ?_
        clear hall h hr hwf hn HR0 H
        rintro a w' ⟨k, L, v, H, hk, h, hR, hall⟩
        have H0 := H
        by_cases hlt : k < V.length
        · skip
          obtain ⟨b, o, hA, hr⟩ := flat_some encT_len hhV.out (by omega) hlt
          subst hA
          generalize V[k] = y at *
          obtain ⟨op, who, peer⟩ := y
          have HRG : Hid (w.rangeAt b (o + k * 3) [.int .i64 op, .int .i64 who, .int .i64 peer]) := Lib.hid hr
          have hl := hR.2.2.2
          have HR := Lib.hid hR
          clear hr hR
          obtain ⟨A, c, rfl, q1, q2, q3, q4⟩ := h
          have h : TRow w' (.slice A L.length c) L := ⟨A, c, rfl, q1, q2, q3, q4⟩
          clear q1 q2 q3 q4
          obtain ⟨M, hM⟩ : ∃ M, (doF L op who peer).1 = M := ⟨_, rfl⟩
          obtain ⟨e, he⟩ : ∃ e, (doF L op who peer).2 = e := ⟨_, rfl⟩
          have hRM : RightL M := by rw [← hM]; exact right_do HR.out _ _ _
          have hMl := hRM.2.2.2
          have HRM := Lib.hid hRM
          have HM := Lib.hid hM
          have HE := Lib.hid he
          obtain ⟨q, hq⟩ : ∃ q, stF M who peer = q := ⟨_, rfl⟩
          obtain ⟨Ww, hww⟩ : ∃ Ww, watF M peer = Ww := ⟨_, rfl⟩
          obtain ⟨Wt, hwt⟩ : ∃ Wt, tarF M peer = Wt := ⟨_, rfl⟩
          have hl1 : Ww.length ≤ 64 := by rw [← hww]; exact Nat.le_trans fm_le hMl
          have hl2 : Wt.length ≤ 64 := by rw [← hwt]; exact Nat.le_trans fm_le hMl
          have HQ := Lib.hid hq
          have HWw := Lib.hid hww
          have HWt := Lib.hid hwt
          clear hM he hRM hq hww hwt
          refine wp_seq ?_
          refine wp_seq ?_
          refine wp_region_lit ?_
          refine wl_v _ (r_move (H.ev rfl)) ?_; refine kl H rfl fun a H => ?_
          refine wl_v _ (r_move (H.ev rfl)) ?_; refine kl H rfl fun a H => ?_
          refine wl_v _ (r_len Try.underlying23 (H.ev rfl)) ?_; refine kl H rfl fun a H => ?_
          refine wl_v _ (r_lt Try.underlying3 (H.ev rfl) (H.ev rfl) (dec_t (by omega))) ?_; refine kl H rfl fun a H => ?_
          refine wpList_nil ?_
          refine c_next ?_
          refine c_cond_t H rfl ?_
          refine wp_skip ?_
          refine c_next ?_
          refine wp_seq ?_
          refine wp_block ?_
          refine wp_seq ?_
          refine wp_region_lit ?_
          refine wl_v _ (r_move (H.ev rfl)) ?_; refine kl H rfl fun a H => ?_
          refine wl_v _ (r_move (H.ev rfl)) ?_; refine kl H rfl fun a H => ?_
          refine wl_v _ (r_idx (j := k) (q := o + k * 3) Try.underlying23 s27 (H.ev rfl) (H.ev rfl) (by omega) rfl) ?_; refine kl H rfl fun a H => ?_
          refine wl_v _ (r_row (cs := [.int .i64 op, .int .i64 who, .int .i64 peer]) (H.ev rfl) (range_ups HRG.out hall) (by kernel_rfl) s27 rfl) ?_; refine kl H rfl fun a H => ?_
          refine op_new 27 8 (.tmp 56) #[.int .i64 op, .int .i64 who, .int .i64 peer] _ z27 s27 rfl (ints_one [op, who, peer]) (fun p => (H.put 8 p rfl).ev rfl) (fun p => (H.put 8 p rfl).ev rfl) fun w0 b0 hge hb k0 => ?_; have g0 := Nat.le_trans hall.size hge; replace h := Row.up h hb; replace hall := hall.trans (hb.mono hall.size); clear hb; clear hge; refine kl H rfl fun a H => ?_
          refine wpList_nil ?_
          refine c_next ?_
          refine wp_seq ?_
          refine wp_region_lit ?_
          refine op_litv 22 0 #[] 37 #[] (by simp) (fun w => by kernel_rfl) fun w1 bl hge hb kk => ?_; have hn0 := own_empty (size := 3) kk hge; clear hge kk; refine kl H rfl fun a H => ?_
          refine wl_v _ (r_move (H.ev rfl)) ?_; refine kl H rfl fun a H => ?_
          refine op_append 22 37 (.tmp 57) (.tmp 58) _ (.agg #[.int .i64 0, .int .i64 0, .int .i64 0]) 3 24 _ 0 [] A L.length c (FV encT L) (H.ev rfl) (H.ev rfl) Try.underlying22 i37 rfl (by omega) hn0 (by rw [FV_len encT_len]) (Holds.up (row_holds h) hb) (FV_one _ _) (by unfold maxLen; omega) (by omega) hb.size fun v9 w2 hown2 _ _ hb2 => ?_; have hx := own_cast (M := L) hown2 rfl; have hb := hb.trans hb2; clear hb2 hown2 hn0; replace h := Row.up h hb; replace k0 := Block.ups k0 hb; replace hall := hall.trans (hb.mono hall.size); clear hb; have r9 := TOwn.row hx; clear hx; refine kl H rfl fun a H => ?_
          refine wl_v _ (r_assign (H.ev rfl)) ?_; refine kl H rfl fun a H => ?_
          refine wpList_nil ?_
          refine c_next ?_
          refine wp_seq ?_
          refine wp_region_lit ?_
          refine wl_v _ (r_move (H.ev rfl)) ?_; refine kl H rfl fun a H => ?_
          refine wl_v _ (r_fld (q := 0) fld27_0 (H.ev rfl) rfl) ?_; refine kl H rfl fun a H => ?_
          refine wl_v _ (r_ld Try.underlying3 rfl (H.ev rfl) ((Block.cell k0 0).trans rfl)) ?_; refine kl H rfl fun a H => ?_
          refine wl_v _ (r_fld (q := 1) fld27_1 (H.ev rfl) rfl) ?_; refine kl H rfl fun a H => ?_
          refine wl_v _ (r_ld Try.underlying3 rfl (H.ev rfl) ((Block.cell k0 1).trans rfl)) ?_; refine kl H rfl fun a H => ?_
          refine wl_v _ (r_fld (q := 2) fld27_2 (H.ev rfl) rfl) ?_; refine kl H rfl fun a H => ?_
          refine wl_v _ (r_ld Try.underlying3 rfl (H.ev rfl) ((Block.cell k0 2).trans rfl)) ?_; refine kl H rfl fun a H => ?_
          refine wl_call _ _ _ (do_any _ _ L op who peer h (by omega) HR.out) (r_call4 cf13 (H.ev rfl) (H.ev rfl) (H.ev rfl) (H.ev rfl)) ?_; rintro e w9 ⟨⟨vq, rfl, hown⟩, hb⟩; refine ⟨_, rfl, ?_⟩; rw [HE.out]; have hbz := hall.size; replace h := Row.up h hb; replace k0 := Block.ups k0 hb; replace r9 := Row.up r9 hb; replace hall := hall.trans (hb.mono hall.size); clear hb; rw [HM.out] at hown; have own10 := own_base hown hbz; clear hown hbz; obtain ⟨A10, c10, rfl, -, -, -⟩ := own_slice own10; refine kl H rfl fun a H => ?_
          refine wl_v _ (r_move (H.ev rfl)) ?_; refine kl H rfl fun a H => ?_
          refine wl_v _ (r_extract (v := .slice A10 M.length c10) (H.ev rfl) rfl) ?_; refine kl H rfl fun a H => ?_
          refine wl_v _ (r_extract (v := .int .i64 e) (H.ev rfl) rfl) ?_; refine kl H rfl fun a H => ?_
          refine wl_v _ (r_assign (H.ev rfl)) ?_; refine kl H rfl fun a H => ?_
          refine wl_v _ (r_assign (H.ev rfl)) ?_; refine kl H rfl fun a H => ?_
          refine wpList_nil ?_
          refine c_next ?_
          refine wp_seq ?_
          refine wp_region_lit ?_
          refine wl_v _ (r_move (H.ev rfl)) ?_; refine kl H rfl fun a H => ?_
          refine wl_v _ (r_fld (q := 0) fld27_0 (H.ev rfl) rfl) ?_; refine kl H rfl fun a H => ?_
          refine wl_v _ (r_ld Try.underlying3 rfl (H.ev rfl) ((Block.cell k0 0).trans rfl)) ?_; refine kl H rfl fun a H => ?_
          refine wl_v _ (r_fld (q := 1) fld27_1 (H.ev rfl) rfl) ?_; refine kl H rfl fun a H => ?_
          refine wl_v _ (r_ld Try.underlying3 rfl (H.ev rfl) ((Block.cell k0 1).trans rfl)) ?_; refine kl H rfl fun a H => ?_
          refine wl_v _ (r_fld (q := 2) fld27_2 (H.ev rfl) rfl) ?_; refine kl H rfl fun a H => ?_
          refine wl_v _ (r_ld Try.underlying3 rfl (H.ev rfl) ((Block.cell k0 2).trans rfl)) ?_; refine kl H rfl fun a H => ?_
          refine wl_call _ _ _ (rdo_any _ _ L op who peer h (by omega) HR.out) (r_call4 cf14 (H.ev rfl) (H.ev rfl) (H.ev rfl) (H.ev rfl)) ?_; rintro e w9 ⟨⟨v12, rfl, hown⟩, hb⟩; refine ⟨_, rfl, ?_⟩; rw [HE.out]; replace h := Row.up h hb; replace k0 := Block.ups k0 hb; replace r9 := Row.up r9 hb; replace own10 := own_ups own10 hb; replace hall := hall.trans (hb.mono hall.size); clear hb; rw [HM.out] at hown; have r12 := TOwn.row hown; clear hown; refine kl H rfl fun a H => ?_
          refine wl_v _ (r_move (H.ev rfl)) ?_; refine kl H rfl fun a H => ?_
          refine wl_v _ (r_extract (v := v12) (H.ev rfl) rfl) ?_; refine kl H rfl fun a H => ?_
          refine wl_v _ (r_extract (v := .int .i64 e) (H.ev rfl) rfl) ?_; refine kl H rfl fun a H => ?_
          refine wl_v _ (r_assign (H.ev rfl)) ?_; refine kl H rfl fun a H => ?_
          refine wl_v _ (r_assign (H.ev rfl)) ?_; refine kl H rfl fun a H => ?_
          refine wpList_nil ?_
          refine c_next ?_
          refine wp_seq ?_
          refine wp_seq ?_
          have hS : STl w b0 op who peer _ := ⟨hall.drew, k0⟩
          refine region_pi (STl w b0 op who peer) [(0, true), (1, true), (2, true), (3, true), (4, true), (5, true), (6, false), (7, true), (8, true), (9, true), (10, true), (11, true), (12, false), (13, true), (14, true), (15, true), (16, true), (17, true), (18, true), (19, true), (20, true), (22, true), (23, true), (24, true), (25, true), (26, true), (21, false), (27, false), (28, true), (29, true), (30, true), (31, true), (32, true), (33, true), (35, true), (36, true), (37, true), (34, false), (38, false), (39, false), (40, true), (41, true), (42, true), (43, true), (44, true), (45, true), (47, true), (48, true), (49, true), (46, false), (50, false), (51, false), (52, true), (53, true)] (by kernel_rfl) (by kernel_rfl) rfl (by kernel_rfl) hS ?_
          clear hall k0
          replace h := Row.up h (Below.refl _ _).drew
          replace r9 := Row.up r9 (Below.refl _ _).drew
          replace own10 := own_ups own10 (Below.refl _ _).drew
          replace r12 := Row.up r12 (Below.refl _ _).drew
          refine pi_f0 _ rfl (fun w' hS' => r_move (H.ev rfl)) ?_; refine kp H rfl fun a H => ?_
          refine pi_f0 _ rfl (fun w' hS' => r_move (H.ev rfl)) ?_; refine kp H rfl fun a H => ?_
          refine pi_f0 _ rfl (fun w' hS' => r_ne Try.underlying28 (H.ev rfl) (H.ev rfl) (dec_f (by omega))) ?_; refine kp H rfl fun a H => ?_
          refine pi_f0 _ rfl (fun w' hS' => r_move (H.ev rfl)) ?_; refine kp H rfl fun a H => ?_
          refine pi_f1 _ rfl rfl rfl (H.ev rfl) (fun w' hS' => r_move (H.ev rfl)) ?_; refine kp H rfl fun a H => ?_
          refine pi_f1 _ rfl rfl rfl (H.ev rfl) (fun w' hS' => r_move (H.ev rfl)) ?_; refine kp H rfl fun a H => ?_
          refine pi_a1 rfl rfl rfl (H.ev rfl) (fun K hK => ?_); refine wpo_call _ _ _ (same15_any _ _ _ M M (TOwn.row own10) r12 (by omega) (by omega)) (r_call2 cf15 (H.ev rfl) (H.ev rfl)) ?_; rintro e w9 ⟨rfl, hb⟩; refine ⟨_, rfl, ?_⟩; rw [decide_eq_true (rfl : M = M)]; replace h := Row.up h hb; replace r9 := Row.up r9 hb; replace own10 := own_ups own10 hb; replace r12 := Row.up r12 hb; replace hS := hS.up hb; clear hb; refine hK _ _ ⟨hS, ?_⟩; clear hK; clear K; refine kp H rfl fun a H => ?_
          refine pi_f1 _ rfl rfl rfl (H.ev rfl) (fun w' hS' => r_not (H.ev rfl) rfl) ?_; refine kp H rfl fun a H => ?_
          refine pi_f0 _ rfl (fun w' hS' => r_pick_f (H.ev rfl) (H.ev rfl)) ?_; refine kp H rfl fun a H => ?_
          refine pi_f0 _ rfl (fun w' hS' => r_move (H.ev rfl)) ?_; refine kp H rfl fun a H => ?_
          refine pi_f1 _ rfl rfl rfl (H.ev rfl) (fun w' hS' => r_move (H.ev rfl)) ?_; refine kp H rfl fun a H => ?_
          refine pi_f1 _ rfl rfl rfl (H.ev rfl) (fun w' hS' => r_move (H.ev rfl)) ?_; refine kp H rfl fun a H => ?_
          refine pi_a1 rfl rfl rfl (H.ev rfl) (fun K hK => ?_); refine wpo_call _ _ _ (same15_any _ _ _ L L r9 h (by omega) (by omega)) (r_call2 cf15 (H.ev rfl) (H.ev rfl)) ?_; rintro e w9 ⟨rfl, hb⟩; refine ⟨_, rfl, ?_⟩; rw [decide_eq_true (rfl : L = L)]; replace h := Row.up h hb; replace r9 := Row.up r9 hb; replace own10 := own_ups own10 hb; replace r12 := Row.up r12 hb; replace hS := hS.up hb; clear hb; refine hK _ _ ⟨hS, ?_⟩; clear hK; clear K; refine kp H rfl fun a H => ?_
          refine pi_f1 _ rfl rfl rfl (H.ev rfl) (fun w' hS' => r_not (H.ev rfl) rfl) ?_; refine kp H rfl fun a H => ?_
          refine pi_f0 _ rfl (fun w' hS' => r_pick_f (H.ev rfl) (H.ev rfl)) ?_; refine kp H rfl fun a H => ?_
          refine pi_f0 _ rfl (fun w' hS' => r_move (H.ev rfl)) ?_; refine kp H rfl fun a H => ?_
          refine pi_f1 _ rfl rfl rfl (H.ev rfl) (fun w' hS' => r_move (H.ev rfl)) ?_; refine kp H rfl fun a H => ?_
          refine pi_f1 _ rfl rfl rfl (H.ev rfl) (fun w' hS' => r_fld (q := 1) fld27_1 (H.ev rfl) rfl) ?_; refine kp H rfl fun a H => ?_
          refine pi_f1 _ rfl rfl rfl (H.ev rfl) (fun w' hS' => r_ld Try.underlying3 rfl (H.ev rfl) ((Block.cell (hS'.2) 1).trans rfl)) ?_; refine kp H rfl fun a H => ?_
          refine pi_f1 _ rfl rfl rfl (H.ev rfl) (fun w' hS' => r_fld (q := 2) fld27_2 (H.ev rfl) rfl) ?_; refine kp H rfl fun a H => ?_
          refine pi_f1 _ rfl rfl rfl (H.ev rfl) (fun w' hS' => r_ld Try.underlying3 rfl (H.ev rfl) ((Block.cell (hS'.2) 2).trans rfl)) ?_; refine kp H rfl fun a H => ?_
          refine pi_f1 _ rfl rfl rfl (H.ev rfl) (fun w' hS' => r_move (H.ev rfl)) ?_; refine kp H rfl fun a H => ?_
          refine pi_f1 _ rfl rfl rfl (H.ev rfl) (fun w' hS' => r_fld (q := 1) fld27_1 (H.ev rfl) rfl) ?_; refine kp H rfl fun a H => ?_
          refine pi_f1 _ rfl rfl rfl (H.ev rfl) (fun w' hS' => r_ld Try.underlying3 rfl (H.ev rfl) ((Block.cell (hS'.2) 1).trans rfl)) ?_; refine kp H rfl fun a H => ?_
          refine pi_f1 _ rfl rfl rfl (H.ev rfl) (fun w' hS' => r_fld (q := 2) fld27_2 (H.ev rfl) rfl) ?_; refine kp H rfl fun a H => ?_
          refine pi_f1 _ rfl rfl rfl (H.ev rfl) (fun w' hS' => r_ld Try.underlying3 rfl (H.ev rfl) ((Block.cell (hS'.2) 2).trans rfl)) ?_; refine kp H rfl fun a H => ?_
          refine pi_a1 rfl rfl rfl (H.ev rfl) (fun K hK => ?_); refine wpo_call _ _ _ (state_any _ _ M who peer (TOwn.row own10) (by omega) HRM.out.1) (r_call3 cf16 (H.ev rfl) (H.ev rfl) (H.ev rfl)) ?_; rintro e w9 ⟨rfl, hb⟩; refine ⟨_, rfl, ?_⟩; rw [HQ.out]; replace h := Row.up h hb; replace r9 := Row.up r9 hb; replace own10 := own_ups own10 hb; replace r12 := Row.up r12 hb; replace hS := hS.up hb; clear hb; refine hK _ _ ⟨hS, ?_⟩; clear hK; clear K; refine kp H rfl fun a H => ?_
          refine pi_a1 rfl rfl rfl (H.ev rfl) (fun K hK => ?_); refine wpo_call _ _ _ (rstate_any _ _ M who peer r12 (by omega)) (r_call3 cf17 (H.ev rfl) (H.ev rfl) (H.ev rfl)) ?_; rintro e w9 ⟨rfl, rfl⟩; refine ⟨_, rfl, ?_⟩; rw [HQ.out]; skip; refine hK _ _ ⟨hS, ?_⟩; clear hK; clear K; refine kp H rfl fun a H => ?_
          refine pi_f1 _ rfl rfl rfl (H.ev rfl) (fun w' hS' => r_ne Try.underlying3 (H.ev rfl) (H.ev rfl) (dec_f (by omega))) ?_; refine kp H rfl fun a H => ?_
          refine pi_f0 _ rfl (fun w' hS' => r_pick_f (H.ev rfl) (H.ev rfl)) ?_; refine kp H rfl fun a H => ?_
          refine pi_f0 _ rfl (fun w' hS' => r_move (H.ev rfl)) ?_; refine kp H rfl fun a H => ?_
          refine pi_f1 _ rfl rfl rfl (H.ev rfl) (fun w' hS' => r_move (H.ev rfl)) ?_; refine kp H rfl fun a H => ?_
          refine pi_f1 _ rfl rfl rfl (H.ev rfl) (fun w' hS' => r_fld (q := 2) fld27_2 (H.ev rfl) rfl) ?_; refine kp H rfl fun a H => ?_
          refine pi_f1 _ rfl rfl rfl (H.ev rfl) (fun w' hS' => r_ld Try.underlying3 rfl (H.ev rfl) ((Block.cell (hS'.2) 2).trans rfl)) ?_; refine kp H rfl fun a H => ?_
          refine pi_f1 _ rfl rfl rfl (H.ev rfl) (fun w' hS' => r_move (H.ev rfl)) ?_; refine kp H rfl fun a H => ?_
          refine pi_f1 _ rfl rfl rfl (H.ev rfl) (fun w' hS' => r_fld (q := 2) fld27_2 (H.ev rfl) rfl) ?_; refine kp H rfl fun a H => ?_
          refine pi_f1 _ rfl rfl rfl (H.ev rfl) (fun w' hS' => r_ld Try.underlying3 rfl (H.ev rfl) ((Block.cell (hS'.2) 2).trans rfl)) ?_; refine kp H rfl fun a H => ?_
          refine pi_a1 rfl rfl rfl (H.ev rfl) (fun K hK => ?_); refine wpo_call _ _ _ (wat_any _ _ M peer (TOwn.row own10) (by omega)) (r_call2 cf19 (H.ev rfl) (H.ev rfl)) ?_; rintro e w9 ⟨⟨u1, rfl, hown⟩, hb⟩; refine ⟨_, rfl, ?_⟩; replace h := Row.up h hb; replace r9 := Row.up r9 hb; replace own10 := own_ups own10 hb; replace r12 := Row.up r12 hb; replace hS := hS.up hb; clear hb; rw [HWw.out] at hown; have q1 := IOwn.row hown; clear hown; refine hK _ _ ⟨hS, ?_⟩; clear hK; clear K; refine kp H rfl fun a H => ?_
          refine pi_a1 rfl rfl rfl (H.ev rfl) (fun K hK => ?_); refine wpo_call _ _ _ (rwat_any _ _ M peer r12 (by omega)) (r_call2 cf20 (H.ev rfl) (H.ev rfl)) ?_; rintro e w9 ⟨⟨u2, rfl, hown⟩, hb⟩; refine ⟨_, rfl, ?_⟩; replace h := Row.up h hb; replace r9 := Row.up r9 hb; replace own10 := own_ups own10 hb; replace r12 := Row.up r12 hb; replace q1 := Row.up q1 hb; replace hS := hS.up hb; clear hb; rw [HWw.out] at hown; have q2 := IOwn.row hown; clear hown; refine hK _ _ ⟨hS, ?_⟩; clear hK; clear K; refine kp H rfl fun a H => ?_
          refine pi_a1 rfl rfl rfl (H.ev rfl) (fun K hK => ?_); refine wpo_call _ _ _ (same18_any _ _ _ Ww Ww q1 q2 (by omega) (by omega)) (r_call2 cf18 (H.ev rfl) (H.ev rfl)) ?_; rintro e w9 ⟨rfl, hb⟩; refine ⟨_, rfl, ?_⟩; rw [decide_eq_true (rfl : Ww = Ww)]; replace h := Row.up h hb; replace r9 := Row.up r9 hb; replace own10 := own_ups own10 hb; replace r12 := Row.up r12 hb; replace q1 := Row.up q1 hb; replace q2 := Row.up q2 hb; replace hS := hS.up hb; clear hb; refine hK _ _ ⟨hS, ?_⟩; clear hK; clear K; refine kp H rfl fun a H => ?_
          refine pi_f1 _ rfl rfl rfl (H.ev rfl) (fun w' hS' => r_not (H.ev rfl) rfl) ?_; refine kp H rfl fun a H => ?_
          refine pi_f0 _ rfl (fun w' hS' => r_pick_f (H.ev rfl) (H.ev rfl)) ?_; refine kp H rfl fun a H => ?_
          refine pi_f0 _ rfl (fun w' hS' => r_move (H.ev rfl)) ?_; refine kp H rfl fun a H => ?_
          refine pi_f1 _ rfl rfl rfl (H.ev rfl) (fun w' hS' => r_move (H.ev rfl)) ?_; refine kp H rfl fun a H => ?_
          refine pi_f1 _ rfl rfl rfl (H.ev rfl) (fun w' hS' => r_fld (q := 2) fld27_2 (H.ev rfl) rfl) ?_; refine kp H rfl fun a H => ?_
          refine pi_f1 _ rfl rfl rfl (H.ev rfl) (fun w' hS' => r_ld Try.underlying3 rfl (H.ev rfl) ((Block.cell (hS'.2) 2).trans rfl)) ?_; refine kp H rfl fun a H => ?_
          refine pi_f1 _ rfl rfl rfl (H.ev rfl) (fun w' hS' => r_move (H.ev rfl)) ?_; refine kp H rfl fun a H => ?_
          refine pi_f1 _ rfl rfl rfl (H.ev rfl) (fun w' hS' => r_fld (q := 2) fld27_2 (H.ev rfl) rfl) ?_; refine kp H rfl fun a H => ?_
          refine pi_f1 _ rfl rfl rfl (H.ev rfl) (fun w' hS' => r_ld Try.underlying3 rfl (H.ev rfl) ((Block.cell (hS'.2) 2).trans rfl)) ?_; refine kp H rfl fun a H => ?_
          refine pi_a1 rfl rfl rfl (H.ev rfl) (fun K hK => ?_); refine wpo_call _ _ _ (tar_any _ _ M peer (TOwn.row own10) (by omega)) (r_call2 cf21 (H.ev rfl) (H.ev rfl)) ?_; rintro e w9 ⟨⟨u3, rfl, hown⟩, hb⟩; refine ⟨_, rfl, ?_⟩; replace h := Row.up h hb; replace r9 := Row.up r9 hb; replace own10 := own_ups own10 hb; replace r12 := Row.up r12 hb; replace q1 := Row.up q1 hb; replace q2 := Row.up q2 hb; replace hS := hS.up hb; clear hb; rw [HWt.out] at hown; have q3 := IOwn.row hown; clear hown; refine hK _ _ ⟨hS, ?_⟩; clear hK; clear K; refine kp H rfl fun a H => ?_
          refine pi_a1 rfl rfl rfl (H.ev rfl) (fun K hK => ?_); refine wpo_call _ _ _ (rtar_any _ _ M peer r12 (by omega)) (r_call2 cf22 (H.ev rfl) (H.ev rfl)) ?_; rintro e w9 ⟨⟨u4, rfl, hown⟩, hb⟩; refine ⟨_, rfl, ?_⟩; replace h := Row.up h hb; replace r9 := Row.up r9 hb; replace own10 := own_ups own10 hb; replace r12 := Row.up r12 hb; replace q1 := Row.up q1 hb; replace q2 := Row.up q2 hb; replace q3 := Row.up q3 hb; replace hS := hS.up hb; clear hb; rw [HWt.out] at hown; have q4 := IOwn.row hown; clear hown; refine hK _ _ ⟨hS, ?_⟩; clear hK; clear K; refine kp H rfl fun a H => ?_
          refine pi_a1 rfl rfl rfl (H.ev rfl) (fun K hK => ?_); refine wpo_call _ _ _ (same18_any _ _ _ Wt Wt q3 q4 (by omega) (by omega)) (r_call2 cf18 (H.ev rfl) (H.ev rfl)) ?_; rintro e w9 ⟨rfl, hb⟩; refine ⟨_, rfl, ?_⟩; rw [decide_eq_true (rfl : Wt = Wt)]; replace h := Row.up h hb; replace r9 := Row.up r9 hb; replace own10 := own_ups own10 hb; replace r12 := Row.up r12 hb; replace q1 := Row.up q1 hb; replace q2 := Row.up q2 hb; replace q3 := Row.up q3 hb; replace q4 := Row.up q4 hb; replace hS := hS.up hb; clear hb; refine hK _ _ ⟨hS, ?_⟩; clear hK; clear K; refine kp H rfl fun a H => ?_
          refine pi_f1 _ rfl rfl rfl (H.ev rfl) (fun w' hS' => r_not (H.ev rfl) rfl) ?_; refine kp H rfl fun a H => ?_
          refine pi_f0 _ rfl (fun w' hS' => r_pick_f (H.ev rfl) (H.ev rfl)) ?_; refine kp H rfl fun a H => ?_
          refine pi_nil (NoPanic.normal ?_)
          have hall := hS.1
          clear hS
          refine c_next ?_
          refine c_cond_f H rfl ?_
          refine wp_skip ?_
          refine c_next ?_
          refine wp_seq ?_
          clear h r9 r12 q1 q2 q3 q4
          refine wp_region_lit ?_
          refine op_litv 22 0 #[] 37 #[] (by simp) (fun w => by kernel_rfl) fun w1 bl hge hb kk => ?_; have hn0 := own_empty (size := 3) kk hge; clear hge kk; refine kl H rfl fun a H => ?_
          refine wl_v _ (r_move (H.ev rfl)) ?_; refine kl H rfl fun a H => ?_
          refine op_append 22 37 (.tmp 136) (.tmp 137) _ (.agg #[.int .i64 0, .int .i64 0, .int .i64 0]) 3 24 _ 0 [] A10 M.length c10 (FV encT M) (H.ev rfl) (H.ev rfl) Try.underlying22 i37 rfl (by omega) hn0 (by rw [FV_len encT_len]) (Holds.up (row_holds (TOwn.row own10)) hb) (FV_one _ _) (by unfold maxLen; omega) (by omega) hb.size fun vx w2 hown2 _ _ hb2 => ?_; have hx := own_cast (M := M) hown2 rfl; have hb := hb.trans hb2; clear hb2 hown2 hn0; have hap := apart_new own10 hx; have hx := own_base hx hall.size; replace own10 := own_ups own10 hb; replace hall := hall.trans (hb.mono hall.size); clear hb; have ownx := hx; clear hx; refine kl H rfl fun a H => ?_
          refine wl_v _ (r_assign (H.ev rfl)) ?_; refine kl H rfl fun a H => ?_
          refine wpList_nil ?_
          refine c_next ?_
          refine wp_seq ?_
          refine wp_region_lit ?_
          refine wl_v _ (r_assign evc) ?_; refine kl H rfl fun a H => ?_
          refine wpList_nil ?_
          refine c_next ?_
          refine wp_block ?_
          refine wp_loop (TlP w b o cV V k vx M A10 c10) (fun a _ => M.length - (intOf (a.eval (.tmp 14))).toNat) ⟨0, M, H.pick [1, 5, 6, 7, 10, 14], by omega, own10, rfl, ownx, hap, hall⟩ ?_
          clear H hall own10 ownx
          rintro a w' ⟨i, M', H, hi, own10, hM', ownx, hap, hall⟩
          have H1 := H
          by_cases hlti : i < M.length
          · skip
            have hy : M'[i]? = some (M'[i]'(by omega)) := List.getElem?_eq_getElem _
            obtain ⟨g, cap, cur, hv, hbg, hg, hkc, hset⟩ := own_set own10 hy
            injection hv with hv1 hv2 hv3
            subst hv1
            refine wp_seq ?_
            refine wp_seq ?_
            refine wp_region_lit ?_
            refine wl_v _ (r_move (H.ev rfl)) ?_; refine kl H rfl fun a H => ?_
            refine wl_v _ (r_move (H.ev rfl)) ?_; refine kl H rfl fun a H => ?_
            refine wl_v _ (r_len Try.underlying22 (H.ev rfl)) ?_; refine kl H rfl fun a H => ?_
            refine wl_v _ (r_lt Try.underlying3 (H.ev rfl) (H.ev rfl) (dec_t (by omega))) ?_; refine kl H rfl fun a H => ?_
            refine wpList_nil ?_
            refine c_next ?_
            refine c_cond_t H rfl ?_
            refine wp_skip ?_
            refine c_next ?_
            refine wp_seq ?_
            refine wp_block ?_
            refine wp_region_lit ?_
            refine wl_v _ (r_move (H.ev rfl)) ?_; refine kl H rfl fun a H => ?_
            refine wl_v _ (r_move (H.ev rfl)) ?_; refine kl H rfl fun a H => ?_
            refine wl_v _ (r_idx (j := i) (q := 0 + i * 3) Try.underlying22 s37 (H.ev rfl) (H.ev rfl) (by omega) rfl) ?_; refine kl H rfl fun a H => ?_
            refine wl_v _ (r_fld (q := 0 + i * 3 + 2) fld37_2 (H.ev rfl) rfl) ?_; refine kl H rfl fun a H => ?_
            refine op_store1 3 (.tmp 148) (.const (.int .i64 77)) g (0 + i * 3 + 2) 37 (.int .i64 77) cur (H.ev rfl) rfl hg s3 (by simp only [Value.cells, List.size_toArray, List.length_cons, List.length_nil]; omega) (ints_one [77]) fun w' hb ho kq => ?_; have own10' := hset 77 _ kq; replace ownx := own_block ownx (fun q e => ho q (fun e2 => hap.elim (fun h0 => by rw [h0] at e; cases e) (fun h0 => h0 (by rw [e, e2]; rfl)))); replace hall := hall.trans (hb _ hbg); clear hb ho kq hg hset; refine kl0 H fun a H => ?_
            refine wpList_nil ?_
            refine n_block ?_
            refine c_next ?_
            refine wp_region_lit ?_
            refine wl_v _ (r_move (H.ev rfl)) ?_; refine kl H rfl fun a H => ?_
            refine wl_v _ (r_add (q := ((i + 1 : Nat) : Int)) Try.underlying3 (H.ev rfl) evc (by omega) (by omega)) ?_; refine kl H rfl fun a H => ?_
            refine wl_v _ (r_assign (H.ev rfl)) ?_; refine kl H rfl fun a H => ?_
            refine wpList_nil ?_
            refine n_then ⟨⟨i + 1, _, H.pick [1, 5, 6, 7, 10, 14], by omega, own10', by rw [List.length_set]; exact hM', ownx, hap, hall⟩, ?_⟩
            rw [H.ev (j := 14) rfl, H1.ev (j := 14) rfl]
            simp only [intOf]
            omega
          · skip
            refine wp_seq ?_
            refine wp_seq ?_
            refine wp_region_lit ?_
            refine wl_v _ (r_move (H.ev rfl)) ?_; refine kl H rfl fun a H => ?_
            refine wl_v _ (r_move (H.ev rfl)) ?_; refine kl H rfl fun a H => ?_
            refine wl_v _ (r_len Try.underlying22 (H.ev rfl)) ?_; refine kl H rfl fun a H => ?_
            refine wl_v _ (r_lt Try.underlying3 (H.ev rfl) (H.ev rfl) (dec_f (by omega))) ?_; refine kl H rfl fun a H => ?_
            refine wpList_nil ?_
            refine c_next ?_
            refine c_cond_f H rfl ?_
            refine wp_exit ?_
            refine e_then ?_
            refine e_then ?_
            refine e_here ?_
            refine n_block ?_
            refine c_next ?_
            refine wp_region_lit ?_
            refine wl_v _ (r_move (H.ev rfl)) ?_; refine kl H rfl fun a H => ?_
            refine wl_v _ (r_add (q := ((k + 1 : Nat) : Int)) Try.underlying3 (H.ev rfl) evc (by omega) (by omega)) ?_; refine kl H rfl fun a H => ?_
            refine wl_v _ (r_assign (H.ev rfl)) ?_; refine kl H rfl fun a H => ?_
            refine wpList_nil ?_
            refine n_then ⟨⟨k + 1, M, vx, H.pick [1, 5, 6, 7], by omega, TOwn.row ownx, HRM.out, hall⟩, ?_⟩
            rw [H.ev (j := 7) rfl, H0.ev (j := 7) rfl]
            simp only [intOf]
            omega
        · skip
          obtain rfl : k = V.length := by omega
          refine wp_seq ?_
          refine wp_seq ?_
          refine wp_region_lit ?_
          refine wl_v _ (r_move (H.ev rfl)) ?_; refine kl H rfl fun a H => ?_
          refine wl_v _ (r_move (H.ev rfl)) ?_; refine kl H rfl fun a H => ?_
          refine wl_v _ (r_len Try.underlying23 (H.ev rfl)) ?_; refine kl H rfl fun a H => ?_
          refine wl_v _ (r_lt Try.underlying3 (H.ev rfl) (H.ev rfl) (dec_f (by omega))) ?_; refine kl H rfl fun a H => ?_
          refine wpList_nil ?_
          refine c_next ?_
          refine c_cond_f H rfl ?_
          refine wp_exit ?_
          refine e_then ?_
          refine e_then ?_
          refine e_here ?_
          refine c_next ?_
          refine wp_seq ?_
          refine wp_region_lit ?_
          refine wl_v _ (r_move (H.ev rfl)) ?_; refine kl H rfl fun a H => ?_
          refine wl_v _ (r_assign (H.ev rfl)) ?_; refine kl H rfl fun a H => ?_
          refine wpList_nil ?_
          refine c_next ?_
          refine wp_ret ?_
          exact k_ret1 H rfl rfl ⟨rfl, hall⟩
theorem tells_all (w : World) (A : Option Addr) (n c : Nat) (B : List Int) (AV : Option Addr) (nV cV : Nat) (BV : List Int) (hB : B.length = n * 3) (hw : WF B) (hnc : n ≤ c) (hc : c ≤ maxLen) (hh : Holds w A (B.map (Value.int .i64))) (hz : A = none → c = 0) (hn : n ≤ 9223372036854775807)
    (hBV : BV.length = nV * 3) (hwV : WF BV) (hhV : Holds w AV (BV.map (Value.int .i64))) (hnV : nV ≤ 9223372036854775807) :
    Calls Try.prog 3 #[.slice A n c, .slice AV nV cV] w fun e w' => e = .returned (.bool true) ∧ Below w.heap.size w w' := by
  obtain ⟨L, h, rfl, hwf⟩ := row_in hB hw hnc hc hh hz
  obtain ⟨V, rfl, hVw, hV⟩ := acts_in hBV hwV hhV
  exact tells_walk w _ L AV cV V h hn hwf hnV hV
theorem rosterTells_it0 : intTy Try.prog 3 37 = true := by kernel_rfl
theorem rosterTells_c0 : Try.prog.cellsOf 37 = 3 := by kernel_rfl
theorem rosterTells_it1 : intTy Try.prog 3 27 = true := by kernel_rfl
theorem rosterTells_c1 : Try.prog.cellsOf 27 = 3 := by kernel_rfl
set_option maxRecDepth 100000 in
theorem rosterTells_lifted (os : Os) (started : os.Started) (H : Type) (enc : TypeId × Value → H) :
    ReturnsInHanded {} Try.checked os 3 .any (Rows.rosterTellsSpec.pre6 enc Try.prog Try.f3 Rows.rosterTellsRow.domain false) (Rows.rosterTellsSpec.post enc Try.prog Try.f3 false true false false) := by
  refine returnsInHanded_of_change (C := Try.checked) own started (by kernel_rfl) Try.func3
    (ChangeSpec.witness6 (enc := enc) (C := Try.checked) false ⟨#[], #[.slice none 0 0, .slice none 0 0], []⟩ 8 (by kernel_rfl) (by kernel_rfl) (by kernel_rfl) (by kernel_rfl)) ?_
  intro W base args ds gs before hval0 hW hcnd _
  have hval : ∀ (j : Nat) t v, Try.f3.params[j]? = some t → args[j]? = some v → Value.okWide Try.prog W .any base t v := hval0
  have hW' := hW
  obtain ⟨p, q, hA0, hV, rfl, hfz, hnd⟩ := hW
  have hA : DataW.TrodAll enc Try.prog W 0 (fun _ => true) true Try.f3.params.toList args.toList ds p := hA0
  rw [Try.params3] at hA hval
  obtain ⟨v0, vs0, d0, ds0, p0, q0, hargs, rfl, rfl, h0, r0⟩ := trodAll_cons hA
  obtain ⟨v1, vs1, d1, ds1, p1, q1, rfl, rfl, rfl, h1, r1⟩ := trodAll_cons r0
  obtain ⟨rfl, rfl, rfl⟩ := trodAll_nil r1
  obtain rfl : args = #[v0, v1] := by cases args; simp_all
  obtain ⟨rfl, rfl⟩ := trodVars_none hV
  have k0 := h0
  have lt0 : ∀ x ∈ p0, x.block < W.heap.size := by obtain ⟨m, hm⟩ := k0; exact DataW.trod_lt m _ _ _ hm
  have k1 := h1
  have lt1 : ∀ x ∈ p1, x.block < W.heap.size := by obtain ⟨m, hm⟩ := k1; exact DataW.trod_lt m _ _ _ hm
  obtain ⟨A0, n0, c0, L0, rfl, hn0, hw0, hnc0, hcm0, hh0, hz0⟩ := open_slice_ints 3 3 Try.underlying22 rosterTells_it0 rosterTells_c0 (by omega) (hval 0 22 v0 rfl rfl) h0
  have hb0 : n0 ≤ 9223372036854775807 := by unfold maxLen at hcm0; omega
  obtain ⟨A1, n1, c1, L1, rfl, hn1, hw1, hnc1, hcm1, hh1, hz1⟩ := open_slice_ints 3 3 Try.underlying23 rosterTells_it1 rosterTells_c1 (by omega) (hval 1 23 v1 rfl rfl) h1
  have hb1 : n1 ≤ 9223372036854775807 := by unfold maxLen at hcm1; omega
  clear hA0 hval0
  refine (tells_all W A0 n0 c0 L0 A1 n1 c1 L1 hn0 hw0 hnc0 hcm0 hh0 hz0 (by omega) hn1 hw1 hh1 (by omega)).mono fun e W' ⟨he, bel⟩ => ?_
  subst he
  exact ⟨_, rfl, _, _, _, [], _, [], hW', trodAll_mk1 (shut_bool Try.underlying4 _), (trodAll_cons_mk (Below.trod laidOut (by kernel_rfl) (of_decide_eq_true (by kernel_rfl)) k0 bel lt0) (trodAll_cons_mk (Below.trod laidOut (by kernel_rfl) (of_decide_eq_true (by kernel_rfl)) k1 bel lt1) trodAll_mk0)), rfl, bel.frame _, fun h => by cases h⟩

theorem rosterTells_holds : Rows.RosterTellsSaid :=
  OpenClaim.holds_of_wide 3 Try.f3 rfl rfl rfl rfl rfl rfl rfl ⟨rfl, rfl, rfl, rfl, rfl⟩ rfl rfl rfl rfl rfl (by kernel_rfl) Try.func3 (by kernel_rfl)
    (of_decide_eq_true (by kernel_rfl)) (by unfold Func.isWrapper; first | (rw [if_pos (by decide +kernel)]; kernel_rfl) | (rw [if_neg (by decide +kernel)]; exact ⟨rfl, rfl⟩))
    (fun os started H enc _ => rosterTells_lifted os started H enc)
#print axioms rosterTells_holds
end Go.Proofs.Ytfehhenbdiageaa
