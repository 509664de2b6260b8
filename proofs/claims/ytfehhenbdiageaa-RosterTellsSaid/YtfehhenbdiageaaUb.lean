/- Roster: Step. -/
import Derived.Test.YtfehhenbdiageaaU
namespace Go.Proofs.Ytfehhenbdiageaa
open Go.RowKit
set_option linter.unusedVariables false
set_option linter.unusedSimpArgs false

def tabL : List Int := [1, -1, -1, -1, -1, 4, -1, -1, 0, 2, 3, -1, 4, -1, -1, 0, -1, -1, 0, 4, -1, 1, 0, -1, -1, -1, 4, -1, -1, -1, -1, -1, -1, -1, 0]
abbrev TAB : Array Value := ints tabL
/-- what a state becomes, -1 for nothing -/
def toI (s op : Int) : Int :=
  if op = 1 then (if s = 0 ∨ s = 3 then 1 else -1) else if op = 2 then (if 1 ≤ s ∧ s ≤ 3 then 0 else -1) else if op = 3 then (if s = 1 then 2 else -1)
  else if op = 4 then (if s = 1 then 3 else -1) else if op = 5 then (if s = 2 then 0 else -1) else if op = 6 then (if s ≠ 4 then 4 else -1) else if op = 7 then (if s = 4 then 0 else -1) else -1
def stepF (s op : Int) : Int × Int := if s < 0 ∨ 4 < s ∨ op < 1 ∨ 7 < op then (0, 1) else if toI s op = -1 then (0, 8) else (toI s op, 0)
theorem stepF_bad {s op : Int} (h : s < 0 ∨ 4 < s ∨ op < 1 ∨ 7 < op) : stepF s op = (0, 1) := if_pos h
theorem stepF_no {s op : Int} (h : ¬ (s < 0 ∨ 4 < s ∨ op < 1 ∨ 7 < op)) (ht : toI s op = -1) : stepF s op = (0, 8) := by unfold stepF; rw [if_neg h, if_pos ht]
theorem stepF_yes {s op t : Int} (h : ¬ (s < 0 ∨ 4 < s ∨ op < 1 ∨ 7 < op)) (ht : toI s op = t) (hn : t ≠ -1) : stepF s op = (t, 0) := by unfold stepF; rw [if_neg h, ht, if_neg hn]
theorem tab_at {j o : Nat} (hj : j < 5) (ho : o < 7) : TAB[0 + j * 7 + o * 1]? = some (.int .i64 (toI (j : Nat) ((o + 1 : Nat) : Int))) := by
  have h : ∀ j : Fin 5, ∀ o : Fin 7, tabL[j.1 * 7 + o.1]? = some (toI (j.1 : Nat) ((o.1 + 1 : Nat) : Int)) := by decide
  have := h ⟨j, hj⟩ ⟨o, ho⟩
  rw [ints_at, Nat.zero_add, Nat.mul_one, this]
  rfl
theorem z60 : (Try.prog.info? 60).map (·.zero) = some (some (.agg (ints (List.replicate 35 0)))) := by kernel_rfl
theorem k_ret_cell {P : Program} {a : Act} {w : World} {n : Nat} {l : List (Nat × Value)} {fn : Func} {R : Ending → World → Prop} {p : Tmp} {ty : TypeId} {g : Nat} {t : TypeId} {C : Array Value} {ds : TypeDesc} (H : Kn a n l) (hf : fn.results = #[.cell p ty]) (hp : lk l p = some (.pointer (some ⟨g, 0, none⟩)))
    (hg : Block w g t C) (hu : P.underlying ty = some ds) (hd : (match ds with | .struct _ | .array _ _ => true | _ => false) = true) (hi : (P.info? ty).map (·.size) = some C.size) (h : R (.returned (.agg C)) w) : bodyPost P fn R .ret a w :=
  ⟨H.defers, _, res_row hf a.tmps w g t C ds (H.at_ p _ hp) hg hu hd hi, h⟩
theorem table_any (w : World) : Calls Try.prog 43 #[] w fun e w' => e = .returned (.agg TAB) ∧ Below w.heap.size w w' := by
  have hall := Below.refl w.heap.size w
  refine K_enter 7 Try.func43 rfl rfl fun a H => ?_
  replace H := H.pick []
  refine wp_seq ?_
  refine wp_region_lit ?_
  refine op_alloc 60 _ z60 fun w0 b0 hge hb k0 => ?_; have g0 := Nat.le_trans hall.size hge; replace hall := hall.trans (hb.mono hall.size); clear hb hge; refine kl H rfl fun a H => ?_
  refine wpList_nil ?_
  refine c_next ?_
  refine wp_seq ?_
  refine wp_region_lit ?_
  refine wl_v _ (r_build #[(0, .int .i64 1), (1, .int .i64 (-1)), (2, .int .i64 (-1)), (3, .int .i64 (-1)), (4, .int .i64 (-1)), (5, .int .i64 4), (6, .int .i64 (-1))] (.agg #[.int .i64 1, .int .i64 (-1), .int .i64 (-1), .int .i64 (-1), .int .i64 (-1), .int .i64 4, .int .i64 (-1)]) (by simp [evc]) (fun w => by kernel_rfl)) ?_; refine kl H rfl fun a H => ?_
  refine wl_v _ (r_build #[(0, .int .i64 (-1)), (1, .int .i64 0), (2, .int .i64 2), (3, .int .i64 3), (4, .int .i64 (-1)), (5, .int .i64 4), (6, .int .i64 (-1))] (.agg #[.int .i64 (-1), .int .i64 0, .int .i64 2, .int .i64 3, .int .i64 (-1), .int .i64 4, .int .i64 (-1)]) (by simp [evc]) (fun w => by kernel_rfl)) ?_; refine kl H rfl fun a H => ?_
  refine wl_v _ (r_build #[(0, .int .i64 (-1)), (1, .int .i64 0), (2, .int .i64 (-1)), (3, .int .i64 (-1)), (4, .int .i64 0), (5, .int .i64 4), (6, .int .i64 (-1))] (.agg #[.int .i64 (-1), .int .i64 0, .int .i64 (-1), .int .i64 (-1), .int .i64 0, .int .i64 4, .int .i64 (-1)]) (by simp [evc]) (fun w => by kernel_rfl)) ?_; refine kl H rfl fun a H => ?_
  refine wl_v _ (r_build #[(0, .int .i64 1), (1, .int .i64 0), (2, .int .i64 (-1)), (3, .int .i64 (-1)), (4, .int .i64 (-1)), (5, .int .i64 4), (6, .int .i64 (-1))] (.agg #[.int .i64 1, .int .i64 0, .int .i64 (-1), .int .i64 (-1), .int .i64 (-1), .int .i64 4, .int .i64 (-1)]) (by simp [evc]) (fun w => by kernel_rfl)) ?_; refine kl H rfl fun a H => ?_
  refine wl_v _ (r_build #[(0, .int .i64 (-1)), (1, .int .i64 (-1)), (2, .int .i64 (-1)), (3, .int .i64 (-1)), (4, .int .i64 (-1)), (5, .int .i64 (-1)), (6, .int .i64 0)] (.agg #[.int .i64 (-1), .int .i64 (-1), .int .i64 (-1), .int .i64 (-1), .int .i64 (-1), .int .i64 (-1), .int .i64 0]) (by simp [evc]) (fun w => by kernel_rfl)) ?_; refine kl H rfl fun a H => ?_
  refine wl_v (.agg TAB) (r_build #[(0, .agg #[.int .i64 1, .int .i64 (-1), .int .i64 (-1), .int .i64 (-1), .int .i64 (-1), .int .i64 4, .int .i64 (-1)]), (1, .agg #[.int .i64 (-1), .int .i64 0, .int .i64 2, .int .i64 3, .int .i64 (-1), .int .i64 4, .int .i64 (-1)]), (2, .agg #[.int .i64 (-1), .int .i64 0, .int .i64 (-1), .int .i64 (-1), .int .i64 0, .int .i64 4, .int .i64 (-1)]), (3, .agg #[.int .i64 1, .int .i64 0, .int .i64 (-1), .int .i64 (-1), .int .i64 (-1), .int .i64 4, .int .i64 (-1)]), (4, .agg #[.int .i64 (-1), .int .i64 (-1), .int .i64 (-1), .int .i64 (-1), .int .i64 (-1), .int .i64 (-1), .int .i64 0])] _ (by simp [H.ev (j := 1) rfl, H.ev (j := 2) rfl, H.ev (j := 3) rfl, H.ev (j := 4) rfl, H.ev (j := 5) rfl]) (fun w => by kernel_rfl)) ?_; refine kl H rfl fun a H => ?_
  refine op_store 60 (.tmp 0) (.tmp 6) b0 60 TAB _ (H.ev rfl) (H.ev rfl) k0 s60 rfl (ints_one _) fun w' hb ho kq => ?_; replace hall := hall.trans (hb _ g0); clear hb ho k0; refine kl0 H fun a H => ?_
  refine wpList_nil ?_
  refine c_next ?_
  refine wp_ret ?_
  exact k_ret_cell H rfl rfl kq Try.underlying60 rfl s60 ⟨rfl, hall⟩
theorem step_any (s op : Int) (w : World) : Calls Try.prog 24 #[.int .i64 s, .int .i64 op] w fun e w' => e = .returned (.tuple #[.int .i64 (stepF s op).1, .int .i64 (stepF s op).2]) ∧ Below w.heap.size w w' := by
  have hall := Below.refl w.heap.size w
  by_cases hbad : s < 0 ∨ 4 < s ∨ op < 1 ∨ 7 < op
  · skip
    refine K_enter 32 Try.func24 rfl rfl fun a H => ?_
    replace H := H.pick [0, 1]
    refine wp_seq ?_
    refine wp_region_lit ?_
    refine wl_v _ (r_assign evc) ?_; refine kl H rfl fun a H => ?_
    refine wl_v _ (r_assign evc) ?_; refine kl H rfl fun a H => ?_
    refine wpList_nil ?_
    refine c_next ?_
    refine wp_seq ?_
    refine wp_region_lit ?_
    refine wl_call _ _ _ (table_any _) (r_call0 cf43) ?_; rintro e w9 ⟨rfl, hb⟩; refine ⟨_, rfl, ?_⟩; replace hall := hall.trans (hb.mono hall.size); clear hb; refine kl H rfl fun a H => ?_
    refine op_new 60 6 (.tmp 8) TAB _ z60 s60 rfl (ints_one _) (fun p => (H.put 6 p rfl).ev rfl) (fun p => (H.put 6 p rfl).ev rfl) fun w0 b0 hge hb k0 => ?_; replace hall := hall.trans (hb.mono hall.size); clear hge hb; refine kl H rfl fun a H => ?_
    refine wpList_nil ?_
    refine c_next ?_
    refine wp_seq ?_
    refine wp_seq ?_
    refine wp_region_lit ?_
    refine wl_v _ (r_move (H.ev rfl)) ?_; refine kl H rfl fun a H => ?_
    by_cases c0 : s < 0
    · skip
      refine wl_v _ (r_lt Try.underlying3 (H.ev rfl) evc (dec_t (c0))) ?_; refine kl H rfl fun a H => ?_
      refine wl_v _ (r_move (H.ev rfl)) ?_; refine kl H rfl fun a H => ?_
      refine wl_s (kg_no rfl H rfl rfl rfl) ?_; refine kl H rfl fun a H => ?_
      refine wl_s (kg_no rfl H rfl rfl rfl) ?_; refine kl H rfl fun a H => ?_
      refine wl_v _ (r_pick_t (H.ev rfl) evc) ?_; refine kl H rfl fun a H => ?_
      refine wl_v _ (r_move (H.ev rfl)) ?_; refine kl H rfl fun a H => ?_
      refine wl_s (kg_no rfl H rfl rfl rfl) ?_; refine kl H rfl fun a H => ?_
      refine wl_s (kg_no rfl H rfl rfl rfl) ?_; refine kl H rfl fun a H => ?_
      refine wl_v _ (r_pick_t (H.ev rfl) evc) ?_; refine kl H rfl fun a H => ?_
      refine wl_v _ (r_move (H.ev rfl)) ?_; refine kl H rfl fun a H => ?_
      refine wl_s (kg_no rfl H rfl rfl rfl) ?_; refine kl H rfl fun a H => ?_
      refine wl_s (kg_no rfl H rfl rfl rfl) ?_; refine kl H rfl fun a H => ?_
      refine wl_v _ (r_pick_t (H.ev rfl) evc) ?_; refine kl H rfl fun a H => ?_
      refine wpList_nil ?_
      refine c_next ?_
      refine c_cond_t H rfl ?_
      refine wp_seq ?_
      refine wp_region_lit ?_
      refine wl_v _ (r_assign evc) ?_; refine kl H rfl fun a H => ?_
      refine wl_v _ (r_assign evc) ?_; refine kl H rfl fun a H => ?_
      refine wpList_nil ?_
      refine c_next ?_
      refine wp_ret ?_
      refine r_then ?_
      exact k_ret2 H rfl rfl rfl ⟨by rw [show stepF s op = (0, 1) from if_pos hbad], hall⟩
    · skip
      refine wl_v _ (r_lt Try.underlying3 (H.ev rfl) evc (dec_f (c0))) ?_; refine kl H rfl fun a H => ?_
      refine wl_v _ (r_move (H.ev rfl)) ?_; refine kl H rfl fun a H => ?_
      refine op_unguard _ _ (kg_yes rfl H rfl rfl rfl) ?_; refine wl_v _ (r_move (H.ev rfl)) ?_; refine kl H rfl fun a H => ?_
      by_cases c1 : s ≥ 5
      · skip
        refine op_unguard _ _ (kg_yes rfl H rfl rfl rfl) ?_; refine wl_v _ (r_ge Try.underlying3 (H.ev rfl) evc (dec_t (c1))) ?_; refine kl H rfl fun a H => ?_
        refine wl_v _ (r_pick_f (H.ev rfl) (H.ev rfl)) ?_; refine kl H rfl fun a H => ?_
        refine wl_v _ (r_move (H.ev rfl)) ?_; refine kl H rfl fun a H => ?_
        refine wl_s (kg_no rfl H rfl rfl rfl) ?_; refine kl H rfl fun a H => ?_
        refine wl_s (kg_no rfl H rfl rfl rfl) ?_; refine kl H rfl fun a H => ?_
        refine wl_v _ (r_pick_t (H.ev rfl) evc) ?_; refine kl H rfl fun a H => ?_
        refine wl_v _ (r_move (H.ev rfl)) ?_; refine kl H rfl fun a H => ?_
        refine wl_s (kg_no rfl H rfl rfl rfl) ?_; refine kl H rfl fun a H => ?_
        refine wl_s (kg_no rfl H rfl rfl rfl) ?_; refine kl H rfl fun a H => ?_
        refine wl_v _ (r_pick_t (H.ev rfl) evc) ?_; refine kl H rfl fun a H => ?_
        refine wpList_nil ?_
        refine c_next ?_
        refine c_cond_t H rfl ?_
        refine wp_seq ?_
        refine wp_region_lit ?_
        refine wl_v _ (r_assign evc) ?_; refine kl H rfl fun a H => ?_
        refine wl_v _ (r_assign evc) ?_; refine kl H rfl fun a H => ?_
        refine wpList_nil ?_
        refine c_next ?_
        refine wp_ret ?_
        refine r_then ?_
        exact k_ret2 H rfl rfl rfl ⟨by rw [show stepF s op = (0, 1) from if_pos hbad], hall⟩
      · skip
        refine op_unguard _ _ (kg_yes rfl H rfl rfl rfl) ?_; refine wl_v _ (r_ge Try.underlying3 (H.ev rfl) evc (dec_f (c1))) ?_; refine kl H rfl fun a H => ?_
        refine wl_v _ (r_pick_f (H.ev rfl) (H.ev rfl)) ?_; refine kl H rfl fun a H => ?_
        refine wl_v _ (r_move (H.ev rfl)) ?_; refine kl H rfl fun a H => ?_
        refine op_unguard _ _ (kg_yes rfl H rfl rfl rfl) ?_; refine wl_v _ (r_move (H.ev rfl)) ?_; refine kl H rfl fun a H => ?_
        by_cases c2 : op < 1
        · skip
          refine op_unguard _ _ (kg_yes rfl H rfl rfl rfl) ?_; refine wl_v _ (r_lt Try.underlying3 (H.ev rfl) evc (dec_t (c2))) ?_; refine kl H rfl fun a H => ?_
          refine wl_v _ (r_pick_f (H.ev rfl) (H.ev rfl)) ?_; refine kl H rfl fun a H => ?_
          refine wl_v _ (r_move (H.ev rfl)) ?_; refine kl H rfl fun a H => ?_
          refine wl_s (kg_no rfl H rfl rfl rfl) ?_; refine kl H rfl fun a H => ?_
          refine wl_s (kg_no rfl H rfl rfl rfl) ?_; refine kl H rfl fun a H => ?_
          refine wl_v _ (r_pick_t (H.ev rfl) evc) ?_; refine kl H rfl fun a H => ?_
          refine wpList_nil ?_
          refine c_next ?_
          refine c_cond_t H rfl ?_
          refine wp_seq ?_
          refine wp_region_lit ?_
          refine wl_v _ (r_assign evc) ?_; refine kl H rfl fun a H => ?_
          refine wl_v _ (r_assign evc) ?_; refine kl H rfl fun a H => ?_
          refine wpList_nil ?_
          refine c_next ?_
          refine wp_ret ?_
          refine r_then ?_
          exact k_ret2 H rfl rfl rfl ⟨by rw [show stepF s op = (0, 1) from if_pos hbad], hall⟩
        · skip
          refine op_unguard _ _ (kg_yes rfl H rfl rfl rfl) ?_; refine wl_v _ (r_lt Try.underlying3 (H.ev rfl) evc (dec_f (c2))) ?_; refine kl H rfl fun a H => ?_
          refine wl_v _ (r_pick_f (H.ev rfl) (H.ev rfl)) ?_; refine kl H rfl fun a H => ?_
          refine wl_v _ (r_move (H.ev rfl)) ?_; refine kl H rfl fun a H => ?_
          refine op_unguard _ _ (kg_yes rfl H rfl rfl rfl) ?_; refine wl_v _ (r_move (H.ev rfl)) ?_; refine kl H rfl fun a H => ?_
          by_cases c3 : op > 7
          · skip
            refine op_unguard _ _ (kg_yes rfl H rfl rfl rfl) ?_; refine wl_v _ (r_gt Try.underlying3 (H.ev rfl) evc (dec_t (c3))) ?_; refine kl H rfl fun a H => ?_
            refine wl_v _ (r_pick_f (H.ev rfl) (H.ev rfl)) ?_; refine kl H rfl fun a H => ?_
            refine wpList_nil ?_
            refine c_next ?_
            refine c_cond_t H rfl ?_
            refine wp_seq ?_
            refine wp_region_lit ?_
            refine wl_v _ (r_assign evc) ?_; refine kl H rfl fun a H => ?_
            refine wl_v _ (r_assign evc) ?_; refine kl H rfl fun a H => ?_
            refine wpList_nil ?_
            refine c_next ?_
            refine wp_ret ?_
            refine r_then ?_
            exact k_ret2 H rfl rfl rfl ⟨by rw [show stepF s op = (0, 1) from if_pos hbad], hall⟩
          · skip
            refine op_unguard _ _ (kg_yes rfl H rfl rfl rfl) ?_; refine wl_v _ (r_gt Try.underlying3 (H.ev rfl) evc (dec_f (c3))) ?_; refine kl H rfl fun a H => ?_
            refine wl_v _ (r_pick_f (H.ev rfl) (H.ev rfl)) ?_; refine kl H rfl fun a H => ?_
            refine wpList_nil ?_
            refine c_next ?_
            refine c_cond_f H rfl ?_
            refine wp_skip ?_
            refine c_next ?_
            refine wp_seq ?_
            refine wp_seq ?_
            exfalso; omega
  · skip
    obtain ⟨j, rfl⟩ : ∃ j : Nat, s = (j : Nat) := ⟨s.toNat, by omega⟩
    obtain ⟨o, rfl⟩ : ∃ o : Nat, op = ((o + 1 : Nat) : Int) := ⟨(op - 1).toNat, by omega⟩
    have hj : j < 5 := by omega
    have ho : o < 7 := by omega
    obtain ⟨z, hz⟩ : ∃ z, toI (j : Nat) ((o + 1 : Nat) : Int) = z := ⟨_, rfl⟩
    have HT : Hid (TAB[0 + j * 7 + o * 1]? = some (.int .i64 z)) := Lib.hid (by rw [← hz]; exact tab_at hj ho)
    have HS : Hid ((z ≠ -1 → stepF (j : Nat) ((o + 1 : Nat) : Int) = (z, 0)) ∧ (z = -1 → stepF (j : Nat) ((o + 1 : Nat) : Int) = (0, 8))) := Lib.hid ⟨fun h => by unfold stepF; rw [if_neg hbad, hz, if_neg h], fun h => by unfold stepF; rw [if_neg hbad, hz, if_pos h]⟩
    clear hz hbad
    refine K_enter 32 Try.func24 rfl rfl fun a H => ?_
    replace H := H.pick [0, 1]
    refine wp_seq ?_
    refine wp_region_lit ?_
    refine wl_v _ (r_assign evc) ?_; refine kl H rfl fun a H => ?_
    refine wl_v _ (r_assign evc) ?_; refine kl H rfl fun a H => ?_
    refine wpList_nil ?_
    refine c_next ?_
    refine wp_seq ?_
    refine wp_region_lit ?_
    refine wl_call _ _ _ (table_any _) (r_call0 cf43) ?_; rintro e w9 ⟨rfl, hb⟩; refine ⟨_, rfl, ?_⟩; replace hall := hall.trans (hb.mono hall.size); clear hb; refine kl H rfl fun a H => ?_
    refine op_new 60 6 (.tmp 8) TAB _ z60 s60 rfl (ints_one _) (fun p => (H.put 6 p rfl).ev rfl) (fun p => (H.put 6 p rfl).ev rfl) fun w0 b0 hge hb k0 => ?_; replace hall := hall.trans (hb.mono hall.size); clear hge hb; refine kl H rfl fun a H => ?_
    refine wpList_nil ?_
    refine c_next ?_
    refine wp_seq ?_
    refine wp_seq ?_
    refine wp_region_lit ?_
    refine wl_v _ (r_move (H.ev rfl)) ?_; refine kl H rfl fun a H => ?_
    refine wl_v _ (r_lt Try.underlying3 (H.ev rfl) evc (dec_f (by omega))) ?_; refine kl H rfl fun a H => ?_
    refine wl_v _ (r_move (H.ev rfl)) ?_; refine kl H rfl fun a H => ?_
    refine op_unguard _ _ (kg_yes rfl H rfl rfl rfl) ?_; refine wl_v _ (r_move (H.ev rfl)) ?_; refine kl H rfl fun a H => ?_
    refine op_unguard _ _ (kg_yes rfl H rfl rfl rfl) ?_; refine wl_v _ (r_ge Try.underlying3 (H.ev rfl) evc (dec_f (by omega))) ?_; refine kl H rfl fun a H => ?_
    refine wl_v _ (r_pick_f (H.ev rfl) (H.ev rfl)) ?_; refine kl H rfl fun a H => ?_
    refine wl_v _ (r_move (H.ev rfl)) ?_; refine kl H rfl fun a H => ?_
    refine op_unguard _ _ (kg_yes rfl H rfl rfl rfl) ?_; refine wl_v _ (r_move (H.ev rfl)) ?_; refine kl H rfl fun a H => ?_
    refine op_unguard _ _ (kg_yes rfl H rfl rfl rfl) ?_; refine wl_v _ (r_lt Try.underlying3 (H.ev rfl) evc (dec_f (by omega))) ?_; refine kl H rfl fun a H => ?_
    refine wl_v _ (r_pick_f (H.ev rfl) (H.ev rfl)) ?_; refine kl H rfl fun a H => ?_
    refine wl_v _ (r_move (H.ev rfl)) ?_; refine kl H rfl fun a H => ?_
    refine op_unguard _ _ (kg_yes rfl H rfl rfl rfl) ?_; refine wl_v _ (r_move (H.ev rfl)) ?_; refine kl H rfl fun a H => ?_
    refine op_unguard _ _ (kg_yes rfl H rfl rfl rfl) ?_; refine wl_v _ (r_gt Try.underlying3 (H.ev rfl) evc (dec_f (by omega))) ?_; refine kl H rfl fun a H => ?_
    refine wl_v _ (r_pick_f (H.ev rfl) (H.ev rfl)) ?_; refine kl H rfl fun a H => ?_
    refine wpList_nil ?_
    refine c_next ?_
    refine c_cond_f H rfl ?_
    refine wp_skip ?_
    refine c_next ?_
    refine wp_seq ?_
    refine wp_seq ?_
    refine wp_region_lit ?_
    refine wl_v _ (r_move (H.ev rfl)) ?_; refine kl H rfl fun a H => ?_
    refine wl_v _ (r_move (H.ev rfl)) ?_; refine kl H rfl fun a H => ?_
    refine wl_v (.int .i64 (o : Nat)) (r_sub (q := ((o : Nat) : Int)) Try.underlying3 (H.ev rfl) evc (by omega) (by omega)) ?_; refine kl H rfl fun a H => ?_
    refine wl_v (.pointer (some ⟨b0, 0 + j * 7, none⟩)) (r_ixa (j := j) Try.underlying60 s59 (H.ev rfl) (H.ev rfl) (by omega) rfl) ?_; refine kl H rfl fun a H => ?_
    refine wl_v (.pointer (some ⟨b0, 0 + j * 7 + o * 1, none⟩)) (r_ixa (j := o) Try.underlying59 s3 (H.ev rfl) (H.ev rfl) (by omega) rfl) ?_; refine kl H rfl fun a H => ?_
    refine wl_v (.int .i64 z) (r_ld Try.underlying3 rfl (H.ev rfl) ((k0.cell _).trans (by rw [HT.out]))) ?_; refine kl H rfl fun a H => ?_
    refine wl_v _ (r_assign (H.ev rfl)) ?_; refine kl H rfl fun a H => ?_
    refine wpList_nil ?_
    refine c_next ?_
    refine wp_seq ?_
    refine wp_region_lit ?_
    refine wl_v _ (r_move (H.ev rfl)) ?_; refine kl H rfl fun a H => ?_
    by_cases c0 : z ≠ (-1)
    · skip
      refine wl_v _ (r_ne Try.underlying3 (H.ev rfl) evc (dec_t (c0))) ?_; refine kl H rfl fun a H => ?_
      refine wpList_nil ?_
      refine c_next ?_
      refine c_cond_t H rfl ?_
      refine wp_seq ?_
      refine wp_region_lit ?_
      refine wl_v _ (r_move (H.ev rfl)) ?_; refine kl H rfl fun a H => ?_
      refine wl_v _ (r_assign (H.ev rfl)) ?_; refine kl H rfl fun a H => ?_
      refine wl_v _ (r_assign evc) ?_; refine kl H rfl fun a H => ?_
      refine wpList_nil ?_
      refine c_next ?_
      refine wp_ret ?_
      refine r_then ?_
      exact k_ret2 H rfl rfl rfl ⟨by rw [show stepF (j : Nat) ((o + 1 : Nat) : Int) = (z, 0) from HS.out.1 (by omega)], hall⟩
    · skip
      refine wl_v _ (r_ne Try.underlying3 (H.ev rfl) evc (dec_f (c0))) ?_; refine kl H rfl fun a H => ?_
      refine wpList_nil ?_
      refine c_next ?_
      refine c_cond_f H rfl ?_
      refine wp_skip ?_
      refine c_next ?_
      refine wp_seq ?_
      refine wp_region_lit ?_
      refine wl_v _ (r_assign evc) ?_; refine kl H rfl fun a H => ?_
      refine wl_v _ (r_assign evc) ?_; refine kl H rfl fun a H => ?_
      refine wpList_nil ?_
      refine c_next ?_
      refine wp_ret ?_
      exact k_ret2 H rfl rfl rfl ⟨by rw [show stepF (j : Nat) ((o + 1 : Nat) : Int) = (0, 8) from HS.out.2 (by omega)], hall⟩
set_option maxHeartbeats 4000000 in
theorem rstep_any (s op : Int) (w : World) : Calls Try.prog 37 #[.int .i64 s, .int .i64 op] w fun e w' => e = .returned (.tuple #[.int .i64 (stepF s op).1, .int .i64 (stepF s op).2]) ∧ w = w' := by
  refine K_enter 61 Try.func37 rfl rfl fun a H => ?_
  replace H := H.pick [0, 1]
  refine wp_seq ?_
  refine wp_region_lit ?_
  refine wl_v _ (r_assign evc) ?_; refine kl H rfl fun a H => ?_
  refine wl_v _ (r_assign evc) ?_; refine kl H rfl fun a H => ?_
  refine wpList_nil ?_
  refine c_next ?_
  refine wp_seq ?_
  refine wp_seq ?_
  refine wp_region_lit ?_
  refine wl_v _ (r_move (H.ev rfl)) ?_; refine kl H rfl fun a H => ?_
  by_cases c0 : s < 0
  · skip
    refine wl_v _ (r_lt Try.underlying3 (H.ev rfl) evc (dec_t (c0))) ?_; refine kl H rfl fun a H => ?_
    refine wl_v _ (r_move (H.ev rfl)) ?_; refine kl H rfl fun a H => ?_
    refine wl_s (kg_no rfl H rfl rfl rfl) ?_; refine kl H rfl fun a H => ?_
    refine wl_s (kg_no rfl H rfl rfl rfl) ?_; refine kl H rfl fun a H => ?_
    refine wl_v _ (r_pick_t (H.ev rfl) evc) ?_; refine kl H rfl fun a H => ?_
    refine wl_v _ (r_move (H.ev rfl)) ?_; refine kl H rfl fun a H => ?_
    refine wl_s (kg_no rfl H rfl rfl rfl) ?_; refine kl H rfl fun a H => ?_
    refine wl_s (kg_no rfl H rfl rfl rfl) ?_; refine kl H rfl fun a H => ?_
    refine wl_v _ (r_pick_t (H.ev rfl) evc) ?_; refine kl H rfl fun a H => ?_
    refine wl_v _ (r_move (H.ev rfl)) ?_; refine kl H rfl fun a H => ?_
    refine wl_s (kg_no rfl H rfl rfl rfl) ?_; refine kl H rfl fun a H => ?_
    refine wl_s (kg_no rfl H rfl rfl rfl) ?_; refine kl H rfl fun a H => ?_
    refine wl_v _ (r_pick_t (H.ev rfl) evc) ?_; refine kl H rfl fun a H => ?_
    refine wpList_nil ?_
    refine c_next ?_
    refine c_cond_t H rfl ?_
    refine wp_seq ?_
    refine wp_region_lit ?_
    refine wl_v _ (r_assign evc) ?_; refine kl H rfl fun a H => ?_
    refine wl_v _ (r_assign evc) ?_; refine kl H rfl fun a H => ?_
    refine wpList_nil ?_
    refine c_next ?_
    refine wp_ret ?_
    refine r_then ?_
    exact k_ret2 H rfl rfl rfl ⟨by rw [show stepF s op = ( 0,  1) from stepF_bad (by omega)], rfl⟩
  · skip
    refine wl_v _ (r_lt Try.underlying3 (H.ev rfl) evc (dec_f (c0))) ?_; refine kl H rfl fun a H => ?_
    refine wl_v _ (r_move (H.ev rfl)) ?_; refine kl H rfl fun a H => ?_
    refine op_unguard _ _ (kg_yes rfl H rfl rfl rfl) ?_; refine wl_v _ (r_move (H.ev rfl)) ?_; refine kl H rfl fun a H => ?_
    by_cases c1 : s > 4
    · skip
      refine op_unguard _ _ (kg_yes rfl H rfl rfl rfl) ?_; refine wl_v _ (r_gt Try.underlying3 (H.ev rfl) evc (dec_t (c1))) ?_; refine kl H rfl fun a H => ?_
      refine wl_v _ (r_pick_f (H.ev rfl) (H.ev rfl)) ?_; refine kl H rfl fun a H => ?_
      refine wl_v _ (r_move (H.ev rfl)) ?_; refine kl H rfl fun a H => ?_
      refine wl_s (kg_no rfl H rfl rfl rfl) ?_; refine kl H rfl fun a H => ?_
      refine wl_s (kg_no rfl H rfl rfl rfl) ?_; refine kl H rfl fun a H => ?_
      refine wl_v _ (r_pick_t (H.ev rfl) evc) ?_; refine kl H rfl fun a H => ?_
      refine wl_v _ (r_move (H.ev rfl)) ?_; refine kl H rfl fun a H => ?_
      refine wl_s (kg_no rfl H rfl rfl rfl) ?_; refine kl H rfl fun a H => ?_
      refine wl_s (kg_no rfl H rfl rfl rfl) ?_; refine kl H rfl fun a H => ?_
      refine wl_v _ (r_pick_t (H.ev rfl) evc) ?_; refine kl H rfl fun a H => ?_
      refine wpList_nil ?_
      refine c_next ?_
      refine c_cond_t H rfl ?_
      refine wp_seq ?_
      refine wp_region_lit ?_
      refine wl_v _ (r_assign evc) ?_; refine kl H rfl fun a H => ?_
      refine wl_v _ (r_assign evc) ?_; refine kl H rfl fun a H => ?_
      refine wpList_nil ?_
      refine c_next ?_
      refine wp_ret ?_
      refine r_then ?_
      exact k_ret2 H rfl rfl rfl ⟨by rw [show stepF s op = ( 0,  1) from stepF_bad (by omega)], rfl⟩
    · skip
      refine op_unguard _ _ (kg_yes rfl H rfl rfl rfl) ?_; refine wl_v _ (r_gt Try.underlying3 (H.ev rfl) evc (dec_f (c1))) ?_; refine kl H rfl fun a H => ?_
      refine wl_v _ (r_pick_f (H.ev rfl) (H.ev rfl)) ?_; refine kl H rfl fun a H => ?_
      refine wl_v _ (r_move (H.ev rfl)) ?_; refine kl H rfl fun a H => ?_
      refine op_unguard _ _ (kg_yes rfl H rfl rfl rfl) ?_; refine wl_v _ (r_move (H.ev rfl)) ?_; refine kl H rfl fun a H => ?_
      by_cases c2 : op < 1
      · skip
        refine op_unguard _ _ (kg_yes rfl H rfl rfl rfl) ?_; refine wl_v _ (r_lt Try.underlying3 (H.ev rfl) evc (dec_t (c2))) ?_; refine kl H rfl fun a H => ?_
        refine wl_v _ (r_pick_f (H.ev rfl) (H.ev rfl)) ?_; refine kl H rfl fun a H => ?_
        refine wl_v _ (r_move (H.ev rfl)) ?_; refine kl H rfl fun a H => ?_
        refine wl_s (kg_no rfl H rfl rfl rfl) ?_; refine kl H rfl fun a H => ?_
        refine wl_s (kg_no rfl H rfl rfl rfl) ?_; refine kl H rfl fun a H => ?_
        refine wl_v _ (r_pick_t (H.ev rfl) evc) ?_; refine kl H rfl fun a H => ?_
        refine wpList_nil ?_
        refine c_next ?_
        refine c_cond_t H rfl ?_
        refine wp_seq ?_
        refine wp_region_lit ?_
        refine wl_v _ (r_assign evc) ?_; refine kl H rfl fun a H => ?_
        refine wl_v _ (r_assign evc) ?_; refine kl H rfl fun a H => ?_
        refine wpList_nil ?_
        refine c_next ?_
        refine wp_ret ?_
        refine r_then ?_
        exact k_ret2 H rfl rfl rfl ⟨by rw [show stepF s op = ( 0,  1) from stepF_bad (by omega)], rfl⟩
      · skip
        refine op_unguard _ _ (kg_yes rfl H rfl rfl rfl) ?_; refine wl_v _ (r_lt Try.underlying3 (H.ev rfl) evc (dec_f (c2))) ?_; refine kl H rfl fun a H => ?_
        refine wl_v _ (r_pick_f (H.ev rfl) (H.ev rfl)) ?_; refine kl H rfl fun a H => ?_
        refine wl_v _ (r_move (H.ev rfl)) ?_; refine kl H rfl fun a H => ?_
        refine op_unguard _ _ (kg_yes rfl H rfl rfl rfl) ?_; refine wl_v _ (r_move (H.ev rfl)) ?_; refine kl H rfl fun a H => ?_
        by_cases c3 : op > 7
        · skip
          refine op_unguard _ _ (kg_yes rfl H rfl rfl rfl) ?_; refine wl_v _ (r_gt Try.underlying3 (H.ev rfl) evc (dec_t (c3))) ?_; refine kl H rfl fun a H => ?_
          refine wl_v _ (r_pick_f (H.ev rfl) (H.ev rfl)) ?_; refine kl H rfl fun a H => ?_
          refine wpList_nil ?_
          refine c_next ?_
          refine c_cond_t H rfl ?_
          refine wp_seq ?_
          refine wp_region_lit ?_
          refine wl_v _ (r_assign evc) ?_; refine kl H rfl fun a H => ?_
          refine wl_v _ (r_assign evc) ?_; refine kl H rfl fun a H => ?_
          refine wpList_nil ?_
          refine c_next ?_
          refine wp_ret ?_
          refine r_then ?_
          exact k_ret2 H rfl rfl rfl ⟨by rw [show stepF s op = ( 0,  1) from stepF_bad (by omega)], rfl⟩
        · skip
          refine op_unguard _ _ (kg_yes rfl H rfl rfl rfl) ?_; refine wl_v _ (r_gt Try.underlying3 (H.ev rfl) evc (dec_f (c3))) ?_; refine kl H rfl fun a H => ?_
          refine wl_v _ (r_pick_f (H.ev rfl) (H.ev rfl)) ?_; refine kl H rfl fun a H => ?_
          refine wpList_nil ?_
          refine c_next ?_
          refine c_cond_f H rfl ?_
          refine wp_skip ?_
          refine c_next ?_
          refine wp_seq ?_
          refine wp_region_lit ?_
          refine wl_v _ (r_assign evc) ?_; refine kl H rfl fun a H => ?_
          refine wpList_nil ?_
          refine c_next ?_
          refine wp_seq ?_
          refine wp_seq ?_
          refine wp_region_lit ?_
          refine wl_v _ (r_move (H.ev rfl)) ?_; refine kl H rfl fun a H => ?_
          refine wpList_nil ?_
          refine c_next ?_
          refine wp_block ?_
          refine wp_seq ?_
          refine wp_region_lit ?_
          by_cases c4 : op = 1
          · skip
            refine wl_v _ (r_eq Try.underlying3 (H.ev rfl) evc (dec_t (c4))) ?_; refine kl H rfl fun a H => ?_
            refine wl_v _ (r_assign (H.ev rfl)) ?_; refine kl H rfl fun a H => ?_
            refine wpList_nil ?_
            refine c_next ?_
            refine c_cond_t H rfl ?_
            refine wp_seq ?_
            refine wp_region_lit ?_
            refine wl_v _ (r_move (H.ev rfl)) ?_; refine kl H rfl fun a H => ?_
            by_cases c5 : s = 0
            · skip
              refine wl_v _ (r_eq Try.underlying3 (H.ev rfl) evc (dec_t (c5))) ?_; refine kl H rfl fun a H => ?_
              refine wl_v _ (r_move (H.ev rfl)) ?_; refine kl H rfl fun a H => ?_
              refine wl_s (kg_no rfl H rfl rfl rfl) ?_; refine kl H rfl fun a H => ?_
              refine wl_s (kg_no rfl H rfl rfl rfl) ?_; refine kl H rfl fun a H => ?_
              refine wl_v _ (r_pick_t (H.ev rfl) evc) ?_; refine kl H rfl fun a H => ?_
              refine wpList_nil ?_
              refine c_next ?_
              refine c_cond_t H rfl ?_
              refine wp_region_lit ?_
              refine wl_v _ (r_assign evc) ?_; refine kl H rfl fun a H => ?_
              refine wpList_nil ?_
              refine n_block ?_
              refine c_next ?_
              refine wp_seq ?_
              refine wp_seq ?_
              refine wp_region_lit ?_
              refine wl_v _ (r_move (H.ev rfl)) ?_; refine kl H rfl fun a H => ?_
              refine wl_v _ (r_lt Try.underlying3 (H.ev rfl) evc (dec_f (by omega))) ?_; refine kl H rfl fun a H => ?_
              refine wpList_nil ?_
              refine c_next ?_
              refine c_cond_f H rfl ?_
              refine wp_skip ?_
              refine c_next ?_
              refine wp_seq ?_
              refine wp_region_lit ?_
              refine wl_v _ (r_move (H.ev rfl)) ?_; refine kl H rfl fun a H => ?_
              refine wl_v _ (r_assign (H.ev rfl)) ?_; refine kl H rfl fun a H => ?_
              refine wl_v _ (r_assign evc) ?_; refine kl H rfl fun a H => ?_
              refine wpList_nil ?_
              refine c_next ?_
              refine wp_ret ?_
              exact k_ret2 H rfl rfl rfl ⟨by rw [show stepF s op = ( 1,  0) from stepF_yes (by omega) (by unfold toI; (repeat' split) <;> omega) (by omega)], rfl⟩
            · skip
              refine wl_v _ (r_eq Try.underlying3 (H.ev rfl) evc (dec_f (c5))) ?_; refine kl H rfl fun a H => ?_
              refine wl_v _ (r_move (H.ev rfl)) ?_; refine kl H rfl fun a H => ?_
              refine op_unguard _ _ (kg_yes rfl H rfl rfl rfl) ?_; refine wl_v _ (r_move (H.ev rfl)) ?_; refine kl H rfl fun a H => ?_
              by_cases c6 : s = 3
              · skip
                refine op_unguard _ _ (kg_yes rfl H rfl rfl rfl) ?_; refine wl_v _ (r_eq Try.underlying3 (H.ev rfl) evc (dec_t (c6))) ?_; refine kl H rfl fun a H => ?_
                refine wl_v _ (r_pick_f (H.ev rfl) (H.ev rfl)) ?_; refine kl H rfl fun a H => ?_
                refine wpList_nil ?_
                refine c_next ?_
                refine c_cond_t H rfl ?_
                refine wp_region_lit ?_
                refine wl_v _ (r_assign evc) ?_; refine kl H rfl fun a H => ?_
                refine wpList_nil ?_
                refine n_block ?_
                refine c_next ?_
                refine wp_seq ?_
                refine wp_seq ?_
                refine wp_region_lit ?_
                refine wl_v _ (r_move (H.ev rfl)) ?_; refine kl H rfl fun a H => ?_
                refine wl_v _ (r_lt Try.underlying3 (H.ev rfl) evc (dec_f (by omega))) ?_; refine kl H rfl fun a H => ?_
                refine wpList_nil ?_
                refine c_next ?_
                refine c_cond_f H rfl ?_
                refine wp_skip ?_
                refine c_next ?_
                refine wp_seq ?_
                refine wp_region_lit ?_
                refine wl_v _ (r_move (H.ev rfl)) ?_; refine kl H rfl fun a H => ?_
                refine wl_v _ (r_assign (H.ev rfl)) ?_; refine kl H rfl fun a H => ?_
                refine wl_v _ (r_assign evc) ?_; refine kl H rfl fun a H => ?_
                refine wpList_nil ?_
                refine c_next ?_
                refine wp_ret ?_
                exact k_ret2 H rfl rfl rfl ⟨by rw [show stepF s op = ( 1,  0) from stepF_yes (by omega) (by unfold toI; (repeat' split) <;> omega) (by omega)], rfl⟩
              · skip
                refine op_unguard _ _ (kg_yes rfl H rfl rfl rfl) ?_; refine wl_v _ (r_eq Try.underlying3 (H.ev rfl) evc (dec_f (c6))) ?_; refine kl H rfl fun a H => ?_
                refine wl_v _ (r_pick_f (H.ev rfl) (H.ev rfl)) ?_; refine kl H rfl fun a H => ?_
                refine wpList_nil ?_
                refine c_next ?_
                refine c_cond_f H rfl ?_
                refine wp_skip ?_
                refine n_block ?_
                refine c_next ?_
                refine wp_seq ?_
                refine wp_seq ?_
                refine wp_region_lit ?_
                refine wl_v _ (r_move (H.ev rfl)) ?_; refine kl H rfl fun a H => ?_
                refine wl_v _ (r_lt Try.underlying3 (H.ev rfl) evc (dec_t (by omega))) ?_; refine kl H rfl fun a H => ?_
                refine wpList_nil ?_
                refine c_next ?_
                refine c_cond_t H rfl ?_
                refine wp_seq ?_
                refine wp_region_lit ?_
                refine wl_v _ (r_assign evc) ?_; refine kl H rfl fun a H => ?_
                refine wl_v _ (r_assign evc) ?_; refine kl H rfl fun a H => ?_
                refine wpList_nil ?_
                refine c_next ?_
                refine wp_ret ?_
                refine r_then ?_
                exact k_ret2 H rfl rfl rfl ⟨by rw [show stepF s op = ( 0,  8) from stepF_no (by omega) (by unfold toI; (repeat' split) <;> omega)], rfl⟩
          · skip
            refine wl_v _ (r_eq Try.underlying3 (H.ev rfl) evc (dec_f (c4))) ?_; refine kl H rfl fun a H => ?_
            refine wl_v _ (r_assign (H.ev rfl)) ?_; refine kl H rfl fun a H => ?_
            refine wpList_nil ?_
            refine c_next ?_
            refine c_cond_f H rfl ?_
            refine wp_seq ?_
            refine wp_region_lit ?_
            by_cases c7 : op = 2
            · skip
              refine wl_v _ (r_eq Try.underlying3 (H.ev rfl) evc (dec_t (c7))) ?_; refine kl H rfl fun a H => ?_
              refine wl_v _ (r_assign (H.ev rfl)) ?_; refine kl H rfl fun a H => ?_
              refine wpList_nil ?_
              refine c_next ?_
              refine c_cond_t H rfl ?_
              refine wp_seq ?_
              refine wp_region_lit ?_
              refine wl_v _ (r_move (H.ev rfl)) ?_; refine kl H rfl fun a H => ?_
              by_cases c8 : s ≥ 1
              · skip
                refine wl_v _ (r_ge Try.underlying3 (H.ev rfl) evc (dec_t (c8))) ?_; refine kl H rfl fun a H => ?_
                refine wl_v _ (r_move (H.ev rfl)) ?_; refine kl H rfl fun a H => ?_
                refine op_unguard _ _ (kg_yes rfl H rfl rfl rfl) ?_; refine wl_v _ (r_move (H.ev rfl)) ?_; refine kl H rfl fun a H => ?_
                by_cases c9 : s ≤ 3
                · skip
                  refine op_unguard _ _ (kg_yes rfl H rfl rfl rfl) ?_; refine wl_v _ (r_le Try.underlying3 (H.ev rfl) evc (dec_t (c9))) ?_; refine kl H rfl fun a H => ?_
                  refine wl_v _ (r_pick_t (H.ev rfl) (H.ev rfl)) ?_; refine kl H rfl fun a H => ?_
                  refine wpList_nil ?_
                  refine c_next ?_
                  refine c_cond_t H rfl ?_
                  refine wp_region_lit ?_
                  refine wl_v _ (r_assign evc) ?_; refine kl H rfl fun a H => ?_
                  refine wpList_nil ?_
                  refine n_block ?_
                  refine c_next ?_
                  refine wp_seq ?_
                  refine wp_seq ?_
                  refine wp_region_lit ?_
                  refine wl_v _ (r_move (H.ev rfl)) ?_; refine kl H rfl fun a H => ?_
                  refine wl_v _ (r_lt Try.underlying3 (H.ev rfl) evc (dec_f (by omega))) ?_; refine kl H rfl fun a H => ?_
                  refine wpList_nil ?_
                  refine c_next ?_
                  refine c_cond_f H rfl ?_
                  refine wp_skip ?_
                  refine c_next ?_
                  refine wp_seq ?_
                  refine wp_region_lit ?_
                  refine wl_v _ (r_move (H.ev rfl)) ?_; refine kl H rfl fun a H => ?_
                  refine wl_v _ (r_assign (H.ev rfl)) ?_; refine kl H rfl fun a H => ?_
                  refine wl_v _ (r_assign evc) ?_; refine kl H rfl fun a H => ?_
                  refine wpList_nil ?_
                  refine c_next ?_
                  refine wp_ret ?_
                  exact k_ret2 H rfl rfl rfl ⟨by rw [show stepF s op = ( 0,  0) from stepF_yes (by omega) (by unfold toI; (repeat' split) <;> omega) (by omega)], rfl⟩
                · skip
                  refine op_unguard _ _ (kg_yes rfl H rfl rfl rfl) ?_; refine wl_v _ (r_le Try.underlying3 (H.ev rfl) evc (dec_f (c9))) ?_; refine kl H rfl fun a H => ?_
                  refine wl_v _ (r_pick_t (H.ev rfl) (H.ev rfl)) ?_; refine kl H rfl fun a H => ?_
                  refine wpList_nil ?_
                  refine c_next ?_
                  refine c_cond_f H rfl ?_
                  refine wp_skip ?_
                  refine n_block ?_
                  refine c_next ?_
                  refine wp_seq ?_
                  refine wp_seq ?_
                  refine wp_region_lit ?_
                  refine wl_v _ (r_move (H.ev rfl)) ?_; refine kl H rfl fun a H => ?_
                  refine wl_v _ (r_lt Try.underlying3 (H.ev rfl) evc (dec_t (by omega))) ?_; refine kl H rfl fun a H => ?_
                  refine wpList_nil ?_
                  refine c_next ?_
                  refine c_cond_t H rfl ?_
                  refine wp_seq ?_
                  refine wp_region_lit ?_
                  refine wl_v _ (r_assign evc) ?_; refine kl H rfl fun a H => ?_
                  refine wl_v _ (r_assign evc) ?_; refine kl H rfl fun a H => ?_
                  refine wpList_nil ?_
                  refine c_next ?_
                  refine wp_ret ?_
                  refine r_then ?_
                  exact k_ret2 H rfl rfl rfl ⟨by rw [show stepF s op = ( 0,  8) from stepF_no (by omega) (by unfold toI; (repeat' split) <;> omega)], rfl⟩
              · skip
                refine wl_v _ (r_ge Try.underlying3 (H.ev rfl) evc (dec_f (c8))) ?_; refine kl H rfl fun a H => ?_
                refine wl_v _ (r_move (H.ev rfl)) ?_; refine kl H rfl fun a H => ?_
                refine wl_s (kg_no rfl H rfl rfl rfl) ?_; refine kl H rfl fun a H => ?_
                refine wl_s (kg_no rfl H rfl rfl rfl) ?_; refine kl H rfl fun a H => ?_
                refine wl_v _ (r_pick_f (H.ev rfl) evc) ?_; refine kl H rfl fun a H => ?_
                refine wpList_nil ?_
                refine c_next ?_
                refine c_cond_f H rfl ?_
                refine wp_skip ?_
                refine n_block ?_
                refine c_next ?_
                refine wp_seq ?_
                refine wp_seq ?_
                refine wp_region_lit ?_
                refine wl_v _ (r_move (H.ev rfl)) ?_; refine kl H rfl fun a H => ?_
                refine wl_v _ (r_lt Try.underlying3 (H.ev rfl) evc (dec_t (by omega))) ?_; refine kl H rfl fun a H => ?_
                refine wpList_nil ?_
                refine c_next ?_
                refine c_cond_t H rfl ?_
                refine wp_seq ?_
                refine wp_region_lit ?_
                refine wl_v _ (r_assign evc) ?_; refine kl H rfl fun a H => ?_
                refine wl_v _ (r_assign evc) ?_; refine kl H rfl fun a H => ?_
                refine wpList_nil ?_
                refine c_next ?_
                refine wp_ret ?_
                refine r_then ?_
                exact k_ret2 H rfl rfl rfl ⟨by rw [show stepF s op = ( 0,  8) from stepF_no (by omega) (by unfold toI; (repeat' split) <;> omega)], rfl⟩
            · skip
              refine wl_v _ (r_eq Try.underlying3 (H.ev rfl) evc (dec_f (c7))) ?_; refine kl H rfl fun a H => ?_
              refine wl_v _ (r_assign (H.ev rfl)) ?_; refine kl H rfl fun a H => ?_
              refine wpList_nil ?_
              refine c_next ?_
              refine c_cond_f H rfl ?_
              refine wp_seq ?_
              refine wp_region_lit ?_
              by_cases c10 : op = 3
              · skip
                refine wl_v _ (r_eq Try.underlying3 (H.ev rfl) evc (dec_t (c10))) ?_; refine kl H rfl fun a H => ?_
                refine wl_v _ (r_assign (H.ev rfl)) ?_; refine kl H rfl fun a H => ?_
                refine wpList_nil ?_
                refine c_next ?_
                refine c_cond_t H rfl ?_
                refine wp_seq ?_
                refine wp_region_lit ?_
                refine wl_v _ (r_move (H.ev rfl)) ?_; refine kl H rfl fun a H => ?_
                by_cases c11 : s = 1
                · skip
                  refine wl_v _ (r_eq Try.underlying3 (H.ev rfl) evc (dec_t (c11))) ?_; refine kl H rfl fun a H => ?_
                  refine wpList_nil ?_
                  refine c_next ?_
                  refine c_cond_t H rfl ?_
                  refine wp_region_lit ?_
                  refine wl_v _ (r_assign evc) ?_; refine kl H rfl fun a H => ?_
                  refine wpList_nil ?_
                  refine n_block ?_
                  refine c_next ?_
                  refine wp_seq ?_
                  refine wp_seq ?_
                  refine wp_region_lit ?_
                  refine wl_v _ (r_move (H.ev rfl)) ?_; refine kl H rfl fun a H => ?_
                  refine wl_v _ (r_lt Try.underlying3 (H.ev rfl) evc (dec_f (by omega))) ?_; refine kl H rfl fun a H => ?_
                  refine wpList_nil ?_
                  refine c_next ?_
                  refine c_cond_f H rfl ?_
                  refine wp_skip ?_
                  refine c_next ?_
                  refine wp_seq ?_
                  refine wp_region_lit ?_
                  refine wl_v _ (r_move (H.ev rfl)) ?_; refine kl H rfl fun a H => ?_
                  refine wl_v _ (r_assign (H.ev rfl)) ?_; refine kl H rfl fun a H => ?_
                  refine wl_v _ (r_assign evc) ?_; refine kl H rfl fun a H => ?_
                  refine wpList_nil ?_
                  refine c_next ?_
                  refine wp_ret ?_
                  exact k_ret2 H rfl rfl rfl ⟨by rw [show stepF s op = ( 2,  0) from stepF_yes (by omega) (by unfold toI; (repeat' split) <;> omega) (by omega)], rfl⟩
                · skip
                  refine wl_v _ (r_eq Try.underlying3 (H.ev rfl) evc (dec_f (c11))) ?_; refine kl H rfl fun a H => ?_
                  refine wpList_nil ?_
                  refine c_next ?_
                  refine c_cond_f H rfl ?_
                  refine wp_skip ?_
                  refine n_block ?_
                  refine c_next ?_
                  refine wp_seq ?_
                  refine wp_seq ?_
                  refine wp_region_lit ?_
                  refine wl_v _ (r_move (H.ev rfl)) ?_; refine kl H rfl fun a H => ?_
                  refine wl_v _ (r_lt Try.underlying3 (H.ev rfl) evc (dec_t (by omega))) ?_; refine kl H rfl fun a H => ?_
                  refine wpList_nil ?_
                  refine c_next ?_
                  refine c_cond_t H rfl ?_
                  refine wp_seq ?_
                  refine wp_region_lit ?_
                  refine wl_v _ (r_assign evc) ?_; refine kl H rfl fun a H => ?_
                  refine wl_v _ (r_assign evc) ?_; refine kl H rfl fun a H => ?_
                  refine wpList_nil ?_
                  refine c_next ?_
                  refine wp_ret ?_
                  refine r_then ?_
                  exact k_ret2 H rfl rfl rfl ⟨by rw [show stepF s op = ( 0,  8) from stepF_no (by omega) (by unfold toI; (repeat' split) <;> omega)], rfl⟩
              · skip
                refine wl_v _ (r_eq Try.underlying3 (H.ev rfl) evc (dec_f (c10))) ?_; refine kl H rfl fun a H => ?_
                refine wl_v _ (r_assign (H.ev rfl)) ?_; refine kl H rfl fun a H => ?_
                refine wpList_nil ?_
                refine c_next ?_
                refine c_cond_f H rfl ?_
                refine wp_seq ?_
                refine wp_region_lit ?_
                by_cases c12 : op = 4
                · skip
                  refine wl_v _ (r_eq Try.underlying3 (H.ev rfl) evc (dec_t (c12))) ?_; refine kl H rfl fun a H => ?_
                  refine wl_v _ (r_assign (H.ev rfl)) ?_; refine kl H rfl fun a H => ?_
                  refine wpList_nil ?_
                  refine c_next ?_
                  refine c_cond_t H rfl ?_
                  refine wp_seq ?_
                  refine wp_region_lit ?_
                  refine wl_v _ (r_move (H.ev rfl)) ?_; refine kl H rfl fun a H => ?_
                  by_cases c13 : s = 1
                  · skip
                    refine wl_v _ (r_eq Try.underlying3 (H.ev rfl) evc (dec_t (c13))) ?_; refine kl H rfl fun a H => ?_
                    refine wpList_nil ?_
                    refine c_next ?_
                    refine c_cond_t H rfl ?_
                    refine wp_region_lit ?_
                    refine wl_v _ (r_assign evc) ?_; refine kl H rfl fun a H => ?_
                    refine wpList_nil ?_
                    refine n_block ?_
                    refine c_next ?_
                    refine wp_seq ?_
                    refine wp_seq ?_
                    refine wp_region_lit ?_
                    refine wl_v _ (r_move (H.ev rfl)) ?_; refine kl H rfl fun a H => ?_
                    refine wl_v _ (r_lt Try.underlying3 (H.ev rfl) evc (dec_f (by omega))) ?_; refine kl H rfl fun a H => ?_
                    refine wpList_nil ?_
                    refine c_next ?_
                    refine c_cond_f H rfl ?_
                    refine wp_skip ?_
                    refine c_next ?_
                    refine wp_seq ?_
                    refine wp_region_lit ?_
                    refine wl_v _ (r_move (H.ev rfl)) ?_; refine kl H rfl fun a H => ?_
                    refine wl_v _ (r_assign (H.ev rfl)) ?_; refine kl H rfl fun a H => ?_
                    refine wl_v _ (r_assign evc) ?_; refine kl H rfl fun a H => ?_
                    refine wpList_nil ?_
                    refine c_next ?_
                    refine wp_ret ?_
                    exact k_ret2 H rfl rfl rfl ⟨by rw [show stepF s op = ( 3,  0) from stepF_yes (by omega) (by unfold toI; (repeat' split) <;> omega) (by omega)], rfl⟩
                  · skip
                    refine wl_v _ (r_eq Try.underlying3 (H.ev rfl) evc (dec_f (c13))) ?_; refine kl H rfl fun a H => ?_
                    refine wpList_nil ?_
                    refine c_next ?_
                    refine c_cond_f H rfl ?_
                    refine wp_skip ?_
                    refine n_block ?_
                    refine c_next ?_
                    refine wp_seq ?_
                    refine wp_seq ?_
                    refine wp_region_lit ?_
                    refine wl_v _ (r_move (H.ev rfl)) ?_; refine kl H rfl fun a H => ?_
                    refine wl_v _ (r_lt Try.underlying3 (H.ev rfl) evc (dec_t (by omega))) ?_; refine kl H rfl fun a H => ?_
                    refine wpList_nil ?_
                    refine c_next ?_
                    refine c_cond_t H rfl ?_
                    refine wp_seq ?_
                    refine wp_region_lit ?_
                    refine wl_v _ (r_assign evc) ?_; refine kl H rfl fun a H => ?_
                    refine wl_v _ (r_assign evc) ?_; refine kl H rfl fun a H => ?_
                    refine wpList_nil ?_
                    refine c_next ?_
                    refine wp_ret ?_
                    refine r_then ?_
                    exact k_ret2 H rfl rfl rfl ⟨by rw [show stepF s op = ( 0,  8) from stepF_no (by omega) (by unfold toI; (repeat' split) <;> omega)], rfl⟩
                · skip
                  refine wl_v _ (r_eq Try.underlying3 (H.ev rfl) evc (dec_f (c12))) ?_; refine kl H rfl fun a H => ?_
                  refine wl_v _ (r_assign (H.ev rfl)) ?_; refine kl H rfl fun a H => ?_
                  refine wpList_nil ?_
                  refine c_next ?_
                  refine c_cond_f H rfl ?_
                  refine wp_seq ?_
                  refine wp_region_lit ?_
                  by_cases c14 : op = 5
                  · skip
                    refine wl_v _ (r_eq Try.underlying3 (H.ev rfl) evc (dec_t (c14))) ?_; refine kl H rfl fun a H => ?_
                    refine wl_v _ (r_assign (H.ev rfl)) ?_; refine kl H rfl fun a H => ?_
                    refine wpList_nil ?_
                    refine c_next ?_
                    refine c_cond_t H rfl ?_
                    refine wp_seq ?_
                    refine wp_region_lit ?_
                    refine wl_v _ (r_move (H.ev rfl)) ?_; refine kl H rfl fun a H => ?_
                    by_cases c15 : s = 2
                    · skip
                      refine wl_v _ (r_eq Try.underlying3 (H.ev rfl) evc (dec_t (c15))) ?_; refine kl H rfl fun a H => ?_
                      refine wpList_nil ?_
                      refine c_next ?_
                      refine c_cond_t H rfl ?_
                      refine wp_region_lit ?_
                      refine wl_v _ (r_assign evc) ?_; refine kl H rfl fun a H => ?_
                      refine wpList_nil ?_
                      refine n_block ?_
                      refine c_next ?_
                      refine wp_seq ?_
                      refine wp_seq ?_
                      refine wp_region_lit ?_
                      refine wl_v _ (r_move (H.ev rfl)) ?_; refine kl H rfl fun a H => ?_
                      refine wl_v _ (r_lt Try.underlying3 (H.ev rfl) evc (dec_f (by omega))) ?_; refine kl H rfl fun a H => ?_
                      refine wpList_nil ?_
                      refine c_next ?_
                      refine c_cond_f H rfl ?_
                      refine wp_skip ?_
                      refine c_next ?_
                      refine wp_seq ?_
                      refine wp_region_lit ?_
                      refine wl_v _ (r_move (H.ev rfl)) ?_; refine kl H rfl fun a H => ?_
                      refine wl_v _ (r_assign (H.ev rfl)) ?_; refine kl H rfl fun a H => ?_
                      refine wl_v _ (r_assign evc) ?_; refine kl H rfl fun a H => ?_
                      refine wpList_nil ?_
                      refine c_next ?_
                      refine wp_ret ?_
                      exact k_ret2 H rfl rfl rfl ⟨by rw [show stepF s op = ( 0,  0) from stepF_yes (by omega) (by unfold toI; (repeat' split) <;> omega) (by omega)], rfl⟩
                    · skip
                      refine wl_v _ (r_eq Try.underlying3 (H.ev rfl) evc (dec_f (c15))) ?_; refine kl H rfl fun a H => ?_
                      refine wpList_nil ?_
                      refine c_next ?_
                      refine c_cond_f H rfl ?_
                      refine wp_skip ?_
                      refine n_block ?_
                      refine c_next ?_
                      refine wp_seq ?_
                      refine wp_seq ?_
                      refine wp_region_lit ?_
                      refine wl_v _ (r_move (H.ev rfl)) ?_; refine kl H rfl fun a H => ?_
                      refine wl_v _ (r_lt Try.underlying3 (H.ev rfl) evc (dec_t (by omega))) ?_; refine kl H rfl fun a H => ?_
                      refine wpList_nil ?_
                      refine c_next ?_
                      refine c_cond_t H rfl ?_
                      refine wp_seq ?_
                      refine wp_region_lit ?_
                      refine wl_v _ (r_assign evc) ?_; refine kl H rfl fun a H => ?_
                      refine wl_v _ (r_assign evc) ?_; refine kl H rfl fun a H => ?_
                      refine wpList_nil ?_
                      refine c_next ?_
                      refine wp_ret ?_
                      refine r_then ?_
                      exact k_ret2 H rfl rfl rfl ⟨by rw [show stepF s op = ( 0,  8) from stepF_no (by omega) (by unfold toI; (repeat' split) <;> omega)], rfl⟩
                  · skip
                    refine wl_v _ (r_eq Try.underlying3 (H.ev rfl) evc (dec_f (c14))) ?_; refine kl H rfl fun a H => ?_
                    refine wl_v _ (r_assign (H.ev rfl)) ?_; refine kl H rfl fun a H => ?_
                    refine wpList_nil ?_
                    refine c_next ?_
                    refine c_cond_f H rfl ?_
                    refine wp_seq ?_
                    refine wp_region_lit ?_
                    by_cases c16 : op = 6
                    · skip
                      refine wl_v _ (r_eq Try.underlying3 (H.ev rfl) evc (dec_t (c16))) ?_; refine kl H rfl fun a H => ?_
                      refine wl_v _ (r_assign (H.ev rfl)) ?_; refine kl H rfl fun a H => ?_
                      refine wpList_nil ?_
                      refine c_next ?_
                      refine c_cond_t H rfl ?_
                      refine wp_seq ?_
                      refine wp_region_lit ?_
                      refine wl_v _ (r_move (H.ev rfl)) ?_; refine kl H rfl fun a H => ?_
                      by_cases c17 : s ≠ 4
                      · skip
                        refine wl_v _ (r_ne Try.underlying3 (H.ev rfl) evc (dec_t (c17))) ?_; refine kl H rfl fun a H => ?_
                        refine wpList_nil ?_
                        refine c_next ?_
                        refine c_cond_t H rfl ?_
                        refine wp_region_lit ?_
                        refine wl_v _ (r_assign evc) ?_; refine kl H rfl fun a H => ?_
                        refine wpList_nil ?_
                        refine n_block ?_
                        refine c_next ?_
                        refine wp_seq ?_
                        refine wp_seq ?_
                        refine wp_region_lit ?_
                        refine wl_v _ (r_move (H.ev rfl)) ?_; refine kl H rfl fun a H => ?_
                        refine wl_v _ (r_lt Try.underlying3 (H.ev rfl) evc (dec_f (by omega))) ?_; refine kl H rfl fun a H => ?_
                        refine wpList_nil ?_
                        refine c_next ?_
                        refine c_cond_f H rfl ?_
                        refine wp_skip ?_
                        refine c_next ?_
                        refine wp_seq ?_
                        refine wp_region_lit ?_
                        refine wl_v _ (r_move (H.ev rfl)) ?_; refine kl H rfl fun a H => ?_
                        refine wl_v _ (r_assign (H.ev rfl)) ?_; refine kl H rfl fun a H => ?_
                        refine wl_v _ (r_assign evc) ?_; refine kl H rfl fun a H => ?_
                        refine wpList_nil ?_
                        refine c_next ?_
                        refine wp_ret ?_
                        exact k_ret2 H rfl rfl rfl ⟨by rw [show stepF s op = ( 4,  0) from stepF_yes (by omega) (by unfold toI; (repeat' split) <;> omega) (by omega)], rfl⟩
                      · skip
                        refine wl_v _ (r_ne Try.underlying3 (H.ev rfl) evc (dec_f (c17))) ?_; refine kl H rfl fun a H => ?_
                        refine wpList_nil ?_
                        refine c_next ?_
                        refine c_cond_f H rfl ?_
                        refine wp_skip ?_
                        refine n_block ?_
                        refine c_next ?_
                        refine wp_seq ?_
                        refine wp_seq ?_
                        refine wp_region_lit ?_
                        refine wl_v _ (r_move (H.ev rfl)) ?_; refine kl H rfl fun a H => ?_
                        refine wl_v _ (r_lt Try.underlying3 (H.ev rfl) evc (dec_t (by omega))) ?_; refine kl H rfl fun a H => ?_
                        refine wpList_nil ?_
                        refine c_next ?_
                        refine c_cond_t H rfl ?_
                        refine wp_seq ?_
                        refine wp_region_lit ?_
                        refine wl_v _ (r_assign evc) ?_; refine kl H rfl fun a H => ?_
                        refine wl_v _ (r_assign evc) ?_; refine kl H rfl fun a H => ?_
                        refine wpList_nil ?_
                        refine c_next ?_
                        refine wp_ret ?_
                        refine r_then ?_
                        exact k_ret2 H rfl rfl rfl ⟨by rw [show stepF s op = ( 0,  8) from stepF_no (by omega) (by unfold toI; (repeat' split) <;> omega)], rfl⟩
                    · skip
                      refine wl_v _ (r_eq Try.underlying3 (H.ev rfl) evc (dec_f (c16))) ?_; refine kl H rfl fun a H => ?_
                      refine wl_v _ (r_assign (H.ev rfl)) ?_; refine kl H rfl fun a H => ?_
                      refine wpList_nil ?_
                      refine c_next ?_
                      refine c_cond_f H rfl ?_
                      refine wp_seq ?_
                      refine wp_region_lit ?_
                      by_cases c18 : op = 7
                      · skip
                        refine wl_v _ (r_eq Try.underlying3 (H.ev rfl) evc (dec_t (c18))) ?_; refine kl H rfl fun a H => ?_
                        refine wl_v _ (r_assign (H.ev rfl)) ?_; refine kl H rfl fun a H => ?_
                        refine wpList_nil ?_
                        refine c_next ?_
                        refine c_cond_t H rfl ?_
                        refine wp_seq ?_
                        refine wp_region_lit ?_
                        refine wl_v _ (r_move (H.ev rfl)) ?_; refine kl H rfl fun a H => ?_
                        by_cases c19 : s = 4
                        · skip
                          refine wl_v _ (r_eq Try.underlying3 (H.ev rfl) evc (dec_t (c19))) ?_; refine kl H rfl fun a H => ?_
                          refine wpList_nil ?_
                          refine c_next ?_
                          refine c_cond_t H rfl ?_
                          refine wp_region_lit ?_
                          refine wl_v _ (r_assign evc) ?_; refine kl H rfl fun a H => ?_
                          refine wpList_nil ?_
                          refine n_block ?_
                          refine c_next ?_
                          refine wp_seq ?_
                          refine wp_seq ?_
                          refine wp_region_lit ?_
                          refine wl_v _ (r_move (H.ev rfl)) ?_; refine kl H rfl fun a H => ?_
                          refine wl_v _ (r_lt Try.underlying3 (H.ev rfl) evc (dec_f (by omega))) ?_; refine kl H rfl fun a H => ?_
                          refine wpList_nil ?_
                          refine c_next ?_
                          refine c_cond_f H rfl ?_
                          refine wp_skip ?_
                          refine c_next ?_
                          refine wp_seq ?_
                          refine wp_region_lit ?_
                          refine wl_v _ (r_move (H.ev rfl)) ?_; refine kl H rfl fun a H => ?_
                          refine wl_v _ (r_assign (H.ev rfl)) ?_; refine kl H rfl fun a H => ?_
                          refine wl_v _ (r_assign evc) ?_; refine kl H rfl fun a H => ?_
                          refine wpList_nil ?_
                          refine c_next ?_
                          refine wp_ret ?_
                          exact k_ret2 H rfl rfl rfl ⟨by rw [show stepF s op = ( 0,  0) from stepF_yes (by omega) (by unfold toI; (repeat' split) <;> omega) (by omega)], rfl⟩
                        · skip
                          refine wl_v _ (r_eq Try.underlying3 (H.ev rfl) evc (dec_f (c19))) ?_; refine kl H rfl fun a H => ?_
                          refine wpList_nil ?_
                          refine c_next ?_
                          refine c_cond_f H rfl ?_
                          refine wp_skip ?_
                          refine n_block ?_
                          refine c_next ?_
                          refine wp_seq ?_
                          refine wp_seq ?_
                          refine wp_region_lit ?_
                          refine wl_v _ (r_move (H.ev rfl)) ?_; refine kl H rfl fun a H => ?_
                          refine wl_v _ (r_lt Try.underlying3 (H.ev rfl) evc (dec_t (by omega))) ?_; refine kl H rfl fun a H => ?_
                          refine wpList_nil ?_
                          refine c_next ?_
                          refine c_cond_t H rfl ?_
                          refine wp_seq ?_
                          refine wp_region_lit ?_
                          refine wl_v _ (r_assign evc) ?_; refine kl H rfl fun a H => ?_
                          refine wl_v _ (r_assign evc) ?_; refine kl H rfl fun a H => ?_
                          refine wpList_nil ?_
                          refine c_next ?_
                          refine wp_ret ?_
                          refine r_then ?_
                          exact k_ret2 H rfl rfl rfl ⟨by rw [show stepF s op = ( 0,  8) from stepF_no (by omega) (by unfold toI; (repeat' split) <;> omega)], rfl⟩
                      · skip
                        refine wl_v _ (r_eq Try.underlying3 (H.ev rfl) evc (dec_f (c18))) ?_; refine kl H rfl fun a H => ?_
                        refine wl_v _ (r_assign (H.ev rfl)) ?_; refine kl H rfl fun a H => ?_
                        refine wpList_nil ?_
                        refine c_next ?_
                        refine c_cond_f H rfl ?_
                        refine wp_skip ?_
                        refine n_block ?_
                        refine c_next ?_
                        refine wp_seq ?_
                        refine wp_seq ?_
                        refine wp_region_lit ?_
                        refine wl_v _ (r_move (H.ev rfl)) ?_; refine kl H rfl fun a H => ?_
                        refine wl_v _ (r_lt Try.underlying3 (H.ev rfl) evc (dec_t (by omega))) ?_; refine kl H rfl fun a H => ?_
                        refine wpList_nil ?_
                        refine c_next ?_
                        refine c_cond_t H rfl ?_
                        refine wp_seq ?_
                        refine wp_region_lit ?_
                        refine wl_v _ (r_assign evc) ?_; refine kl H rfl fun a H => ?_
                        refine wl_v _ (r_assign evc) ?_; refine kl H rfl fun a H => ?_
                        refine wpList_nil ?_
                        refine c_next ?_
                        refine wp_ret ?_
                        refine r_then ?_
                        exact k_ret2 H rfl rfl rfl ⟨by rw [show stepF s op = ( 0,  8) from stepF_no (by omega) (by unfold toI; (repeat' split) <;> omega)], rfl⟩
end Go.Proofs.Ytfehhenbdiageaa
