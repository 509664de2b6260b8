/- Recv: RecvFills, proved: notes that come from behind go at once with the first. -/
import Derived.Test.YthfdjlhplcmicaaPv
namespace Go.Proofs.Ythfdjlhplcmicaa
open Go.RowKit Go.ChangeShapes Go.WideShapes Go.ChangeAt Go.Maps
set_option linter.unusedVariables false
set_option linter.unusedSimpArgs false

theorem pow_le7 {q : Nat} (h : q ≤ 7) : 2 ^ q ≤ 128 := by
  have : 2 ^ q ≤ 2 ^ 7 := Nat.pow_le_pow_right (by omega) h
  omega
theorem r_shl7 {P : Program} {a : Act} {w : World} {d : Option Tmp} {tt : TypeId} {ps : String} {af : Array Edge} {gd : Option (Nat × Bool)} {y : Operand} {q : Nat} {t t2 : TypeId} (ht : P.underlying t = some (.int .i64)) (hy : a.eval y = .int .i64 (q : Nat)) (hq : q ≤ 7) : (execOp a.eval ⟨d, .binOp .shl t (.const (.int .i64 1)) y t2, tt, ps, af, gd⟩).run P w = .ok (.value (.int .i64 (2 ^ q : Nat))) w := by
  have hc : q = 0 ∨ q = 1 ∨ q = 2 ∨ q = 3 ∨ q = 4 ∨ q = 5 ∨ q = 6 ∨ q = 7 := by omega
  unfold execOp
  simp only [hy]
  rcases hc with rfl | rfl | rfl | rfl | rfl | rfl | rfl | rfl <;> go_simp <;> decide
theorem row_none {w w' : World} {s : Value} (h : IRow w s []) : IRow w' s [] := by
  obtain ⟨A, c, rfl, a1, a2, a3, _⟩ := h
  exact ⟨A, c, rfl, a1, a2, a3, fun j hj => by simp [FV, IV] at hj⟩
theorem row_farN {w w' : World} {g : Nat} {s : Value} {L : List Nt} (h : NRow w s L) (hf : ∀ A n c, s = .slice A n c → ∀ b o, A = some ⟨b, o, none⟩ → b ≠ g) (ho : ∀ g', g' ≠ g → w'.heap[g']? = w.heap[g']?) : NRow w' s L := by
  have h' := h
  obtain ⟨A, c, rfl, _⟩ := h'
  exact Row.keep h fun b o e => ho b (hf A _ c rfl b o e)
theorem row_ltN {w : World} {s : Value} {L : List Nt} {A : Option Addr} {n c b o : Nat} (h : NRow w s L) (hL : 0 < L.length) (e : s = .slice A n c) (ea : A = some ⟨b, o, none⟩) : b < w.heap.size := by
  subst e ea
  have := row_holds h
  exact this.lt rfl (by rw [FV_len encN_len]; omega)
def SFl (W : World) (bz : Nat) (n : Int) (s : Value) (w : World) : Prop := Below W.heap.size W w ∧ Block w bz 24 #[.int .i64 n, s]
theorem SFl.up {W w w' : World} {bz : Nat} {n : Int} {s : Value} (h : SFl W bz n s w) (hb : Below w.heap.size w w') : SFl W bz n s w' := ⟨h.1.trans (hb.mono h.1.size), h.2.ups hb⟩
theorem SFl.far {W w w' : World} {bz : Nat} {n : Int} {s : Value} (h : SFl W bz n s w) (hb : Below W.heap.size w w') (ho : w'.heap[bz]? = w.heap[bz]?) : SFl W bz n s w' := ⟨h.1.trans hb, block_same h.2 ho⟩
theorem SFl.size {W w : World} {bz : Nat} {n : Int} {s : Value} (h : SFl W bz n s w) : W.heap.size ≤ w.heap.size := h.1.size
def FlI (W : World) (bz : Nat) (n : Int) (A : Option Addr) (c : Nat) (NS : List Nt) (a : Act) (w : World) : Prop :=
  ∃ (i : Nat) (s : Value), Kn a 104 [(0, .int .i64 n), (1, .slice A NS.length c), (5, .bool true), (6, .int .i64 (NS.length : Nat)), (7, .pointer (some ⟨bz, 0, none⟩)), (8, .int .i64 (i : Nat))] ∧ i < NS.length ∧ Block w bz 24 #[.int .i64 n, s] ∧ IRow w s (WL n (i + 1) NS) ∧ Below W.heap.size W w
set_option maxHeartbeats 8000000 in
theorem fills_walk (w : World) (n : Int) (v : Value) (NS : List Nt) (h0 : NRow w v NS) (hn : NS.length ≤ 9223372036854775807) (hnn : -9223372036854775808 ≤ n ∧ n ≤ 9223372036854775807) :
    Calls Try.prog 8 #[.int .i64 n, v] w fun e w' => e = .returned (.bool true) ∧ Below w.heap.size w w' := by
  obtain ⟨A, c, rfl, h1, h2, h3, hh⟩ := h0
  have h : Hid (NRow w (.slice A NS.length c) NS) := Lib.hid ⟨A, c, rfl, h1, h2, h3, hh⟩
  replace hh := Lib.hid hh
  have hall := Below.refl w.heap.size w
  refine K_enter 104 Try.func8 rfl rfl fun a H => ?_
  replace H := H.pick [0, 1]
  refine wp_seq ?_
  refine wp_region_lit ?_
  refine wl_v _ (r_assign evc) ?_; refine kl H rfl fun a H => ?_
  refine wpList_nil ?_
  refine c_next ?_
  refine wp_seq ?_
  refine wp_region_lit ?_
  refine wl_call _ _ _ (small_any _) (r_call0 cf9) ?_; rintro e w9 ⟨rfl, hb⟩; refine ⟨_, rfl, ?_⟩; replace hall := hall.trans (hb.mono hall.size); clear hb; refine kl H rfl fun a H => ?_
  refine wl_v _ (r_assign (H.ev rfl)) ?_; refine kl H rfl fun a H => ?_
  refine wpList_nil ?_
  refine c_next ?_
  refine wp_seq ?_
  refine wp_region_lit ?_
  refine wl_v _ (r_move (H.ev rfl)) ?_; refine kl H rfl fun a H => ?_
  refine wl_v _ (r_len Try.underlying27 (H.ev rfl)) ?_; refine kl H rfl fun a H => ?_
  refine wl_v _ (r_assign (H.ev rfl)) ?_; refine kl H rfl fun a H => ?_
  refine wpList_nil ?_
  refine c_next ?_
  refine wp_seq ?_
  refine wp_seq ?_
  refine wp_region_lit ?_
  refine wl_v _ (r_move (H.ev rfl)) ?_; refine kl H rfl fun a H => ?_
  by_cases hcc0 : ((NS.length : Nat) : Int) < 1
  · skip
    refine wl_v _ (r_lt Try.underlying3 (H.ev rfl) evc (dec_t (hcc0))) ?_; refine kl H rfl fun a H => ?_
    refine wl_v _ (r_move (H.ev rfl)) ?_; refine kl H rfl fun a H => ?_
    refine wl_s (kg_no rfl H rfl rfl rfl) ?_; refine kl H rfl fun a H => ?_
    refine wl_s (kg_no rfl H rfl rfl rfl) ?_; refine kl H rfl fun a H => ?_
    refine wl_v _ (r_pick_t (H.ev rfl) evc) ?_; refine kl H rfl fun a H => ?_
    refine wl_v _ (r_move (H.ev rfl)) ?_; refine kl H rfl fun a H => ?_
    refine wl_s (kg_no rfl H rfl rfl rfl) ?_; refine kl H rfl fun a H => ?_
    refine wl_s (kg_no rfl H rfl rfl rfl) ?_; refine kl H rfl fun a H => ?_
    refine wl_v _ (r_pick_t (H.ev rfl) evc) ?_; refine kl H rfl fun a H => ?_
    refine wl_v _ (r_move (H.ev rfl)) ?_; refine kl H rfl fun a H => ?_
    refine wl_s (kg_no rfl H rfl rfl rfl) ?_; refine kl H rfl fun a H => ?_
    refine wl_s (kg_no rfl H rfl rfl rfl) ?_; refine kl H rfl fun a H => ?_
    refine wl_v _ (r_pick_t (H.ev rfl) evc) ?_; refine kl H rfl fun a H => ?_
    refine wpList_nil ?_
    refine c_next ?_
    refine c_cond_t H rfl ?_
    refine wp_seq ?_
    refine wp_region_lit ?_
    refine wl_v _ (r_move (H.ev rfl)) ?_; refine kl H rfl fun a H => ?_
    refine wl_v _ (r_assign (H.ev rfl)) ?_; refine kl H rfl fun a H => ?_
    refine wpList_nil ?_
    refine c_next ?_
    refine wp_ret ?_
    refine r_then ?_
    exact k_ret1 H rfl rfl ⟨rfl, hall⟩
  · skip
    refine wl_v _ (r_lt Try.underlying3 (H.ev rfl) evc (dec_f (hcc0))) ?_; refine kl H rfl fun a H => ?_
    refine wl_v _ (r_move (H.ev rfl)) ?_; refine kl H rfl fun a H => ?_
    refine op_unguard _ _ (kg_yes rfl H rfl rfl rfl) ?_; refine wl_v _ (r_move (H.ev rfl)) ?_; refine kl H rfl fun a H => ?_
    by_cases hcc1 : ((NS.length : Nat) : Int) > 8
    · skip
      refine op_unguard _ _ (kg_yes rfl H rfl rfl rfl) ?_; refine wl_v _ (r_gt Try.underlying3 (H.ev rfl) evc (dec_t (hcc1))) ?_; refine kl H rfl fun a H => ?_
      refine wl_v _ (r_pick_f (H.ev rfl) (H.ev rfl)) ?_; refine kl H rfl fun a H => ?_
      refine wl_v _ (r_move (H.ev rfl)) ?_; refine kl H rfl fun a H => ?_
      refine wl_s (kg_no rfl H rfl rfl rfl) ?_; refine kl H rfl fun a H => ?_
      refine wl_s (kg_no rfl H rfl rfl rfl) ?_; refine kl H rfl fun a H => ?_
      refine wl_v _ (r_pick_t (H.ev rfl) evc) ?_; refine kl H rfl fun a H => ?_
      refine wl_v _ (r_move (H.ev rfl)) ?_; refine kl H rfl fun a H => ?_
      refine wl_s (kg_no rfl H rfl rfl rfl) ?_; refine kl H rfl fun a H => ?_
      refine wl_s (kg_no rfl H rfl rfl rfl) ?_; refine kl H rfl fun a H => ?_
      refine wl_v _ (r_pick_t (H.ev rfl) evc) ?_; refine kl H rfl fun a H => ?_
      refine wpList_nil ?_
      refine c_next ?_
      refine c_cond_t H rfl ?_
      refine wp_seq ?_
      refine wp_region_lit ?_
      refine wl_v _ (r_move (H.ev rfl)) ?_; refine kl H rfl fun a H => ?_
      refine wl_v _ (r_assign (H.ev rfl)) ?_; refine kl H rfl fun a H => ?_
      refine wpList_nil ?_
      refine c_next ?_
      refine wp_ret ?_
      refine r_then ?_
      exact k_ret1 H rfl rfl ⟨rfl, hall⟩
    · skip
      refine op_unguard _ _ (kg_yes rfl H rfl rfl rfl) ?_; refine wl_v _ (r_gt Try.underlying3 (H.ev rfl) evc (dec_f (hcc1))) ?_; refine kl H rfl fun a H => ?_
      refine wl_v _ (r_pick_f (H.ev rfl) (H.ev rfl)) ?_; refine kl H rfl fun a H => ?_
      refine wl_v _ (r_move (H.ev rfl)) ?_; refine kl H rfl fun a H => ?_
      refine op_unguard _ _ (kg_yes rfl H rfl rfl rfl) ?_; refine wl_v _ (r_move (H.ev rfl)) ?_; refine kl H rfl fun a H => ?_
      by_cases hcc2 : n < 1
      · skip
        refine op_unguard _ _ (kg_yes rfl H rfl rfl rfl) ?_; refine wl_v _ (r_lt Try.underlying3 (H.ev rfl) evc (dec_t (hcc2))) ?_; refine kl H rfl fun a H => ?_
        refine wl_v _ (r_pick_f (H.ev rfl) (H.ev rfl)) ?_; refine kl H rfl fun a H => ?_
        refine wl_v _ (r_move (H.ev rfl)) ?_; refine kl H rfl fun a H => ?_
        refine wl_s (kg_no rfl H rfl rfl rfl) ?_; refine kl H rfl fun a H => ?_
        refine wl_s (kg_no rfl H rfl rfl rfl) ?_; refine kl H rfl fun a H => ?_
        refine wl_v _ (r_pick_t (H.ev rfl) evc) ?_; refine kl H rfl fun a H => ?_
        refine wpList_nil ?_
        refine c_next ?_
        refine c_cond_t H rfl ?_
        refine wp_seq ?_
        refine wp_region_lit ?_
        refine wl_v _ (r_move (H.ev rfl)) ?_; refine kl H rfl fun a H => ?_
        refine wl_v _ (r_assign (H.ev rfl)) ?_; refine kl H rfl fun a H => ?_
        refine wpList_nil ?_
        refine c_next ?_
        refine wp_ret ?_
        refine r_then ?_
        exact k_ret1 H rfl rfl ⟨rfl, hall⟩
      · skip
        refine op_unguard _ _ (kg_yes rfl H rfl rfl rfl) ?_; refine wl_v _ (r_lt Try.underlying3 (H.ev rfl) evc (dec_f (hcc2))) ?_; refine kl H rfl fun a H => ?_
        refine wl_v _ (r_pick_f (H.ev rfl) (H.ev rfl)) ?_; refine kl H rfl fun a H => ?_
        refine wl_v _ (r_move (H.ev rfl)) ?_; refine kl H rfl fun a H => ?_
        refine op_unguard _ _ (kg_yes rfl H rfl rfl rfl) ?_; refine wl_v _ (r_move (H.ev rfl)) ?_; refine kl H rfl fun a H => ?_
        by_cases hcc3 : n > 1048576
        · skip
          refine op_unguard _ _ (kg_yes rfl H rfl rfl rfl) ?_; refine wl_v _ (r_gt Try.underlying3 (H.ev rfl) evc (dec_t (hcc3))) ?_; refine kl H rfl fun a H => ?_
          refine wl_v _ (r_pick_f (H.ev rfl) (H.ev rfl)) ?_; refine kl H rfl fun a H => ?_
          refine wpList_nil ?_
          refine c_next ?_
          refine c_cond_t H rfl ?_
          refine wp_seq ?_
          refine wp_region_lit ?_
          refine wl_v _ (r_move (H.ev rfl)) ?_; refine kl H rfl fun a H => ?_
          refine wl_v _ (r_assign (H.ev rfl)) ?_; refine kl H rfl fun a H => ?_
          refine wpList_nil ?_
          refine c_next ?_
          refine wp_ret ?_
          refine r_then ?_
          exact k_ret1 H rfl rfl ⟨rfl, hall⟩
        · skip
          refine op_unguard _ _ (kg_yes rfl H rfl rfl rfl) ?_; refine wl_v _ (r_gt Try.underlying3 (H.ev rfl) evc (dec_f (hcc3))) ?_; refine kl H rfl fun a H => ?_
          refine wl_v _ (r_pick_f (H.ev rfl) (H.ev rfl)) ?_; refine kl H rfl fun a H => ?_
          refine wpList_nil ?_
          refine c_next ?_
          refine c_cond_f H rfl ?_
          refine wp_skip ?_
          refine c_next ?_
          refine wp_seq ?_
          refine wp_region_lit ?_
          refine wl_v _ (r_move (H.ev rfl)) ?_; refine kl H rfl fun a H => ?_
          refine wl_v _ (r_build #[(0, .int .i64 n)] (.agg #[.int .i64 n, .slice none 0 0]) (by simp [evc, H.ev (j := 33) rfl]) (fun w => by kernel_rfl)) ?_; refine kl H rfl fun a H => ?_
          refine op_new 24 7 (.tmp 34) #[.int .i64 n, .slice none 0 0] _ z24 s24 rfl (by simp [Value.cells, Value.oneCell']) (fun p => (H.put 7 p rfl).ev rfl) (fun p => (H.put 7 p rfl).ev rfl) fun w0 b0 hge hb k0 => ?_; have g0 := Nat.le_trans hall.size hge; replace hall := hall.trans (hb.mono hall.size); clear hb; clear hge; refine kl H rfl fun a H => ?_
          refine wpList_nil ?_
          refine c_next ?_
          refine wp_seq ?_
          refine wp_seq ?_
          refine wp_region_lit ?_
          refine wl_v _ (r_move (H.ev rfl)) ?_; refine kl H rfl fun a H => ?_
          refine wl_v (.int .i64 (NS.length - 1 : Nat)) (r_sub (q := ((NS.length - 1 : Nat) : Int)) Try.underlying3 (H.ev rfl) evc (by omega) (by omega)) ?_; refine kl H rfl fun a H => ?_
          refine wl_v _ (r_assign (H.ev rfl)) ?_; refine kl H rfl fun a H => ?_
          refine wpList_nil ?_
          refine c_next ?_
          refine wp_block ?_
          refine wp_loop (FlI w b0 n A c NS) (fun a _ => (intOf (a.eval (.tmp 8))).toNat) ⟨NS.length - 1, _, H.pick [0, 1, 5, 6, 7, 8], by omega, k0, (by rw [show NS.length - 1 + 1 = NS.length from by omega, wl_top]; exact Row.nil), hall⟩ ?_
          clear H hall k0
          rintro a w' ⟨i, s, H, hi, k0, rs, hall⟩
          have H0 := H
          by_cases hi0 : 0 < i
          · skip
            obtain ⟨m, rfl⟩ : ∃ m, i = m + 1 := ⟨i - 1, by omega⟩
            obtain ⟨b, o, hA, hr⟩ := flat_some encN_len hh.out (by omega) hi
            have ht := wl_mid (n := n) (i := m + 1) (NS := NS) (by omega) (by omega) (by omega) (by omega) hi
            obtain ⟨sa, ha, hsa⟩ := wl_ack (n := n) (i := m + 1) (NS := NS) (by omega) (by omega) (by omega) (by omega) hi
            subst hA
            generalize NS[m + 1] = y at *
            have HT := Lib.hid ht
            have HA := Lib.hid ha
            have HRG := Lib.hid hr
            obtain ⟨PP, hP⟩ : ∃ P, 2 ^ (NS.length - 1) = P := ⟨_, rfl⟩
            obtain ⟨QQ, hQ⟩ : ∃ Q, 2 ^ m = Q := ⟨_, rfl⟩
            rw [show m + 1 - 1 = m from by omega, hP, hQ] at hsa
            have hP128 : PP ≤ 128 := hP ▸ pow_le7 (by omega)
            have hPP := fun {ev : Act} {ww : World} {d : Option Tmp} {tt : TypeId} {ps : String} {af : Array Edge} {gd : Option (Nat × Bool)} {yy : Operand} {t2 : TypeId} (hy : ev.eval yy = .int .i64 (NS.length - 1 : Nat)) => hP ▸ r_shl7 (P := Try.prog) (a := ev) (w := ww) (d := d) (tt := tt) (ps := ps) (af := af) (gd := gd) (y := yy) (t2 := t2) Try.underlying3 hy (by omega)
            have hQQ := fun {ev : Act} {ww : World} {d : Option Tmp} {tt : TypeId} {ps : String} {af : Array Edge} {gd : Option (Nat × Bool)} {yy : Operand} {t2 : TypeId} (hy : ev.eval yy = .int .i64 (m : Nat)) => hQ ▸ r_shl7 (P := Try.prog) (a := ev) (w := ww) (d := d) (tt := tt) (ps := ps) (af := af) (gd := gd) (y := yy) (t2 := t2) Try.underlying3 hy (by omega)
            clear ht ha hr hP hQ
            have H := H0
            refine wp_seq ?_
            refine wp_seq ?_
            refine wp_region_lit ?_
            refine wl_v _ (r_move (H.ev rfl)) ?_; refine kl H rfl fun a H => ?_
            refine wl_v _ (r_gt Try.underlying3 (H.ev rfl) evc (dec_t (by omega))) ?_; refine kl H rfl fun a H => ?_
            refine wpList_nil ?_
            refine c_next ?_
            refine c_cond_t H rfl ?_
            refine wp_skip ?_
            refine c_next ?_
            refine wp_seq ?_
            refine wp_block ?_
            refine wp_seq ?_
            have hS : SFl w b0 n s _ := ⟨hall.drew, k0⟩
            refine region_tree (SFl w b0 n s) 16 (.fl 0 (.fl 1 (.fl 2 (.fl 3 (.fl 4 (.fl 5 (.fl 6 (.fl 7 (.fl 8 (.two 9 (.fl 10 (.fl 11 (.fl 12 (.one 13 (.one 14 (.fl 15 .done)))))) 13 (.one 9 (.fl 10 (.fl 11 (.fl 12 (.one 14 (.fl 15 .done)))))))))))))))) (by kernel_rfl) (by kernel_rfl) rfl (by kernel_rfl) hS ?_
            replace rs : IRow (World.drew _) _ _ := Row.up rs (Below.refl _ _).drew
            clear hall k0
            refine pt_f0 _ rfl (fun w' hS' => r_row (cs := [.int .i64 n, s]) (H.ev rfl) (block_range (hS'.2)) (by kernel_rfl) s24 rfl) ?_; refine kt H rfl fun a H => ?_
            refine pt_f0 _ rfl (fun w' hS' => r_move (H.ev rfl)) ?_; refine kt H rfl fun a H => ?_
            refine pt_f0 _ rfl (fun w' hS' => r_move (H.ev rfl)) ?_; refine kt H rfl fun a H => ?_
            refine pt_f0 _ rfl (fun w' hS' => r_add (q := n + ((m + 1 : Nat) : Int)) Try.underlying3 (H.ev rfl) (H.ev rfl) (by omega) (by omega)) ?_; refine kt H rfl fun a H => ?_
            refine pt_f0 _ rfl (fun w' hS' => r_move (H.ev rfl)) ?_; refine kt H rfl fun a H => ?_
            refine pt_f0 _ rfl (fun w' hS' => r_move (H.ev rfl)) ?_; refine kt H rfl fun a H => ?_
            refine pt_f0 _ rfl (fun w' hS' => r_idx (j := (m + 1)) (q := o + (m + 1) * 4) Try.underlying27 s31 (H.ev rfl) (H.ev rfl) (by omega) rfl) ?_; refine kt H rfl fun a H => ?_
            refine pt_f0 _ rfl (fun w' hS' => r_row (cs := [.int .i64 y.1, .int .i64 y.2.1, .int .i64 y.2.2.1, .int .i64 y.2.2.2]) (H.ev rfl) (range_ups HRG.out hS'.1) (by kernel_rfl) s31 rfl) ?_; refine kt H rfl fun a H => ?_
            refine pt_f0 _ rfl (fun w' hS' => r_build #[(0, .int .i64 (n + ((m + 1 : Nat) : Int))), (1, .agg #[.int .i64 y.1, .int .i64 y.2.1, .int .i64 y.2.2.1, .int .i64 y.2.2.2])] (.agg #[.int .i64 (n + ((m + 1 : Nat) : Int)), .int .i64 y.1, .int .i64 y.2.1, .int .i64 y.2.2.1, .int .i64 y.2.2.2]) (by simp [evc, H.ev (j := 45) rfl, H.ev (j := 49) rfl]) (fun w => by kernel_rfl)) ?_; refine kt H rfl fun a H => ?_
            refine pt_two (fun K hK => ?_) (fun K hK => ?_)
            · skip
              refine st_a0 rfl ?_; have hlz := hS.2.lt; refine wpo_call _ _ _ (take_any _ n s (WL n (m + 2) NS) (n + ((m + 1 : Nat) : Int), y) rs (by rw [wl_len]; omega) (by simp only; omega) (by simp only; omega)) (r_call2 cf12 (H.ev rfl) (H.ev rfl)) ?_; rintro e w9 ⟨⟨s1, o1, rfl, ⟨rs1, fs1⟩, ⟨ro1, fo1⟩⟩, hb⟩; refine ⟨_, rfl, ?_⟩; rw [HT.out] at rs1 ro1 ⊢; clear rs; replace hS := hS.up hb; clear hb; obtain ⟨Ao1, co1, hov, u1, u2, u3, u4⟩ := ro1; simp only [List.length_nil] at hov; subst hov; clear u1 u2 u3 u4; have hnez : ∀ A n c, s1 = .slice A n c → ∀ b o, A = some ⟨b, o, none⟩ → b ≠ b0 := (fun A n c e b o ea => by have := fs1 A n c e b o ea; omega); clear hlz fs1 fo1; refine hK _ _ ⟨(fun _ => hS), ?_⟩; clear hK; clear K; refine kt H rfl fun a H => ?_
              refine pt_f0 _ rfl (fun w' hS' => r_move (H.ev rfl)) ?_; refine kt H rfl fun a H => ?_
              refine pt_f0 _ rfl (fun w' hS' => r_extract (v := .agg #[.int .i64 n, s1]) (H.ev rfl) rfl) ?_; refine kt H rfl fun a H => ?_
              refine pt_f0 _ rfl (fun w' hS' => r_extract (v := .slice Ao1 0 co1) (H.ev rfl) rfl) ?_; refine kt H rfl fun a H => ?_
              refine pt_one (fun K hK => ?_)
              refine st_a0 rfl ?_; refine wpo_alloc 24 #[.int .i64 0, .slice none 0 0] z24 fun w1 b1 hge hb k1 => ?_; have g1 := Nat.le_trans (SFl.size hS) hge; have dz : b0 < b1 := Nat.lt_of_lt_of_le hS.2.lt hge; have hne9 : ∀ A n c, s1 = .slice A n c → ∀ b o, A = some ⟨b, o, none⟩ → b ≠ b1 := (fun A n c e b o ea => by have := row_lt rs1 (by rw [wl_len]; omega) e ea; omega); replace rs1 := Row.up rs1 hb; replace hS := hS.up hb; clear hge hb; refine hK _ _ ⟨(fun _ => hS), ?_⟩; clear hK; clear K; refine kt H rfl fun a H => ?_
              refine pt_one (fun K hK => ?_)
              refine st_a0 rfl ?_; refine wpo_store1 24 (.tmp 9) (.tmp 52) b1 0 24 (.agg #[.int .i64 n, s1]) _ (H.ev rfl) (H.ev rfl) k1 s24 (by simp [Value.cells]) (by obtain ⟨A, c, rfl, _⟩ := rs1; simp [Value.cells, Value.oneCell']) fun w8 hb8 ho8 kq => ?_; clear k1; have k1 : Block w8 b1 24 #[.int .i64 n, s1] := kq; clear kq; replace rs1 := row_far rs1 hne9 ho8; replace hS := hS.far (hb8 _ g1) (ho8 _ (by omega)); clear hb8 ho8; refine hK _ _ ⟨(fun _ => hS), ?_⟩; clear hK; clear K; skip
              refine pt_f0 _ rfl (fun w' hS' => r_assign (H.ev rfl)) ?_; refine kt H rfl fun a H => ?_
              refine pt_done (NoPanic.normal ?_)
              have hall := hS.1
              have k0 := hS.2
              clear hS
              refine c_next ?_
              refine wp_seq ?_
              refine wp_region_lit ?_
              refine wl_v _ (r_row (cs := [.int .i64 n, s1]) (H.ev rfl) (block_range k1) (by kernel_rfl) s24 rfl) ?_; refine kl H rfl fun a H => ?_
              refine wl_call _ _ _ (ack_any _ n s1 (WL n (m + 1) NS) rs1 (by rw [wl_len]; omega)) (r_call1 cf14 (H.ev rfl)) ?_; rintro e w9 ⟨rfl, hb⟩; refine ⟨_, rfl, ?_⟩; rw [HA.out]; replace rs1 := Row.up rs1 hb; replace k1 := Block.ups k1 hb; replace k0 := Block.ups k0 hb; replace hall := hall.trans (hb.mono hall.size); clear hb; refine kl H rfl fun a H => ?_
              refine wl_v _ (r_move (H.ev rfl)) ?_; refine kl H rfl fun a H => ?_
              refine wl_v _ (r_extract (v := .int .i64 (n - 1)) (H.ev rfl) rfl) ?_; refine kl H rfl fun a H => ?_
              refine wl_v _ (r_extract (v := .int .i64 (sa : Nat)) (H.ev rfl) rfl) ?_; refine kl H rfl fun a H => ?_
              refine wl_v _ (r_assign (H.ev rfl)) ?_; refine kl H rfl fun a H => ?_
              refine wl_v _ (r_assign (H.ev rfl)) ?_; refine kl H rfl fun a H => ?_
              refine wpList_nil ?_
              refine c_next ?_
              refine wp_seq ?_
              refine wp_seq ?_
              have hS : BelowOf w _ := hall.drew
              refine region_pi (BelowOf w) [(0, true), (1, true), (2, true), (3, true), (4, true), (5, true), (6, true), (7, true), (8, true), (9, true), (10, true), (11, true), (12, true), (13, true), (14, true), (15, true), (16, true), (17, true), (18, true), (19, true)] (by kernel_rfl) (by kernel_rfl) rfl (by kernel_rfl) hS ?_
              replace rs1 := Row.up rs1 (Below.refl _ _).drew
              replace k1 := Block.ups k1 (Below.refl _ _).drew
              replace k0 := Block.ups k0 (Below.refl _ _).drew
              refine pi_f0 _ rfl (fun w' hS' => r_move (H.ev rfl)) ?_; refine kp H rfl fun a H => ?_
              refine pi_f0 _ rfl (fun w' hS' => r_len Try.underlying27 (H.ev rfl)) ?_; refine kp H rfl fun a H => ?_
              refine pi_f0 _ rfl (fun w' hS' => r_ne Try.underlying3 (H.ev rfl) evc (dec_f (by omega))) ?_; refine kp H rfl fun a H => ?_
              refine pi_f0 _ rfl (fun w' hS' => r_move (H.ev rfl)) ?_; refine kp H rfl fun a H => ?_
              refine pi_f1 _ rfl rfl rfl (H.ev rfl) (fun w' hS' => r_move (H.ev rfl)) ?_; refine kp H rfl fun a H => ?_
              refine pi_f1 _ rfl rfl rfl (H.ev rfl) (fun w' hS' => r_move (H.ev rfl)) ?_; refine kp H rfl fun a H => ?_
              refine pi_f1 _ rfl rfl rfl (H.ev rfl) (fun w' hS' => r_sub (q := n - 1) Try.underlying3 (H.ev rfl) evc (by omega) (by omega)) ?_; refine kp H rfl fun a H => ?_
              refine pi_f1 _ rfl rfl rfl (H.ev rfl) (fun w' hS' => r_ne Try.underlying3 (H.ev rfl) (H.ev rfl) (dec_f (by omega))) ?_; refine kp H rfl fun a H => ?_
              refine pi_f0 _ rfl (fun w' hS' => r_pick_f (H.ev rfl) (H.ev rfl)) ?_; refine kp H rfl fun a H => ?_
              refine pi_f0 _ rfl (fun w' hS' => r_move (H.ev rfl)) ?_; refine kp H rfl fun a H => ?_
              refine pi_f1 _ rfl rfl rfl (H.ev rfl) (fun w' hS' => r_move (H.ev rfl)) ?_; refine kp H rfl fun a H => ?_
              refine pi_f1 _ rfl rfl rfl (H.ev rfl) (fun w' hS' => r_move (H.ev rfl)) ?_; refine kp H rfl fun a H => ?_
              refine pi_f1 (.int .i64 (NS.length - 1 : Nat)) rfl rfl rfl (H.ev rfl) (fun w' hS' => r_sub (q := ((NS.length - 1 : Nat) : Int)) Try.underlying3 (H.ev rfl) evc (by omega) (by omega)) ?_; refine kp H rfl fun a H => ?_
              refine pi_f1 (.int .i64 (PP : Nat)) rfl rfl rfl (H.ev rfl) (fun w' hS' => hPP (H.ev rfl)) ?_; refine kp H rfl fun a H => ?_
              refine pi_f1 _ rfl rfl rfl (H.ev rfl) (fun w' hS' => r_move (H.ev rfl)) ?_; refine kp H rfl fun a H => ?_
              refine pi_f1 (.int .i64 (m : Nat)) rfl rfl rfl (H.ev rfl) (fun w' hS' => r_sub (q := ((m : Nat) : Int)) Try.underlying3 (H.ev rfl) evc (by omega) (by omega)) ?_; refine kp H rfl fun a H => ?_
              refine pi_f1 (.int .i64 (QQ : Nat)) rfl rfl rfl (H.ev rfl) (fun w' hS' => hQQ (H.ev rfl)) ?_; refine kp H rfl fun a H => ?_
              refine pi_f1 _ rfl rfl rfl (H.ev rfl) (fun w' hS' => r_sub (q := ((PP : Nat) : Int) - ((QQ : Nat) : Int)) Try.underlying3 (H.ev rfl) (H.ev rfl) (by omega) (by omega)) ?_; refine kp H rfl fun a H => ?_
              by_cases hcc4 : ((sa : Nat) : Int) ≠ (((PP : Nat) : Int) - ((QQ : Nat) : Int))
              · skip
                refine pi_f1 _ rfl rfl rfl (H.ev rfl) (fun w' hS' => r_ne Try.underlying3 (H.ev rfl) (H.ev rfl) (dec_t (hcc4))) ?_; refine kp H rfl fun a H => ?_
                refine pi_f0 _ rfl (fun w' hS' => r_pick_f (H.ev rfl) (H.ev rfl)) ?_; refine kp H rfl fun a H => ?_
                refine pi_nil (NoPanic.normal ?_)
                have hall : Below w.heap.size w _ := hS
                clear hS
                refine c_next ?_
                refine c_cond_t H rfl ?_
                refine wp_seq ?_
                refine wp_region_lit ?_
                refine wl_v _ (r_assign evc) ?_; refine kl H rfl fun a H => ?_
                refine wpList_nil ?_
                refine c_next ?_
                refine wp_ret ?_
                refine r_then ?_
                refine r_block ?_
                refine r_then ?_
                refine r_then ?_
                refine r_block ?_
                refine r_then ?_
                exfalso; omega
              · skip
                refine pi_f1 _ rfl rfl rfl (H.ev rfl) (fun w' hS' => r_ne Try.underlying3 (H.ev rfl) (H.ev rfl) (dec_f (hcc4))) ?_; refine kp H rfl fun a H => ?_
                refine pi_f0 _ rfl (fun w' hS' => r_pick_f (H.ev rfl) (H.ev rfl)) ?_; refine kp H rfl fun a H => ?_
                refine pi_nil (NoPanic.normal ?_)
                have hall : Below w.heap.size w _ := hS
                clear hS
                refine c_next ?_
                refine c_cond_f H rfl ?_
                refine wp_skip ?_
                refine c_next ?_
                refine wp_region_lit ?_
                refine wl_v _ (r_row (cs := [.int .i64 n, s1]) (H.ev rfl) (block_range k1) (by kernel_rfl) s24 rfl) ?_; refine kl H rfl fun a H => ?_
                refine op_store1 24 (.tmp 7) (.tmp 79) b0 0 24 (.agg #[.int .i64 n, s1]) _ (H.ev rfl) (H.ev rfl) k0 s24 (by simp [Value.cells]) (recv_one rs1) fun w' hb ho kq => ?_; clear k0; have k0 : Block _ b0 24 #[.int .i64 n, s1] := kq; clear kq; replace rs1 := row_far rs1 hnez (fun g e => ho g e); replace k1 := block_same k1 (ho _ (by omega)); replace hall := hall.trans (hb _ g0); clear hb ho; refine kl0 H fun a H => ?_
                refine wpList_nil ?_
                refine n_block ?_
                refine c_next ?_
                refine wp_region_lit ?_
                refine wl_v _ (r_move (H.ev rfl)) ?_; refine kl H rfl fun a H => ?_
                refine wl_v (.int .i64 (m : Nat)) (r_sub (q := ((m : Nat) : Int)) Try.underlying3 (H.ev rfl) evc (by omega) (by omega)) ?_; refine kl H rfl fun a H => ?_
                refine wl_v _ (r_assign (H.ev rfl)) ?_; refine kl H rfl fun a H => ?_
                refine wpList_nil ?_
                refine n_then ⟨⟨m, s1, H.pick [0, 1, 5, 6, 7, 8], by omega, k0, rs1, hall⟩, ?_⟩
                rw [H.ev (j := 8) rfl, H0.ev (j := 8) rfl]
                simp only [intOf]
                omega
            · skip
              refine st_a0 rfl ?_; refine wpo_alloc 24 #[.int .i64 0, .slice none 0 0] z24 fun w1 b2 hge hb k2 => ?_; have g2 := Nat.le_trans (SFl.size hS) hge; have dz : b0 < b2 := Nat.lt_of_lt_of_le hS.2.lt hge; replace rs := Row.up rs hb; replace hS := hS.up hb; clear hge hb; refine hK _ _ ⟨(fun _ => hS), ?_⟩; clear hK; clear K; refine kt H rfl fun a H => ?_
              refine pt_one (fun K hK => ?_)
              refine st_a0 rfl ?_; have hlz := hS.2.lt; have hl9 := k2.lt; refine wpo_call _ _ _ (take_any _ n s (WL n (m + 2) NS) (n + ((m + 1 : Nat) : Int), y) rs (by rw [wl_len]; omega) (by simp only; omega) (by simp only; omega)) (r_call2 cf12 (H.ev rfl) (H.ev rfl)) ?_; rintro e w9 ⟨⟨s1, o1, rfl, ⟨rs1, fs1⟩, ⟨ro1, fo1⟩⟩, hb⟩; refine ⟨_, rfl, ?_⟩; rw [HT.out] at rs1 ro1 ⊢; clear rs; replace k2 := Block.ups k2 hb; replace hS := hS.up hb; clear hb; obtain ⟨Ao1, co1, hov, u1, u2, u3, u4⟩ := ro1; simp only [List.length_nil] at hov; subst hov; clear u1 u2 u3 u4; have hnez : ∀ A n c, s1 = .slice A n c → ∀ b o, A = some ⟨b, o, none⟩ → b ≠ b0 := (fun A n c e b o ea => by have := fs1 A n c e b o ea; omega); have hne9 : ∀ A n c, s1 = .slice A n c → ∀ b o, A = some ⟨b, o, none⟩ → b ≠ b2 := (fun A n c e b o ea => by have := fs1 A n c e b o ea; omega); clear hl9; clear hlz fs1 fo1; refine hK _ _ ⟨(fun _ => hS), ?_⟩; clear hK; clear K; refine kt H rfl fun a H => ?_
              refine pt_f0 _ rfl (fun w' hS' => r_move (H.ev rfl)) ?_; refine kt H rfl fun a H => ?_
              refine pt_f0 _ rfl (fun w' hS' => r_extract (v := .agg #[.int .i64 n, s1]) (H.ev rfl) rfl) ?_; refine kt H rfl fun a H => ?_
              refine pt_f0 _ rfl (fun w' hS' => r_extract (v := .slice Ao1 0 co1) (H.ev rfl) rfl) ?_; refine kt H rfl fun a H => ?_
              refine pt_one (fun K hK => ?_)
              refine st_a0 rfl ?_; refine wpo_store1 24 (.tmp 9) (.tmp 52) b2 0 24 (.agg #[.int .i64 n, s1]) _ (H.ev rfl) (H.ev rfl) k2 s24 (by simp [Value.cells]) (by obtain ⟨A, c, rfl, _⟩ := rs1; simp [Value.cells, Value.oneCell']) fun w8 hb8 ho8 kq => ?_; clear k2; have k2 : Block w8 b2 24 #[.int .i64 n, s1] := kq; clear kq; replace rs1 := row_far rs1 hne9 ho8; replace hS := hS.far (hb8 _ g2) (ho8 _ (by omega)); clear hb8 ho8; refine hK _ _ ⟨(fun _ => hS), ?_⟩; clear hK; clear K; skip
              refine pt_f0 _ rfl (fun w' hS' => r_assign (H.ev rfl)) ?_; refine kt H rfl fun a H => ?_
              refine pt_done (NoPanic.normal ?_)
              have hall := hS.1
              have k0 := hS.2
              clear hS
              refine c_next ?_
              refine wp_seq ?_
              refine wp_region_lit ?_
              refine wl_v _ (r_row (cs := [.int .i64 n, s1]) (H.ev rfl) (block_range k2) (by kernel_rfl) s24 rfl) ?_; refine kl H rfl fun a H => ?_
              refine wl_call _ _ _ (ack_any _ n s1 (WL n (m + 1) NS) rs1 (by rw [wl_len]; omega)) (r_call1 cf14 (H.ev rfl)) ?_; rintro e w9 ⟨rfl, hb⟩; refine ⟨_, rfl, ?_⟩; rw [HA.out]; replace k2 := Block.ups k2 hb; replace rs1 := Row.up rs1 hb; replace k0 := Block.ups k0 hb; replace hall := hall.trans (hb.mono hall.size); clear hb; refine kl H rfl fun a H => ?_
              refine wl_v _ (r_move (H.ev rfl)) ?_; refine kl H rfl fun a H => ?_
              refine wl_v _ (r_extract (v := .int .i64 (n - 1)) (H.ev rfl) rfl) ?_; refine kl H rfl fun a H => ?_
              refine wl_v _ (r_extract (v := .int .i64 (sa : Nat)) (H.ev rfl) rfl) ?_; refine kl H rfl fun a H => ?_
              refine wl_v _ (r_assign (H.ev rfl)) ?_; refine kl H rfl fun a H => ?_
              refine wl_v _ (r_assign (H.ev rfl)) ?_; refine kl H rfl fun a H => ?_
              refine wpList_nil ?_
              refine c_next ?_
              refine wp_seq ?_
              refine wp_seq ?_
              have hS : BelowOf w _ := hall.drew
              refine region_pi (BelowOf w) [(0, true), (1, true), (2, true), (3, true), (4, true), (5, true), (6, true), (7, true), (8, true), (9, true), (10, true), (11, true), (12, true), (13, true), (14, true), (15, true), (16, true), (17, true), (18, true), (19, true)] (by kernel_rfl) (by kernel_rfl) rfl (by kernel_rfl) hS ?_
              replace k2 := Block.ups k2 (Below.refl _ _).drew
              replace rs1 := Row.up rs1 (Below.refl _ _).drew
              replace k0 := Block.ups k0 (Below.refl _ _).drew
              refine pi_f0 _ rfl (fun w' hS' => r_move (H.ev rfl)) ?_; refine kp H rfl fun a H => ?_
              refine pi_f0 _ rfl (fun w' hS' => r_len Try.underlying27 (H.ev rfl)) ?_; refine kp H rfl fun a H => ?_
              refine pi_f0 _ rfl (fun w' hS' => r_ne Try.underlying3 (H.ev rfl) evc (dec_f (by omega))) ?_; refine kp H rfl fun a H => ?_
              refine pi_f0 _ rfl (fun w' hS' => r_move (H.ev rfl)) ?_; refine kp H rfl fun a H => ?_
              refine pi_f1 _ rfl rfl rfl (H.ev rfl) (fun w' hS' => r_move (H.ev rfl)) ?_; refine kp H rfl fun a H => ?_
              refine pi_f1 _ rfl rfl rfl (H.ev rfl) (fun w' hS' => r_move (H.ev rfl)) ?_; refine kp H rfl fun a H => ?_
              refine pi_f1 _ rfl rfl rfl (H.ev rfl) (fun w' hS' => r_sub (q := n - 1) Try.underlying3 (H.ev rfl) evc (by omega) (by omega)) ?_; refine kp H rfl fun a H => ?_
              refine pi_f1 _ rfl rfl rfl (H.ev rfl) (fun w' hS' => r_ne Try.underlying3 (H.ev rfl) (H.ev rfl) (dec_f (by omega))) ?_; refine kp H rfl fun a H => ?_
              refine pi_f0 _ rfl (fun w' hS' => r_pick_f (H.ev rfl) (H.ev rfl)) ?_; refine kp H rfl fun a H => ?_
              refine pi_f0 _ rfl (fun w' hS' => r_move (H.ev rfl)) ?_; refine kp H rfl fun a H => ?_
              refine pi_f1 _ rfl rfl rfl (H.ev rfl) (fun w' hS' => r_move (H.ev rfl)) ?_; refine kp H rfl fun a H => ?_
              refine pi_f1 _ rfl rfl rfl (H.ev rfl) (fun w' hS' => r_move (H.ev rfl)) ?_; refine kp H rfl fun a H => ?_
              refine pi_f1 (.int .i64 (NS.length - 1 : Nat)) rfl rfl rfl (H.ev rfl) (fun w' hS' => r_sub (q := ((NS.length - 1 : Nat) : Int)) Try.underlying3 (H.ev rfl) evc (by omega) (by omega)) ?_; refine kp H rfl fun a H => ?_
              refine pi_f1 (.int .i64 (PP : Nat)) rfl rfl rfl (H.ev rfl) (fun w' hS' => hPP (H.ev rfl)) ?_; refine kp H rfl fun a H => ?_
              refine pi_f1 _ rfl rfl rfl (H.ev rfl) (fun w' hS' => r_move (H.ev rfl)) ?_; refine kp H rfl fun a H => ?_
              refine pi_f1 (.int .i64 (m : Nat)) rfl rfl rfl (H.ev rfl) (fun w' hS' => r_sub (q := ((m : Nat) : Int)) Try.underlying3 (H.ev rfl) evc (by omega) (by omega)) ?_; refine kp H rfl fun a H => ?_
              refine pi_f1 (.int .i64 (QQ : Nat)) rfl rfl rfl (H.ev rfl) (fun w' hS' => hQQ (H.ev rfl)) ?_; refine kp H rfl fun a H => ?_
              refine pi_f1 _ rfl rfl rfl (H.ev rfl) (fun w' hS' => r_sub (q := ((PP : Nat) : Int) - ((QQ : Nat) : Int)) Try.underlying3 (H.ev rfl) (H.ev rfl) (by omega) (by omega)) ?_; refine kp H rfl fun a H => ?_
              by_cases hcc5 : ((sa : Nat) : Int) ≠ (((PP : Nat) : Int) - ((QQ : Nat) : Int))
              · skip
                refine pi_f1 _ rfl rfl rfl (H.ev rfl) (fun w' hS' => r_ne Try.underlying3 (H.ev rfl) (H.ev rfl) (dec_t (hcc5))) ?_; refine kp H rfl fun a H => ?_
                refine pi_f0 _ rfl (fun w' hS' => r_pick_f (H.ev rfl) (H.ev rfl)) ?_; refine kp H rfl fun a H => ?_
                refine pi_nil (NoPanic.normal ?_)
                have hall : Below w.heap.size w _ := hS
                clear hS
                refine c_next ?_
                refine c_cond_t H rfl ?_
                refine wp_seq ?_
                refine wp_region_lit ?_
                refine wl_v _ (r_assign evc) ?_; refine kl H rfl fun a H => ?_
                refine wpList_nil ?_
                refine c_next ?_
                refine wp_ret ?_
                refine r_then ?_
                refine r_block ?_
                refine r_then ?_
                refine r_then ?_
                refine r_block ?_
                refine r_then ?_
                exfalso; omega
              · skip
                refine pi_f1 _ rfl rfl rfl (H.ev rfl) (fun w' hS' => r_ne Try.underlying3 (H.ev rfl) (H.ev rfl) (dec_f (hcc5))) ?_; refine kp H rfl fun a H => ?_
                refine pi_f0 _ rfl (fun w' hS' => r_pick_f (H.ev rfl) (H.ev rfl)) ?_; refine kp H rfl fun a H => ?_
                refine pi_nil (NoPanic.normal ?_)
                have hall : Below w.heap.size w _ := hS
                clear hS
                refine c_next ?_
                refine c_cond_f H rfl ?_
                refine wp_skip ?_
                refine c_next ?_
                refine wp_region_lit ?_
                refine wl_v _ (r_row (cs := [.int .i64 n, s1]) (H.ev rfl) (block_range k2) (by kernel_rfl) s24 rfl) ?_; refine kl H rfl fun a H => ?_
                refine op_store1 24 (.tmp 7) (.tmp 79) b0 0 24 (.agg #[.int .i64 n, s1]) _ (H.ev rfl) (H.ev rfl) k0 s24 (by simp [Value.cells]) (recv_one rs1) fun w' hb ho kq => ?_; clear k0; have k0 : Block _ b0 24 #[.int .i64 n, s1] := kq; clear kq; replace k2 := block_same k2 (ho _ (by omega)); replace rs1 := row_far rs1 hnez (fun g e => ho g e); replace hall := hall.trans (hb _ g0); clear hb ho; refine kl0 H fun a H => ?_
                refine wpList_nil ?_
                refine n_block ?_
                refine c_next ?_
                refine wp_region_lit ?_
                refine wl_v _ (r_move (H.ev rfl)) ?_; refine kl H rfl fun a H => ?_
                refine wl_v (.int .i64 (m : Nat)) (r_sub (q := ((m : Nat) : Int)) Try.underlying3 (H.ev rfl) evc (by omega) (by omega)) ?_; refine kl H rfl fun a H => ?_
                refine wl_v _ (r_assign (H.ev rfl)) ?_; refine kl H rfl fun a H => ?_
                refine wpList_nil ?_
                refine n_then ⟨⟨m, s1, H.pick [0, 1, 5, 6, 7, 8], by omega, k0, rs1, hall⟩, ?_⟩
                rw [H.ev (j := 8) rfl, H0.ev (j := 8) rfl]
                simp only [intOf]
                omega
          · skip
            obtain rfl : i = 0 := by omega
            obtain ⟨b, o, hA, hr⟩ := flat_some encN_len hh.out (by omega) hi
            have ht := wl_end (n := n) (NS := NS) (by omega) (by omega) (by omega) hi
            subst hA
            generalize NS[0] = y at *
            have HT := Lib.hid ht
            have HRG := Lib.hid hr
            clear ht hr
            have H := H0
            refine wp_seq ?_
            refine wp_seq ?_
            refine wp_region_lit ?_
            refine wl_v _ (r_move (H.ev rfl)) ?_; refine kl H rfl fun a H => ?_
            refine wl_v _ (r_gt Try.underlying3 (H.ev rfl) evc (dec_f (by omega))) ?_; refine kl H rfl fun a H => ?_
            refine wpList_nil ?_
            refine c_next ?_
            refine c_cond_f H rfl ?_
            refine wp_exit ?_
            refine e_then ?_
            refine e_then ?_
            refine e_here ?_
            refine c_next ?_
            refine wp_seq ?_
            have hS : SFl w b0 n s _ := ⟨hall.drew, k0⟩
            refine region_tree (SFl w b0 n s) 13 (.fl 0 (.fl 1 (.fl 2 (.fl 3 (.fl 4 (.fl 5 (.two 6 (.fl 7 (.fl 8 (.fl 9 (.one 10 (.one 11 (.fl 12 .done)))))) 10 (.one 6 (.fl 7 (.fl 8 (.fl 9 (.one 11 (.fl 12 .done))))))))))))) (by kernel_rfl) (by kernel_rfl) rfl (by kernel_rfl) hS ?_
            replace rs : IRow (World.drew _) _ _ := Row.up rs (Below.refl _ _).drew
            clear hall k0
            refine pt_f0 _ rfl (fun w' hS' => r_row (cs := [.int .i64 n, s]) (H.ev rfl) (block_range (hS'.2)) (by kernel_rfl) s24 rfl) ?_; refine kt H rfl fun a H => ?_
            refine pt_f0 _ rfl (fun w' hS' => r_move (H.ev rfl)) ?_; refine kt H rfl fun a H => ?_
            refine pt_f0 _ rfl (fun w' hS' => r_move (H.ev rfl)) ?_; refine kt H rfl fun a H => ?_
            refine pt_f0 _ rfl (fun w' hS' => r_idx (j := 0) (q := o + 0 * 4) Try.underlying27 s31 (H.ev rfl) evc (by omega) rfl) ?_; refine kt H rfl fun a H => ?_
            refine pt_f0 _ rfl (fun w' hS' => r_row (cs := [.int .i64 y.1, .int .i64 y.2.1, .int .i64 y.2.2.1, .int .i64 y.2.2.2]) (H.ev rfl) (range_ups HRG.out hS'.1) (by kernel_rfl) s31 rfl) ?_; refine kt H rfl fun a H => ?_
            refine pt_f0 _ rfl (fun w' hS' => r_build #[(0, .int .i64 n), (1, .agg #[.int .i64 y.1, .int .i64 y.2.1, .int .i64 y.2.2.1, .int .i64 y.2.2.2])] (.agg #[.int .i64 n, .int .i64 y.1, .int .i64 y.2.1, .int .i64 y.2.2.1, .int .i64 y.2.2.2]) (by simp [evc, H.ev (j := 82) rfl, H.ev (j := 85) rfl]) (fun w => by kernel_rfl)) ?_; refine kt H rfl fun a H => ?_
            refine pt_two (fun K hK => ?_) (fun K hK => ?_)
            · skip
              refine st_a0 rfl ?_; have hlz := hS.2.lt; refine wpo_call _ _ _ (take_any _ n s (WL n 1 NS) (n, y) rs (by rw [wl_len]; omega) (by simp only; omega) (by simp only; omega)) (r_call2 cf12 (H.ev rfl) (H.ev rfl)) ?_; rintro e w9 ⟨⟨s2, o2, rfl, ⟨rs2, fs2⟩, ⟨ro2, fo2⟩⟩, hb⟩; refine ⟨_, rfl, ?_⟩; rw [HT.out] at rs2 ro2 ⊢; clear rs; replace hS := hS.up hb; clear hb; obtain ⟨Ao2, co2, hov, u1, u2, u3, u4⟩ := ro2; have ro2 : NRow _ (.slice Ao2 NS.length co2) NS := ⟨Ao2, co2, rfl, u1, u2, u3, u4⟩; subst hov; clear u1 u2 u3 u4; have hnez : ∀ A n c, s2 = .slice A n c → ∀ b o, A = some ⟨b, o, none⟩ → b ≠ b0 := (fun A n c e b o ea => by have := fs2 A n c e b o ea; omega); clear hlz fs2 fo2; refine hK _ _ ⟨(fun _ => hS), ?_⟩; clear hK; clear K; refine kt H rfl fun a H => ?_
              refine pt_f0 _ rfl (fun w' hS' => r_move (H.ev rfl)) ?_; refine kt H rfl fun a H => ?_
              refine pt_f0 _ rfl (fun w' hS' => r_extract (v := .agg #[.int .i64 (n + ((NS.length : Nat) : Int)), s2]) (H.ev rfl) rfl) ?_; refine kt H rfl fun a H => ?_
              refine pt_f0 _ rfl (fun w' hS' => r_extract (v := .slice Ao2 NS.length co2) (H.ev rfl) rfl) ?_; refine kt H rfl fun a H => ?_
              refine pt_one (fun K hK => ?_)
              refine st_a0 rfl ?_; refine wpo_alloc 24 #[.int .i64 0, .slice none 0 0] z24 fun w1 b3 hge hb k3 => ?_; have g3 := Nat.le_trans (SFl.size hS) hge; have dz : b0 < b3 := Nat.lt_of_lt_of_le hS.2.lt hge; have hno9 : ∀ A n c, Value.slice Ao2 NS.length co2 = .slice A n c → ∀ b o, A = some ⟨b, o, none⟩ → b ≠ b3 := (fun A n c e b o ea => by have := row_ltN ro2 (by omega) e ea; omega); replace rs2 := Row.up rs2 hb; replace ro2 := Row.up ro2 hb; replace hS := hS.up hb; clear hge hb; refine hK _ _ ⟨(fun _ => hS), ?_⟩; clear hK; clear K; refine kt H rfl fun a H => ?_
              refine pt_one (fun K hK => ?_)
              refine st_a0 rfl ?_; refine wpo_store1 24 (.tmp 13) (.tmp 88) b3 0 24 (.agg #[.int .i64 (n + ((NS.length : Nat) : Int)), s2]) _ (H.ev rfl) (H.ev rfl) k3 s24 (by simp [Value.cells]) (by obtain ⟨A, c, rfl, _⟩ := rs2; simp [Value.cells, Value.oneCell']) fun w8 hb8 ho8 kq => ?_; clear k3; have k3 : Block w8 b3 24 #[.int .i64 (n + ((NS.length : Nat) : Int)), s2] := kq; clear kq; replace rs2 : IRow w8 s2 [] := row_none rs2; replace ro2 := row_farN ro2 hno9 ho8; replace hS := hS.far (hb8 _ g3) (ho8 _ (by omega)); clear hb8 ho8; refine hK _ _ ⟨(fun _ => hS), ?_⟩; clear hK; clear K; skip
              refine pt_f0 _ rfl (fun w' hS' => r_assign (H.ev rfl)) ?_; refine kt H rfl fun a H => ?_
              refine pt_done (NoPanic.normal ?_)
              have hall := hS.1
              have k0 := hS.2
              clear hS
              refine c_next ?_
              refine wp_seq ?_
              refine wp_region_lit ?_
              refine wl_v _ (r_move (H.ev rfl)) ?_; refine kl H rfl fun a H => ?_
              refine wl_v _ (r_move (H.ev rfl)) ?_; refine kl H rfl fun a H => ?_
              refine op_unguard _ _ (kg_yes rfl H rfl rfl rfl) ?_; refine wl_v _ (r_move (H.ev rfl)) ?_; refine kl H rfl fun a H => ?_
              refine op_unguard _ _ (kg_yes rfl H rfl rfl rfl) ?_; refine wl_v _ (r_move (H.ev rfl)) ?_; refine kl H rfl fun a H => ?_
              refine op_unguard _ _ (kg_yes rfl H rfl rfl rfl) ?_; refine wl_call _ _ _ (notes_any _ _ _ NS NS ro2 (Row.up h.out hall) (by omega)) (r_call2 cf18 (H.ev rfl) (H.ev rfl)) ?_; rintro e w9 ⟨rfl, hb⟩; refine ⟨_, rfl, ?_⟩; rw [decide_eq_true (rfl : NS = NS)]; replace rs2 := Row.up rs2 hb; replace ro2 := Row.up ro2 hb; replace k3 := Block.ups k3 hb; replace k0 := Block.ups k0 hb; replace hall := hall.trans (hb.mono hall.size); clear hb; refine kl H rfl fun a H => ?_
              refine wl_v _ (r_pick_t (H.ev rfl) (H.ev rfl)) ?_; refine kl H rfl fun a H => ?_
              refine wl_v _ (r_move (H.ev rfl)) ?_; refine kl H rfl fun a H => ?_
              refine op_unguard _ _ (kg_yes rfl H rfl rfl rfl) ?_; refine wl_v _ (r_row (cs := [.int .i64 (n + ((NS.length : Nat) : Int)), s2]) (H.ev rfl) (block_range k3) (by kernel_rfl) s24 rfl) ?_; refine kl H rfl fun a H => ?_
              refine op_unguard _ _ (kg_yes rfl H rfl rfl rfl) ?_; refine wl_v _ (r_move (H.ev rfl)) ?_; refine kl H rfl fun a H => ?_
              refine op_unguard _ _ (kg_yes rfl H rfl rfl rfl) ?_; refine wl_v _ (r_move (H.ev rfl)) ?_; refine kl H rfl fun a H => ?_
              refine op_unguard _ _ (kg_yes rfl H rfl rfl rfl) ?_; refine wl_v _ (r_add (q := n + ((NS.length : Nat) : Int)) Try.underlying3 (H.ev rfl) (H.ev rfl) (by omega) (by omega)) ?_; refine kl H rfl fun a H => ?_
              refine op_unguard _ _ (kg_yes rfl H rfl rfl rfl) ?_; refine wl_v _ (r_build #[(0, .int .i64 (n + ((NS.length : Nat) : Int)))] (.agg #[.int .i64 (n + ((NS.length : Nat) : Int)), .slice none 0 0]) (by simp [evc, H.ev (j := 100) rfl]) (fun w => by kernel_rfl)) ?_; refine kl H rfl fun a H => ?_
              refine op_unguard _ _ (kg_yes rfl H rfl rfl rfl) ?_; refine wl_call _ _ _ (same_any _ (n + ((NS.length : Nat) : Int)) (n + ((NS.length : Nat) : Int)) s2 (.slice none 0 0) [] [] rs2 Row.nil (by simp)) (r_call2 cf10 (H.ev rfl) (H.ev rfl)) ?_; rintro e w9 ⟨rfl, hb⟩; refine ⟨_, rfl, ?_⟩; rw [show sameB (n + ((NS.length : Nat) : Int)) [] (n + ((NS.length : Nat) : Int)) [] = true from same_refl]; replace rs2 := Row.up rs2 hb; replace ro2 := Row.up ro2 hb; replace k3 := Block.ups k3 hb; replace k0 := Block.ups k0 hb; replace hall := hall.trans (hb.mono hall.size); clear hb; refine kl H rfl fun a H => ?_
              refine wl_v _ (r_pick_t (H.ev rfl) (H.ev rfl)) ?_; refine kl H rfl fun a H => ?_
              refine wl_v _ (r_assign (H.ev rfl)) ?_; refine kl H rfl fun a H => ?_
              refine wpList_nil ?_
              refine c_next ?_
              refine wp_ret ?_
              exact k_ret1 H rfl rfl ⟨rfl, hall⟩
            · skip
              refine st_a0 rfl ?_; refine wpo_alloc 24 #[.int .i64 0, .slice none 0 0] z24 fun w1 b4 hge hb k4 => ?_; have g4 := Nat.le_trans (SFl.size hS) hge; have dz : b0 < b4 := Nat.lt_of_lt_of_le hS.2.lt hge; replace rs := Row.up rs hb; replace hS := hS.up hb; clear hge hb; refine hK _ _ ⟨(fun _ => hS), ?_⟩; clear hK; clear K; refine kt H rfl fun a H => ?_
              refine pt_one (fun K hK => ?_)
              refine st_a0 rfl ?_; have hlz := hS.2.lt; have hl9 := k4.lt; refine wpo_call _ _ _ (take_any _ n s (WL n 1 NS) (n, y) rs (by rw [wl_len]; omega) (by simp only; omega) (by simp only; omega)) (r_call2 cf12 (H.ev rfl) (H.ev rfl)) ?_; rintro e w9 ⟨⟨s2, o2, rfl, ⟨rs2, fs2⟩, ⟨ro2, fo2⟩⟩, hb⟩; refine ⟨_, rfl, ?_⟩; rw [HT.out] at rs2 ro2 ⊢; clear rs; replace k4 := Block.ups k4 hb; replace hS := hS.up hb; clear hb; obtain ⟨Ao2, co2, hov, u1, u2, u3, u4⟩ := ro2; have ro2 : NRow _ (.slice Ao2 NS.length co2) NS := ⟨Ao2, co2, rfl, u1, u2, u3, u4⟩; subst hov; clear u1 u2 u3 u4; have hnez : ∀ A n c, s2 = .slice A n c → ∀ b o, A = some ⟨b, o, none⟩ → b ≠ b0 := (fun A n c e b o ea => by have := fs2 A n c e b o ea; omega); have hne9 : ∀ A n c, s2 = .slice A n c → ∀ b o, A = some ⟨b, o, none⟩ → b ≠ b4 := (fun A n c e b o ea => by have := fs2 A n c e b o ea; omega); have hno9 : ∀ A n c, Value.slice Ao2 NS.length co2 = .slice A n c → ∀ b o, A = some ⟨b, o, none⟩ → b ≠ b4 := (fun A n c e b o ea => by have := fo2 A n c e b o ea; omega); clear hl9; clear hlz fs2 fo2; refine hK _ _ ⟨(fun _ => hS), ?_⟩; clear hK; clear K; refine kt H rfl fun a H => ?_
              refine pt_f0 _ rfl (fun w' hS' => r_move (H.ev rfl)) ?_; refine kt H rfl fun a H => ?_
              refine pt_f0 _ rfl (fun w' hS' => r_extract (v := .agg #[.int .i64 (n + ((NS.length : Nat) : Int)), s2]) (H.ev rfl) rfl) ?_; refine kt H rfl fun a H => ?_
              refine pt_f0 _ rfl (fun w' hS' => r_extract (v := .slice Ao2 NS.length co2) (H.ev rfl) rfl) ?_; refine kt H rfl fun a H => ?_
              refine pt_one (fun K hK => ?_)
              refine st_a0 rfl ?_; refine wpo_store1 24 (.tmp 13) (.tmp 88) b4 0 24 (.agg #[.int .i64 (n + ((NS.length : Nat) : Int)), s2]) _ (H.ev rfl) (H.ev rfl) k4 s24 (by simp [Value.cells]) (by obtain ⟨A, c, rfl, _⟩ := rs2; simp [Value.cells, Value.oneCell']) fun w8 hb8 ho8 kq => ?_; clear k4; have k4 : Block w8 b4 24 #[.int .i64 (n + ((NS.length : Nat) : Int)), s2] := kq; clear kq; replace rs2 : IRow w8 s2 [] := row_none rs2; replace ro2 := row_farN ro2 hno9 ho8; replace hS := hS.far (hb8 _ g4) (ho8 _ (by omega)); clear hb8 ho8; refine hK _ _ ⟨(fun _ => hS), ?_⟩; clear hK; clear K; skip
              refine pt_f0 _ rfl (fun w' hS' => r_assign (H.ev rfl)) ?_; refine kt H rfl fun a H => ?_
              refine pt_done (NoPanic.normal ?_)
              have hall := hS.1
              have k0 := hS.2
              clear hS
              refine c_next ?_
              refine wp_seq ?_
              refine wp_region_lit ?_
              refine wl_v _ (r_move (H.ev rfl)) ?_; refine kl H rfl fun a H => ?_
              refine wl_v _ (r_move (H.ev rfl)) ?_; refine kl H rfl fun a H => ?_
              refine op_unguard _ _ (kg_yes rfl H rfl rfl rfl) ?_; refine wl_v _ (r_move (H.ev rfl)) ?_; refine kl H rfl fun a H => ?_
              refine op_unguard _ _ (kg_yes rfl H rfl rfl rfl) ?_; refine wl_v _ (r_move (H.ev rfl)) ?_; refine kl H rfl fun a H => ?_
              refine op_unguard _ _ (kg_yes rfl H rfl rfl rfl) ?_; refine wl_call _ _ _ (notes_any _ _ _ NS NS ro2 (Row.up h.out hall) (by omega)) (r_call2 cf18 (H.ev rfl) (H.ev rfl)) ?_; rintro e w9 ⟨rfl, hb⟩; refine ⟨_, rfl, ?_⟩; rw [decide_eq_true (rfl : NS = NS)]; replace k4 := Block.ups k4 hb; replace rs2 := Row.up rs2 hb; replace ro2 := Row.up ro2 hb; replace k0 := Block.ups k0 hb; replace hall := hall.trans (hb.mono hall.size); clear hb; refine kl H rfl fun a H => ?_
              refine wl_v _ (r_pick_t (H.ev rfl) (H.ev rfl)) ?_; refine kl H rfl fun a H => ?_
              refine wl_v _ (r_move (H.ev rfl)) ?_; refine kl H rfl fun a H => ?_
              refine op_unguard _ _ (kg_yes rfl H rfl rfl rfl) ?_; refine wl_v _ (r_row (cs := [.int .i64 (n + ((NS.length : Nat) : Int)), s2]) (H.ev rfl) (block_range k4) (by kernel_rfl) s24 rfl) ?_; refine kl H rfl fun a H => ?_
              refine op_unguard _ _ (kg_yes rfl H rfl rfl rfl) ?_; refine wl_v _ (r_move (H.ev rfl)) ?_; refine kl H rfl fun a H => ?_
              refine op_unguard _ _ (kg_yes rfl H rfl rfl rfl) ?_; refine wl_v _ (r_move (H.ev rfl)) ?_; refine kl H rfl fun a H => ?_
              refine op_unguard _ _ (kg_yes rfl H rfl rfl rfl) ?_; refine wl_v _ (r_add (q := n + ((NS.length : Nat) : Int)) Try.underlying3 (H.ev rfl) (H.ev rfl) (by omega) (by omega)) ?_; refine kl H rfl fun a H => ?_
              refine op_unguard _ _ (kg_yes rfl H rfl rfl rfl) ?_; refine wl_v _ (r_build #[(0, .int .i64 (n + ((NS.length : Nat) : Int)))] (.agg #[.int .i64 (n + ((NS.length : Nat) : Int)), .slice none 0 0]) (by simp [evc, H.ev (j := 100) rfl]) (fun w => by kernel_rfl)) ?_; refine kl H rfl fun a H => ?_
              refine op_unguard _ _ (kg_yes rfl H rfl rfl rfl) ?_; refine wl_call _ _ _ (same_any _ (n + ((NS.length : Nat) : Int)) (n + ((NS.length : Nat) : Int)) s2 (.slice none 0 0) [] [] rs2 Row.nil (by simp)) (r_call2 cf10 (H.ev rfl) (H.ev rfl)) ?_; rintro e w9 ⟨rfl, hb⟩; refine ⟨_, rfl, ?_⟩; rw [show sameB (n + ((NS.length : Nat) : Int)) [] (n + ((NS.length : Nat) : Int)) [] = true from same_refl]; replace k4 := Block.ups k4 hb; replace rs2 := Row.up rs2 hb; replace ro2 := Row.up ro2 hb; replace k0 := Block.ups k0 hb; replace hall := hall.trans (hb.mono hall.size); clear hb; refine kl H rfl fun a H => ?_
              refine wl_v _ (r_pick_t (H.ev rfl) (H.ev rfl)) ?_; refine kl H rfl fun a H => ?_
              refine wl_v _ (r_assign (H.ev rfl)) ?_; refine kl H rfl fun a H => ?_
              refine wpList_nil ?_
              refine c_next ?_
              refine wp_ret ?_
              exact k_ret1 H rfl rfl ⟨rfl, hall⟩
theorem fills_all (w : World) (u : Int) (A : Option Addr) (n c : Nat) (B : List Int) (hu : (Lit.int .i64 u).wf = true) (hn : B.length = n * 4) (hnc : n ≤ c) (hcm : c ≤ maxLen) (hh : Holds w A (B.map (Value.int .i64))) (hz : A = none → c = 0) (hb : n ≤ 9223372036854775807) :
    Calls Try.prog 8 #[.int .i64 u, .slice A n c] w fun e w' => e = .returned (.bool true) ∧ Below w.heap.size w w' := by
  obtain ⟨L, h, rfl⟩ := nrow_in hn hnc hcm hh hz
  exact fills_walk w u _ L h hb (wf_int hu)
theorem recvFills_it1 : intTy Try.prog 3 31 = true := by kernel_rfl
theorem recvFills_c1 : Try.prog.cellsOf 31 = 4 := by kernel_rfl
set_option maxRecDepth 100000 in
theorem recvFills_lifted (os : Os) (started : os.Started) (H : Type) (enc : TypeId × Value → H) :
    ReturnsInHanded {} Try.checked os 8 .any (Rows.recvFillsSpec.pre6 enc Try.prog Try.f8 Rows.recvFillsRow.domain false) (Rows.recvFillsSpec.post enc Try.prog Try.f8 false true false false) := by
  refine returnsInHanded_of_change (C := Try.checked) own started (by kernel_rfl) Try.func8
    (ChangeSpec.witness6 (enc := enc) (C := Try.checked) false ⟨#[], #[.int .i64 0, .slice none 0 0], []⟩ 8 (by kernel_rfl) (by kernel_rfl) (by kernel_rfl) (by kernel_rfl)) ?_
  intro W base args ds gs before hval0 hW hcnd _
  have hval : ∀ (j : Nat) t v, Try.f8.params[j]? = some t → args[j]? = some v → Value.okWide Try.prog W .any base t v := hval0
  have hW' := hW
  obtain ⟨p, q, hA0, hV, rfl, hfz, hnd⟩ := hW
  have hA : DataW.TrodAll enc Try.prog W 0 (fun _ => true) true Try.f8.params.toList args.toList ds p := hA0
  rw [Try.params8] at hA hval
  obtain ⟨v0, vs0, d0, ds0, p0, q0, hargs, rfl, rfl, h0, r0⟩ := trodAll_cons hA
  obtain ⟨v1, vs1, d1, ds1, p1, q1, rfl, rfl, rfl, h1, r1⟩ := trodAll_cons r0
  obtain ⟨rfl, rfl, rfl⟩ := trodAll_nil r1
  obtain rfl : args = #[v0, v1] := by cases args; simp_all
  obtain ⟨rfl, rfl⟩ := trodVars_none hV
  have k1 := h1
  have lt1 : ∀ x ∈ p1, x.block < W.heap.size := by obtain ⟨m, hm⟩ := k1; exact DataW.trod_lt m _ _ _ hm
  obtain ⟨u0, rfl, rfl, rfl, wu0⟩ := open_int Try.underlying3 (hval 0 3 v0 rfl rfl) h0
  obtain ⟨A1, n1, c1, L1, rfl, hn1, hw1, hnc1, hcm1, hh1, hz1⟩ := open_slice_ints 3 4 Try.underlying27 recvFills_it1 recvFills_c1 (by omega) (hval 1 27 v1 rfl rfl) h1
  have hb1 : n1 ≤ 9223372036854775807 := by unfold maxLen at hcm1; omega
  clear hA0 hval0
  refine (fills_all W u0 A1 n1 c1 L1 wu0 hn1 hnc1 hcm1 hh1 hz1 hb1).mono fun e W' ⟨he, bel⟩ => ?_
  subst he
  exact ⟨_, rfl, _, _, _, [], _, [], hW', trodAll_mk1 (shut_bool Try.underlying4 _), (trodAll_cons_mk (shut_int Try.underlying3 wu0) (trodAll_cons_mk (Below.trod laidOut (by kernel_rfl) (of_decide_eq_true (by kernel_rfl)) k1 bel lt1) trodAll_mk0)), rfl, bel.frame _, fun h => by cases h⟩

theorem recvFills_holds : Rows.RecvFillsSaid :=
  OpenClaim.holds_of_wide 8 Try.f8 rfl rfl rfl rfl rfl rfl rfl ⟨rfl, rfl, rfl, rfl, rfl⟩ rfl rfl rfl rfl rfl (by kernel_rfl) Try.func8 (by kernel_rfl)
    (of_decide_eq_true (by kernel_rfl)) (by unfold Func.isWrapper; first | (rw [if_pos (by decide +kernel)]; kernel_rfl) | (rw [if_neg (by decide +kernel)]; exact ⟨rfl, rfl⟩))
    (fun os started H enc _ => recvFills_lifted os started H enc)
#print axioms recvFills_holds
end Go.Proofs.Ythfdjlhplcmicaa
