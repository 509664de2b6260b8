/- Recv: Clone, ContainsFunc, cmp. -/
import Derived.Test.YthfdjlhplcmicaaKp
import Derived.WalkSpells
namespace Go.Proofs.Ythfdjlhplcmicaa
open Go.RowKit
set_option linter.unusedVariables false
set_option linter.unusedSimpArgs false

theorem r_eqnil {P : Program} {a : Act} {w : World} {d : Option Tmp} {tt : TypeId} {ps : String} {af : Array Edge} {gd : Option (Nat × Bool)} {t e t2 : TypeId} {x : Operand} {A : Option Addr} {n c : Nat} (ht : P.underlying t = some (.slice e)) (hx : a.eval x = .slice A n c) {b : Bool} (hb : A.isNone = b) :
    (execOp a.eval ⟨d, .binOp .eql t x (.const (.slice none 0 0)) t2, tt, ps, af, gd⟩).run P w = .ok (.value (.bool b)) w := by
  subst hb
  have h := Lib.run_eql_slice_nil (P := P) w t e A n c 0 0 ht
  unfold execOp
  simp only [hx]
  go_simp
theorem clone_any (w : World) (v : Value) (L : List It) (h : IRow w v L) (hn : L.length ≤ 100000) :
    Calls Try.prog 21 #[v] w fun e w' => (∃ v', e = .returned v' ∧ IOwn w' w.heap.size v' L) ∧ Below w.heap.size w w' := by
  obtain ⟨A, c, rfl, hc, hm, hA, hh⟩ := h
  cases A with
  | none =>
    obtain rfl := hA rfl
    obtain rfl : L = [] := List.eq_nil_of_length_eq_zero (by omega)
    refine K_enter 8 Try.func21 rfl rfl fun a H => ?_
    replace H := H.pick [0]
    refine wp_seq ?_
    refine wp_region_lit ?_
    refine wl_v _ (r_assign evc) ?_; refine kl H rfl fun a H => ?_
    refine wpList_nil ?_
    refine c_next ?_
    refine wp_seq ?_
    refine wp_seq ?_
    refine wp_region_lit ?_
    refine wl_v _ (r_move (H.ev rfl)) ?_; refine kl H rfl fun a H => ?_
    refine wl_v (.bool true) (r_eqnil Try.underlying22 (H.ev rfl) rfl) ?_; refine kl H rfl fun a H => ?_
    refine wpList_nil ?_
    refine c_next ?_
    refine c_cond_t H rfl ?_
    refine wp_seq ?_
    refine wp_region_lit ?_
    refine wl_v _ (r_assign evc) ?_; refine kl H rfl fun a H => ?_
    refine wpList_nil ?_
    refine c_next ?_
    refine wp_ret ?_
    refine r_then ?_
    exact k_ret1 H rfl rfl ⟨⟨_, rfl, ROwn.nil⟩, Below.refl _ _⟩
  | some ad =>
    refine K_enter 8 Try.func21 rfl rfl fun a H => ?_
    replace H := H.pick [0]
    refine wp_seq ?_
    refine wp_region_lit ?_
    refine wl_v _ (r_assign evc) ?_; refine kl H rfl fun a H => ?_
    refine wpList_nil ?_
    refine c_next ?_
    refine wp_seq ?_
    refine wp_seq ?_
    refine wp_region_lit ?_
    refine wl_v _ (r_move (H.ev rfl)) ?_; refine kl H rfl fun a H => ?_
    refine wl_v (.bool false) (r_eqnil Try.underlying22 (H.ev rfl) rfl) ?_; refine kl H rfl fun a H => ?_
    refine wpList_nil ?_
    refine c_next ?_
    refine c_cond_f H rfl ?_
    refine wp_skip ?_
    refine c_next ?_
    refine wp_seq ?_
    refine wp_region_lit ?_
    refine op_litv 22 0 #[] 33 #[] (by simp) (fun w => by kernel_rfl) fun w1 bl hge hb kk => ?_; have hn0 := own_empty (size := 5) kk hge; clear hge kk; refine kl H rfl fun a H => ?_
    refine wl_v _ (r_move (H.ev rfl)) ?_; refine kl H rfl fun a H => ?_
    refine op_append 22 33 (.tmp 5) (.tmp 6) _ (.agg #[.int .i64 0, .int .i64 0, .int .i64 0, .int .i64 0, .int .i64 0]) 5 40 _ 0 [] (some ad) L.length c (FV encI L) (H.ev rfl) (H.ev rfl) Try.underlying22 i33 rfl (by omega) hn0 (by rw [FV_len encI_len]) (hh.up hb) (FV_one _ _) (by unfold maxLen; omega) (by omega) hb.size fun v9 w9 hown2 _ _ hb2 => ?_; have hown : IOwn _ _ v9 L := own_cast encI_len (by omega) hown2 rfl; have hb := hb.trans hb2; clear hb2 hown2 hn0; refine kl H rfl fun a H => ?_
    refine wl_v _ (r_assign (H.ev rfl)) ?_; refine kl H rfl fun a H => ?_
    refine wpList_nil ?_
    refine c_next ?_
    refine wp_ret ?_
    exact k_ret1 H rfl rfl ⟨⟨_, rfl, hown⟩, hb⟩
theorem c22_any (bc : Nat) (x y : It) (w : World) (hc : w.rangeAt bc 0 (IV (encI x))) :
    Calls Try.prog 22 #[.agg #[.int .i64 y.1, .int .i64 y.2.1, .int .i64 y.2.2.1, .int .i64 y.2.2.2.1, .int .i64 y.2.2.2.2], .pointer (some ⟨bc, 0, none⟩)] w fun e w' => e = .returned (.bool (decide (y.1 = x.1))) ∧ Below w.heap.size w w' := by
  have hall := Below.refl w.heap.size w
  refine K_enter 9 Try.func22 rfl rfl fun a H => ?_
  replace H := H.pick [0, 1]
  refine wp_seq ?_
  refine wp_region_lit ?_
  refine op_box 33 _ #[.int .i64 y.1, .int .i64 y.2.1, .int .i64 y.2.2.1, .int .i64 y.2.2.2.1, .int .i64 y.2.2.2.2] (H.ev rfl) fun w0 b0 hge hb k0 => ?_; have g0 := Nat.le_trans hall.size hge; replace hc := range_ups hc hb; replace hall := hall.trans (hb.mono hall.size); clear hb; clear hge; refine kl H rfl fun a H => ?_
  refine wl_v _ (r_assign evc) ?_; refine kl H rfl fun a H => ?_
  refine wpList_nil ?_
  refine c_next ?_
  refine wp_seq ?_
  refine wp_region_lit ?_
  refine wl_v _ (r_fld (q := 0) fld33_0 (H.ev rfl) rfl) ?_; refine kl H rfl fun a H => ?_
  refine wl_v _ (r_ld Try.underlying3 rfl (H.ev rfl) ((Block.cell k0 0).trans rfl)) ?_; refine kl H rfl fun a H => ?_
  refine wl_v _ (r_fld (q := 0) fld33_0 (H.ev rfl) rfl) ?_; refine kl H rfl fun a H => ?_
  refine wl_v _ (r_ld Try.underlying3 rfl (H.ev rfl) (range_cell hc 0 rfl)) ?_; refine kl H rfl fun a H => ?_
  by_cases c0 : y.1 = x.1
  · skip
    refine wl_v _ (r_eq Try.underlying3 (H.ev rfl) (H.ev rfl) (dec_t (c0))) ?_; refine kl H rfl fun a H => ?_
    refine wl_v _ (r_assign (H.ev rfl)) ?_; refine kl H rfl fun a H => ?_
    refine wpList_nil ?_
    refine c_next ?_
    refine wp_ret ?_
    exact k_ret1 H rfl rfl ⟨by rw [show decide (y.1 = x.1) = true from dec_t (by omega)], hall⟩
  · skip
    refine wl_v _ (r_eq Try.underlying3 (H.ev rfl) (H.ev rfl) (dec_f (c0))) ?_; refine kl H rfl fun a H => ?_
    refine wl_v _ (r_assign (H.ev rfl)) ?_; refine kl H rfl fun a H => ?_
    refine wpList_nil ?_
    refine c_next ?_
    refine wp_ret ?_
    exact k_ret1 H rfl rfl ⟨by rw [show decide (y.1 = x.1) = false from dec_f (by omega)], hall⟩
theorem cmp_any (x y : It) (w : World) (hx : 0 ≤ x.1 ∧ x.1 ≤ 2147483648) (hy : 0 ≤ y.1 ∧ y.1 ≤ 2147483648) :
    Calls Try.prog 25 #[.agg #[.int .i64 x.1, .int .i64 x.2.1, .int .i64 x.2.2.1, .int .i64 x.2.2.2.1, .int .i64 x.2.2.2.2], .agg #[.int .i64 y.1, .int .i64 y.2.1, .int .i64 y.2.2.1, .int .i64 y.2.2.2.1, .int .i64 y.2.2.2.2]] w fun e w' => e = .returned (.int .i64 (x.1 - y.1)) ∧ Below w.heap.size w w' := by
  have hall := Below.refl w.heap.size w
  refine K_enter 10 Try.func25 rfl rfl fun a H => ?_
  replace H := H.pick [0, 1]
  refine wp_seq ?_
  refine wp_region_lit ?_
  refine op_box 33 _ #[.int .i64 x.1, .int .i64 x.2.1, .int .i64 x.2.2.1, .int .i64 x.2.2.2.1, .int .i64 x.2.2.2.2] (H.ev rfl) fun w0 b0 hge hb k0 => ?_; have g0 := Nat.le_trans hall.size hge; replace hall := hall.trans (hb.mono hall.size); clear hb; clear hge; refine kl H rfl fun a H => ?_
  refine op_box 33 _ #[.int .i64 y.1, .int .i64 y.2.1, .int .i64 y.2.2.1, .int .i64 y.2.2.2.1, .int .i64 y.2.2.2.2] (H.ev rfl) fun w1 b1 hge hb k1 => ?_; have g1 := Nat.le_trans hall.size hge; replace k0 := Block.ups k0 hb; replace hall := hall.trans (hb.mono hall.size); clear hb; clear hge; refine kl H rfl fun a H => ?_
  refine wl_v _ (r_assign evc) ?_; refine kl H rfl fun a H => ?_
  refine wpList_nil ?_
  refine c_next ?_
  refine wp_seq ?_
  refine wp_region_lit ?_
  refine wl_v _ (r_fld (q := 0) fld33_0 (H.ev rfl) rfl) ?_; refine kl H rfl fun a H => ?_
  refine wl_v _ (r_ld Try.underlying3 rfl (H.ev rfl) ((Block.cell k0 0).trans rfl)) ?_; refine kl H rfl fun a H => ?_
  refine wl_v _ (r_fld (q := 0) fld33_0 (H.ev rfl) rfl) ?_; refine kl H rfl fun a H => ?_
  refine wl_v _ (r_ld Try.underlying3 rfl (H.ev rfl) ((Block.cell k1 0).trans rfl)) ?_; refine kl H rfl fun a H => ?_
  refine wl_v _ (r_sub (q := x.1 - y.1) Try.underlying3 (H.ev rfl) (H.ev rfl) (by omega) (by omega)) ?_; refine kl H rfl fun a H => ?_
  refine wl_v _ (r_assign (H.ev rfl)) ?_; refine kl H rfl fun a H => ?_
  refine wpList_nil ?_
  refine c_next ?_
  refine wp_ret ?_
  exact k_ret1 H rfl rfl ⟨rfl, hall⟩
/-- is there an item of the number q? -/
def hasQ (L : List It) (q : Int) : Bool := L.any fun y => decide (y.1 = q)
def NoSeq (L : List It) (q : Int) (k : Nat) : Prop := ∀ j : Nat, j < k → ∀ y, L[j]? = some y → ¬ y.1 = q
theorem noseq_next {L : List It} {q : Int} {k : Nat} {y : It} (h : NoSeq L q k) (hy : L[k]? = some y) (hn : ¬ y.1 = q) : NoSeq L q (k + 1) := by
  intro j hj u hu
  by_cases e : j = k
  · subst e
    rw [hy] at hu
    injection hu with hu
    rw [← hu]; exact hn
  · exact h j (by omega) u hu
theorem hasq_here {L : List It} {q : Int} {k : Nat} {y : It} (hy : L[k]? = some y) (he : y.1 = q) : (0 ≤ (k : Int)) = (hasQ L q = true) := by
  have : hasQ L q = true := by
    unfold hasQ
    rw [List.any_eq_true]
    exact ⟨y, List.mem_of_getElem? hy, by simp [he]⟩
  rw [this]
  simp
theorem hasq_none {L : List It} {q : Int} (h : NoSeq L q L.length) : (0 ≤ (-1 : Int)) = (hasQ L q = true) := by
  have : hasQ L q = false := by
    unfold hasQ
    rw [List.any_eq_false]
    intro y hy
    obtain ⟨j, hj, rfl⟩ := List.mem_iff_getElem.1 hy
    simpa using h j hj _ (List.getElem?_eq_getElem hj)
  rw [this]
  simp
def IxI (W : World) (A : Option Addr) (c : Nat) (L : List It) (x : It) (bc : Nat) (a : Act) (w : World) : Prop :=
  ∃ k : Nat, Kn a 19 [(0, .slice A L.length c), (1, .func (.func 22) #[] #[.pointer (some ⟨bc, 0, none⟩)]), (6, .slice A L.length c), (7, .int .i64 (L.length : Nat)), (8, .int .i64 (k : Nat))] ∧ k ≤ L.length ∧ NoSeq L x.1 k ∧ w.rangeAt bc 0 (IV (encI x)) ∧ Below W.heap.size W w
theorem index_any (w : World) (v : Value) (L : List It) (x : It) (bc : Nat) (h : IRow w v L) (hn : L.length ≤ 9223372036854775807) (hc : w.rangeAt bc 0 (IV (encI x))) :
    Calls Try.prog 26 #[v, .func (.func 22) #[] #[.pointer (some ⟨bc, 0, none⟩)]] w fun e w' => (∃ k : Int, e = .returned (.int .i64 k) ∧ (0 ≤ k) = (hasQ L x.1 = true)) ∧ Below w.heap.size w w' := by
  obtain ⟨A, c, rfl, h1, h2, h3, hh⟩ := h
  replace hh := Lib.hid hh
  have hall := Below.refl w.heap.size w
  refine K_enter 19 Try.func26 rfl rfl fun a H => ?_
  replace H := H.pick [0, 1]
  refine wp_seq ?_
  refine wp_region_lit ?_
  refine wl_v _ (r_assign evc) ?_; refine kl H rfl fun a H => ?_
  refine wpList_nil ?_
  refine c_next ?_
  refine wp_seq ?_
  refine wp_seq ?_
  refine wp_region_lit ?_
  refine wl_v _ (r_move (H.ev rfl)) ?_; refine kl H rfl fun a H => ?_
  refine wl_v _ (r_len Try.underlying22 (H.ev rfl)) ?_; refine kl H rfl fun a H => ?_
  refine wl_v _ (r_move evc) ?_; refine kl H rfl fun a H => ?_
  refine wpList_nil ?_
  refine c_next ?_
  refine wp_block ?_
  refine wp_loop (IxI w A c L x bc) (fun a _ => L.length - (intOf (a.eval (.tmp 8))).toNat) ⟨0, H.pick [0, 1, 6, 7, 8], by omega, fun j hj => by omega, hc, hall⟩ ?_
  clear H hall hc
  rintro a w' ⟨k, H, hk, hno, hc, hall⟩
  have H0 := H
  by_cases hlt : k < L.length
  · skip
    obtain ⟨b, o, hA, hr⟩ := flat_some encI_len hh.out (by omega) hlt
    subst hA
    have hy : L[k]? = some L[k] := List.getElem?_eq_getElem hlt
    have HY := Lib.hid hy
    have HRG := Lib.hid hr
    generalize L[k] = y at *
    clear hy hr
    by_cases he : y.1 = x.1
    · skip
      refine wp_seq ?_
      refine wp_region_lit ?_
      refine wl_v _ (r_lt Try.underlying3 (H.ev rfl) (H.ev rfl) (dec_t (by omega))) ?_; refine kl H rfl fun a H => ?_
      refine wpList_nil ?_
      refine c_next ?_
      refine wp_seq ?_
      refine c_cond_t H rfl ?_
      refine wp_skip ?_
      refine c_next ?_
      refine wp_seq ?_
      refine wp_block ?_
      refine wp_seq ?_
      refine wp_region_lit ?_
      refine wl_v _ (r_move (H.ev rfl)) ?_; refine kl H rfl fun a H => ?_
      refine wl_v _ (r_assign (H.ev rfl)) ?_; refine kl H rfl fun a H => ?_
      refine wpList_nil ?_
      refine c_next ?_
      refine wp_seq ?_
      refine wp_region_lit ?_
      refine wl_v _ (r_move (H.ev rfl)) ?_; refine kl H rfl fun a H => ?_
      refine wl_v _ (r_move (H.ev rfl)) ?_; refine kl H rfl fun a H => ?_
      refine wl_v _ (r_move (H.ev rfl)) ?_; refine kl H rfl fun a H => ?_
      refine wl_v _ (r_idx (j := k) (q := o + k * 5) Try.underlying22 s33 (H.ev rfl) (H.ev rfl) (by omega) rfl) ?_; refine kl H rfl fun a H => ?_
      refine wl_v _ (r_row (cs := [.int .i64 y.1, .int .i64 y.2.1, .int .i64 y.2.2.1, .int .i64 y.2.2.2.1, .int .i64 y.2.2.2.2]) (H.ev rfl) (range_ups HRG.out hall) (by kernel_rfl) s33 rfl) ?_; refine kl H rfl fun a H => ?_
      refine wl_call 22 _ _ (c22_any bc x y _ hc) (r_callc cf22 (H.ev rfl) (H.ev rfl)) ?_; rintro e w9 ⟨rfl, hb⟩; refine ⟨_, rfl, ?_⟩; rw [decide_eq_true he]; replace hc := range_ups hc hb; replace hall := hall.trans (hb.mono hall.size); clear hb; refine kl H rfl fun a H => ?_
      refine wpList_nil ?_
      refine c_next ?_
      refine c_cond_t H rfl ?_
      refine wp_seq ?_
      refine wp_region_lit ?_
      refine wl_v _ (r_move (H.ev rfl)) ?_; refine kl H rfl fun a H => ?_
      refine wl_v _ (r_assign (H.ev rfl)) ?_; refine kl H rfl fun a H => ?_
      refine wpList_nil ?_
      refine c_next ?_
      refine wp_ret ?_
      refine r_block ?_
      refine r_then ?_
      refine r_then ?_
      refine r_block ?_
      refine r_then ?_
      exact k_ret1 H rfl rfl ⟨⟨_, rfl, hasq_here HY.out he⟩, hall⟩
    · skip
      refine wp_seq ?_
      refine wp_region_lit ?_
      refine wl_v _ (r_lt Try.underlying3 (H.ev rfl) (H.ev rfl) (dec_t (by omega))) ?_; refine kl H rfl fun a H => ?_
      refine wpList_nil ?_
      refine c_next ?_
      refine wp_seq ?_
      refine c_cond_t H rfl ?_
      refine wp_skip ?_
      refine c_next ?_
      refine wp_seq ?_
      refine wp_block ?_
      refine wp_seq ?_
      refine wp_region_lit ?_
      refine wl_v _ (r_move (H.ev rfl)) ?_; refine kl H rfl fun a H => ?_
      refine wl_v _ (r_assign (H.ev rfl)) ?_; refine kl H rfl fun a H => ?_
      refine wpList_nil ?_
      refine c_next ?_
      refine wp_seq ?_
      refine wp_region_lit ?_
      refine wl_v _ (r_move (H.ev rfl)) ?_; refine kl H rfl fun a H => ?_
      refine wl_v _ (r_move (H.ev rfl)) ?_; refine kl H rfl fun a H => ?_
      refine wl_v _ (r_move (H.ev rfl)) ?_; refine kl H rfl fun a H => ?_
      refine wl_v _ (r_idx (j := k) (q := o + k * 5) Try.underlying22 s33 (H.ev rfl) (H.ev rfl) (by omega) rfl) ?_; refine kl H rfl fun a H => ?_
      refine wl_v _ (r_row (cs := [.int .i64 y.1, .int .i64 y.2.1, .int .i64 y.2.2.1, .int .i64 y.2.2.2.1, .int .i64 y.2.2.2.2]) (H.ev rfl) (range_ups HRG.out hall) (by kernel_rfl) s33 rfl) ?_; refine kl H rfl fun a H => ?_
      refine wl_call 22 _ _ (c22_any bc x y _ hc) (r_callc cf22 (H.ev rfl) (H.ev rfl)) ?_; rintro e w9 ⟨rfl, hb⟩; refine ⟨_, rfl, ?_⟩; rw [decide_eq_false he]; replace hc := range_ups hc hb; replace hall := hall.trans (hb.mono hall.size); clear hb; refine kl H rfl fun a H => ?_
      refine wpList_nil ?_
      refine c_next ?_
      refine c_cond_f H rfl ?_
      refine wp_skip ?_
      refine n_block ?_
      refine c_next ?_
      refine wp_region_lit ?_
      refine wl_v _ (r_add (q := ((k + 1 : Nat) : Int)) Try.underlying3 (H.ev rfl) evc (by omega) (by omega)) ?_; refine kl H rfl fun a H => ?_
      refine wl_v _ (r_move (H.ev rfl)) ?_; refine kl H rfl fun a H => ?_
      refine wpList_nil ?_
      refine n_then ⟨⟨k + 1, H.pick [0, 1, 6, 7, 8], by omega, noseq_next hno HY.out he, hc, hall⟩, ?_⟩
      rw [H.ev (j := 8) rfl, H0.ev (j := 8) rfl]
      simp only [intOf]
      omega
  · skip
    obtain rfl : k = L.length := by omega
    refine wp_seq ?_
    refine wp_region_lit ?_
    refine wl_v _ (r_lt Try.underlying3 (H.ev rfl) (H.ev rfl) (dec_f (by omega))) ?_; refine kl H rfl fun a H => ?_
    refine wpList_nil ?_
    refine c_next ?_
    refine wp_seq ?_
    refine c_cond_f H rfl ?_
    refine wp_exit ?_
    refine e_then ?_
    refine e_then ?_
    refine e_here ?_
    refine c_next ?_
    refine wp_seq ?_
    refine wp_region_lit ?_
    refine wl_v _ (r_assign evc) ?_; refine kl H rfl fun a H => ?_
    refine wpList_nil ?_
    refine c_next ?_
    refine wp_ret ?_
    exact k_ret1 H rfl rfl ⟨⟨_, rfl, hasq_none hno⟩, hall⟩
theorem contains_any (w : World) (v : Value) (L : List It) (x : It) (bc : Nat) (h : IRow w v L) (hn : L.length ≤ 9223372036854775807) (hc : w.rangeAt bc 0 (IV (encI x))) :
    Calls Try.prog 23 #[v, .func (.func 22) #[] #[.pointer (some ⟨bc, 0, none⟩)]] w fun e w' => e = .returned (.bool (hasQ L x.1)) ∧ Below w.heap.size w w' := by
  have hall := Below.refl w.heap.size w
  refine K_enter 9 Try.func23 rfl rfl fun a H => ?_
  replace H := H.pick [0, 1]
  refine wp_seq ?_
  refine wp_region_lit ?_
  refine wl_v _ (r_assign evc) ?_; refine kl H rfl fun a H => ?_
  refine wpList_nil ?_
  refine c_next ?_
  refine wp_seq ?_
  refine wp_region_lit ?_
  refine wl_v _ (r_move (H.ev rfl)) ?_; refine kl H rfl fun a H => ?_
  refine wl_v _ (r_move (H.ev rfl)) ?_; refine kl H rfl fun a H => ?_
  refine wl_call _ _ _ (index_any _ _ L x bc h hn hc) (r_call2 cf26 (H.ev rfl) (H.ev rfl)) ?_; rintro e w9 ⟨⟨k, rfl, hk⟩, hb⟩; refine ⟨_, rfl, ?_⟩; replace hall := hall.trans (hb.mono hall.size); clear hb; refine kl H rfl fun a H => ?_
  by_cases c0 : k ≥ 0
  · skip
    refine wl_v _ (r_ge Try.underlying3 (H.ev rfl) evc (dec_t (c0))) ?_; refine kl H rfl fun a H => ?_
    refine wl_v _ (r_assign (H.ev rfl)) ?_; refine kl H rfl fun a H => ?_
    refine wpList_nil ?_
    refine c_next ?_
    refine wp_ret ?_
    have he : hasQ L x.1 = true := by rw [← hk]; omega
    exact k_ret1 H rfl rfl ⟨by rw [he], hall⟩
  · skip
    refine wl_v _ (r_ge Try.underlying3 (H.ev rfl) evc (dec_f (c0))) ?_; refine kl H rfl fun a H => ?_
    refine wl_v _ (r_assign (H.ev rfl)) ?_; refine kl H rfl fun a H => ?_
    refine wpList_nil ?_
    refine c_next ?_
    refine wp_ret ?_
    have he : hasQ L x.1 = false := by cases hq : hasQ L x.1 with | false => rfl | true => rw [hq] at hk; have := hk.symm.mp rfl; omega
    exact k_ret1 H rfl rfl ⟨by rw [he], hall⟩
end Go.Proofs.Ythfdjlhplcmicaa
