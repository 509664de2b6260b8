/- Fanout: own, IndexFunc, Delete, Strike's closure. -/
import Derived.Test.YtpegfbdepgmbjaaW
namespace Go.Proofs.Ytpegfbdepgmbjaa
open Go.RowKit
set_option linter.unusedVariables false
set_option linter.unusedSimpArgs false

theorem k_ret_cell {P : Program} {a : Act} {w : World} {n : Nat} {l : List (Nat × Value)} {fn : Func} {R : Ending → World → Prop} {p : Tmp} {ty : TypeId} {g : Nat} {t : TypeId} {C : Array Value} {ds : TypeDesc} (H : Kn a n l) (hf : fn.results = #[.cell p ty]) (hp : lk l p = some (.pointer (some ⟨g, 0, none⟩)))
    (hg : Block w g t C) (hu : P.underlying ty = some ds) (hd : (match ds with | .struct _ | .array _ _ => true | _ => false) = true) (hi : (P.info? ty).map (·.size) = some C.size) (h : R (.returned (.agg C)) w) : bodyPost P fn R .ret a w :=
  ⟨H.defers, _, res_row hf a.tmps w g t C ds (H.at_ p _ hp) hg hu hd hi, h⟩
theorem k_end_cell {P : Program} {a : Act} {w : World} {n : Nat} {l : List (Nat × Value)} {fn : Func} {R : Ending → World → Prop} {p : Tmp} {ty : TypeId} {g : Nat} {t : TypeId} {C : Array Value} {ds : TypeDesc} (H : Kn a n l) (hf : fn.results = #[.cell p ty]) (hp : lk l p = some (.pointer (some ⟨g, 0, none⟩)))
    (hg : Block w g t C) (hu : P.underlying ty = some ds) (hd : (match ds with | .struct _ | .array _ _ => true | _ => false) = true) (hi : (P.info? ty).map (·.size) = some C.size) (h : R (.returned (.agg C)) w) : bodyPost P fn R .normal a w :=
  ⟨H.defers, _, res_row hf a.tmps w g t C ds (H.at_ p _ hp) hg hu hd hi, h⟩
theorem k_ret_cell2 {P : Program} {a : Act} {w : World} {n : Nat} {l : List (Nat × Value)} {fn : Func} {R : Ending → World → Prop} {p u : Tmp} {ty : TypeId} {g : Nat} {t : TypeId} {C : Array Value} {x : Value} {ds : TypeDesc} (H : Kn a n l) (hf : fn.results = #[.cell p ty, .tmp u]) (hp : lk l p = some (.pointer (some ⟨g, 0, none⟩))) (hx : lk l u = some x)
    (hg : Block w g t C) (hu : P.underlying ty = some ds) (hd : (match ds with | .struct _ | .array _ _ => true | _ => false) = true) (hi : (P.info? ty).map (·.size) = some C.size) (h : R (.returned (.tuple #[.agg C, x])) w) : bodyPost P fn R .ret a w := by
  refine ⟨H.defers, _, res_row_tmp hf a.tmps w g t C ds (H.at_ p _ hp) hg hu hd hi, ?_⟩
  rw [H.at_ u x hx]
  exact h
theorem cloneB_any (w : World) (v : Value) (L : List Mk) (h : MRow w v L) (hn : L.length ≤ 100000) :
    Calls Try.prog 25 #[v] w fun e w' => (∃ B A c, B = w.heap.size ∧ e = .returned (.slice A L.length c) ∧ MOwn w' B (.slice A L.length c) L) ∧ Below w.heap.size w w' :=
  (clone_any w v L h hn).mono fun e w' ⟨⟨v', he, ho⟩, hb⟩ => by
    obtain ⟨A, c, rfl, _⟩ := MOwn.row ho
    exact ⟨⟨_, A, c, rfl, he, ho⟩, hb⟩
theorem r_callC {P : Program} {d : Option Tmp} {tt : TypeId} {ps : String} {af : Array Edge} {gd : Option (Nat × Bool)} {a : Act} {w : World} {f : FuncId} {caps : Array Value} (hf : entF P f) {g x : Operand} {vx : Value} {ats : Array TypeId} (hg : a.eval g = .func (.func f) #[] caps) (hx : a.eval x = vx) :
    (execOp a.eval ⟨d, .call { callee := .value g, args := #[x], argTypes := ats }, tt, ps, af, gd⟩).run P w = .ok (.enter f (#[vx] ++ caps)) w := by
  unfold execOp
  simp [resolve, invoke, hx, hg, Deferred.ofValue, hf _ w]
/-- the function value f, with what it captured at world W0, tells p -/
def PF (f : FuncId) (caps : Array Value) (p : Mk → Bool) (W0 : World) : Prop := ∀ (y : Mk) (w : World), Below W0.heap.size W0 w → Calls Try.prog f (#[.agg #[.int .i64 y.1, .int .i64 y.2]] ++ caps) w fun e w' => e = .returned (.bool (p y)) ∧ Below w.heap.size w w'
def NoP (L : List Mk) (p : Mk → Bool) (k : Nat) : Prop := ∀ (j : Nat) y, j < k → L[j]? = some y → p y = false
/-- k is the first place where p holds; -1: there is none -/
def First (L : List Mk) (p : Mk → Bool) (k : Int) : Prop := (∃ (j : Nat) (y : Mk), k = (j : Nat) ∧ L[j]? = some y ∧ p y = true ∧ NoP L p j) ∨ (k = -1 ∧ NoP L p L.length)
theorem nop_next {L : List Mk} {p : Mk → Bool} {k : Nat} {y : Mk} (h : NoP L p k) (hy : L[k]? = some y) (hn : p y = false) : NoP L p (k + 1) := by
  intro j u hj hu
  by_cases e : j = k
  · subst e
    rw [hy] at hu
    injection hu with hu
    rw [← hu]; exact hn
  · exact h j u (by omega) hu
theorem nop_here {L : List Mk} {p : Mk → Bool} {k : Nat} {y : Mk} (hy : L[k]? = some y) (he : p y = true) (h : NoP L p k) : First L p (k : Nat) := .inl ⟨k, y, rfl, hy, he, h⟩
theorem nop_none {L : List Mk} {p : Mk → Bool} (h : NoP L p L.length) : First L p (-1) := .inr ⟨rfl, h⟩
theorem own_any (w : World) (t : Int) (v : Value) (L : List Mk) (h : MRow w v L) (hn : L.length ≤ 100000) :
    Calls Try.prog 14 #[.agg #[v, .int .i64 t]] w fun e w' => (∃ A c, e = .returned (.agg #[.slice A L.length c, .int .i64 t]) ∧ MOwn w' w.heap.size (.slice A L.length c) L) ∧ Below w.heap.size w w' := by
  have hall := Below.refl w.heap.size w
  refine K_enter 8 Try.func14 rfl rfl fun a H => ?_
  replace H := H.pick [0]
  refine wp_seq ?_
  refine wp_region_lit ?_
  refine op_box 24 _ #[v, .int .i64 t] (H.ev rfl) fun w0 b0 hge hb k0 => ?_; have g0 := Nat.le_trans hall.size hge; replace hall := hall.trans (hb.mono hall.size); clear hb; clear hge; refine kl H rfl fun a H => ?_
  refine op_alloc 24 #[.slice none 0 0, .int .i64 0] z24 fun w1 b1 hge hb k1 => ?_; have g1 := Nat.le_trans hall.size hge; have d01 : b0 < b1 := Nat.lt_of_lt_of_le k0.lt hge; replace k0 := Block.ups k0 hb; replace hall := hall.trans (hb.mono hall.size); clear hb hge; refine kl H rfl fun a H => ?_
  refine wpList_nil ?_
  refine c_next ?_
  refine wp_seq ?_
  refine wp_region_lit ?_
  refine wl_v _ (r_fld (q := 0) fld24_0 (H.ev rfl) rfl) ?_; refine kl H rfl fun a H => ?_
  refine wl_v _ (r_ld Try.underlying22 rfl (H.ev rfl) ((Block.cell k0 0).trans rfl)) ?_; refine kl H rfl fun a H => ?_
  refine wl_call _ _ _ (cloneB_any _ _ L (Row.up h hall) hn) (r_call1 cf25 (H.ev rfl)) ?_; rintro e w9 ⟨⟨B, A2, c2, hBe, rfl, ho⟩, hb⟩; refine ⟨_, rfl, ?_⟩; have hB0 := k0.lt; have hB1 := k1.lt; have hB2 := hall.size; replace k0 := Block.ups k0 hb; replace k1 := Block.ups k1 hb; replace hall := hall.trans (hb.mono hall.size); clear hb; rw [← hBe] at hB0 hB1 hB2; clear hBe; refine kl H rfl fun a H => ?_
  refine wl_v _ (r_fld (q := 0) fld24_0 (H.ev rfl) rfl) ?_; refine kl H rfl fun a H => ?_
  refine op_store1 22 (.tmp 6) (.tmp 5) b0 0 24 (.slice A2 L.length c2) _ (H.ev rfl) (H.ev rfl) k0 s22 (by simp [Value.cells]) (by simp [Value.cells, Value.oneCell']) fun w' hb ho9 kq => ?_; clear k0; have k0 : Block _ b0 24 #[.slice A2 L.length c2, .int .i64 t] := kq; clear kq; replace k1 := block_same k1 (ho9 _ (by omega)); replace ho := ROwn.keep ho (fun q hq => ho9 _ (fun e => by have := (ho.lt hq).1; omega)); replace hall := hall.trans (hb _ g0); clear hb ho9; refine kl0 H fun a H => ?_
  refine wpList_nil ?_
  refine c_next ?_
  refine wp_seq ?_
  refine wp_region_lit ?_
  refine wl_v _ (r_row (cs := [.slice A2 L.length c2, .int .i64 t]) (H.ev rfl) (block_range k0) (by kernel_rfl) s24 rfl) ?_; refine kl H rfl fun a H => ?_
  refine op_store1 24 (.tmp 2) (.tmp 7) b1 0 24 (.agg #[.slice A2 L.length c2, .int .i64 t]) _ (H.ev rfl) (H.ev rfl) k1 s24 (by simp [Value.cells]) (by simp [Value.cells, Value.oneCell']) fun w' hb ho9 kq => ?_; clear k1; have k1 : Block _ b1 24 #[.slice A2 L.length c2, .int .i64 t] := kq; clear kq; replace k0 := block_same k0 (ho9 _ (by omega)); replace ho := ROwn.keep ho (fun q hq => ho9 _ (fun e => by have := (ho.lt hq).1; omega)); replace hall := hall.trans (hb _ g1); clear hb ho9; refine kl0 H fun a H => ?_
  refine wpList_nil ?_
  refine c_next ?_
  refine wp_ret ?_
  exact k_ret_cell H rfl rfl k1 Try.underlying24 rfl s24 ⟨⟨_, _, rfl, ROwn.base ho hB2⟩, hall⟩
def Ix17 (W : World) (A : Option Addr) (c : Nat) (L : List Mk) (p : Mk → Bool) (f : FuncId) (caps : Array Value) (a : Act) (w : World) : Prop :=
  ∃ k : Nat, Kn a 19 [(0, .slice A L.length c), (1, .func (.func f) #[] caps), (7, .int .i64 (L.length : Nat)), (8, .int .i64 (k : Nat))] ∧ k ≤ L.length ∧ NoP L p k ∧ Below W.heap.size W w
theorem indexf_any (W0 w : World) (v : Value) (L : List Mk) (p : Mk → Bool) (f : FuncId) (caps : Array Value) (hf : entF Try.prog f) (hp : PF f caps p W0) (hW : Below W0.heap.size W0 w) (h : MRow w v L) (hn : L.length ≤ 9223372036854775807) :
    Calls Try.prog 17 #[v, .func (.func f) #[] caps] w fun e w' => (∃ k : Int, e = .returned (.int .i64 k) ∧ First L p k) ∧ Below w.heap.size w w' := by
  obtain ⟨A, c, rfl, h1, h2, h3, hh⟩ := h
  replace hh := Lib.hid hh
  replace hW := Lib.hid hW
  have hall := Below.refl w.heap.size w
  refine K_enter 19 Try.func17 rfl rfl fun a H => ?_
  replace H := H.pick [0, 1]
  refine wp_seq ?_
  refine wp_region_lit ?_
  refine wl_v _ (r_assign evc) ?_; refine kl H rfl fun a H => ?_
  refine wpList_nil ?_
  refine c_next ?_
  refine wp_seq ?_
  refine wp_seq ?_
  refine wp_region_lit ?_
  refine wl_v _ (r_move (H.ev rfl)) ?_; refine kl H rfl fun a H => ?_
  refine wl_v _ (r_len Try.underlying22 (H.ev rfl)) ?_; refine kl H rfl fun a H => ?_
  refine wl_v _ (r_move evc) ?_; refine kl H rfl fun a H => ?_
  refine wpList_nil ?_
  refine c_next ?_
  refine wp_block ?_
  refine wp_loop (Ix17 w A c L p f caps) (fun a _ => L.length - (intOf (a.eval (.tmp 8))).toNat) ⟨0, H.pick [0, 1, 7, 8], by omega, fun j hj => by omega, hall⟩ ?_
  clear H hall
  rintro a w' ⟨k, H, hk, hno, hall⟩
  have H0 := H
  by_cases hlt : k < L.length
  · skip
    obtain ⟨b, o, hA, hr⟩ := flat_some encM_len hh.out (by omega) hlt
    subst hA
    have hy : L[k]? = some L[k] := List.getElem?_eq_getElem hlt
    have HY := Lib.hid hy
    have HRG := Lib.hid hr
    generalize L[k] = y at *
    clear hy hr
    cases he : p y
    · skip
      refine wp_seq ?_
      refine wp_region_lit ?_
      refine wl_v _ (r_lt Try.underlying3 (H.ev rfl) (H.ev rfl) (dec_t (by omega))) ?_; refine kl H rfl fun a H => ?_
      refine wpList_nil ?_
      refine c_next ?_
      refine wp_seq ?_
      refine c_cond_t H rfl ?_
      refine wp_skip ?_
      refine c_next ?_
      refine wp_seq ?_
      refine wp_block ?_
      refine wp_seq ?_
      refine wp_region_lit ?_
      refine wl_v _ (r_move (H.ev rfl)) ?_; refine kl H rfl fun a H => ?_
      refine wl_v _ (r_assign (H.ev rfl)) ?_; refine kl H rfl fun a H => ?_
      refine wpList_nil ?_
      refine c_next ?_
      refine wp_seq ?_
      refine wp_region_lit ?_
      refine wl_v _ (r_move (H.ev rfl)) ?_; refine kl H rfl fun a H => ?_
      refine wl_v _ (r_move (H.ev rfl)) ?_; refine kl H rfl fun a H => ?_
      refine wl_v _ (r_move (H.ev rfl)) ?_; refine kl H rfl fun a H => ?_
      refine wl_v _ (r_idx (j := k) (q := o + k * 2) Try.underlying22 s29 (H.ev rfl) (H.ev rfl) (by omega) rfl) ?_; refine kl H rfl fun a H => ?_
      refine wl_v _ (r_row (cs := [.int .i64 y.1, .int .i64 y.2]) (H.ev rfl) (range_ups HRG.out hall) (by kernel_rfl) s29 rfl) ?_; refine kl H rfl fun a H => ?_
      refine wl_call f _ _ (hp y _ (hW.out.trans (hall.mono hW.out.size))) (r_callC hf (H.ev rfl) (H.ev rfl)) ?_; rintro e w9 ⟨rfl, hb⟩; refine ⟨_, rfl, ?_⟩; rw [he]; replace hall := hall.trans (hb.mono hall.size); clear hb; refine kl H rfl fun a H => ?_
      refine wpList_nil ?_
      refine c_next ?_
      refine c_cond_f H rfl ?_
      refine wp_skip ?_
      refine n_block ?_
      refine c_next ?_
      refine wp_region_lit ?_
      refine wl_v _ (r_add (q := ((k + 1 : Nat) : Int)) Try.underlying3 (H.ev rfl) evc (by omega) (by omega)) ?_; refine kl H rfl fun a H => ?_
      refine wl_v _ (r_move (H.ev rfl)) ?_; refine kl H rfl fun a H => ?_
      refine wpList_nil ?_
      refine n_then ⟨⟨k + 1, H.pick [0, 1, 7, 8], by omega, nop_next hno HY.out he, hall⟩, ?_⟩
      rw [H.ev (j := 8) rfl, H0.ev (j := 8) rfl]
      simp only [intOf]
      omega
    · skip
      refine wp_seq ?_
      refine wp_region_lit ?_
      refine wl_v _ (r_lt Try.underlying3 (H.ev rfl) (H.ev rfl) (dec_t (by omega))) ?_; refine kl H rfl fun a H => ?_
      refine wpList_nil ?_
      refine c_next ?_
      refine wp_seq ?_
      refine c_cond_t H rfl ?_
      refine wp_skip ?_
      refine c_next ?_
      refine wp_seq ?_
      refine wp_block ?_
      refine wp_seq ?_
      refine wp_region_lit ?_
      refine wl_v _ (r_move (H.ev rfl)) ?_; refine kl H rfl fun a H => ?_
      refine wl_v _ (r_assign (H.ev rfl)) ?_; refine kl H rfl fun a H => ?_
      refine wpList_nil ?_
      refine c_next ?_
      refine wp_seq ?_
      refine wp_region_lit ?_
      refine wl_v _ (r_move (H.ev rfl)) ?_; refine kl H rfl fun a H => ?_
      refine wl_v _ (r_move (H.ev rfl)) ?_; refine kl H rfl fun a H => ?_
      refine wl_v _ (r_move (H.ev rfl)) ?_; refine kl H rfl fun a H => ?_
      refine wl_v _ (r_idx (j := k) (q := o + k * 2) Try.underlying22 s29 (H.ev rfl) (H.ev rfl) (by omega) rfl) ?_; refine kl H rfl fun a H => ?_
      refine wl_v _ (r_row (cs := [.int .i64 y.1, .int .i64 y.2]) (H.ev rfl) (range_ups HRG.out hall) (by kernel_rfl) s29 rfl) ?_; refine kl H rfl fun a H => ?_
      refine wl_call f _ _ (hp y _ (hW.out.trans (hall.mono hW.out.size))) (r_callC hf (H.ev rfl) (H.ev rfl)) ?_; rintro e w9 ⟨rfl, hb⟩; refine ⟨_, rfl, ?_⟩; rw [he]; replace hall := hall.trans (hb.mono hall.size); clear hb; refine kl H rfl fun a H => ?_
      refine wpList_nil ?_
      refine c_next ?_
      refine c_cond_t H rfl ?_
      refine wp_seq ?_
      refine wp_region_lit ?_
      refine wl_v _ (r_move (H.ev rfl)) ?_; refine kl H rfl fun a H => ?_
      refine wl_v _ (r_assign (H.ev rfl)) ?_; refine kl H rfl fun a H => ?_
      refine wpList_nil ?_
      refine c_next ?_
      refine wp_ret ?_
      refine r_block ?_
      refine r_then ?_
      refine r_then ?_
      refine r_block ?_
      refine r_then ?_
      exact k_ret1 H rfl rfl ⟨⟨_, rfl, nop_here HY.out he hno⟩, hall⟩
  · skip
    obtain rfl : k = L.length := by omega
    refine wp_seq ?_
    refine wp_region_lit ?_
    refine wl_v _ (r_lt Try.underlying3 (H.ev rfl) (H.ev rfl) (dec_f (by omega))) ?_; refine kl H rfl fun a H => ?_
    refine wpList_nil ?_
    refine c_next ?_
    refine wp_seq ?_
    refine c_cond_f H rfl ?_
    refine wp_exit ?_
    refine e_then ?_
    refine e_then ?_
    refine e_here ?_
    refine c_next ?_
    refine wp_seq ?_
    refine wp_region_lit ?_
    refine wl_v _ (r_assign evc) ?_; refine kl H rfl fun a H => ?_
    refine wpList_nil ?_
    refine c_next ?_
    refine wp_ret ?_
    exact k_ret1 H rfl rfl ⟨⟨_, rfl, nop_none hno⟩, hall⟩
theorem c22_any (bc bd : Nat) (s u : Int) (y : Mk) (w : World) (hc : w.cell? ⟨bc, 0, none⟩ = some (.int .i64 s)) (hd : w.cell? ⟨bd, 0, none⟩ = some (.int .i64 u)) :
    Calls Try.prog 22 #[.agg #[.int .i64 y.1, .int .i64 y.2], .pointer (some ⟨bc, 0, none⟩), .pointer (some ⟨bd, 0, none⟩)] w fun e w' => e = .returned (.bool (decide (y = (s, u)))) ∧ Below w.heap.size w w' := by
  have hall := Below.refl w.heap.size w
  by_cases he : y = (s, u)
  · skip
    refine K_enter 10 Try.func22 rfl rfl fun a H => ?_
    replace H := H.pick [0, 1, 2]
    refine wp_seq ?_
    refine wp_region_lit ?_
    refine op_box 29 _ #[.int .i64 y.1, .int .i64 y.2] (H.ev rfl) fun w0 b0 hge hb k0 => ?_; have g0 := Nat.le_trans hall.size hge; replace hc := cell_ups hc hb; replace hd := cell_ups hd hb; replace hall := hall.trans (hb.mono hall.size); clear hb; clear hge; refine kl H rfl fun a H => ?_
    refine wl_v _ (r_assign evc) ?_; refine kl H rfl fun a H => ?_
    refine wpList_nil ?_
    refine c_next ?_
    refine wp_seq ?_
    refine wp_region_lit ?_
    refine wl_v _ (r_row (cs := [.int .i64 y.1, .int .i64 y.2]) (H.ev rfl) (block_range k0) (by kernel_rfl) s29 rfl) ?_; refine kl H rfl fun a H => ?_
    refine wl_v _ (r_ld Try.underlying3 rfl (H.ev rfl) (hc)) ?_; refine kl H rfl fun a H => ?_
    refine wl_v _ (r_ld Try.underlying3 rfl (H.ev rfl) (hd)) ?_; refine kl H rfl fun a H => ?_
    refine wl_v _ (r_build #[(0, .int .i64 s), (1, .int .i64 u)] (.agg #[.int .i64 s, .int .i64 u]) (by simp [evc, H.ev (j := 6) rfl, H.ev (j := 7) rfl]) (fun w => by kernel_rfl)) ?_; refine kl H rfl fun a H => ?_
    refine wl_v (.bool true) (r_eq29 (y := (s, u)) (H.ev rfl) (H.ev rfl) (dec_t he)) ?_; refine kl H rfl fun a H => ?_
    refine wl_v _ (r_assign (H.ev rfl)) ?_; refine kl H rfl fun a H => ?_
    refine wpList_nil ?_
    refine c_next ?_
    refine wp_ret ?_
    exact k_ret1 H rfl rfl ⟨by rw [show decide (y = (s, u)) = true from dec_t he], hall⟩
  · skip
    refine K_enter 10 Try.func22 rfl rfl fun a H => ?_
    replace H := H.pick [0, 1, 2]
    refine wp_seq ?_
    refine wp_region_lit ?_
    refine op_box 29 _ #[.int .i64 y.1, .int .i64 y.2] (H.ev rfl) fun w0 b0 hge hb k0 => ?_; have g0 := Nat.le_trans hall.size hge; replace hc := cell_ups hc hb; replace hd := cell_ups hd hb; replace hall := hall.trans (hb.mono hall.size); clear hb; clear hge; refine kl H rfl fun a H => ?_
    refine wl_v _ (r_assign evc) ?_; refine kl H rfl fun a H => ?_
    refine wpList_nil ?_
    refine c_next ?_
    refine wp_seq ?_
    refine wp_region_lit ?_
    refine wl_v _ (r_row (cs := [.int .i64 y.1, .int .i64 y.2]) (H.ev rfl) (block_range k0) (by kernel_rfl) s29 rfl) ?_; refine kl H rfl fun a H => ?_
    refine wl_v _ (r_ld Try.underlying3 rfl (H.ev rfl) (hc)) ?_; refine kl H rfl fun a H => ?_
    refine wl_v _ (r_ld Try.underlying3 rfl (H.ev rfl) (hd)) ?_; refine kl H rfl fun a H => ?_
    refine wl_v _ (r_build #[(0, .int .i64 s), (1, .int .i64 u)] (.agg #[.int .i64 s, .int .i64 u]) (by simp [evc, H.ev (j := 6) rfl, H.ev (j := 7) rfl]) (fun w => by kernel_rfl)) ?_; refine kl H rfl fun a H => ?_
    refine wl_v (.bool false) (r_eq29 (y := (s, u)) (H.ev rfl) (H.ev rfl) (dec_f he)) ?_; refine kl H rfl fun a H => ?_
    refine wl_v _ (r_assign (H.ev rfl)) ?_; refine kl H rfl fun a H => ?_
    refine wpList_nil ?_
    refine c_next ?_
    refine wp_ret ?_
    exact k_ret1 H rfl rfl ⟨by rw [show decide (y = (s, u)) = false from dec_f he], hall⟩
theorem pf22 {W0 : World} {bc bd : Nat} {s u : Int} (hc : W0.cell? ⟨bc, 0, none⟩ = some (.int .i64 s)) (hd : W0.cell? ⟨bd, 0, none⟩ = some (.int .i64 u)) : PF 22 #[.pointer (some ⟨bc, 0, none⟩), .pointer (some ⟨bd, 0, none⟩)] (fun y => decide (y = (s, u))) W0 :=
  fun y w hb => c22_any bc bd s u y w (cell_ups hc hb) (cell_ups hd hb)
theorem pf23 {W0 : World} {bc : Nat} {s : Int} (hc : W0.cell? ⟨bc, 0, none⟩ = some (.int .i64 s)) : PF 23 #[.pointer (some ⟨bc, 0, none⟩)] (fun y => decide (y.1 = s)) W0 :=
  fun y w hb => c23_any bc s y w (cell_ups hc hb)
theorem pf18 {W0 : World} {bc : Nat} {s : Int} (hc : W0.cell? ⟨bc, 0, none⟩ = some (.int .i64 s)) : PF 18 #[.pointer (some ⟨bc, 0, none⟩)] (fun y => decide (y.1 = s)) W0 :=
  fun y w hb => c18_any bc s y w (cell_ups hc hb)
theorem zero29 (w : World) : (zeroValue 29).run Try.prog w = .ok (.agg #[.int .i64 0, .int .i64 0]) w := by kernel_rfl
theorem zc_eq : Builtin.zeroCells (Value.agg #[.int .i64 0, .int .i64 0]).cells 1 = #[.int .i64 0, .int .i64 0] := by kernel_rfl
theorem zc_size : (Builtin.zeroCells (Value.agg #[.int .i64 0, .int .i64 0]).cells 1).size = 2 := by rw [zc_eq]; rfl
theorem zc_len : (Builtin.zeroCells (Value.agg #[.int .i64 0, .int .i64 0]).cells 1).toList.length = 2 := by rw [zc_eq]; rfl
theorem zc_one (u : Value) (hu : u ∈ Builtin.zeroCells (Value.agg #[.int .i64 0, .int .i64 0]).cells 1) : u.oneCell' = true := by
  rw [zc_eq] at hu
  simp at hu
  subst hu
  rfl
def SD (W : World) (base g : Nat) (cur : Array Value) (A : Option Addr) (xs : List Value) (w : World) : Prop := Block w g 29 cur ∧ Holds w A xs ∧ Below base W w
theorem del_end {cur : Array Value} {cap m k : Nat} {L : List Mk} {zs : List Value} (hcs : cur.size = cap * 2) (hc : cur.toList.take ((m + 1) * 2) = FV encM L) (hL : L.length = m + 1) (hk : k ≤ m) (hm : m + 1 ≤ cap) :
    (spl (spl cur (k * 2) (FV encM (L.drop (k + 1)))) (0 + m * 2) zs).toList.take (m * 2) = FV encM (L.eraseIdx k) := by
  have hl : (FV encM (L.drop (k + 1))).length = (m - k) * 2 := by rw [FV_len encM_len, List.length_drop, hL]; congr 1; omega
  rw [spl_take (by omega) (by rw [spl_size (by omega)]; omega), spl_upto (by rw [hl]; omega) (by omega), take_le hc (by omega), ← FV_take encM_len, ← FV_append, List.eraseIdx_eq_take_drop_succ]
set_option maxHeartbeats 2000000 in
set_option maxRecDepth 100000 in
theorem delete_any (w : World) (base : Nat) (v : Value) (L : List Mk) (hown : MOwn w base v L) (k : Nat) (hk : k < L.length) (hn : L.length ≤ 100000) :
    Calls Try.prog 19 #[v, .int .i64 k, .int .i64 (k + 1 : Nat)] w fun e w' => (∃ v', e = .returned v' ∧ MOwn w' base v' (L.eraseIdx k)) ∧ Below base w w' ∧ (∀ q, some q ≠ v.ownBlock → w'.heap[q]? = w.heap[q]?) := by
  obtain ⟨m, hm⟩ : ∃ m, L.length = m + 1 := ⟨L.length - 1, by omega⟩
  obtain ⟨_, ⟨rfl, h0⟩ | ⟨g, cap, cur, rfl, hbg, hg, hc, hcm, hcs, htk⟩⟩ := hown
  · omega
  have hsrc : Holds w (slAt (some ⟨g, 0, none⟩) cap (k + 1) 2) (FV encM (L.drop (k + 1))) := by
    rw [FV_drop encM_len]
    refine slAt_holds (FV_len encM_len L) hc ?_ _
    intro j hj
    refine ⟨g, 0, rfl, ?_⟩
    rw [Nat.zero_add, Block.cell hg, ← htk, List.getElem?_take, if_pos (by rw [FV_len encM_len] at hj; exact hj)]
    simp
  rw [hm] at htk hc
  have hfit : k * 2 + (FV encM (L.drop (k + 1))).length ≤ cur.size := by rw [FV_len encM_len, List.length_drop, hm, hcs]; omega
  have HK : Hid (L.length = m + 1) := Lib.hid hm
  have HC := Lib.hid htk
  have hkm : k ≤ m := by omega
  have HM : Hid ((L.eraseIdx k).length = m) := Lib.hid (by rw [List.length_eraseIdx_of_lt hk]; omega)
  have hm2 : m ≤ 100000 := by omega
  have hsz : (m + 1) * 2 ≤ cur.size := by rw [hcs]; omega
  have HCS := Lib.hid hcs
  rw [hm]
  have hall := Below.refl base w
  have hot : ∀ q, q ≠ g → w.heap[q]? = w.heap[q]? := fun _ _ => rfl
  clear hm htk hn hk hcs
  go_enter Try.func19, Try.ntmps19
  go_upto_region 0 with (fail)
  refine wp_region_lit ?_
  refine wl_v ?_ ?_ ?_; rotate_left; (focus (go_simp; (try with_reducible rfl); done)); try simp only [Act.put, List.setIfInBounds_toArray, List.set_cons_zero, List.set_cons_succ]
  go_upto_region 1 with (fail)
  refine wp_region_lit ?_
  refine wl_v ?_ ?_ ?_; rotate_left; (focus (go_simp; (try with_reducible rfl); done)); try simp only [Act.put, List.setIfInBounds_toArray, List.set_cons_zero, List.set_cons_succ]
  refine wl_v ?_ ?_ ?_; rotate_left; (focus (go_simp; (try with_reducible rfl); done)); try simp only [Act.put, List.setIfInBounds_toArray, List.set_cons_zero, List.set_cons_succ]
  refine wl_v ?_ ?_ ?_; rotate_left; (focus (go_simp; (try with_reducible rfl); done)); try simp only [Act.put, List.setIfInBounds_toArray, List.set_cons_zero, List.set_cons_succ]
  refine wl_v ?_ ?_ ?_; rotate_left; (focus (go_simp; (try with_reducible rfl); done)); try simp only [Act.put, List.setIfInBounds_toArray, List.set_cons_zero, List.set_cons_succ]
  refine wl_v ?_ ?_ ?_; rotate_left; (focus (go_simp; (try with_reducible rfl); done)); try simp only [Act.put, List.setIfInBounds_toArray, List.set_cons_zero, List.set_cons_succ]
  refine wl_v (.slice (slAt (some ⟨g, 0, none⟩) (m + 1) k 2) (k + 1 - k) (m + 1 - k)) (run_op_slice Try.underlying22 (.slice (some ⟨g, 0, none⟩) (m + 1) cap) (some (.int .i64 (k : Nat))) (some (.int .i64 (k + 1 : Nat))) (some (.int .i64 (m + 1 : Nat))) rfl rfl rfl rfl (run_slice3 Try.underlying22 s29 (by omega) (by omega) (by omega))) ?_; try simp only [Act.put, List.setIfInBounds_toArray, List.set_cons_zero, List.set_cons_succ]
  go_upto_region 2 with (fail)
  refine wp_region_lit ?_
  refine wl_v ?_ ?_ ?_; rotate_left; (focus (go_simp; (try with_reducible rfl); done)); try simp only [Act.put, List.setIfInBounds_toArray, List.set_cons_zero, List.set_cons_succ]
  refine wl_v ?_ ?_ ?_; rotate_left; (focus (go_simp; (try with_reducible rfl); done)); try simp only [Act.put, List.setIfInBounds_toArray, List.set_cons_zero, List.set_cons_succ]
  refine wl_v (.bool false) (by go_simp <;> omega) ?_; try simp only [Act.put, List.setIfInBounds_toArray, List.set_cons_zero, List.set_cons_succ]
  go_upto_region 4 with (fail)
  refine wp_region_lit ?_
  refine wl_v ?_ ?_ ?_; rotate_left; (focus (go_simp; (try with_reducible rfl); done)); try simp only [Act.put, List.setIfInBounds_toArray, List.set_cons_zero, List.set_cons_succ]
  refine wl_v ?_ ?_ ?_; rotate_left; (focus (go_simp; (try with_reducible rfl); done)); try simp only [Act.put, List.setIfInBounds_toArray, List.set_cons_zero, List.set_cons_succ]
  refine wl_v ?_ ?_ ?_; rotate_left; (focus (go_simp; (try with_reducible rfl); done)); try simp only [Act.put, List.setIfInBounds_toArray, List.set_cons_zero, List.set_cons_succ]
  go_upto_region 5 with (fail)
  have hS : AnyW _ := AnyW.any w.drew
  refine region_pi (AnyW) [(0, true), (1, true), (2, true), (3, true), (4, true), (5, true), (6, false), (7, true)] (by kernel_rfl) (by kernel_rfl) rfl (by kernel_rfl) hS ?_
  have hgd : Block w.drew g 29 cur := hg
  have hsd : Holds w.drew (slAt (some ⟨g, 0, none⟩) cap (k + 1) 2) (FV encM (L.drop (k + 1))) := hsrc
  replace hall := hall.drew
  replace hot : ∀ q, q ≠ g → (World.drew w).heap[q]? = w.heap[q]? := fun _ _ => rfl
  clear hg hsrc
  refine pi_f0 ?_ rfl ?_ ?_; rotate_left; (focus (intro w' hS'; go_simp; (try with_reducible rfl); done)); try simp only [Act.put, List.setIfInBounds_toArray, List.set_cons_zero, List.set_cons_succ]
  refine pi_f0 ?_ rfl ?_ ?_; rotate_left; (focus (intro w' hS'; go_simp; (try with_reducible rfl); done)); try simp only [Act.put, List.setIfInBounds_toArray, List.set_cons_zero, List.set_cons_succ]
  refine pi_f0 (.slice (some ⟨g, 0, none⟩) k cap) rfl (fun w' _ => run_op_slice Try.underlying22 (.slice (some ⟨g, 0, none⟩) (m + 1) cap) none (some (.int .i64 (k : Nat))) none rfl rfl rfl rfl (slice_any 0 k Try.underlying22 s29 _ _ (.inl ⟨rfl, rfl⟩) (.inr rfl) (by omega) (by omega) (by simp [slAt, add_flat]) (by omega) (by omega))) ?_; try simp only [Act.put, List.setIfInBounds_toArray, List.set_cons_zero, List.set_cons_succ]
  refine pi_f0 ?_ rfl ?_ ?_; rotate_left; (focus (intro w' hS'; go_simp; (try with_reducible rfl); done)); try simp only [Act.put, List.setIfInBounds_toArray, List.set_cons_zero, List.set_cons_succ]
  refine pi_f0 ?_ rfl ?_ ?_; rotate_left; (focus (intro w' hS'; go_simp; (try with_reducible rfl); done)); try simp only [Act.put, List.setIfInBounds_toArray, List.set_cons_zero, List.set_cons_succ]
  refine pi_f0 (.slice (slAt (some ⟨g, 0, none⟩) cap (k + 1) 2) (m - k) (cap - (k + 1))) rfl (fun w' _ => run_op_slice Try.underlying22 (.slice (some ⟨g, 0, none⟩) (m + 1) cap) (some (.int .i64 (k + 1 : Nat))) none none rfl rfl rfl rfl (slice_any (k + 1) (m + 1) Try.underlying22 s29 _ _ (.inr rfl) (.inl ⟨rfl, rfl⟩) (by omega) (by omega) rfl (by omega) rfl)) ?_; try simp only [Act.put, List.setIfInBounds_toArray, List.set_cons_zero, List.set_cons_succ]
  refine pi_a0 rfl (fun K hK => ?_); refine wpo_row (.slice (some ⟨g, 0, none⟩) m cap) g 29 cur _ hgd (run_b2 (.slice (some ⟨g, 0, none⟩) k cap) (.slice (slAt (some ⟨g, 0, none⟩) cap (k + 1) 2) (m - k) (cap - (k + 1))) rfl rfl (b_append (append_in _ _ _ 29 2 Try.underlying22 s29 g k cap m cur hgd _ (m - k) _ (FV encM (L.drop (k + 1))) (by rw [FV_len encM_len, List.length_drop, HK.out]; omega) hsd (by omega) (FV_one _ _) (by omega) (by omega) hfit))) fun w5 hg5 hb5 ho5 => ?_; replace hot : ∀ q, q ≠ g → w5.heap[q]? = w.heap[q]? := fun q hq => (ho5 q hq).trans (hot q hq); clear ho5; replace hall := hall.trans (hb5 _ hbg); clear hb5 hgd hsd; have hS := AnyW.any w5; refine hK _ _ ⟨?_, ?_⟩; exact hS; clear hK; clear K; try simp only [Act.put, List.setIfInBounds_toArray, List.set_cons_zero, List.set_cons_succ]
  refine pi_f0 ?_ rfl ?_ ?_; rotate_left; (focus (intro w' hS'; go_simp; (try with_reducible rfl); done)); try simp only [Act.put, List.setIfInBounds_toArray, List.set_cons_zero, List.set_cons_succ]
  refine pi_nil (NoPanic.normal ?_)
  go_upto_region 6 with (fail)
  refine wp_region_lit ?_
  refine wl_v ?_ ?_ ?_; rotate_left; (focus (go_simp; (try with_reducible rfl); done)); try simp only [Act.put, List.setIfInBounds_toArray, List.set_cons_zero, List.set_cons_succ]
  refine wl_v ?_ ?_ ?_; rotate_left; (focus (go_simp; (try with_reducible rfl); done)); try simp only [Act.put, List.setIfInBounds_toArray, List.set_cons_zero, List.set_cons_succ]
  refine wl_v ?_ ?_ ?_; rotate_left; (focus (go_simp; (try with_reducible rfl); done)); try simp only [Act.put, List.setIfInBounds_toArray, List.set_cons_zero, List.set_cons_succ]
  refine wl_v ?_ ?_ ?_; rotate_left; (focus (go_simp; (try with_reducible rfl); done)); try simp only [Act.put, List.setIfInBounds_toArray, List.set_cons_zero, List.set_cons_succ]
  refine wl_v (.slice (some ⟨g, 0 + m * 2, none⟩) 1 (cap - m)) (run_op_slice Try.underlying22 (.slice (some ⟨g, 0, none⟩) m cap) (some (.int .i64 (m : Nat))) (some (.int .i64 (m + 1 : Nat))) none rfl rfl rfl rfl (slice_any m (m + 1) Try.underlying22 s29 _ _ (.inr rfl) (.inr rfl) (by omega) (by omega) (slAt_some (by omega)) (by omega) rfl)) ?_; try simp only [Act.put, List.setIfInBounds_toArray, List.set_cons_zero, List.set_cons_succ]
  refine wl_row (.tuple #[]) g 29 _ _ hg5 (run_b1 (.slice (some ⟨g, 0 + m * 2, none⟩) 1 (cap - m)) rfl (b_clear (run_clear_in _ _ _ 29 (.agg #[.int .i64 0, .int .i64 0]) Try.underlying22 zero29 g (0 + m * 2) 1 _ _ hg5 (by intro u hu; exact zc_one u hu) (by rw [spl_size hfit, zc_size]; omega) (by omega)))) fun w6 hg6 hb6 ho6 => ?_; replace hot : ∀ q, q ≠ g → w6.heap[q]? = w.heap[q]? := fun q hq => (ho6 q hq).trans (hot q hq); clear ho6; replace hall := hall.trans (hb6 _ hbg); clear hb6 hg5; try simp only [Act.put, List.setIfInBounds_toArray, List.set_cons_zero, List.set_cons_succ]
  go_wp2_with fail
  go_ret
  refine ⟨⟨_, rfl, ?_, .inr ⟨g, cap, _, ?_, hbg, hg6, ?_, hcm, ?_, ?_⟩⟩, hall, fun q hq => hot q (fun e => hq (by rw [e]; rfl))⟩
  · rw [FV_len encM_len]
  · rw [HM.out]; rfl
  · rw [HM.out]; omega
  · rw [spl_size (by rw [spl_size hfit, zc_len]; omega), spl_size hfit]; exact HCS.out
  · rw [HM.out]
    exact del_end HCS.out HC.out HK.out hkm hc

end Go.Proofs.Ytpegfbdepgmbjaa
