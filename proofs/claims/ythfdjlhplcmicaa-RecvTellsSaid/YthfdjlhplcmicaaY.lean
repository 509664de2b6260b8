/- Recv: Start, Ack. -/
import Derived.Test.YthfdjlhplcmicaaX
namespace Go.Proofs.Ythfdjlhplcmicaa
open Go.RowKit
set_option linter.unusedVariables false
set_option linter.unusedSimpArgs false

theorem k_ret_cell {P : Program} {a : Act} {w : World} {n : Nat} {l : List (Nat × Value)} {fn : Func} {R : Ending → World → Prop} {p : Tmp} {ty : TypeId} {g : Nat} {t : TypeId} {C : Array Value} {ds : TypeDesc} (H : Kn a n l) (hf : fn.results = #[.cell p ty]) (hp : lk l p = some (.pointer (some ⟨g, 0, none⟩)))
    (hg : Block w g t C) (hu : P.underlying ty = some ds) (hd : (match ds with | .struct _ | .array _ _ => true | _ => false) = true) (hi : (P.info? ty).map (·.size) = some C.size) (h : R (.returned (.agg C)) w) : bodyPost P fn R .ret a w :=
  ⟨H.defers, _, res_row hf a.tmps w g t C ds (H.at_ p _ hp) hg hu hd hi, h⟩
/-- the bits of what waits -/
def ackS (n : Int) (L : List It) : Nat := (L.map fun y => 2 ^ (y.1 - n - 1).toNat).sum
def ackF (n : Int) (L : List It) : Int × Int := if rightF n L = true then (n - 1, (ackS n L : Nat)) else (0, 0)
theorem ack_next (n : Int) {L : List It} {k : Nat} {y : It} (hy : L[k]? = some y) : ackS n (L.take (k + 1)) = ackS n (L.take k) + 2 ^ (y.1 - n - 1).toNat := by
  obtain ⟨hk, rfl⟩ := List.getElem?_eq_some_iff.1 hy
  unfold ackS
  rw [List.take_succ_eq_append_getElem hk, List.map_append, List.sum_append]
  simp
theorem ack_lt {n : Int} {L : List It} (h : RightL n L) : ∀ (k E : Nat), k ≤ L.length → (∀ (j : Nat) y, j < k → L[j]? = some y → (y.1 - n - 1).toNat < E) → ackS n (L.take k) < 2 ^ E
  | 0, E, _, _ => by have : 0 < 2 ^ E := Nat.two_pow_pos E; simpa [ackS] using this
  | k + 1, E, hk, hE => by
    have hy : L[k]? = some L[k] := List.getElem?_eq_getElem (by omega)
    have ih := ack_lt h k (L[k].1 - n - 1).toNat (by omega) fun j z hj hz => by
      obtain ⟨hj', rfl⟩ := List.getElem?_eq_some_iff.1 hz
      have := List.pairwise_iff_getElem.1 h.2.2.1 j k hj' (by omega) hj
      have := h.2.2.2 _ (List.getElem_mem hj')
      omega
    have he := hE k _ (by omega) hy
    rw [ack_next n hy]
    have h2 : 2 ^ ((L[k].1 - n - 1).toNat + 1) ≤ 2 ^ E := Nat.pow_le_pow_right (by omega) he
    rw [Nat.pow_succ] at h2
    omega
theorem ack_bound {n : Int} {L : List It} {k : Nat} {y : It} (h : RightL n L) (hy : L[k]? = some y) : ackS n (L.take k) < 2 ^ (y.1 - n - 1).toNat := by
  obtain ⟨hk, rfl⟩ := List.getElem?_eq_some_iff.1 hy
  refine ack_lt h k _ (by omega) fun j z hj hz => ?_
  obtain ⟨hj', rfl⟩ := List.getElem?_eq_some_iff.1 hz
  have := List.pairwise_iff_getElem.1 h.2.2.1 j k hj' hk hj
  have := h.2.2.2 _ (List.getElem_mem hj')
  omega
theorem pow_le {q : Nat} (h : q ≤ 6) : 2 ^ q ≤ 64 := by
  have : 2 ^ q ≤ 2 ^ 6 := Nat.pow_le_pow_right (by omega) h
  omega
theorem r_shl1 {P : Program} {a : Act} {w : World} {d : Option Tmp} {tt : TypeId} {ps : String} {af : Array Edge} {gd : Option (Nat × Bool)} {y : Operand} {q : Nat} {t t2 : TypeId} (ht : P.underlying t = some (.int .i64)) (hy : a.eval y = .int .i64 (q : Nat)) (hq : q ≤ 6) : (execOp a.eval ⟨d, .binOp .shl t (.const (.int .i64 1)) y t2, tt, ps, af, gd⟩).run P w = .ok (.value (.int .i64 (2 ^ q : Nat))) w := by
  have hc : q = 0 ∨ q = 1 ∨ q = 2 ∨ q = 3 ∨ q = 4 ∨ q = 5 ∨ q = 6 := by omega
  unfold execOp
  simp only [hy]
  rcases hc with rfl | rfl | rfl | rfl | rfl | rfl | rfl <;> go_simp <;> decide
theorem or_add : ∀ (q : Fin 7) (s : Fin 64), s.1 < 2 ^ q.1 → bits .or .i64 ((s.1 : Nat) : Int) ((2 ^ q.1 : Nat) : Int) = ((s.1 + 2 ^ q.1 : Nat) : Int) := by decide
theorem r_or1 {P : Program} {a : Act} {w : World} {d : Option Tmp} {tt : TypeId} {ps : String} {af : Array Edge} {gd : Option (Nat × Bool)} {x y : Operand} {s q : Nat} {t t2 : TypeId} (ht : P.underlying t = some (.int .i64)) (hx : a.eval x = .int .i64 (s : Nat)) (hy : a.eval y = .int .i64 (2 ^ q : Nat)) (hq : q ≤ 6) (hs : s < 2 ^ q) : (execOp a.eval ⟨d, .binOp .or t x y t2, tt, ps, af, gd⟩).run P w = .ok (.value (.int .i64 (s + 2 ^ q : Nat))) w := by
  have hp := pow_le hq
  have h := or_add ⟨q, by omega⟩ ⟨s, by omega⟩ hs
  unfold execOp
  simp only [hx, hy]
  go_simp
  exact h
theorem start_any (w : World) : Calls Try.prog 19 #[] w fun e w' => e = .returned (.agg #[.int .i64 1, .slice none 0 0]) ∧ Below w.heap.size w w' := by
  have hall := Below.refl w.heap.size w
  refine K_enter 2 Try.func19 rfl rfl fun a H => ?_
  replace H := H.pick []
  refine wp_seq ?_
  refine wp_region_lit ?_
  refine op_alloc 24 #[.int .i64 0, .slice none 0 0] z24 fun w0 b0 hge hb k0 => ?_; have g0 := Nat.le_trans hall.size hge; replace hall := hall.trans (hb.mono hall.size); clear hb hge; refine kl H rfl fun a H => ?_
  refine wpList_nil ?_
  refine c_next ?_
  refine wp_seq ?_
  refine wp_region_lit ?_
  refine wl_v _ (r_build #[(0, .int .i64 1)] (.agg #[.int .i64 1, .slice none 0 0]) (by simp [evc]) (fun w => by kernel_rfl)) ?_; refine kl H rfl fun a H => ?_
  refine op_store1 24 (.tmp 0) (.tmp 1) b0 0 24 (.agg #[.int .i64 1, .slice none 0 0]) _ (H.ev rfl) (H.ev rfl) k0 s24 (by simp [Value.cells]) (by simp [Value.cells, Value.oneCell']) fun w' hb ho kq => ?_; clear k0; have k0 : Block _ b0 24 #[.int .i64 1, .slice none 0 0] := kq; clear kq; replace hall := hall.trans (hb _ g0); clear hb ho; refine kl0 H fun a H => ?_
  refine wpList_nil ?_
  refine c_next ?_
  refine wp_ret ?_
  exact k_ret_cell H rfl rfl k0 Try.underlying24 rfl s24 ⟨rfl, hall⟩
def Ac14 (W : World) (b0 : Nat) (n : Int) (A : Option Addr) (c : Nat) (L : List It) (a : Act) (w : World) : Prop :=
  ∃ k : Nat, Kn a 30 [(1, .pointer (some ⟨b0, 0, none⟩)), (3, .int .i64 (ackS n (L.take k) : Nat)), (10, .slice A L.length c), (11, .int .i64 (L.length : Nat)), (12, .int .i64 (k : Nat))] ∧ k ≤ L.length ∧ Block w b0 24 #[.int .i64 n, .slice A L.length c] ∧ Below W.heap.size W w
set_option maxHeartbeats 4000000 in
theorem ack_any (w : World) (n : Int) (v : Value) (L : List It) (h0 : IRow w v L) (hn : L.length ≤ 9223372036854775807) :
    Calls Try.prog 14 #[.agg #[.int .i64 n, v]] w fun e w' => e = .returned (.tuple #[.int .i64 (ackF n L).1, .int .i64 (ackF n L).2]) ∧ Below w.heap.size w w' := by
  obtain ⟨A, c, rfl, h1, h2, h3, hh⟩ := h0
  have h : Hid (IRow w (.slice A L.length c) L) := Lib.hid ⟨A, c, rfl, h1, h2, h3, hh⟩
  replace hh := Lib.hid hh
  have hall := Below.refl w.heap.size w
  cases hrt : rightF n L
  · skip
    refine K_enter 30 Try.func14 rfl rfl fun a H => ?_
    replace H := H.pick [0]
    refine wp_seq ?_
    refine wp_region_lit ?_
    refine op_box 24 _ #[.int .i64 n, .slice A L.length c] (H.ev rfl) fun w0 b0 hge hb k0 => ?_; have g0 := Nat.le_trans hall.size hge; replace hall := hall.trans (hb.mono hall.size); clear hb; clear hge; refine kl H rfl fun a H => ?_
    refine wl_v _ (r_assign evc) ?_; refine kl H rfl fun a H => ?_
    refine wl_v _ (r_assign evc) ?_; refine kl H rfl fun a H => ?_
    refine wpList_nil ?_
    refine c_next ?_
    refine wp_seq ?_
    refine wp_seq ?_
    refine wp_region_lit ?_
    refine wl_v _ (r_row (cs := [.int .i64 n, .slice A L.length c]) (H.ev rfl) (block_range k0) (by kernel_rfl) s24 rfl) ?_; refine kl H rfl fun a H => ?_
    refine wl_call _ _ _ (right_any _ n _ L (Row.up h.out hall) (by omega)) (r_call1 cf16 (H.ev rfl)) ?_; rintro e w9 ⟨rfl, hb⟩; refine ⟨_, rfl, ?_⟩; rw [hrt]; replace k0 := Block.ups k0 hb; replace hall := hall.trans (hb.mono hall.size); clear hb; refine kl H rfl fun a H => ?_
    refine wl_v _ (r_not (H.ev rfl) rfl) ?_; refine kl H rfl fun a H => ?_
    refine wpList_nil ?_
    refine c_next ?_
    refine c_cond_t H rfl ?_
    refine wp_seq ?_
    refine wp_region_lit ?_
    refine wl_v _ (r_assign evc) ?_; refine kl H rfl fun a H => ?_
    refine wl_v _ (r_assign evc) ?_; refine kl H rfl fun a H => ?_
    refine wpList_nil ?_
    refine c_next ?_
    refine wp_ret ?_
    refine r_then ?_
    exact k_ret2 H rfl rfl rfl ⟨by rw [show ackF n L = (0, 0) from if_neg (by rw [hrt]; simp)], hall⟩
  · skip
    have HR : Hid (RightL n L) := Lib.hid (of_decide_eq_true hrt)
    have hn1 := HR.out.1
    have hn2 := HR.out.2.1
    have HRT := Lib.hid hrt
    refine K_enter 30 Try.func14 rfl rfl fun a H => ?_
    replace H := H.pick [0]
    refine wp_seq ?_
    refine wp_region_lit ?_
    refine op_box 24 _ #[.int .i64 n, .slice A L.length c] (H.ev rfl) fun w0 b0 hge hb k0 => ?_; have g0 := Nat.le_trans hall.size hge; replace hall := hall.trans (hb.mono hall.size); clear hb; clear hge; refine kl H rfl fun a H => ?_
    refine wl_v _ (r_assign evc) ?_; refine kl H rfl fun a H => ?_
    refine wl_v _ (r_assign evc) ?_; refine kl H rfl fun a H => ?_
    refine wpList_nil ?_
    refine c_next ?_
    refine wp_seq ?_
    refine wp_seq ?_
    refine wp_region_lit ?_
    refine wl_v _ (r_row (cs := [.int .i64 n, .slice A L.length c]) (H.ev rfl) (block_range k0) (by kernel_rfl) s24 rfl) ?_; refine kl H rfl fun a H => ?_
    refine wl_call _ _ _ (right_any _ n _ L (Row.up h.out hall) (by omega)) (r_call1 cf16 (H.ev rfl)) ?_; rintro e w9 ⟨rfl, hb⟩; refine ⟨_, rfl, ?_⟩; rw [hrt]; replace k0 := Block.ups k0 hb; replace hall := hall.trans (hb.mono hall.size); clear hb; refine kl H rfl fun a H => ?_
    refine wl_v _ (r_not (H.ev rfl) rfl) ?_; refine kl H rfl fun a H => ?_
    refine wpList_nil ?_
    refine c_next ?_
    refine c_cond_f H rfl ?_
    refine wp_skip ?_
    refine c_next ?_
    refine wp_seq ?_
    refine wp_seq ?_
    refine wp_region_lit ?_
    refine wl_v _ (r_fld (q := 1) fld24_1 (H.ev rfl) rfl) ?_; refine kl H rfl fun a H => ?_
    refine wl_v _ (r_ld Try.underlying22 rfl (H.ev rfl) ((Block.cell k0 1).trans rfl)) ?_; refine kl H rfl fun a H => ?_
    refine wl_v _ (r_len Try.underlying22 (H.ev rfl)) ?_; refine kl H rfl fun a H => ?_
    refine wl_v _ (r_move evc) ?_; refine kl H rfl fun a H => ?_
    refine wpList_nil ?_
    refine c_next ?_
    refine wp_block ?_
    refine wp_loop (Ac14 w b0 n A c L) (fun a _ => L.length - (intOf (a.eval (.tmp 12))).toNat) ⟨0, H.pick [1, 3, 10, 11, 12], by omega, k0, hall⟩ ?_
    clear H hall k0
    rintro a w' ⟨k, H, hk, k0, hall⟩
    have H0 := H
    by_cases hlt : k < L.length
    · skip
      obtain ⟨b, o, hA, hr⟩ := flat_some encI_len hh.out (by omega) hlt
      subst hA
      have hy : L[k]? = some L[k] := List.getElem?_eq_getElem hlt
      have hbnd := HR.out.2.2.2 _ (List.getElem_mem hlt)
      have hS1 := ack_next n hy
      have hS2 := ack_bound HR.out hy
      have HRG := Lib.hid hr
      generalize L[k] = y at *
      obtain ⟨q, hq⟩ : ∃ q : Nat, y.1 - n - 1 = q := ⟨(y.1 - n - 1).toNat, by omega⟩
      have hq6 : q ≤ 6 := by omega
      have hqn : (y.1 - n - 1).toNat = q := by omega
      rw [hqn] at hS1 hS2
      generalize ackS n (L.take k) = sk at *
      have HS1 := Lib.hid hS1
      have hp7 := pow_le hq6
      clear hy hr hqn hS1
      have H := H0
      refine wp_seq ?_
      refine wp_region_lit ?_
      refine wl_v _ (r_lt Try.underlying3 (H.ev rfl) (H.ev rfl) (dec_t (by omega))) ?_; refine kl H rfl fun a H => ?_
      refine wpList_nil ?_
      refine c_next ?_
      refine wp_seq ?_
      refine c_cond_t H rfl ?_
      refine wp_skip ?_
      refine c_next ?_
      refine wp_seq ?_
      refine wp_block ?_
      refine wp_seq ?_
      refine wp_region_lit ?_
      refine wl_v _ (r_idx (j := k) (q := o + k * 5) Try.underlying22 s33 (H.ev rfl) (H.ev rfl) (by omega) rfl) ?_; refine kl H rfl fun a H => ?_
      refine wl_v _ (r_row (cs := [.int .i64 y.1, .int .i64 y.2.1, .int .i64 y.2.2.1, .int .i64 y.2.2.2.1, .int .i64 y.2.2.2.2]) (H.ev rfl) (range_ups HRG.out hall) (by kernel_rfl) s33 rfl) ?_; refine kl H rfl fun a H => ?_
      refine op_new 33 5 (.tmp 15) #[.int .i64 y.1, .int .i64 y.2.1, .int .i64 y.2.2.1, .int .i64 y.2.2.2.1, .int .i64 y.2.2.2.2] _ z33 s33 rfl (ints_one [y.1, y.2.1, y.2.2.1, y.2.2.2.1, y.2.2.2.2]) (fun p => (H.put 5 p rfl).ev rfl) (fun p => (H.put 5 p rfl).ev rfl) fun w1 b1 hge hb k1 => ?_; have g1 := Nat.le_trans hall.size hge; replace k0 := Block.ups k0 hb; replace hall := hall.trans (hb.mono hall.size); clear hb; clear hge; refine kl H rfl fun a H => ?_
      refine wpList_nil ?_
      refine c_next ?_
      refine wp_region_lit ?_
      refine wl_v _ (r_move (H.ev rfl)) ?_; refine kl H rfl fun a H => ?_
      refine wl_v _ (r_fld (q := 0) fld33_0 (H.ev rfl) rfl) ?_; refine kl H rfl fun a H => ?_
      refine wl_v _ (r_ld Try.underlying3 rfl (H.ev rfl) ((Block.cell k1 0).trans rfl)) ?_; refine kl H rfl fun a H => ?_
      refine wl_v _ (r_fld (q := 0) fld24_0 (H.ev rfl) rfl) ?_; refine kl H rfl fun a H => ?_
      refine wl_v _ (r_ld Try.underlying3 rfl (H.ev rfl) ((Block.cell k0 0).trans rfl)) ?_; refine kl H rfl fun a H => ?_
      refine wl_v _ (r_sub (q := y.1 - n) Try.underlying3 (H.ev rfl) (H.ev rfl) (by omega) (by omega)) ?_; refine kl H rfl fun a H => ?_
      refine wl_v (.int .i64 (q : Nat)) (r_sub (q := ((q : Nat) : Int)) Try.underlying3 (H.ev rfl) evc (by omega) (by omega)) ?_; refine kl H rfl fun a H => ?_
      refine wl_v (.int .i64 (2 ^ q : Nat)) (r_shl1 Try.underlying3 (H.ev rfl) hq6) ?_; refine kl H rfl fun a H => ?_
      refine wl_v (.int .i64 (sk + 2 ^ q : Nat)) (r_or1 Try.underlying3 (H.ev rfl) (H.ev rfl) hq6 hS2) ?_; refine kl H rfl fun a H => ?_
      refine wl_v _ (r_assign (H.ev rfl)) ?_; refine kl H rfl fun a H => ?_
      refine wpList_nil ?_
      refine n_block ?_
      refine c_next ?_
      refine wp_region_lit ?_
      refine wl_v _ (r_add (q := ((k + 1 : Nat) : Int)) Try.underlying3 (H.ev rfl) evc (by omega) (by omega)) ?_; refine kl H rfl fun a H => ?_
      refine wl_v _ (r_move (H.ev rfl)) ?_; refine kl H rfl fun a H => ?_
      refine wpList_nil ?_
      replace H := H.pick [1, 3, 10, 11, 12]
      rw [← HS1.out] at H
      refine n_then ⟨⟨k + 1, H, by omega, k0, hall⟩, ?_⟩
      rw [H.ev (j := 12) rfl, H0.ev (j := 12) rfl]
      simp only [intOf]
      omega
    · skip
      obtain rfl : k = L.length := by omega
      refine wp_seq ?_
      refine wp_region_lit ?_
      refine wl_v _ (r_lt Try.underlying3 (H.ev rfl) (H.ev rfl) (dec_f (by omega))) ?_; refine kl H rfl fun a H => ?_
      refine wpList_nil ?_
      refine c_next ?_
      refine wp_seq ?_
      refine c_cond_f H rfl ?_
      refine wp_exit ?_
      refine e_then ?_
      refine e_then ?_
      refine e_here ?_
      refine c_next ?_
      refine wp_seq ?_
      refine wp_region_lit ?_
      refine wl_v _ (r_fld (q := 0) fld24_0 (H.ev rfl) rfl) ?_; refine kl H rfl fun a H => ?_
      refine wl_v _ (r_ld Try.underlying3 rfl (H.ev rfl) ((Block.cell k0 0).trans rfl)) ?_; refine kl H rfl fun a H => ?_
      refine wl_v _ (r_sub (q := n - 1) Try.underlying3 (H.ev rfl) evc (by omega) (by omega)) ?_; refine kl H rfl fun a H => ?_
      refine wl_v _ (r_move (H.ev rfl)) ?_; refine kl H rfl fun a H => ?_
      refine wl_v _ (r_assign (H.ev rfl)) ?_; refine kl H rfl fun a H => ?_
      refine wl_v _ (r_assign (H.ev rfl)) ?_; refine kl H rfl fun a H => ?_
      refine wpList_nil ?_
      refine c_next ?_
      refine wp_ret ?_
      exact k_ret2 H rfl rfl rfl ⟨by rw [show ackF n L = (n - 1, ((ackS n L : Nat) : Int)) from if_pos hrt, List.take_length], hall⟩
end Go.Proofs.Ythfdjlhplcmicaa
