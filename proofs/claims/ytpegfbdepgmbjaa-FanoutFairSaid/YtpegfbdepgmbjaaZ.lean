/- Fanout: gone, Strike, Drop, Add. -/
import Derived.Test.YtpegfbdepgmbjaaY
namespace Go.Proofs.Ytpegfbdepgmbjaa
open Go.RowKit
set_option linter.unusedVariables false
set_option linter.unusedSimpArgs false

theorem ownB_any (w : World) (t : Int) (v : Value) (L : List Mk) (h : MRow w v L) (hn : L.length ≤ 100000) :
    Calls Try.prog 14 #[.agg #[v, .int .i64 t]] w fun e w' => (∃ B A c, B = w.heap.size ∧ e = .returned (.agg #[.slice A L.length c, .int .i64 t]) ∧ MOwn w' B (.slice A L.length c) L) ∧ Below w.heap.size w w' :=
  (own_any w t v L h hn).mono fun e w' ⟨⟨A, c, he, ho⟩, hb⟩ => ⟨⟨_, A, c, rfl, he, ho⟩, hb⟩
theorem delfM_any (W0 w : World) (base : Nat) (v : Value) (b0 : Nat) (L : List Mk) (p : Mk → Bool) (f : FuncId) (caps : Array Value) (hf : entF Try.prog f) (hp : PF f caps p W0) (hW : Below W0.heap.size W0 w) (hb0 : W0.heap.size ≤ base) (hbw : base ≤ w.heap.size) (hown : MOwn w base v L) (hn : L.length ≤ 100000) :
    Calls Try.prog 30 #[v, .func (.func f) #[] caps] w fun e w' => (∃ M A c, M = keepF p L ∧ e = .returned (.slice A M.length c) ∧ MOwn w' base (.slice A M.length c) M) ∧ Below base w w' :=
  (delf_any W0 w base v L p f caps hf hp hW hb0 hbw hown hn).mono fun e w' ⟨⟨A, c, he, ho⟩, hb⟩ => ⟨⟨_, A, c, rfl, he, ho⟩, hb⟩
theorem le_up {B b : Nat} {w w' : World} (h : B ≤ w.heap.size) (hb : Below b w w') : B ≤ w'.heap.size := Nat.le_trans h hb.size
theorem keep_len (p : Mk → Bool) (L : List Mk) : (keepF p L).length ≤ L.length := List.length_filter_le _ _
theorem app_own {α : Type} {enc : α → List Int} {e : TypeId} {size : Nat} {w : World} {B : Nat} {v : Value} {L : List α} {x : α} (h : w.ownsRow B e size v (L.length + 1) (FV enc L ++ FV enc [x])) : ROwn enc e size w B v (L ++ [x]) := by
  unfold ROwn
  rw [List.length_append, FV_append]
  exact h
theorem r_mkfn2 {P : Program} {d : Option Tmp} {tt : TypeId} {ps : String} {af : Array Edge} {gd : Option (Nat × Bool)} {a : Act} {w : World} {fn : Fn} {x y : Operand} {vx vy : Value} (hx : a.eval x = vx) (hy : a.eval y = vy) : (execOp a.eval ⟨d, .makeFunc fn #[] #[x, y], tt, ps, af, gd⟩).run P w = .ok (.value (.func fn #[] #[vx, vy])) w := by
  subst hx hy
  have hmf : ∀ fn first cap w, (Instr.makeFunc fn first cap).run P w = .ok (.func fn first cap) w := fun _ _ _ _ => rfl
  unfold execOp
  simp [hmf, Sem.run_bind, Sem.run_pure, Result.andThen_ok]
def SGn (W : World) (b0 : Nat) (s : Value) (t : Int) (w : World) : Prop := Below W.heap.size W w ∧ Block w b0 24 #[s, .int .i64 t]
set_option maxHeartbeats 4000000 in
theorem gone_any (w : World) (t : Int) (v : Value) (L : List Mk) (p : Mk → Bool) (f : FuncId) (caps : Array Value) (hf : entF Try.prog f) (hp : PF f caps p w) (h : MRow w v L) (hn : L.length ≤ 100000) :
    Calls Try.prog 21 #[.agg #[v, .int .i64 t], .func (.func f) #[] caps] w fun e w' => (∃ M A c, M = keepF p L ∧ e = .returned (.tuple #[.agg #[.slice A M.length c, .int .i64 t], .int .i64 (((L.length : Nat) : Int) - ((M.length : Nat) : Int))]) ∧ MOwn w' w.heap.size (.slice A M.length c) M) ∧ Below w.heap.size w w' := by
  have hall := Below.refl w.heap.size w
  refine K_enter 23 Try.func21 rfl rfl fun a H => ?_
  replace H := H.pick [0, 1]
  refine wp_seq ?_
  refine wp_region_lit ?_
  refine op_box 24 _ #[v, .int .i64 t] (H.ev rfl) fun w0 b0 hge hb k0 => ?_; have g0 := Nat.le_trans hall.size hge; replace hall := hall.trans (hb.mono hall.size); clear hb; clear hge; refine kl H rfl fun a H => ?_
  refine op_alloc 24 #[.slice none 0 0, .int .i64 0] z24 fun w1 b1 hge hb k1 => ?_; have g1 := Nat.le_trans hall.size hge; have d0_1 : b0 < b1 := Nat.lt_of_lt_of_le k0.lt hge; replace k0 := Block.ups k0 hb; replace hall := hall.trans (hb.mono hall.size); clear hb; clear hge; refine kl H rfl fun a H => ?_
  refine wl_v _ (r_assign evc) ?_; refine kl H rfl fun a H => ?_
  refine wpList_nil ?_
  refine c_next ?_
  refine wp_seq ?_
  refine wp_region_lit ?_
  refine wl_v _ (r_row (cs := [v, .int .i64 t]) (H.ev rfl) (block_range k0) (by kernel_rfl) s24 rfl) ?_; refine kl H rfl fun a H => ?_
  refine wl_call _ _ _ (ownB_any _ t _ L (Row.up h hall) hn) (r_call1 cf14 (H.ev rfl)) ?_; rintro e w9 ⟨⟨B, A2, c2, hBe, rfl, hown⟩, hb⟩; refine ⟨_, rfl, ?_⟩; have hbsz := hb.size; have hB0 := k0.lt; have hB1 := k1.lt; have hBW := hall.size; replace k0 := Block.ups k0 hb; replace k1 := Block.ups k1 hb; replace hall := hall.trans (hb.mono hall.size); clear hb; have hBs := hbsz; rw [← hBe] at hB0 hB1 hBW hBs; clear hBe hbsz; refine kl H rfl fun a H => ?_
  refine op_store1 24 (.tmp 2) (.tmp 8) b0 0 24 (.agg #[.slice A2 L.length c2, .int .i64 t]) _ (H.ev rfl) (H.ev rfl) k0 s24 (by simp [Value.cells]) (by simp [Value.cells, Value.oneCell']) fun w' hb ho kq => ?_; clear k0; have k0 : Block _ b0 24 #[.slice A2 L.length c2, .int .i64 t] := kq; clear kq; replace k1 := block_same k1 (ho _ (by omega)); replace hown := ROwn.keep hown (fun q hq => ho _ (fun e => by have := (hown.lt hq).1; omega)); replace hBs := le_up hBs (hb 0 (Nat.zero_le _)); replace hall := hall.trans (hb _ g0); clear hb ho; refine kl0 H fun a H => ?_
  refine wpList_nil ?_
  refine c_next ?_
  refine wp_seq ?_
  refine wp_region_lit ?_
  refine wl_v _ (r_fld (q := 0) fld24_0 (H.ev rfl) rfl) ?_; refine kl H rfl fun a H => ?_
  refine wl_v _ (r_ld Try.underlying22 rfl (H.ev rfl) ((Block.cell k0 0).trans rfl)) ?_; refine kl H rfl fun a H => ?_
  refine wl_v _ (r_len Try.underlying22 (H.ev rfl)) ?_; refine kl H rfl fun a H => ?_
  refine wl_v _ (r_assign (H.ev rfl)) ?_; refine kl H rfl fun a H => ?_
  refine wpList_nil ?_
  refine c_next ?_
  refine wp_seq ?_
  refine wp_region_lit ?_
  refine wl_v _ (r_fld (q := 0) fld24_0 (H.ev rfl) rfl) ?_; refine kl H rfl fun a H => ?_
  refine wl_v _ (r_ld Try.underlying22 rfl (H.ev rfl) ((Block.cell k0 0).trans rfl)) ?_; refine kl H rfl fun a H => ?_
  refine wl_v _ (r_move (H.ev rfl)) ?_; refine kl H rfl fun a H => ?_
  refine wl_call _ _ _ (delfM_any w _ _ _ b0 L p f caps hf hp hall hBW hBs hown hn) (r_call2 cf30 (H.ev rfl) (H.ev rfl)) ?_; rintro e w9 ⟨⟨M, A3, c3, hM, rfl, hown3⟩, hb⟩; refine ⟨_, rfl, ?_⟩; replace k0 := Block.up k0 hb hB0; replace k1 := Block.up k1 hb hB1; replace hall := hall.trans (hb.mono hBW); clear hb hown; have hown := hown3; clear hown3 hBs; have hML : M.length ≤ L.length := hM ▸ keep_len p L; replace hM := Lib.hid hM; refine kl H rfl fun a H => ?_
  refine wl_v _ (r_fld (q := 0) fld24_0 (H.ev rfl) rfl) ?_; refine kl H rfl fun a H => ?_
  refine op_store1 22 (.tmp 16) (.tmp 15) b0 0 24 (.slice A3 M.length c3) _ (H.ev rfl) (H.ev rfl) k0 s22 (by simp [Value.cells]) (by simp [Value.cells, Value.oneCell']) fun w' hb ho kq => ?_; clear k0; have k0 : Block _ b0 24 #[.slice A3 M.length c3, .int .i64 t] := kq; clear kq; replace k1 := block_same k1 (ho _ (by omega)); replace hown := ROwn.keep hown (fun q hq => ho _ (fun e => by have := (hown.lt hq).1; omega)); replace hall := hall.trans (hb _ g0); clear hb ho; refine kl0 H fun a H => ?_
  refine wpList_nil ?_
  refine c_next ?_
  refine wp_seq ?_
  have hS : SGn w b0 (.slice A3 M.length c3) t _ := ⟨hall.drew, k0⟩
  refine region_pi (SGn w b0 (.slice A3 M.length c3) t) [(0, true), (1, true), (2, true), (3, true), (4, true), (5, true), (6, false), (7, true)] (by kernel_rfl) (by kernel_rfl) rfl (by kernel_rfl) hS ?_
  replace k1 : Block (World.drew _) b1 24 _ := k1
  replace hown : MOwn (World.drew _) B _ M := ROwn.keep hown (fun _ _ => rfl)
  refine pi_f0 _ rfl (fun w' hS' => r_row (cs := [.slice A3 M.length c3, .int .i64 t]) (H.ev rfl) (block_range (hS'.2)) (by kernel_rfl) s24 rfl) ?_; refine kp H rfl fun a H => ?_
  refine pi_f0 _ rfl (fun w' hS' => r_move (H.ev rfl)) ?_; refine kp H rfl fun a H => ?_
  refine pi_f0 _ rfl (fun w' hS' => r_fld (q := 0) fld24_0 (H.ev rfl) rfl) ?_; refine kp H rfl fun a H => ?_
  refine pi_f0 _ rfl (fun w' hS' => r_ld Try.underlying22 rfl (H.ev rfl) ((Block.cell (hS'.2) 0).trans rfl)) ?_; refine kp H rfl fun a H => ?_
  refine pi_f0 _ rfl (fun w' hS' => r_len Try.underlying22 (H.ev rfl)) ?_; refine kp H rfl fun a H => ?_
  refine pi_f0 _ rfl (fun w' hS' => r_sub (q := ((L.length : Nat) : Int) - ((M.length : Nat) : Int)) Try.underlying3 (H.ev rfl) (H.ev rfl) (by omega) (by omega)) ?_; refine kp H rfl fun a H => ?_
  refine pi_a0 rfl (fun K hK => ?_); refine wpo_store1 24 (.tmp 4) (.tmp 17) b1 0 24 (.agg #[.slice A3 M.length c3, .int .i64 t]) _ (H.ev rfl) (H.ev rfl) k1 s24 (by simp [Value.cells]) (by simp [Value.cells, Value.oneCell']) fun w7 hb7 ho7 kq => ?_; clear k1 hall k0; have k1 : Block _ b1 24 #[.slice A3 M.length c3, .int .i64 t] := kq; replace hown := ROwn.keep hown (fun q hq => ho7 _ (fun e => by have := (hown.lt hq).1; omega)); replace hS : SGn w b0 _ t w7 := ⟨hS.1.trans (hb7 _ g1), block_same hS.2 (ho7 _ (by omega))⟩; clear hb7 ho7 kq; refine hK _ _ ⟨hS, ?_⟩; clear hK; clear K; skip
  refine pi_f0 _ rfl (fun w' hS' => r_assign (H.ev rfl)) ?_; refine kp H rfl fun a H => ?_
  refine pi_nil (NoPanic.normal ?_)
  have hall := hS.1
  have k0 := hS.2
  clear hS
  refine c_next ?_
  refine wp_ret ?_
  exact k_ret_cell2 H rfl rfl rfl k1 Try.underlying24 rfl s24 ⟨⟨M, _, _, hM.out, rfl, ROwn.base hown hBW⟩, hall⟩
theorem goneB_any (w : World) (t : Int) (v : Value) (L : List Mk) (p : Mk → Bool) (f : FuncId) (caps : Array Value) (hf : entF Try.prog f) (hp : PF f caps p w) (h : MRow w v L) (hn : L.length ≤ 100000) :
    Calls Try.prog 21 #[.agg #[v, .int .i64 t], .func (.func f) #[] caps] w fun e w' => (∃ B M A c, B = w.heap.size ∧ M = keepF p L ∧ e = .returned (.tuple #[.agg #[.slice A M.length c, .int .i64 t], .int .i64 (((L.length : Nat) : Int) - ((M.length : Nat) : Int))]) ∧ MOwn w' B (.slice A M.length c) M) ∧ Below w.heap.size w w' :=
  (gone_any w t v L p f caps hf hp h hn).mono fun e w' ⟨⟨M, A, c, hM, he, ho⟩, hb⟩ => ⟨⟨_, M, A, c, rfl, hM, he, ho⟩, hb⟩
set_option maxHeartbeats 4000000 in
theorem strike_any (w : World) (t : Int) (v : Value) (L : List Mk) (s u : Int) (h : MRow w v L) (hn : L.length ≤ 100000) :
    Calls Try.prog 11 #[.agg #[v, .int .i64 t], .int .i64 s, .int .i64 u] w fun e w' => (∃ M A c, M = keepF (fun y => decide (y = (s, u))) L ∧ e = .returned (.tuple #[.agg #[.slice A M.length c, .int .i64 t], .bool (decide (M.length < L.length))]) ∧ MOwn w' w.heap.size (.slice A M.length c) M) ∧ Below w.heap.size w w' := by
  have hall := Below.refl w.heap.size w
  refine K_enter 18 Try.func11 rfl rfl fun a H => ?_
  replace H := H.pick [0, 1, 2]
  refine wp_seq ?_
  refine wp_region_lit ?_
  refine op_box 24 _ #[v, .int .i64 t] (H.ev rfl) fun w0 b0 hge hb k0 => ?_; have g0 := Nat.le_trans hall.size hge; replace hall := hall.trans (hb.mono hall.size); clear hb; clear hge; refine kl H rfl fun a H => ?_
  refine op_box1 3 _ (.int .i64 s) (H.ev rfl) rfl fun w1 b1 hge hb k1 => ?_; have g1 := Nat.le_trans hall.size hge; have d0_1 : b0 < b1 := Nat.lt_of_lt_of_le k0.lt hge; replace k0 := Block.ups k0 hb; replace hall := hall.trans (hb.mono hall.size); clear hb; clear hge; refine kl H rfl fun a H => ?_
  refine op_box1 3 _ (.int .i64 u) (H.ev rfl) rfl fun w2 b2 hge hb k2 => ?_; have g2 := Nat.le_trans hall.size hge; have d0_2 : b0 < b2 := Nat.lt_of_lt_of_le k0.lt hge; have d1_2 : b1 < b2 := Nat.lt_of_lt_of_le k1.lt hge; replace k0 := Block.ups k0 hb; replace k1 := Block.ups k1 hb; replace hall := hall.trans (hb.mono hall.size); clear hb; clear hge; refine kl H rfl fun a H => ?_
  refine op_alloc 24 #[.slice none 0 0, .int .i64 0] z24 fun w3 b3 hge hb k3 => ?_; have g3 := Nat.le_trans hall.size hge; have d0_3 : b0 < b3 := Nat.lt_of_lt_of_le k0.lt hge; have d1_3 : b1 < b3 := Nat.lt_of_lt_of_le k1.lt hge; have d2_3 : b2 < b3 := Nat.lt_of_lt_of_le k2.lt hge; replace k0 := Block.ups k0 hb; replace k1 := Block.ups k1 hb; replace k2 := Block.ups k2 hb; replace hall := hall.trans (hb.mono hall.size); clear hb; clear hge; refine kl H rfl fun a H => ?_
  refine wl_v _ (r_assign evc) ?_; refine kl H rfl fun a H => ?_
  refine wpList_nil ?_
  refine c_next ?_
  refine wp_seq ?_
  refine wp_region_lit ?_
  refine wl_v _ (r_row (cs := [v, .int .i64 t]) (H.ev rfl) (block_range k0) (by kernel_rfl) s24 rfl) ?_; refine kl H rfl fun a H => ?_
  refine wl_v (.func (.func 22) #[] #[.pointer (some ⟨b1, 0, none⟩), .pointer (some ⟨b2, 0, none⟩)]) (r_mkfn2 (H.ev rfl) (H.ev rfl)) ?_; refine kl H rfl fun a H => ?_
  refine wl_call _ _ _ (goneB_any _ t _ L (fun y => decide (y = (s, u))) 22 #[.pointer (some ⟨b1, 0, none⟩), .pointer (some ⟨b2, 0, none⟩)] cf22 (pf22 ((Block.cell k1 0).trans rfl) ((Block.cell k2 0).trans rfl)) (Row.up h hall) hn) (r_call2 cf21 (H.ev rfl) (H.ev rfl)) ?_; rintro e w9 ⟨⟨B, M, A3, c3, hBe, hM, rfl, hown⟩, hb⟩; refine ⟨_, rfl, ?_⟩; have hB0 := k0.lt; have hB1 := k1.lt; have hB2 := k2.lt; have hB3 := k3.lt; have hBW := hall.size; replace k0 := Block.ups k0 hb; replace k1 := Block.ups k1 hb; replace k2 := Block.ups k2 hb; replace k3 := Block.ups k3 hb; replace hall := hall.trans (hb.mono hall.size); clear hb; rw [← hBe] at hB0 hB1 hB2 hB3 hBW; clear hBe; have hML : M.length ≤ L.length := hM ▸ keep_len _ L; replace hM := Lib.hid hM; refine kl H rfl fun a H => ?_
  refine wl_v _ (r_move (H.ev rfl)) ?_; refine kl H rfl fun a H => ?_
  refine wl_v _ (r_extract (v := .agg #[.slice A3 M.length c3, .int .i64 t]) (H.ev rfl) rfl) ?_; refine kl H rfl fun a H => ?_
  refine wl_v _ (r_extract (v := .int .i64 (((L.length : Nat) : Int) - ((M.length : Nat) : Int))) (H.ev rfl) rfl) ?_; refine kl H rfl fun a H => ?_
  refine op_store1 24 (.tmp 3) (.tmp 13) b0 0 24 (.agg #[.slice A3 M.length c3, .int .i64 t]) _ (H.ev rfl) (H.ev rfl) k0 s24 (by simp [Value.cells]) (by simp [Value.cells, Value.oneCell']) fun w' hb ho kq => ?_; clear k0; have k0 : Block _ b0 24 #[.slice A3 M.length c3, .int .i64 t] := kq; clear kq; replace k1 := block_same k1 (ho _ (by omega)); replace k2 := block_same k2 (ho _ (by omega)); replace k3 := block_same k3 (ho _ (by omega)); replace hown := ROwn.keep hown (fun q hq => ho _ (fun e => by have := (hown.lt hq).1; omega)); replace hall := hall.trans (hb _ g0); clear hb ho; refine kl0 H fun a H => ?_
  refine wl_v _ (r_assign (H.ev rfl)) ?_; refine kl H rfl fun a H => ?_
  refine wpList_nil ?_
  refine c_next ?_
  refine wp_seq ?_
  refine wp_region_lit ?_
  refine wl_v _ (r_row (cs := [.slice A3 M.length c3, .int .i64 t]) (H.ev rfl) (block_range k0) (by kernel_rfl) s24 rfl) ?_; refine kl H rfl fun a H => ?_
  refine wl_v _ (r_move (H.ev rfl)) ?_; refine kl H rfl fun a H => ?_
  by_cases hcc0 : (((L.length : Nat) : Int) - ((M.length : Nat) : Int)) > 0
  · skip
    refine wl_v _ (r_gt Try.underlying3 (H.ev rfl) evc (dec_t (hcc0))) ?_; refine kl H rfl fun a H => ?_
    refine op_store1 24 (.tmp 6) (.tmp 15) b3 0 24 (.agg #[.slice A3 M.length c3, .int .i64 t]) _ (H.ev rfl) (H.ev rfl) k3 s24 (by simp [Value.cells]) (by simp [Value.cells, Value.oneCell']) fun w' hb ho kq => ?_; clear k3; have k3 : Block _ b3 24 #[.slice A3 M.length c3, .int .i64 t] := kq; clear kq; replace k0 := block_same k0 (ho _ (by omega)); replace k1 := block_same k1 (ho _ (by omega)); replace k2 := block_same k2 (ho _ (by omega)); replace hown := ROwn.keep hown (fun q hq => ho _ (fun e => by have := (hown.lt hq).1; omega)); replace hall := hall.trans (hb _ g3); clear hb ho; refine kl0 H fun a H => ?_
    refine wl_v _ (r_assign (H.ev rfl)) ?_; refine kl H rfl fun a H => ?_
    refine wpList_nil ?_
    refine c_next ?_
    refine wp_ret ?_
    exact k_ret_cell2 H rfl rfl rfl k3 Try.underlying24 rfl s24 ⟨⟨M, _, _, hM.out, by rw [dec_t (p := M.length < L.length) (by omega)], ROwn.base hown hBW⟩, hall⟩
  · skip
    refine wl_v _ (r_gt Try.underlying3 (H.ev rfl) evc (dec_f (hcc0))) ?_; refine kl H rfl fun a H => ?_
    refine op_store1 24 (.tmp 6) (.tmp 15) b3 0 24 (.agg #[.slice A3 M.length c3, .int .i64 t]) _ (H.ev rfl) (H.ev rfl) k3 s24 (by simp [Value.cells]) (by simp [Value.cells, Value.oneCell']) fun w' hb ho kq => ?_; clear k3; have k3 : Block _ b3 24 #[.slice A3 M.length c3, .int .i64 t] := kq; clear kq; replace k0 := block_same k0 (ho _ (by omega)); replace k1 := block_same k1 (ho _ (by omega)); replace k2 := block_same k2 (ho _ (by omega)); replace hown := ROwn.keep hown (fun q hq => ho _ (fun e => by have := (hown.lt hq).1; omega)); replace hall := hall.trans (hb _ g3); clear hb ho; refine kl0 H fun a H => ?_
    refine wl_v _ (r_assign (H.ev rfl)) ?_; refine kl H rfl fun a H => ?_
    refine wpList_nil ?_
    refine c_next ?_
    refine wp_ret ?_
    exact k_ret_cell2 H rfl rfl rfl k3 Try.underlying24 rfl s24 ⟨⟨M, _, _, hM.out, by rw [dec_f (p := M.length < L.length) (by omega)], ROwn.base hown hBW⟩, hall⟩
set_option maxHeartbeats 4000000 in
theorem drop_any (w : World) (t : Int) (v : Value) (L : List Mk) (s : Int) (h : MRow w v L) (hn : L.length ≤ 100000) :
    Calls Try.prog 12 #[.agg #[v, .int .i64 t], .int .i64 s] w fun e w' => (∃ M A c, M = keepF (fun y => decide (y.1 = s)) L ∧ e = .returned (.tuple #[.agg #[.slice A M.length c, .int .i64 t], .int .i64 (((L.length : Nat) : Int) - ((M.length : Nat) : Int))]) ∧ MOwn w' w.heap.size (.slice A M.length c) M) ∧ Below w.heap.size w w' := by
  have hall := Below.refl w.heap.size w
  refine K_enter 11 Try.func12 rfl rfl fun a H => ?_
  replace H := H.pick [0, 1]
  refine wp_seq ?_
  refine wp_region_lit ?_
  refine op_box 24 _ #[v, .int .i64 t] (H.ev rfl) fun w0 b0 hge hb k0 => ?_; have g0 := Nat.le_trans hall.size hge; replace hall := hall.trans (hb.mono hall.size); clear hb; clear hge; refine kl H rfl fun a H => ?_
  refine op_box1 3 _ (.int .i64 s) (H.ev rfl) rfl fun w1 b1 hge hb k1 => ?_; have g1 := Nat.le_trans hall.size hge; have d0_1 : b0 < b1 := Nat.lt_of_lt_of_le k0.lt hge; replace k0 := Block.ups k0 hb; replace hall := hall.trans (hb.mono hall.size); clear hb; clear hge; refine kl H rfl fun a H => ?_
  refine op_alloc 24 #[.slice none 0 0, .int .i64 0] z24 fun w2 b2 hge hb k2 => ?_; have g2 := Nat.le_trans hall.size hge; have d0_2 : b0 < b2 := Nat.lt_of_lt_of_le k0.lt hge; have d1_2 : b1 < b2 := Nat.lt_of_lt_of_le k1.lt hge; replace k0 := Block.ups k0 hb; replace k1 := Block.ups k1 hb; replace hall := hall.trans (hb.mono hall.size); clear hb; clear hge; refine kl H rfl fun a H => ?_
  refine wl_v _ (r_assign evc) ?_; refine kl H rfl fun a H => ?_
  refine wpList_nil ?_
  refine c_next ?_
  refine wp_seq ?_
  refine wp_region_lit ?_
  refine wl_v _ (r_row (cs := [v, .int .i64 t]) (H.ev rfl) (block_range k0) (by kernel_rfl) s24 rfl) ?_; refine kl H rfl fun a H => ?_
  refine wl_v (.func (.func 23) #[] #[.pointer (some ⟨b1, 0, none⟩)]) (r_mkfn1 (H.ev rfl)) ?_; refine kl H rfl fun a H => ?_
  refine wl_call _ _ _ (goneB_any _ t _ L (fun y => decide (y.1 = s)) 23 #[.pointer (some ⟨b1, 0, none⟩)] cf23 (pf23 ((Block.cell k1 0).trans rfl)) (Row.up h hall) hn) (r_call2 cf21 (H.ev rfl) (H.ev rfl)) ?_; rintro e w9 ⟨⟨B, M, A3, c3, hBe, hM, rfl, hown⟩, hb⟩; refine ⟨_, rfl, ?_⟩; have hB0 := k0.lt; have hB1 := k1.lt; have hB2 := k2.lt; have hBW := hall.size; replace k0 := Block.ups k0 hb; replace k1 := Block.ups k1 hb; replace k2 := Block.ups k2 hb; replace hall := hall.trans (hb.mono hall.size); clear hb; rw [← hBe] at hB0 hB1 hB2 hBW; clear hBe; have hML : M.length ≤ L.length := hM ▸ keep_len _ L; replace hM := Lib.hid hM; refine kl H rfl fun a H => ?_
  refine wl_v _ (r_extract (v := .agg #[.slice A3 M.length c3, .int .i64 t]) (H.ev rfl) rfl) ?_; refine kl H rfl fun a H => ?_
  refine wl_v _ (r_extract (v := .int .i64 (((L.length : Nat) : Int) - ((M.length : Nat) : Int))) (H.ev rfl) rfl) ?_; refine kl H rfl fun a H => ?_
  refine op_store1 24 (.tmp 4) (.tmp 9) b2 0 24 (.agg #[.slice A3 M.length c3, .int .i64 t]) _ (H.ev rfl) (H.ev rfl) k2 s24 (by simp [Value.cells]) (by simp [Value.cells, Value.oneCell']) fun w' hb ho kq => ?_; clear k2; have k2 : Block _ b2 24 #[.slice A3 M.length c3, .int .i64 t] := kq; clear kq; replace k0 := block_same k0 (ho _ (by omega)); replace k1 := block_same k1 (ho _ (by omega)); replace hown := ROwn.keep hown (fun q hq => ho _ (fun e => by have := (hown.lt hq).1; omega)); replace hall := hall.trans (hb _ g2); clear hb ho; refine kl0 H fun a H => ?_
  refine wl_v _ (r_assign (H.ev rfl)) ?_; refine kl H rfl fun a H => ?_
  refine wpList_nil ?_
  refine c_next ?_
  refine wp_ret ?_
  exact k_ret_cell2 H rfl rfl rfl k2 Try.underlying24 rfl s24 ⟨⟨M, _, _, hM.out, rfl, ROwn.base hown hBW⟩, hall⟩
def addF (L : List Mk) (m : Mk) : List Mk × Bool := if m ∈ L ∨ 512 ≤ L.length then (L, false) else (L ++ [m], true)
set_option maxHeartbeats 4000000 in
theorem add_any (w : World) (t : Int) (v : Value) (L : List Mk) (s u : Int) (h : MRow w v L) (hn : L.length ≤ 100000) :
    Calls Try.prog 10 #[.agg #[v, .int .i64 t], .int .i64 s, .int .i64 u] w fun e w' => (∃ M A c b, addF L (s, u) = (M, b) ∧ e = .returned (.tuple #[.agg #[.slice A M.length c, .int .i64 t], .bool b]) ∧ MOwn w' w.heap.size (.slice A M.length c) M) ∧ Below w.heap.size w w' := by
  have hall := Below.refl w.heap.size w
  by_cases hm : (s, u) ∈ L
  · skip
    refine K_enter 32 Try.func10 rfl rfl fun a H => ?_
    replace H := H.pick [0, 1, 2]
    refine wp_seq ?_
    refine wp_region_lit ?_
    refine op_box 24 _ #[v, .int .i64 t] (H.ev rfl) fun w0 b0 hge hb k0 => ?_; have g0 := Nat.le_trans hall.size hge; replace hall := hall.trans (hb.mono hall.size); clear hb; clear hge; refine kl H rfl fun a H => ?_
    refine op_alloc 24 #[.slice none 0 0, .int .i64 0] z24 fun w1 b1 hge hb k1 => ?_; have g1 := Nat.le_trans hall.size hge; have d0_1 : b0 < b1 := Nat.lt_of_lt_of_le k0.lt hge; replace k0 := Block.ups k0 hb; replace hall := hall.trans (hb.mono hall.size); clear hb; clear hge; refine kl H rfl fun a H => ?_
    refine wl_v _ (r_assign evc) ?_; refine kl H rfl fun a H => ?_
    refine wpList_nil ?_
    refine c_next ?_
    refine wp_seq ?_
    refine wp_region_lit ?_
    refine wl_v _ (r_row (cs := [v, .int .i64 t]) (H.ev rfl) (block_range k0) (by kernel_rfl) s24 rfl) ?_; refine kl H rfl fun a H => ?_
    refine wl_call _ _ _ (ownB_any _ t _ L (Row.up h hall) hn) (r_call1 cf14 (H.ev rfl)) ?_; rintro e w9 ⟨⟨B, A2, c2, hBe, rfl, hown⟩, hb⟩; refine ⟨_, rfl, ?_⟩; have hbsz := hb.size; have hB0 := k0.lt; have hB1 := k1.lt; have hBW := hall.size; replace k0 := Block.ups k0 hb; replace k1 := Block.ups k1 hb; replace hall := hall.trans (hb.mono hall.size); clear hb; have hBs := hbsz; rw [← hBe] at hB0 hB1 hBW hBs; clear hBe hbsz; refine kl H rfl fun a H => ?_
    refine op_store1 24 (.tmp 3) (.tmp 10) b0 0 24 (.agg #[.slice A2 L.length c2, .int .i64 t]) _ (H.ev rfl) (H.ev rfl) k0 s24 (by simp [Value.cells]) (by simp [Value.cells, Value.oneCell']) fun w' hb ho kq => ?_; clear k0; have k0 : Block _ b0 24 #[.slice A2 L.length c2, .int .i64 t] := kq; clear kq; replace k1 := block_same k1 (ho _ (by omega)); replace hown := ROwn.keep hown (fun q hq => ho _ (fun e => by have := (hown.lt hq).1; omega)); replace hBs := le_up hBs (hb 0 (Nat.zero_le _)); replace hall := hall.trans (hb _ g0); clear hb ho; refine kl0 H fun a H => ?_
    refine wpList_nil ?_
    refine c_next ?_
    refine wp_seq ?_
    refine wp_region_lit ?_
    refine wl_v _ (r_move (H.ev rfl)) ?_; refine kl H rfl fun a H => ?_
    refine wl_v _ (r_move (H.ev rfl)) ?_; refine kl H rfl fun a H => ?_
    refine wl_v _ (r_build #[(0, .int .i64 s), (1, .int .i64 u)] (.agg #[.int .i64 s, .int .i64 u]) (by simp [evc, H.ev (j := 11) rfl, H.ev (j := 12) rfl]) (fun w => by kernel_rfl)) ?_; refine kl H rfl fun a H => ?_
    refine op_new 29 8 (.tmp 13) #[.int .i64 s, .int .i64 u] _ z29 s29 rfl (ints_one [s, u]) (fun p => (H.put 8 p rfl).ev rfl) (fun p => (H.put 8 p rfl).ev rfl) fun w2 b2 hge hb k2 => ?_; have g2 := Nat.le_trans hall.size hge; have d0_2 : b0 < b2 := Nat.lt_of_lt_of_le k0.lt hge; have d1_2 : b1 < b2 := Nat.lt_of_lt_of_le k1.lt hge; replace k0 := Block.ups k0 hb; replace k1 := Block.ups k1 hb; replace hown := ROwn.up hown hb; replace hBs := le_up hBs hb; replace hall := hall.trans (hb.mono hall.size); clear hb; clear hge; refine kl H rfl fun a H => ?_
    refine wpList_nil ?_
    refine c_next ?_
    refine wp_seq ?_
    refine wp_seq ?_
    refine wp_region_lit ?_
    refine wl_v _ (r_fld (q := 0) fld24_0 (H.ev rfl) rfl) ?_; refine kl H rfl fun a H => ?_
    refine wl_v _ (r_ld Try.underlying22 rfl (H.ev rfl) ((Block.cell k0 0).trans rfl)) ?_; refine kl H rfl fun a H => ?_
    refine wl_v _ (r_row (cs := [.int .i64 s, .int .i64 u]) (H.ev rfl) (block_range k2) (by kernel_rfl) s29 rfl) ?_; refine kl H rfl fun a H => ?_
    refine wl_call _ _ _ (contains_any _ _ L (s, u) (MOwn.row hown) (by omega)) (r_call2 cf20 (H.ev rfl) (H.ev rfl)) ?_; rintro e w9 ⟨rfl, hb⟩; refine ⟨_, rfl, ?_⟩; rw [dec_t hm]; replace k0 := Block.ups k0 hb; replace k1 := Block.ups k1 hb; replace hown := ROwn.up hown hb; replace hBs := le_up hBs hb; replace k2 := Block.ups k2 hb; replace hall := hall.trans (hb.mono hall.size); clear hb; refine kl H rfl fun a H => ?_
    refine wl_v _ (r_move (H.ev rfl)) ?_; refine kl H rfl fun a H => ?_
    refine wl_s (kg_no rfl H rfl rfl rfl) ?_; refine kl H rfl fun a H => ?_
    refine wl_s (kg_no rfl H rfl rfl rfl) ?_; refine kl H rfl fun a H => ?_
    refine wl_s (kg_no rfl H rfl rfl rfl) ?_; refine kl H rfl fun a H => ?_
    refine wl_s (kg_no rfl H rfl rfl rfl) ?_; refine kl H rfl fun a H => ?_
    refine wl_v _ (r_pick_t (H.ev rfl) evc) ?_; refine kl H rfl fun a H => ?_
    refine wpList_nil ?_
    refine c_next ?_
    refine c_cond_t H rfl ?_
    refine wp_seq ?_
    refine wp_region_lit ?_
    refine wl_v _ (r_row (cs := [.slice A2 L.length c2, .int .i64 t]) (H.ev rfl) (block_range k0) (by kernel_rfl) s24 rfl) ?_; refine kl H rfl fun a H => ?_
    refine op_store1 24 (.tmp 6) (.tmp 24) b1 0 24 (.agg #[.slice A2 L.length c2, .int .i64 t]) _ (H.ev rfl) (H.ev rfl) k1 s24 (by simp [Value.cells]) (by simp [Value.cells, Value.oneCell']) fun w' hb ho kq => ?_; clear k1; have k1 : Block _ b1 24 #[.slice A2 L.length c2, .int .i64 t] := kq; clear kq; replace k0 := block_same k0 (ho _ (by omega)); replace hown := ROwn.keep hown (fun q hq => ho _ (fun e => by have := (hown.lt hq).1; omega)); replace hBs := le_up hBs (hb 0 (Nat.zero_le _)); replace k2 := block_same k2 (ho _ (by omega)); replace hall := hall.trans (hb _ g1); clear hb ho; refine kl0 H fun a H => ?_
    refine wl_v _ (r_assign evc) ?_; refine kl H rfl fun a H => ?_
    refine wpList_nil ?_
    refine c_next ?_
    refine wp_ret ?_
    refine r_then ?_
    exact k_ret_cell2 H rfl rfl rfl k1 Try.underlying24 rfl s24 ⟨⟨L, _, _, false, by unfold addF; rw [if_pos (.inl hm)], rfl, ROwn.base hown hBW⟩, hall⟩
  · skip
    refine K_enter 32 Try.func10 rfl rfl fun a H => ?_
    replace H := H.pick [0, 1, 2]
    refine wp_seq ?_
    refine wp_region_lit ?_
    refine op_box 24 _ #[v, .int .i64 t] (H.ev rfl) fun w0 b0 hge hb k0 => ?_; have g0 := Nat.le_trans hall.size hge; replace hall := hall.trans (hb.mono hall.size); clear hb; clear hge; refine kl H rfl fun a H => ?_
    refine op_alloc 24 #[.slice none 0 0, .int .i64 0] z24 fun w1 b1 hge hb k1 => ?_; have g1 := Nat.le_trans hall.size hge; have d0_1 : b0 < b1 := Nat.lt_of_lt_of_le k0.lt hge; replace k0 := Block.ups k0 hb; replace hall := hall.trans (hb.mono hall.size); clear hb; clear hge; refine kl H rfl fun a H => ?_
    refine wl_v _ (r_assign evc) ?_; refine kl H rfl fun a H => ?_
    refine wpList_nil ?_
    refine c_next ?_
    refine wp_seq ?_
    refine wp_region_lit ?_
    refine wl_v _ (r_row (cs := [v, .int .i64 t]) (H.ev rfl) (block_range k0) (by kernel_rfl) s24 rfl) ?_; refine kl H rfl fun a H => ?_
    refine wl_call _ _ _ (ownB_any _ t _ L (Row.up h hall) hn) (r_call1 cf14 (H.ev rfl)) ?_; rintro e w9 ⟨⟨B, A2, c2, hBe, rfl, hown⟩, hb⟩; refine ⟨_, rfl, ?_⟩; have hbsz := hb.size; have hB0 := k0.lt; have hB1 := k1.lt; have hBW := hall.size; replace k0 := Block.ups k0 hb; replace k1 := Block.ups k1 hb; replace hall := hall.trans (hb.mono hall.size); clear hb; have hBs := hbsz; rw [← hBe] at hB0 hB1 hBW hBs; clear hBe hbsz; refine kl H rfl fun a H => ?_
    refine op_store1 24 (.tmp 3) (.tmp 10) b0 0 24 (.agg #[.slice A2 L.length c2, .int .i64 t]) _ (H.ev rfl) (H.ev rfl) k0 s24 (by simp [Value.cells]) (by simp [Value.cells, Value.oneCell']) fun w' hb ho kq => ?_; clear k0; have k0 : Block _ b0 24 #[.slice A2 L.length c2, .int .i64 t] := kq; clear kq; replace k1 := block_same k1 (ho _ (by omega)); replace hown := ROwn.keep hown (fun q hq => ho _ (fun e => by have := (hown.lt hq).1; omega)); replace hBs := le_up hBs (hb 0 (Nat.zero_le _)); replace hall := hall.trans (hb _ g0); clear hb ho; refine kl0 H fun a H => ?_
    refine wpList_nil ?_
    refine c_next ?_
    refine wp_seq ?_
    refine wp_region_lit ?_
    refine wl_v _ (r_move (H.ev rfl)) ?_; refine kl H rfl fun a H => ?_
    refine wl_v _ (r_move (H.ev rfl)) ?_; refine kl H rfl fun a H => ?_
    refine wl_v _ (r_build #[(0, .int .i64 s), (1, .int .i64 u)] (.agg #[.int .i64 s, .int .i64 u]) (by simp [evc, H.ev (j := 11) rfl, H.ev (j := 12) rfl]) (fun w => by kernel_rfl)) ?_; refine kl H rfl fun a H => ?_
    refine op_new 29 8 (.tmp 13) #[.int .i64 s, .int .i64 u] _ z29 s29 rfl (ints_one [s, u]) (fun p => (H.put 8 p rfl).ev rfl) (fun p => (H.put 8 p rfl).ev rfl) fun w2 b2 hge hb k2 => ?_; have g2 := Nat.le_trans hall.size hge; have d0_2 : b0 < b2 := Nat.lt_of_lt_of_le k0.lt hge; have d1_2 : b1 < b2 := Nat.lt_of_lt_of_le k1.lt hge; replace k0 := Block.ups k0 hb; replace k1 := Block.ups k1 hb; replace hown := ROwn.up hown hb; replace hBs := le_up hBs hb; replace hall := hall.trans (hb.mono hall.size); clear hb; clear hge; refine kl H rfl fun a H => ?_
    refine wpList_nil ?_
    refine c_next ?_
    refine wp_seq ?_
    refine wp_seq ?_
    refine wp_region_lit ?_
    refine wl_v _ (r_fld (q := 0) fld24_0 (H.ev rfl) rfl) ?_; refine kl H rfl fun a H => ?_
    refine wl_v _ (r_ld Try.underlying22 rfl (H.ev rfl) ((Block.cell k0 0).trans rfl)) ?_; refine kl H rfl fun a H => ?_
    refine wl_v _ (r_row (cs := [.int .i64 s, .int .i64 u]) (H.ev rfl) (block_range k2) (by kernel_rfl) s29 rfl) ?_; refine kl H rfl fun a H => ?_
    refine wl_call _ _ _ (contains_any _ _ L (s, u) (MOwn.row hown) (by omega)) (r_call2 cf20 (H.ev rfl) (H.ev rfl)) ?_; rintro e w9 ⟨rfl, hb⟩; refine ⟨_, rfl, ?_⟩; rw [dec_f hm]; replace k0 := Block.ups k0 hb; replace k1 := Block.ups k1 hb; replace hown := ROwn.up hown hb; replace hBs := le_up hBs hb; replace k2 := Block.ups k2 hb; replace hall := hall.trans (hb.mono hall.size); clear hb; refine kl H rfl fun a H => ?_
    refine wl_v _ (r_move (H.ev rfl)) ?_; refine kl H rfl fun a H => ?_
    refine op_unguard _ _ (kg_yes rfl H rfl rfl rfl) ?_; refine wl_v _ (r_fld (q := 0) fld24_0 (H.ev rfl) rfl) ?_; refine kl H rfl fun a H => ?_
    refine op_unguard _ _ (kg_yes rfl H rfl rfl rfl) ?_; refine wl_v _ (r_ld Try.underlying22 rfl (H.ev rfl) ((Block.cell k0 0).trans rfl)) ?_; refine kl H rfl fun a H => ?_
    refine op_unguard _ _ (kg_yes rfl H rfl rfl rfl) ?_; refine wl_v _ (r_len Try.underlying22 (H.ev rfl)) ?_; refine kl H rfl fun a H => ?_
    by_cases hcc0 : ((L.length : Nat) : Int) ≥ 512
    · skip
      refine op_unguard _ _ (kg_yes rfl H rfl rfl rfl) ?_; refine wl_v _ (r_ge Try.underlying3 (H.ev rfl) evc (dec_t (hcc0))) ?_; refine kl H rfl fun a H => ?_
      refine wl_v _ (r_pick_f (H.ev rfl) (H.ev rfl)) ?_; refine kl H rfl fun a H => ?_
      refine wpList_nil ?_
      refine c_next ?_
      refine c_cond_t H rfl ?_
      refine wp_seq ?_
      refine wp_region_lit ?_
      refine wl_v _ (r_row (cs := [.slice A2 L.length c2, .int .i64 t]) (H.ev rfl) (block_range k0) (by kernel_rfl) s24 rfl) ?_; refine kl H rfl fun a H => ?_
      refine op_store1 24 (.tmp 6) (.tmp 24) b1 0 24 (.agg #[.slice A2 L.length c2, .int .i64 t]) _ (H.ev rfl) (H.ev rfl) k1 s24 (by simp [Value.cells]) (by simp [Value.cells, Value.oneCell']) fun w' hb ho kq => ?_; clear k1; have k1 : Block _ b1 24 #[.slice A2 L.length c2, .int .i64 t] := kq; clear kq; replace k0 := block_same k0 (ho _ (by omega)); replace hown := ROwn.keep hown (fun q hq => ho _ (fun e => by have := (hown.lt hq).1; omega)); replace hBs := le_up hBs (hb 0 (Nat.zero_le _)); replace k2 := block_same k2 (ho _ (by omega)); replace hall := hall.trans (hb _ g1); clear hb ho; refine kl0 H fun a H => ?_
      refine wl_v _ (r_assign evc) ?_; refine kl H rfl fun a H => ?_
      refine wpList_nil ?_
      refine c_next ?_
      refine wp_ret ?_
      refine r_then ?_
      exact k_ret_cell2 H rfl rfl rfl k1 Try.underlying24 rfl s24 ⟨⟨L, _, _, false, by unfold addF; rw [if_pos (.inr (by omega))], rfl, ROwn.base hown hBW⟩, hall⟩
    · skip
      refine op_unguard _ _ (kg_yes rfl H rfl rfl rfl) ?_; refine wl_v _ (r_ge Try.underlying3 (H.ev rfl) evc (dec_f (hcc0))) ?_; refine kl H rfl fun a H => ?_
      refine wl_v _ (r_pick_f (H.ev rfl) (H.ev rfl)) ?_; refine kl H rfl fun a H => ?_
      refine wpList_nil ?_
      refine c_next ?_
      refine c_cond_f H rfl ?_
      refine wp_skip ?_
      refine c_next ?_
      refine wp_seq ?_
      refine wp_region_lit ?_
      refine wl_v _ (r_fld (q := 0) fld24_0 (H.ev rfl) rfl) ?_; refine kl H rfl fun a H => ?_
      refine wl_v _ (r_ld Try.underlying22 rfl (H.ev rfl) ((Block.cell k0 0).trans rfl)) ?_; refine kl H rfl fun a H => ?_
      refine wl_v _ (r_row (cs := [.int .i64 s, .int .i64 u]) (H.ev rfl) (block_range k2) (by kernel_rfl) s29 rfl) ?_; refine kl H rfl fun a H => ?_
      refine op_litv 22 1 #[(0, .agg #[.int .i64 s, .int .i64 u])] 29 #[.int .i64 s, .int .i64 u] (by simp [evc, H.ev (j := 27) rfl]) (fun w => by kernel_rfl) fun w3 b3 hge hb k3 => ?_; have g3 := Nat.le_trans hall.size hge; have d0_3 : b0 < b3 := Nat.lt_of_lt_of_le k0.lt hge; have d1_3 : b1 < b3 := Nat.lt_of_lt_of_le k1.lt hge; have d2_3 : b2 < b3 := Nat.lt_of_lt_of_le k2.lt hge; replace k0 := Block.ups k0 hb; replace k1 := Block.ups k1 hb; replace hown := ROwn.up hown hb; replace hBs := le_up hBs hb; replace k2 := Block.ups k2 hb; replace hall := hall.trans (hb.mono hall.size); clear hb; clear hge; refine kl H rfl fun a H => ?_
      refine op_append 22 29 (.tmp 26) (.tmp 28) B (.agg #[.int .i64 0, .int .i64 0]) 2 16 _ _ _ (some ⟨b3, 0, none⟩) 1 1 (FV encM [(s, u)]) (H.ev rfl) (H.ev rfl) Try.underlying22 i29 rfl (by omega) hown (by rw [FV_len encM_len]; rfl) (holds_block k3 rfl) (FV_one _ _) (by unfold maxLen; omega) (by omega) hBs fun o2 w9 hown2 hg9 hv9 hb2 => ?_; replace k0 := Block.up k0 hb2 hB0; replace k1 := Block.up k1 hb2 hB1; replace hall := hall.trans (hb2.mono hBW); have hown3 : MOwn w9 B o2 (L ++ [(s, u)]) := app_own hown2; clear hown hown2 hg9 hv9 hb2 hBs; have hown := hown3; clear hown3; obtain ⟨A3, c3, hov, _⟩ := MOwn.row hown; subst hov; refine kl H rfl fun a H => ?_
      refine wl_v _ (r_fld (q := 0) fld24_0 (H.ev rfl) rfl) ?_; refine kl H rfl fun a H => ?_
      refine op_store1 22 (.tmp 30) (.tmp 29) b0 0 24 (.slice A3 (L ++ [(s, u)]).length c3) _ (H.ev rfl) (H.ev rfl) k0 s22 (by simp [Value.cells]) (by simp [Value.cells, Value.oneCell']) fun w' hb ho kq => ?_; clear k0; have k0 : Block _ b0 24 #[.slice A3 (L ++ [(s, u)]).length c3, .int .i64 t] := kq; clear kq; replace k1 := block_same k1 (ho _ (by omega)); replace hown := ROwn.keep hown (fun q hq => ho _ (fun e => by have := (hown.lt hq).1; omega)); replace hall := hall.trans (hb _ g0); clear hb ho; refine kl0 H fun a H => ?_
      refine wpList_nil ?_
      refine c_next ?_
      refine wp_seq ?_
      refine wp_region_lit ?_
      refine wl_v _ (r_row (cs := [.slice A3 (L ++ [(s, u)]).length c3, .int .i64 t]) (H.ev rfl) (block_range k0) (by kernel_rfl) s24 rfl) ?_; refine kl H rfl fun a H => ?_
      refine op_store1 24 (.tmp 6) (.tmp 31) b1 0 24 (.agg #[.slice A3 (L ++ [(s, u)]).length c3, .int .i64 t]) _ (H.ev rfl) (H.ev rfl) k1 s24 (by simp [Value.cells]) (by simp [Value.cells, Value.oneCell']) fun w' hb ho kq => ?_; clear k1; have k1 : Block _ b1 24 #[.slice A3 (L ++ [(s, u)]).length c3, .int .i64 t] := kq; clear kq; replace k0 := block_same k0 (ho _ (by omega)); replace hown := ROwn.keep hown (fun q hq => ho _ (fun e => by have := (hown.lt hq).1; omega)); replace hall := hall.trans (hb _ g1); clear hb ho; refine kl0 H fun a H => ?_
      refine wl_v _ (r_assign evc) ?_; refine kl H rfl fun a H => ?_
      refine wpList_nil ?_
      refine c_next ?_
      refine wp_ret ?_
      exact k_ret_cell2 H rfl rfl rfl k1 Try.underlying24 rfl s24 ⟨⟨(L ++ [(s, u)]), _, _, true, by unfold addF; rw [if_neg (fun e => e.elim hm (by omega))], rfl, ROwn.base hown hBW⟩, hall⟩
end Go.Proofs.Ytpegfbdepgmbjaa
