/- The ghost: the small case. -/
import Derived.Test.YtbpepkpjjfhmpaaU
import Derived.Deep.Cut
namespace Go.Proofs.Ytbpepkpjjfhmpaa
open Go.RowKit Go.Maps
set_option linter.unusedVariables false
set_option linter.unusedSimpArgs false

theorem GG.ups {w w' : World} {g bm : Nat} {G : GS} (h : GG w g bm G) (hb : Below w.heap.size w w') : GG w' g bm G := GAt.ups h hb
theorem But.blk {w w' : World} {g bm b : Nat} {t : TypeId} {C : Array Value} (hb : But g bm w w') (k : Block w b t C) (n : b ≠ g) (n' : b ≠ bm) : Block w' b t C := (hb.block b k.lt n n').trans k
theorem GAt.far {w w' : World} {g bm b : Nat} {G : GS} (h : GG w g bm G) (n : b ≠ g) (n' : b ≠ bm) (hb : ∀ B, B ≤ b → Below B w w') (ho : ∀ g', g' ≠ b → w'.heap[g']? = w.heap[g']?) : GG w' g bm G :=
  ⟨(ho g n.symm).trans h.1, h.2.1.kept (row := some b) ⟨(hb 0 (Nat.zero_le _)).os, (hb 0 (Nat.zero_le _)).tape, (hb 0 (Nat.zero_le _)).output, (hb 0 (Nat.zero_le _)).size, fun k _ hk => ho k (fun e => hk (by rw [e]))⟩ (by simpa using n'.symm), h.2.2⟩
section
variable {P : Program} {ops : Array Oper} {rest : List Oper} {d : Option Tmp} {tt : TypeId} {ps : String} {af : Array Edge} {a : Act} {w : World} {Q : Exit → Act → World → Prop}
def rowTy (P : Program) (ty : TypeId) : Bool := match P.underlying ty with | some (.struct _) => true | some (.array _ _) => true | _ => false
theorem op_loadR (ty : TypeId) (x : Operand) (g : Nat) (t : TypeId) (C : Array Value) (hx : a.eval x = .pointer (some ⟨g, 0, none⟩))
    (hg : Block w g t C) (hu : rowTy P ty = true) (hi : (P.info? ty).map (·.size) = some C.size)
    (h : wpList P ops Q rest (a.put d (.agg C)) w) : wpList P ops Q (⟨d, .load ty x, tt, ps, af, none⟩ :: rest) a w := by
  cases hq : P.underlying ty with
  | none => simp [rowTy, hq] at hu
  | some ds => exact op_load ty x g t C ds hx hg hq (by cases ds <;> simp [rowTy, hq] at hu ⊢) hi h
theorem wl_v {op : Op} (v : Value) (hv : (execOp a.eval ⟨d, op, tt, ps, af, none⟩).run P w = .ok (.value v) w) (h : wpList P ops Q rest (a.put d v) w) : wpList P ops Q (⟨d, op, tt, ps, af, none⟩ :: rest) a w :=
  wpList_plain rfl fun _ hK => by
    unfold Oper.wp
    rw [hv]
    exact hK _ _ h
theorem wl_s {o : Oper} (hw : Region.wanted o (yielded ops a.tmps) = false) (h : wpList P ops Q rest (a.put o.dst undef) w) : wpList P ops Q (o :: rest) a w := by
  unfold wpList
  rw [if_neg (by rw [hw]; simp)]
  exact h
/-- a call -/
theorem wl_call {c : Call} (f : FuncId) (args : Array Value) (R : Ending → World → Prop) (hR : Calls P f args w R) (hc : (execOp a.eval ⟨d, .call c, tt, ps, af, none⟩).run P w = .ok (.enter f args) w)
    (h : ∀ e w', R e w' → ∃ v, e = .returned v ∧ wpList P ops Q rest (a.put d v) w') : wpList P ops Q (⟨d, .call c, tt, ps, af, none⟩ :: rest) a w :=
  wpList_plain rfl fun _ hK => by
    unfold Oper.wp
    rw [hc]
    refine hR.mono fun e w' he => ?_
    obtain ⟨v, rfl, h'⟩ := h e w' he
    exact hK _ _ h'
/-- a value stored into cells of a block, whatever it is -/
theorem op_store1 (ty : TypeId) (x y : Operand) (g off : Nat) (t : TypeId) (v : Value) (old : Array Value) (hx : a.eval x = .pointer (some ⟨g, off, none⟩)) (hy : a.eval y = v)
    (hg : Block w g t old) (hi : (P.info? ty).map (·.size) = some v.cells.size) (hold : off + v.cells.size ≤ old.size) (h1 : v.cells.all (·.oneCell') = true)
    (h : ∀ w', (∀ B, B ≤ g → Below B w w') → (∀ g', g' ≠ g → w'.heap[g']? = w.heap[g']?) → Block w' g t (setL old off v.cells.toList) → wpList P ops Q rest (a.put d undef) w') :
    wpList P ops Q (⟨d, .store ty x y, tt, ps, af, none⟩ :: rest) a w :=
  wpList_plain rfl fun _ hK => by
    have ht : w.there g off v.cells.size := fun j hj => ⟨by rw [hg.cell, Array.getElem?_eq_getElem (by omega)]; rfl, hg.frozen _⟩
    have hrun : (storeVar ty ⟨g, off, none⟩ v).run P w = .ok () (w.setCells g off v.cells.toList) := run_storeVar_mid w g off ty v.cells ht hi h1
    unfold Oper.wp execOp
    simp only [hx, hy, Instr.storeAt, Instr.sureAddr, Sem.run_bind, Sem.run_pure, Result.andThen_ok, hrun]
    exact hK _ _ (h _ (fun B hB => below_setCells hB _ _ _ (Below.refl _ _)) (fun g' hg' => other_setCells hg' _ _ _) (Block.setCells _ _ _ _ hg))
end
def nwfB (V : List Nt) : Bool := V.all fun x => decide (-100 ≤ x.1 ∧ x.1 ≤ 100 ∧ -100 ≤ x.2.1 ∧ x.2.1 ≤ 100 ∧ -100 ≤ x.2.2.1 ∧ x.2.2.1 ≤ 100 ∧ -100 ≤ x.2.2.2 ∧ x.2.2.2 ≤ 100)
theorem nwf_small (V : List Nt) (h : nwfB V = true) : ∀ x ∈ V, NWF x := by
  intro x hx
  have := List.all_eq_true.1 h x hx
  simp only [decide_eq_true_eq] at this
  exact ⟨wf_mk (by omega), wf_mk (by omega), wf_mk (by omega), wf_mk (by omega)⟩
def wfB (B : List Int) : Bool := B.all fun x => decide (-100 ≤ x ∧ x ≤ 100)
theorem wf_small (B : List Int) (h : wfB B = true) : WF B := by
  intro x hx
  have := List.all_eq_true.1 h x hx
  simp only [decide_eq_true_eq] at this
  exact wf_mk (by omega)
def manyB (G : GS) : Bool := (List.range 17).all fun u => decide (0 ≤ ci G.many u ∧ ci G.many u ≤ 1000)
theorem many_small (G : GS) (h : manyB G = true) : ∀ u, u ≤ 16 → 0 ≤ ci G.many u ∧ ci G.many u ≤ 9223372036854775806 := by
  intro u hu
  have := List.all_eq_true.1 h u (List.mem_range.2 (by omega))
  simp only [decide_eq_true_eq] at this
  omega
def sB0 : List Int := List.replicate 51 0
def sB1 : List Int := ((sB0.set 6 1).set 7 3).set 8 1
def sB2 : List Int := sB1.set 7 2
def G0 : GS := ⟨(newS 16).1, (newS 16).2.1, false, (newS 16).2.2, 16⟩
def G1 : GS := lookK sB0 G0 16
def G2 : GS := lookK sB1 G1 16
def G3 : GS := lookK sB2 G2 16
theorem sB0_len : sB0.length = 51 := by decide +kernel
theorem sB1_len : sB1.length = 51 := by decide +kernel
theorem sB2_len : sB2.length = 51 := by decide +kernel
theorem sB0_wf : WF sB0 := wf_small _ (by decide +kernel)
theorem sB1_wf : WF sB1 := wf_small _ (by decide +kernel)
theorem sB2_wf : WF sB2 := wf_small _ (by decide +kernel)
theorem G0_n : G0.n + 16 < maxLen := by decide +kernel
theorem G1_n : G1.n + 16 < maxLen := by decide +kernel
theorem G2_n : G2.n + 16 < maxLen := by decide +kernel
theorem G0_m : ∀ u, u ≤ 16 → 0 ≤ ci G0.many u ∧ ci G0.many u ≤ 9223372036854775806 := many_small _ (by decide +kernel)
theorem G1_m : ∀ u, u ≤ 16 → 0 ≤ ci G1.many u ∧ ci G1.many u ≤ 9223372036854775806 := many_small _ (by decide +kernel)
theorem G2_m : ∀ u, u ≤ 16 → 0 ≤ ci G2.many u ∧ ci G2.many u ≤ 9223372036854775806 := many_small _ (by decide +kernel)
theorem q_fine1 : fineF G2 [(2,1,3,1),(0,0,0,0),(5,0,0,0)] = true := by decide +kernel
theorem q_fine2 : fineF G2 [(2,2,0,0)] = false := by decide +kernel
theorem q_fine3 : fineF G3 [] = false := by decide +kernel
theorem q_wrong2 : G2.wrong = false := by decide +kernel
theorem q_wrong3 : G3.wrong = true := by decide +kernel
theorem q_had : decide (((2, 1, 3, 1) : Nt) ∈ G3.had) = true := by decide +kernel
theorem q_last2 : lastF G3.last 2 = (2, 1, 3, 1) := by decide +kernel
theorem q_last0 : lastF G3.last 0 = (0, 0, 0, 0) := by decide +kernel
theorem q_many2 : manyF G3.many 2 = 2 := by decide +kernel
theorem q_many1 : manyF G3.many 1 = 1 := by decide +kernel
theorem q_many17 : manyF G3.many 17 = 0 := by decide +kernel
theorem sB1_set : setL (ints sB0) 6 [Value.int .i64 1, .int .i64 3, .int .i64 1] = ints sB1 := by kernel_rfl
theorem setL_one (B : List Int) (i : Nat) (x : Int) : setL (ints B) i (Value.int .i64 x).cells.toList = ints (B.set i x) := ints_set B i x
theorem sB2_set : setL (ints sB1) 7 (Value.int .i64 2).cells.toList = ints sB2 := setL_one sB1 7 2
def SSm (w0 : World) (g bm : Nat) (b3 : Nat) (w : World) : Prop := Below w0.heap.size w0 w ∧ GG w g bm G3 ∧ Block w b3 35 #[.int .i64 2, .int .i64 1, .int .i64 3, .int .i64 1]
theorem SSm.up {w0 w w' : World} {g bm b3 : Nat} (h : SSm w0 g bm b3 w) (hb : Below w.heap.size w w') : SSm w0 g bm b3 w' := ⟨h.1.trans (hb.mono h.1.size), h.2.1.ups hb, h.2.2.ups hb⟩
theorem zB_ints : zB = ints sB0 := by kernel_rfl

set_option maxHeartbeats 2000000 in
set_option maxRecDepth 100000 in
theorem small_any (w : World) : Calls Try.prog 6 #[] w fun e w' => e = .returned (.bool true) ∧ Below w.heap.size w w' := by
  have hall := Below.refl w.heap.size w
  have hg28 := g28
  have e28 := eqN
  go_enter Try.func6, Try.ntmps6
  go_upto_region 0 with (fail)
  refine wp_region_lit ?_
  refine wl_v ?_ ?_ ?_; rotate_left; (focus (go_simp; (try with_reducible rfl); done)); try simp only [Act.put, List.setIfInBounds_toArray, List.set_cons_zero, List.set_cons_succ]
  go_upto_region 1 with (fail)
  refine wp_region_lit ?_
  refine wl_call _ _ _ (new_any _) (by go_simp) ?_; rintro e w1 ⟨g, bm, rfl, gg, gm, h9, hb⟩; refine ⟨_, rfl, ?_⟩; replace hall := hall.trans (hb.mono hall.size); have h : GG w1 g bm G0 := h9; clear hb h9; try simp only [Act.put, List.setIfInBounds_toArray, List.set_cons_zero, List.set_cons_succ]
  refine wl_v ?_ ?_ ?_; rotate_left; (focus (go_simp; (try with_reducible rfl); done)); try simp only [Act.put, List.setIfInBounds_toArray, List.set_cons_zero, List.set_cons_succ]
  go_upto_region 2 with (fail)
  refine wp_region_lit ?_
  refine wl_v ?_ ?_ ?_; rotate_left; (focus (go_simp; (try with_reducible rfl); done)); try simp only [Act.put, List.setIfInBounds_toArray, List.set_cons_zero, List.set_cons_succ]
  refine wl_v ?_ ?_ ?_; rotate_left; (focus (go_simp; (try with_reducible rfl); done)); try simp only [Act.put, List.setIfInBounds_toArray, List.set_cons_zero, List.set_cons_succ]
  go_upto_region 4 with (fail)
  refine wp_region_lit ?_
  refine op_alloc 33 (ints sB0) (by rw [← zB_ints]; exact info25z) ?_; intro w2 b2 hge hb k2; have nk2 : b2 ≠ g := (by have := h.1.lt; omega); have nk2' : b2 ≠ bm := (by have := h.2.1.lt; omega); have g2 := Nat.le_trans hall.size hge; replace hall := hall.trans (hb.mono hall.size); replace h := h.ups hb; clear hb hge; try simp only [Act.put, List.setIfInBounds_toArray, List.set_cons_zero, List.set_cons_succ]
  go_upto_region 5 with (fail)
  refine wp_region_lit ?_
  refine wl_v ?_ ?_ ?_; rotate_left; (focus (go_simp; (try with_reducible rfl); done)); try simp only [Act.put, List.setIfInBounds_toArray, List.set_cons_zero, List.set_cons_succ]
  refine op_loadR _ _ _ _ _ rfl k2 (by kernel_rfl) (info25b _ sB0_len) ?_; try simp only [Act.put, List.setIfInBounds_toArray, List.set_cons_zero, List.set_cons_succ]
  refine wl_call _ _ _ (look_at _ g bm sB0 sB0_len sB0_wf G0 G0_n G0_m h) (by go_simp) ?_; rintro e w9 ⟨rfl, hb, h9⟩; refine ⟨_, rfl, ?_⟩; replace h9 : GG w9 g bm G1 := h9; replace hall := hall.trans (hb.below hall.size gg gm); replace k2 := hb.blk k2 nk2 nk2'; clear h hb; have h := h9; clear h9; try simp only [Act.put, List.setIfInBounds_toArray, List.set_cons_zero, List.set_cons_succ]
  go_upto_region 6 with (fail)
  refine wp_region_lit ?_
  refine wl_v ?_ ?_ ?_; rotate_left; (focus (go_simp; (try with_reducible rfl); done)); try simp only [Act.put, List.setIfInBounds_toArray, List.set_cons_zero, List.set_cons_succ]
  refine wl_v ?_ ?_ ?_; rotate_left; (focus (go_simp; (try with_reducible rfl); done)); try simp only [Act.put, List.setIfInBounds_toArray, List.set_cons_zero, List.set_cons_succ]
  refine op_store1 _ _ _ _ 6 _ (.agg #[.int .i64 1, .int .i64 3, .int .i64 1]) _ rfl rfl k2 (by kernel_rfl) (by rw [ints_size, sB0_len]; exact (by decide)) (by simp [Value.cells, Value.oneCell']) ?_; intro w4 hb ho kk; have kk' : Block w4 b2 33 (ints sB1) := (by rw [← sB1_set]; exact kk); clear k2 kk; have k2 := kk'; clear kk'; replace h := GAt.far h nk2 nk2' hb ho; skip; replace hall := hall.trans (hb _ g2); clear hb ho; try simp only [Act.put, List.setIfInBounds_toArray, List.set_cons_zero, List.set_cons_succ]
  go_upto_region 7 with (fail)
  refine wp_region_lit ?_
  refine wl_v ?_ ?_ ?_; rotate_left; (focus (go_simp; (try with_reducible rfl); done)); try simp only [Act.put, List.setIfInBounds_toArray, List.set_cons_zero, List.set_cons_succ]
  refine op_loadR _ _ _ _ _ rfl k2 (by kernel_rfl) (info25b _ sB1_len) ?_; try simp only [Act.put, List.setIfInBounds_toArray, List.set_cons_zero, List.set_cons_succ]
  refine wl_call _ _ _ (look_at _ g bm sB1 sB1_len sB1_wf G1 G1_n G1_m h) (by go_simp) ?_; rintro e w9 ⟨rfl, hb, h9⟩; refine ⟨_, rfl, ?_⟩; replace h9 : GG w9 g bm G2 := h9; replace hall := hall.trans (hb.below hall.size gg gm); replace k2 := hb.blk k2 nk2 nk2'; clear h hb; have h := h9; clear h9; try simp only [Act.put, List.setIfInBounds_toArray, List.set_cons_zero, List.set_cons_succ]
  go_upto_region 8 with (fail)
  refine wp_region_lit ?_
  refine wl_v (.agg #[.int .i64 2, .int .i64 1, .int .i64 3, .int .i64 1]) (by kernel_rfl) ?_; try simp only [Act.put, List.setIfInBounds_toArray, List.set_cons_zero, List.set_cons_succ]
  refine op_new 35 3 _ #[.int .i64 2, .int .i64 1, .int .i64 3, .int .i64 1] zN info28z info28s rfl (by simp [Value.oneCell']) (by intro p; rfl) (by intro p; rfl) ?_; intro w3 b3 hge hb k3; have nk3 : b3 ≠ g := (by have := h.1.lt; omega); have nk3' : b3 ≠ bm := (by have := h.2.1.lt; omega); have n32 : b3 ≠ b2 := (by have := k2.lt; omega); replace hall := hall.trans (hb.mono hall.size); replace h := h.ups hb; replace k2 := k2.ups hb; clear hb hge; try simp only [Act.put, List.setIfInBounds_toArray, List.set_cons_zero, List.set_cons_succ]
  go_upto_region 9 with (fail)
  refine wp_region_lit ?_
  refine wl_v ?_ ?_ ?_; rotate_left; (focus (go_simp; (try with_reducible rfl); done)); try simp only [Act.put, List.setIfInBounds_toArray, List.set_cons_zero, List.set_cons_succ]
  refine op_loadR _ _ _ _ _ rfl k3 (by kernel_rfl) info28s ?_; try simp only [Act.put, List.setIfInBounds_toArray, List.set_cons_zero, List.set_cons_succ]
  refine wl_v (.agg #[.int .i64 0, .int .i64 0, .int .i64 0, .int .i64 0]) (by kernel_rfl) ?_; try simp only [Act.put, List.setIfInBounds_toArray, List.set_cons_zero, List.set_cons_succ]
  refine wl_v (.agg #[.int .i64 5, .int .i64 0, .int .i64 0, .int .i64 0]) (by kernel_rfl) ?_; try simp only [Act.put, List.setIfInBounds_toArray, List.set_cons_zero, List.set_cons_succ]
  refine op_lit _ 3 _ 35 (ints [2, 1, 3, 1, 0, 0, 0, 0, 5, 0, 0, 0]) (by intro wl; kernel_rfl) ?_; intro w1 bl hge hb kl; replace hall := hall.trans (hb.mono hall.size); replace h := h.ups hb; replace k2 := k2.ups hb; replace k3 := k3.ups hb; clear hb hge; try simp only [Act.put, List.setIfInBounds_toArray, List.set_cons_zero, List.set_cons_succ]
  refine wl_call _ _ _ (fine_at _ g bm G2 [(2, 1, 3, 1), (0, 0, 0, 0), (5, 0, 0, 0)] (nwf_small _ (by decide +kernel)) _ 3 3 rfl (by simp) (Block.holds kl) h) (by go_simp) ?_; rintro e w9 ⟨rfl, hb⟩; refine ⟨_, rfl, ?_⟩; rw [q_fine1]; replace hall := hall.trans (hb.mono hall.size); replace h := h.ups hb; replace k2 := k2.ups hb; replace k3 := k3.ups hb; clear hb kl; try simp only [Act.put, List.setIfInBounds_toArray, List.set_cons_zero, List.set_cons_succ]
  refine wl_v ?_ ?_ ?_; rotate_left; (focus (go_simp; (try with_reducible rfl); done)); try simp only [Act.put, List.setIfInBounds_toArray, List.set_cons_zero, List.set_cons_succ]
  refine op_unguard _ _ rfl ?_; refine wl_v ?_ ?_ ?_; rotate_left; (focus (go_simp; (try with_reducible rfl); done)); try simp only [Act.put, List.setIfInBounds_toArray, List.set_cons_zero, List.set_cons_succ]
  refine op_unguard _ _ rfl ?_; refine wl_v (.agg #[.int .i64 2, .int .i64 2, .int .i64 0, .int .i64 0]) (by kernel_rfl) ?_; try simp only [Act.put, List.setIfInBounds_toArray, List.set_cons_zero, List.set_cons_succ]
  refine op_unguard _ _ rfl ?_; refine op_lit _ 1 _ 35 (ints [2, 2, 0, 0]) (by intro wl; kernel_rfl) ?_; intro w1 bl hge hb kl; replace hall := hall.trans (hb.mono hall.size); replace h := h.ups hb; replace k2 := k2.ups hb; replace k3 := k3.ups hb; clear hb hge; try simp only [Act.put, List.setIfInBounds_toArray, List.set_cons_zero, List.set_cons_succ]
  refine op_unguard _ _ rfl ?_; refine wl_call _ _ _ (fine_at _ g bm G2 [(2, 2, 0, 0)] (nwf_small _ (by decide +kernel)) _ 1 1 rfl (by simp) (Block.holds kl) h) (by go_simp) ?_; rintro e w9 ⟨rfl, hb⟩; refine ⟨_, rfl, ?_⟩; rw [q_fine2]; replace hall := hall.trans (hb.mono hall.size); replace h := h.ups hb; replace k2 := k2.ups hb; replace k3 := k3.ups hb; clear hb kl; try simp only [Act.put, List.setIfInBounds_toArray, List.set_cons_zero, List.set_cons_succ]
  refine op_unguard _ _ rfl ?_; refine wl_v ?_ ?_ ?_; rotate_left; (focus (go_simp; (try with_reducible rfl); done)); try simp only [Act.put, List.setIfInBounds_toArray, List.set_cons_zero, List.set_cons_succ]
  refine wl_v ?_ ?_ ?_; rotate_left; (focus (go_simp; (try with_reducible rfl); done)); try simp only [Act.put, List.setIfInBounds_toArray, List.set_cons_zero, List.set_cons_succ]
  refine wl_v ?_ ?_ ?_; rotate_left; (focus (go_simp; (try with_reducible rfl); done)); try simp only [Act.put, List.setIfInBounds_toArray, List.set_cons_zero, List.set_cons_succ]
  refine op_unguard _ _ rfl ?_; refine wl_v ?_ ?_ ?_; rotate_left; (focus (go_simp; (try with_reducible rfl); done)); try simp only [Act.put, List.setIfInBounds_toArray, List.set_cons_zero, List.set_cons_succ]
  refine op_unguard _ _ rfl ?_; refine wl_call _ _ _ (wrong_at _ g bm G2.n G2.last G2.many G2.wrong G2.had h) (by go_simp) ?_; rintro e w9 ⟨rfl, rfl⟩; refine ⟨_, rfl, ?_⟩; rw [q_wrong2]; try simp only [Act.put, List.setIfInBounds_toArray, List.set_cons_zero, List.set_cons_succ]
  refine op_unguard _ _ rfl ?_; refine wl_v ?_ ?_ ?_; rotate_left; (focus (go_simp; (try with_reducible rfl); done)); try simp only [Act.put, List.setIfInBounds_toArray, List.set_cons_zero, List.set_cons_succ]
  refine wl_v ?_ ?_ ?_; rotate_left; (focus (go_simp; (try with_reducible rfl); done)); try simp only [Act.put, List.setIfInBounds_toArray, List.set_cons_zero, List.set_cons_succ]
  refine wl_v ?_ ?_ ?_; rotate_left; (focus (go_simp; (try with_reducible rfl); done)); try simp only [Act.put, List.setIfInBounds_toArray, List.set_cons_zero, List.set_cons_succ]
  go_upto_region 10 with (fail)
  refine wp_region_lit ?_
  refine wl_v ?_ ?_ ?_; rotate_left; (focus (go_simp; (try with_reducible rfl); done)); try simp only [Act.put, List.setIfInBounds_toArray, List.set_cons_zero, List.set_cons_succ]
  refine wl_v ?_ ?_ ?_; rotate_left; (focus (go_simp; (try with_reducible rfl); done)); try simp only [Act.put, List.setIfInBounds_toArray, List.set_cons_zero, List.set_cons_succ]
  refine op_store1 _ _ _ _ 7 _ (.int .i64 2) _ rfl rfl k2 (by kernel_rfl) (by rw [ints_size, sB1_len]; exact (by decide)) (by simp [Value.cells, Value.oneCell']) ?_; intro w4 hb ho kk; have kk' : Block w4 b2 33 (ints sB2) := (by rw [← sB2_set]; exact kk); clear k2 kk; have k2 := kk'; clear kk'; replace h := GAt.far h nk2 nk2' hb ho; replace k3 : Block w4 b3 35 _ := (ho b3 n32).trans k3; replace hall := hall.trans (hb _ g2); clear hb ho; try simp only [Act.put, List.setIfInBounds_toArray, List.set_cons_zero, List.set_cons_succ]
  go_upto_region 11 with (fail)
  refine wp_region_lit ?_
  refine wl_v ?_ ?_ ?_; rotate_left; (focus (go_simp; (try with_reducible rfl); done)); try simp only [Act.put, List.setIfInBounds_toArray, List.set_cons_zero, List.set_cons_succ]
  refine op_loadR _ _ _ _ _ rfl k2 (by kernel_rfl) (info25b _ sB2_len) ?_; try simp only [Act.put, List.setIfInBounds_toArray, List.set_cons_zero, List.set_cons_succ]
  refine wl_call _ _ _ (look_at _ g bm sB2 sB2_len sB2_wf G2 G2_n G2_m h) (by go_simp) ?_; rintro e w9 ⟨rfl, hb, h9⟩; refine ⟨_, rfl, ?_⟩; replace h9 : GG w9 g bm G3 := h9; replace hall := hall.trans (hb.below hall.size gg gm); replace k2 := hb.blk k2 nk2 nk2'; replace k3 := hb.blk k3 nk3 nk3'; clear h hb; have h := h9; clear h9; try simp only [Act.put, List.setIfInBounds_toArray, List.set_cons_zero, List.set_cons_succ]
  go_upto_region 12 with (fail)
  have hS : SSm w g bm b3 _ := ⟨hall.drew, h, k3⟩
  refine region_pi (SSm w g bm b3) [(0, true), (1, true), (2, true), (3, true), (4, false), (5, true), (6, true), (7, true), (9, true), (8, false), (10, true), (11, true), (12, true), (13, true), (14, false), (15, true), (16, true), (17, true), (18, true), (19, false), (20, true), (21, true), (22, true), (23, true), (24, false), (25, true), (26, true), (27, true), (28, true), (30, true), (29, false), (31, true), (32, true), (33, true), (34, true), (35, false), (36, true), (37, true), (38, true), (39, false), (40, true), (41, true), (42, true)] (by kernel_rfl) (by kernel_rfl) rfl (by kernel_rfl) hS ?_
  clear hall k2 k3 h
  refine pi_f0 ?_ rfl ?_ ?_; rotate_left; (focus (intro w' hS'; go_simp; (try with_reducible rfl); done)); try simp only [Act.put, List.setIfInBounds_toArray, List.set_cons_zero, List.set_cons_succ]
  refine pi_f0 ?_ rfl ?_ ?_; rotate_left; (focus (intro w' hS'; go_simp; (try with_reducible rfl); done)); try simp only [Act.put, List.setIfInBounds_toArray, List.set_cons_zero, List.set_cons_succ]
  refine pi_f1 ?_ rfl rfl rfl rfl ?_ ?_; rotate_left; (focus (intro w' hS'; go_simp; (try with_reducible rfl); done)); try simp only [Act.put, List.setIfInBounds_toArray, List.set_cons_zero, List.set_cons_succ]
  refine pi_f1 ?_ rfl rfl rfl rfl ?_ ?_; rotate_left; (focus (intro w' h; refine run_load_row b3 35 #[.int .i64 2, .int .i64 1, .int .i64 3, .int .i64 1] _ ?_ h.2.2 Try.underlying35 ?_ info28s <;> rfl)); try simp only [Act.put, List.setIfInBounds_toArray, List.set_cons_zero, List.set_cons_succ]
  refine pi_a1 rfl rfl rfl rfl (fun K hK => ?_); go_simp; refine (had_at _ g bm G3.n G3.last G3.many G3.wrong G3.had (2, 1, 3, 1) (nwf_small [(2, 1, 3, 1)] (by decide +kernel) _ (by simp)) hS.2.1).mono ?_; rw [q_had]; rintro e w9 ⟨rfl, hb9⟩; replace hS := hS.up hb9; clear hb9; refine hK _ _ ⟨?_, ?_⟩; exact hS; clear hK; clear K; try simp only [Act.put, List.setIfInBounds_toArray, List.set_cons_zero, List.set_cons_succ]
  refine pi_f0 ?_ rfl ?_ ?_; rotate_left; (focus (intro w' hS'; go_simp; (try with_reducible rfl); done)); try simp only [Act.put, List.setIfInBounds_toArray, List.set_cons_zero, List.set_cons_succ]
  refine pi_f0 ?_ rfl ?_ ?_; rotate_left; (focus (intro w' hS'; go_simp; (try with_reducible rfl); done)); try simp only [Act.put, List.setIfInBounds_toArray, List.set_cons_zero, List.set_cons_succ]
  refine pi_f1 ?_ rfl rfl rfl rfl ?_ ?_; rotate_left; (focus (intro w' hS'; go_simp; (try with_reducible rfl); done)); try simp only [Act.put, List.setIfInBounds_toArray, List.set_cons_zero, List.set_cons_succ]
  refine pi_f1 ?_ rfl rfl rfl rfl ?_ ?_; rotate_left; (focus (intro w' h; refine run_load_row b3 35 #[.int .i64 2, .int .i64 1, .int .i64 3, .int .i64 1] _ ?_ h.2.2 Try.underlying35 ?_ info28s <;> rfl)); try simp only [Act.put, List.setIfInBounds_toArray, List.set_cons_zero, List.set_cons_succ]
  refine pi_a1 rfl rfl rfl rfl (fun K hK => ?_); go_simp; refine (last_at _ g bm G3.n G3.last G3.many G3.wrong G3.had 2 hS.2.1).mono ?_; rw [q_last2]; simp only [ntv]; rintro e w9 ⟨rfl, hb9⟩; replace hS := hS.up hb9; clear hb9; refine hK _ _ ⟨?_, ?_⟩; exact hS; clear hK; clear K; try simp only [Act.put, List.setIfInBounds_toArray, List.set_cons_zero, List.set_cons_succ]
  refine pi_f1 ?_ rfl rfl rfl rfl ?_ ?_; rotate_left; (focus (intro w' hS'; go_simp; (try with_reducible rfl); done)); try simp only [Act.put, List.setIfInBounds_toArray, List.set_cons_zero, List.set_cons_succ]
  refine pi_f0 ?_ rfl ?_ ?_; rotate_left; (focus (intro w' hS'; go_simp; (try with_reducible rfl); done)); try simp only [Act.put, List.setIfInBounds_toArray, List.set_cons_zero, List.set_cons_succ]
  refine pi_f0 ?_ rfl ?_ ?_; rotate_left; (focus (intro w' hS'; go_simp; (try with_reducible rfl); done)); try simp only [Act.put, List.setIfInBounds_toArray, List.set_cons_zero, List.set_cons_succ]
  refine pi_f1 ?_ rfl rfl rfl rfl ?_ ?_; rotate_left; (focus (intro w' hS'; go_simp; (try with_reducible rfl); done)); try simp only [Act.put, List.setIfInBounds_toArray, List.set_cons_zero, List.set_cons_succ]
  refine pi_a1 rfl rfl rfl rfl (fun K hK => ?_); go_simp; refine (many_at _ g bm G3.n G3.last G3.many G3.wrong G3.had 2 hS.2.1).mono ?_; rw [q_many2]; rintro e w9 ⟨rfl, rfl⟩; refine hK _ _ ⟨?_, ?_⟩; exact hS; clear hK; clear K; try simp only [Act.put, List.setIfInBounds_toArray, List.set_cons_zero, List.set_cons_succ]
  refine pi_f1 ?_ rfl rfl rfl rfl ?_ ?_; rotate_left; (focus (intro w' hS'; go_simp; (try with_reducible rfl); done)); try simp only [Act.put, List.setIfInBounds_toArray, List.set_cons_zero, List.set_cons_succ]
  refine pi_f0 ?_ rfl ?_ ?_; rotate_left; (focus (intro w' hS'; go_simp; (try with_reducible rfl); done)); try simp only [Act.put, List.setIfInBounds_toArray, List.set_cons_zero, List.set_cons_succ]
  refine pi_f0 ?_ rfl ?_ ?_; rotate_left; (focus (intro w' hS'; go_simp; (try with_reducible rfl); done)); try simp only [Act.put, List.setIfInBounds_toArray, List.set_cons_zero, List.set_cons_succ]
  refine pi_f1 ?_ rfl rfl rfl rfl ?_ ?_; rotate_left; (focus (intro w' hS'; go_simp; (try with_reducible rfl); done)); try simp only [Act.put, List.setIfInBounds_toArray, List.set_cons_zero, List.set_cons_succ]
  refine pi_a1 rfl rfl rfl rfl (fun K hK => ?_); go_simp; refine (many_at _ g bm G3.n G3.last G3.many G3.wrong G3.had 1 hS.2.1).mono ?_; rw [q_many1]; rintro e w9 ⟨rfl, rfl⟩; refine hK _ _ ⟨?_, ?_⟩; exact hS; clear hK; clear K; try simp only [Act.put, List.setIfInBounds_toArray, List.set_cons_zero, List.set_cons_succ]
  refine pi_f1 ?_ rfl rfl rfl rfl ?_ ?_; rotate_left; (focus (intro w' hS'; go_simp; (try with_reducible rfl); done)); try simp only [Act.put, List.setIfInBounds_toArray, List.set_cons_zero, List.set_cons_succ]
  refine pi_f0 ?_ rfl ?_ ?_; rotate_left; (focus (intro w' hS'; go_simp; (try with_reducible rfl); done)); try simp only [Act.put, List.setIfInBounds_toArray, List.set_cons_zero, List.set_cons_succ]
  refine pi_f0 ?_ rfl ?_ ?_; rotate_left; (focus (intro w' hS'; go_simp; (try with_reducible rfl); done)); try simp only [Act.put, List.setIfInBounds_toArray, List.set_cons_zero, List.set_cons_succ]
  refine pi_f1 ?_ rfl rfl rfl rfl ?_ ?_; rotate_left; (focus (intro w' hS'; go_simp; (try with_reducible rfl); done)); try simp only [Act.put, List.setIfInBounds_toArray, List.set_cons_zero, List.set_cons_succ]
  refine pi_a1 rfl rfl rfl rfl (fun K hK => ?_); go_simp; refine (many_at _ g bm G3.n G3.last G3.many G3.wrong G3.had 17 hS.2.1).mono ?_; rw [q_many17]; rintro e w9 ⟨rfl, rfl⟩; refine hK _ _ ⟨?_, ?_⟩; exact hS; clear hK; clear K; try simp only [Act.put, List.setIfInBounds_toArray, List.set_cons_zero, List.set_cons_succ]
  refine pi_f1 ?_ rfl rfl rfl rfl ?_ ?_; rotate_left; (focus (intro w' hS'; go_simp; (try with_reducible rfl); done)); try simp only [Act.put, List.setIfInBounds_toArray, List.set_cons_zero, List.set_cons_succ]
  refine pi_f0 ?_ rfl ?_ ?_; rotate_left; (focus (intro w' hS'; go_simp; (try with_reducible rfl); done)); try simp only [Act.put, List.setIfInBounds_toArray, List.set_cons_zero, List.set_cons_succ]
  refine pi_f0 ?_ rfl ?_ ?_; rotate_left; (focus (intro w' hS'; go_simp; (try with_reducible rfl); done)); try simp only [Act.put, List.setIfInBounds_toArray, List.set_cons_zero, List.set_cons_succ]
  refine pi_f1 ?_ rfl rfl rfl rfl ?_ ?_; rotate_left; (focus (intro w' hS'; go_simp; (try with_reducible rfl); done)); try simp only [Act.put, List.setIfInBounds_toArray, List.set_cons_zero, List.set_cons_succ]
  refine pi_f1 ?_ rfl rfl rfl rfl ?_ ?_; rotate_left; (focus (intro w' hS'; go_simp; (try with_reducible rfl); done)); try simp only [Act.put, List.setIfInBounds_toArray, List.set_cons_zero, List.set_cons_succ]
  refine pi_a1 rfl rfl rfl rfl (fun K hK => ?_); go_simp; refine (last_at _ g bm G3.n G3.last G3.many G3.wrong G3.had 0 hS.2.1).mono ?_; rw [q_last0]; simp only [ntv]; rintro e w9 ⟨rfl, hb9⟩; replace hS := hS.up hb9; clear hb9; refine hK _ _ ⟨?_, ?_⟩; exact hS; clear hK; clear K; try simp only [Act.put, List.setIfInBounds_toArray, List.set_cons_zero, List.set_cons_succ]
  refine pi_f1 ?_ rfl rfl rfl rfl ?_ ?_; rotate_left; (focus (intro w' hS'; go_simp; (try with_reducible rfl); done)); try simp only [Act.put, List.setIfInBounds_toArray, List.set_cons_zero, List.set_cons_succ]
  refine pi_f0 ?_ rfl ?_ ?_; rotate_left; (focus (intro w' hS'; go_simp; (try with_reducible rfl); done)); try simp only [Act.put, List.setIfInBounds_toArray, List.set_cons_zero, List.set_cons_succ]
  refine pi_f0 ?_ rfl ?_ ?_; rotate_left; (focus (intro w' hS'; go_simp; (try with_reducible rfl); done)); try simp only [Act.put, List.setIfInBounds_toArray, List.set_cons_zero, List.set_cons_succ]
  refine pi_f1 ?_ rfl rfl rfl rfl ?_ ?_; rotate_left; (focus (intro w' hS'; go_simp; (try with_reducible rfl); done)); try simp only [Act.put, List.setIfInBounds_toArray, List.set_cons_zero, List.set_cons_succ]
  refine pi_a1 rfl rfl rfl rfl (fun K hK => ?_); go_simp; refine (wrong_at _ g bm G3.n G3.last G3.many G3.wrong G3.had hS.2.1).mono ?_; rw [q_wrong3]; rintro e w9 ⟨rfl, rfl⟩; refine hK _ _ ⟨?_, ?_⟩; exact hS; clear hK; clear K; try simp only [Act.put, List.setIfInBounds_toArray, List.set_cons_zero, List.set_cons_succ]
  refine pi_f0 ?_ rfl ?_ ?_; rotate_left; (focus (intro w' hS'; go_simp; (try with_reducible rfl); done)); try simp only [Act.put, List.setIfInBounds_toArray, List.set_cons_zero, List.set_cons_succ]
  refine pi_f0 ?_ rfl ?_ ?_; rotate_left; (focus (intro w' hS'; go_simp; (try with_reducible rfl); done)); try simp only [Act.put, List.setIfInBounds_toArray, List.set_cons_zero, List.set_cons_succ]
  refine pi_f1 ?_ rfl rfl rfl rfl ?_ ?_; rotate_left; (focus (intro w' hS'; go_simp; (try with_reducible rfl); done)); try simp only [Act.put, List.setIfInBounds_toArray, List.set_cons_zero, List.set_cons_succ]
  refine pi_a1 rfl rfl rfl rfl (fun K hK => ?_); go_simp; refine (fine_at _ g bm G3 [] (fun x hx => by simp at hx) none 0 0 rfl (by simp) (fun j hj => by simp [nflat] at hj) hS.2.1).mono ?_; rw [q_fine3]; rintro e w9 ⟨rfl, hb9⟩; replace hS := hS.up hb9; clear hb9; refine hK _ _ ⟨?_, ?_⟩; exact hS; clear hK; clear K; try simp only [Act.put, List.setIfInBounds_toArray, List.set_cons_zero, List.set_cons_succ]
  refine pi_f1 ?_ rfl rfl rfl rfl ?_ ?_; rotate_left; (focus (intro w' hS'; go_simp; (try with_reducible rfl); done)); try simp only [Act.put, List.setIfInBounds_toArray, List.set_cons_zero, List.set_cons_succ]
  refine pi_f0 ?_ rfl ?_ ?_; rotate_left; (focus (intro w' hS'; go_simp; (try with_reducible rfl); done)); try simp only [Act.put, List.setIfInBounds_toArray, List.set_cons_zero, List.set_cons_succ]
  refine pi_f0 ?_ rfl ?_ ?_; rotate_left; (focus (intro w' hS'; go_simp; (try with_reducible rfl); done)); try simp only [Act.put, List.setIfInBounds_toArray, List.set_cons_zero, List.set_cons_succ]
  refine pi_nil (NoPanic.normal ?_)
  go_wp2
  go_ret
  exact ⟨rfl, hS.1⟩
end Go.Proofs.Ytbpepkpjjfhmpaa
