/- Fanout: Next. -/
import Derived.Test.YtpegfbdepgmbjaaTa
namespace Go.Proofs.Ytpegfbdepgmbjaa
open Go.RowKit
set_option linter.unusedVariables false
set_option linter.unusedSimpArgs false

/-- the sessions that are ready, mark by mark -/
def idsF (L : List Mk) (R : List Int) : List Int := (L.filter fun y => R.contains y.1).map (·.1)
theorem ids_take {L : List Mk} {R : List Int} {k : Nat} {y : Mk} (hy : L[k]? = some y) (hc : R.contains y.1 = true) : idsF (L.take (k + 1)) R = idsF (L.take k) R ++ [y.1] := by
  obtain ⟨hk, e⟩ := List.getElem?_eq_some_iff.1 hy
  unfold idsF
  rw [List.take_succ_eq_append_getElem hk, e, List.filter_append, List.map_append]
  simp only [List.filter_cons, hc, if_true, List.filter_nil, List.map_cons, List.map_nil]
theorem ids_skip {L : List Mk} {R : List Int} {k : Nat} {y : Mk} (hy : L[k]? = some y) (hc : R.contains y.1 = false) : idsF (L.take (k + 1)) R = idsF (L.take k) R := by
  obtain ⟨hk, e⟩ := List.getElem?_eq_some_iff.1 hy
  unfold idsF
  rw [List.take_succ_eq_append_getElem hk, e, List.filter_append, List.map_append]
  simp only [List.filter_cons, hc, List.filter_nil, List.map_nil, List.append_nil, Bool.false_eq_true, if_false]
theorem ids_len {L : List Mk} {R : List Int} {k : Nat} (hk : k ≤ L.length) : (idsF (L.take k) R).length ≤ L.length := by
  unfold idsF
  rw [List.length_map]
  exact Nat.le_trans (List.length_filter_le _ _) (by simp; omega)
theorem ids_mem {L : List Mk} {R : List Int} {x : Int} (h : x ∈ idsF L R) : ∃ y ∈ L, y.1 = x ∧ R.contains x = true := by
  unfold idsF at h
  obtain ⟨y, hy, rfl⟩ := List.mem_map.1 h
  obtain ⟨h1, h2⟩ := List.mem_filter.1 hy
  exact ⟨y, h1, rfl, h2⟩
theorem ids_max {L : List Mk} {R : List Int} {x : Int} (hw : ∀ y ∈ L, y.1 ≤ 9223372036854775807) (h : x ∈ idsF L R) : x ≤ 9223372036854775807 := by
  obtain ⟨y, hy, rfl, _⟩ := ids_mem h
  exact hw y hy
theorem some_turn {L : List Mk} {R I : List Int} {t : Int} (hI : idsF L R = I) (hne : I ≠ []) : ¬ NoP L (fun y => decide (y.1 = turnF I t)) L.length := by
  intro h
  have hm := (turn_spec (t := t) hne).1
  generalize turnF I t = z at *
  rw [← hI] at hm
  obtain ⟨y, hy, e, _⟩ := ids_mem hm
  obtain ⟨j, hj, rfl⟩ := List.mem_iff_getElem.1 hy
  have := h j _ hj (List.getElem?_eq_getElem hj)
  simp [e] at this
theorem first_at {L : List Mk} {p : Mk → Bool} {j : Nat} {y : Mk} (hy : L[j]? = some y) (hp : p y = true) (hno : NoP L p j) : L.findIdx p = j ∧ L[j]? = some y := by
  obtain ⟨hj, e⟩ := List.getElem?_eq_some_iff.1 hy
  refine ⟨(List.findIdx_eq hj).2 ⟨by rw [e]; exact hp, fun i hi => hno i _ hi (List.getElem?_eq_getElem _)⟩, hy⟩
/-- what is told next: what is left, whose turn it was, the mark, and whether there was one -/
def nextF (L : List Mk) (t : Int) (R : List Int) : (List Mk × Int) × (Mk × Bool) :=
  if idsF L R = [] then ((L, t), ((0, 0), false)) else ((L.eraseIdx (L.findIdx fun y => decide (y.1 = turnF (idsF L R) t)), turnF (idsF L R) t), (L.getD (L.findIdx fun y => decide (y.1 = turnF (idsF L R) t)) (0, 0), true))
theorem next_no {L : List Mk} {t : Int} {R : List Int} (h : idsF L R = []) : nextF L t R = ((L, t), ((0, 0), false)) := if_pos h
theorem next_yes {L : List Mk} {t : Int} {R I : List Int} {j : Nat} {y : Mk} (hI : idsF L R = I) (hne : I ≠ []) (h : (L.findIdx fun y => decide (y.1 = turnF I t)) = j ∧ L[j]? = some y) : nextF L t R = ((L.eraseIdx j, turnF I t), (y, true)) := by
  subst hI
  unfold nextF
  rw [if_neg hne, h.1, List.getD_eq_getElem?_getD, h.2]
  rfl
theorem mark_at {w : World} {b : Nat} {t : TypeId} {C : Array Value} (k : Block w b t C) : ∃ D, D = w.heap.size ∧ D ≤ w.heap.size := ⟨_, rfl, Nat.le_refl _⟩
theorem ROwn.upD {α : Type} {enc : α → List Int} {e : TypeId} {size : Nat} {w w' : World} {B D : Nat} {v : Value} {L : List α} (h : ROwn enc e size w B v L) (hq : ∀ q, v.ownBlock = some q → q < D) (hb : Below D w w') : ROwn enc e size w' B v L := ROwn.keep h fun q e => hb.block q (hq q e)
theorem own_addr {w : World} {B c : Nat} {A : Option Addr} {L : List Mk} (h : MOwn w B (.slice A L.length c) L) (hp : 0 < L.length) : ∃ g, A = some ⟨g, 0, none⟩ := by
  obtain ⟨_, ⟨_, h1⟩ | ⟨g, cap, cur, e, _⟩⟩ := h
  · omega
  · injection e with e1
    exact ⟨g, e1⟩
theorem ids_app {w : World} {D : Nat} {v : Value} {I : List Int} {x : Int} (h : w.ownsRow D 3 1 v (I.length + 1) (I.map (Value.int .i64) ++ [.int .i64 x])) : w.ownsRow D 3 1 v (I ++ [x]).length ((I ++ [x]).map (Value.int .i64)) := by
  rw [List.length_append, List.map_append]
  exact h
theorem one_list (x : Int) : ∀ (u : Value), u ∈ [Value.int .i64 x] → u.oneCell' = true := fun u hu => by rw [List.mem_singleton.1 hu]; rfl
theorem z3 : (Try.prog.info? 3).map (·.zero) = some (some (.int .i64 0)) := by kernel_rfl
theorem op_alloc1 {P : Program} {ops : Array Oper} {rest : List Oper} {d : Option Tmp} {tt : TypeId} {ps : String} {af : Array Edge} {a : Act} {w : World} {Q : Exit → Act → World → Prop} (e : TypeId) (z : Value) (hz : (P.info? e).map (·.zero) = some (some z)) (hc : z.cells = #[z])
    (h : ∀ w' g, w.heap.size ≤ g → Below w.heap.size w w' → Block w' g e #[z] → wpList P ops Q rest (a.put d (.pointer (some ⟨g, 0, none⟩))) w') :
    wpList P ops Q (⟨d, .alloc e, tt, ps, af, none⟩ :: rest) a w :=
  wpList_plain rfl fun _ hK => by
    unfold Oper.wp execOp
    cases hq : P.info? e with
    | none => simp [hq] at hz
    | some i =>
      have hz' : i.zero = some z := by simpa [hq] using hz
      simp only [Instr.alloc, zeroValue, typeInfo, program, newVar, newRow, newObj, hc, Sem.run, Sem.run_bind, Sem.run_pure, Result.andThen_ok, hq, hz']
      exact hK _ _ (h (w.alloc (.cells #[z] e)) w.heap.size (Nat.le_refl _) ((Below.refl _ _).alloc (Nat.le_refl _) _) (heap_alloc_new w _))
theorem results_cells {fn : Func} {p q u : Tmp} {ty ty2 : TypeId} (h : fn.results = #[.cell p ty, .cell q ty2, .tmp u]) (tmps : Array Value) (P : Program) (w : World) :
    (results fn tmps).run P w = ((asAddr (tmps.getD p undef)).run P w).andThen fun a w₁ => ((loadVar ty a).run P w₁).andThen fun v w₂ => ((asAddr (tmps.getD q undef)).run P w₂).andThen fun a2 w₃ => ((loadVar ty2 a2).run P w₃).andThen fun v2 w₄ => .ok (.tuple #[v, v2, tmps.getD u undef]) w₄ := by
  simp only [results, h]
  simp [Sem.run_bind, Result.andThen]
theorem k_ret_cells {P : Program} {a : Act} {w : World} {n : Nat} {l : List (Nat × Value)} {fn : Func} {R : Ending → World → Prop} {p q u : Tmp} {ty ty2 : TypeId} {g g2 : Nat} {t t2 : TypeId} {C C2 : Array Value} {x : Value} {ds ds2 : TypeDesc} (H : Kn a n l) (hf : fn.results = #[.cell p ty, .cell q ty2, .tmp u]) (hp : lk l p = some (.pointer (some ⟨g, 0, none⟩))) (hq : lk l q = some (.pointer (some ⟨g2, 0, none⟩))) (hx : lk l u = some x)
    (hg : Block w g t C) (hg2 : Block w g2 t2 C2) (hu : P.underlying ty = some ds) (hd : (match ds with | .struct _ | .array _ _ => true | _ => false) = true) (hi : (P.info? ty).map (·.size) = some C.size) (hu2 : P.underlying ty2 = some ds2) (hd2 : (match ds2 with | .struct _ | .array _ _ => true | _ => false) = true) (hi2 : (P.info? ty2).map (·.size) = some C2.size) (h : R (.returned (.tuple #[.agg C, .agg C2, x])) w) : bodyPost P fn R .ret a w := by
  have e1 := H.at_ p _ hp
  have e2 := H.at_ q _ hq
  refine ⟨H.defers, .tuple #[.agg C, .agg C2, x], ?_, h⟩
  rw [results_cells hf, e1, e2, H.at_ u x hx]
  simp only [asAddr, Sem.run_pure, Result.andThen_ok, run_loadVar_row w g t ty C (0, 0) ds hg hu hd hi, run_loadVar_row w g2 t2 ty2 C2 (0, 0) ds2 hg2 hu2 hd2 hi2]
theorem delM_any (w : World) (base g c : Nat) (L : List Mk) (hown : MOwn w base (.slice (some ⟨g, 0, none⟩) L.length c) L) (k : Nat) (hk : k < L.length) (hn : L.length ≤ 100000) :
    Calls Try.prog 19 #[.slice (some ⟨g, 0, none⟩) L.length c, .int .i64 k, .int .i64 (k + 1 : Nat)] w fun e w' => (∃ M A c, M = L.eraseIdx k ∧ e = .returned (.slice A M.length c) ∧ MOwn w' base (.slice A M.length c) M) ∧ Below base w w' ∧ (∀ q, q ≠ g → w'.heap[q]? = w.heap[q]?) :=
  (delete_any w base _ L hown k hk hn).mono fun e w' ⟨⟨v', he, ho⟩, hb, hoth⟩ => by
    obtain ⟨A, c', rfl, _⟩ := MOwn.row ho
    exact ⟨⟨_, A, c', rfl, he, ho⟩, hb, fun q hq => hoth q (fun e => by injection e with e; exact hq e)⟩
def SNx (b : Nat) (z : Int) (w : World) : Prop := Block w b 3 #[.int .i64 z]
def SNy (W : World) (b0 bm : Nat) (s : Value) (t : Int) (y : Mk) (w : World) : Prop := Below W.heap.size W w ∧ Block w b0 24 #[s, .int .i64 t] ∧ Block w bm 29 #[.int .i64 y.1, .int .i64 y.2]
def Nx9 (W : World) (B D b0 b1 b2 : Nat) (t : Int) (A2 : Option Addr) (c2 : Nat) (L : List Mk) (R : List Int) (vr : Value) (a : Act) (w : World) : Prop :=
  ∃ (k : Nat) (I : List Int) (A3 : Option Addr) (c3 : Nat), Kn a 64 [(1, vr), (2, .pointer (some ⟨b0, 0, none⟩)), (4, .pointer (some ⟨b1, 0, none⟩)), (5, .pointer (some ⟨b2, 0, none⟩)), (7, .slice A3 I.length c3), (17, .slice A2 L.length c2), (18, .int .i64 (L.length : Nat)), (19, .int .i64 (k : Nat))] ∧
    k ≤ L.length ∧ idsF (L.take k) R = I ∧ w.ownsRow D 3 1 (.slice A3 I.length c3) I.length (I.map (Value.int .i64)) ∧ MOwn w B (.slice A2 L.length c2) L ∧ Block w b0 24 #[.slice A2 L.length c2, .int .i64 t] ∧ Block w b1 24 #[.slice none 0 0, .int .i64 0] ∧ Block w b2 29 #[.int .i64 0, .int .i64 0] ∧ D ≤ w.heap.size ∧ Below W.heap.size W w
set_option maxHeartbeats 8000000 in
theorem next_any (w : World) (t : Int) (v vr : Value) (L : List Mk) (R : List Int) (h : MRow w v L) (hR : IRow w vr R) (hn : L.length ≤ 100000) (hRn : R.length ≤ 100000) (ht : -9223372036854775808 ≤ t ∧ t ≤ 9223372036854775807) (hw : ∀ y ∈ L, y.1 ≤ 9223372036854775807) :
    Calls Try.prog 9 #[.agg #[v, .int .i64 t], vr] w fun e w' => (∃ M tt m b A c, nextF L t R = ((M, tt), (m, b)) ∧ e = .returned (.tuple #[.agg #[.slice A M.length c, .int .i64 tt], .agg #[.int .i64 m.1, .int .i64 m.2], .bool b]) ∧ MOwn w' w.heap.size (.slice A M.length c) M) ∧ Below w.heap.size w w' := by
  replace hw := Lib.hid hw
  replace hR := Lib.hid hR
  have hall := Below.refl w.heap.size w
  refine K_enter 64 Try.func9 rfl rfl fun a H => ?_
  replace H := H.pick [0, 1]
  refine wp_seq ?_
  refine wp_region_lit ?_
  refine op_box 24 _ #[v, .int .i64 t] (H.ev rfl) fun w0 b0 hge hb k0 => ?_; have g0 := Nat.le_trans hall.size hge; replace hall := hall.trans (hb.mono hall.size); clear hb; clear hge; refine kl H rfl fun a H => ?_
  refine op_alloc 24 #[.slice none 0 0, .int .i64 0] z24 fun w1 b1 hge hb k1 => ?_; have g1 := Nat.le_trans hall.size hge; have d0_1 : b0 < b1 := Nat.lt_of_lt_of_le k0.lt hge; replace k0 := Block.ups k0 hb; replace hall := hall.trans (hb.mono hall.size); clear hb; clear hge; refine kl H rfl fun a H => ?_
  refine op_alloc 29 #[.int .i64 0, .int .i64 0] z29 fun w2 b2 hge hb k2 => ?_; have g2 := Nat.le_trans hall.size hge; have d0_2 : b0 < b2 := Nat.lt_of_lt_of_le k0.lt hge; have d1_2 : b1 < b2 := Nat.lt_of_lt_of_le k1.lt hge; replace k0 := Block.ups k0 hb; replace k1 := Block.ups k1 hb; replace hall := hall.trans (hb.mono hall.size); clear hb; clear hge; refine kl H rfl fun a H => ?_
  refine wl_v _ (r_assign evc) ?_; refine kl H rfl fun a H => ?_
  refine wpList_nil ?_
  refine c_next ?_
  refine wp_seq ?_
  refine wp_region_lit ?_
  refine wl_v _ (r_row (cs := [v, .int .i64 t]) (H.ev rfl) (block_range k0) (by kernel_rfl) s24 rfl) ?_; refine kl H rfl fun a H => ?_
  refine wl_call _ _ _ (ownB_any _ t _ L (Row.up h hall) hn) (r_call1 cf14 (H.ev rfl)) ?_; rintro e w9 ⟨⟨B, A2, c2, hBe, rfl, hown⟩, hb⟩; refine ⟨_, rfl, ?_⟩; have hB0 := k0.lt; have hB1 := k1.lt; have hB2 := k2.lt; have hBW := hall.size; replace k0 := Block.ups k0 hb; replace k1 := Block.ups k1 hb; replace k2 := Block.ups k2 hb; replace hall := hall.trans (hb.mono hall.size); clear hb; rw [← hBe] at hB0 hB1 hB2 hBW; clear hBe; refine kl H rfl fun a H => ?_
  refine op_store1 24 (.tmp 2) (.tmp 15) b0 0 24 (.agg #[.slice A2 L.length c2, .int .i64 t]) _ (H.ev rfl) (H.ev rfl) k0 s24 (by simp [Value.cells]) (by simp [Value.cells, Value.oneCell']) fun w' hb ho kq => ?_; clear k0; have k0 : Block _ b0 24 #[.slice A2 L.length c2, .int .i64 t] := kq; clear kq; replace k1 := block_same k1 (ho _ (by omega)); replace k2 := block_same k2 (ho _ (by omega)); replace hown := ROwn.keep hown (fun q hq => ho _ (fun e => by have := (hown.lt hq).1; omega)); replace hall := hall.trans (hb _ g0); clear hb ho; refine kl0 H fun a H => ?_
  refine wpList_nil ?_
  refine c_next ?_
  refine wp_seq ?_
  refine wp_region_lit ?_
  refine wl_v _ (r_assign evc) ?_; refine kl H rfl fun a H => ?_
  refine wpList_nil ?_
  refine c_next ?_
  refine wp_seq ?_
  refine wp_seq ?_
  refine wp_region_lit ?_
  refine wl_v _ (r_fld (q := 0) fld24_0 (H.ev rfl) rfl) ?_; refine kl H rfl fun a H => ?_
  refine wl_v _ (r_ld Try.underlying22 rfl (H.ev rfl) ((Block.cell k0 0).trans rfl)) ?_; refine kl H rfl fun a H => ?_
  refine wl_v _ (r_len Try.underlying22 (H.ev rfl)) ?_; refine kl H rfl fun a H => ?_
  refine wl_v _ (r_move evc) ?_; refine kl H rfl fun a H => ?_
  refine wpList_nil ?_
  refine c_next ?_
  refine wp_block ?_
  obtain ⟨D, hDe, hDs⟩ := mark_at k0
  have hD0 := k0.lt
  have hD1 := k1.lt
  have hD2 := k2.lt
  have hDW := hall.size
  have hqD : ∀ q, Value.ownBlock (.slice A2 L.length c2) = some q → q < D := fun q hq => by rw [hDe]; exact (hown.lt hq).2
  rw [← hDe] at hD0 hD1 hD2 hDW
  clear hDe
  refine wp_loop (Nx9 w B D b0 b1 b2 t A2 c2 L R vr) (fun a _ => L.length - (intOf (a.eval (.tmp 19))).toNat) ⟨0, [], none, 0, H.pick [1, 2, 4, 5, 7, 17, 18, 19], by omega, rfl, World.ownsRow_nil _ _ _ _, hown, k0, k1, k2, hDs, hall⟩ ?_
  clear H hall k0 k1 k2 hown hDs
  rintro a w' ⟨k, I, A3, c3, H, hk, hI, hids, hown, k0, k1, k2, hDs, hall⟩
  replace hI := Lib.hid hI
  have hIl : I.length ≤ L.length := by rw [← hI.out]; exact ids_len (by omega)
  have H0 := H
  by_cases hlt : k < L.length
  · skip
    obtain ⟨g, hA⟩ := own_addr hown (by omega)
    subst hA
    have hy : L[k]? = some L[k] := List.getElem?_eq_getElem hlt
    have HY := Lib.hid hy
    generalize L[k] = y at *
    clear hy
    have H := H0
    cases hc : R.contains y.1
    · skip
      refine wp_seq ?_
      refine wp_region_lit ?_
      refine wl_v _ (r_lt Try.underlying3 (H.ev rfl) (H.ev rfl) (dec_t (by omega))) ?_; refine kl H rfl fun a H => ?_
      refine wpList_nil ?_
      refine c_next ?_
      refine wp_seq ?_
      refine c_cond_t H rfl ?_
      refine wp_skip ?_
      refine c_next ?_
      refine wp_seq ?_
      refine wp_block ?_
      refine wp_seq ?_
      refine wp_region_lit ?_
      refine wl_v _ (r_idx (j := k) (q := 0 + k * 2) Try.underlying22 s29 (H.ev rfl) (H.ev rfl) (by omega) rfl) ?_; refine kl H rfl fun a H => ?_
      refine wl_v _ (r_row (cs := [.int .i64 y.1, .int .i64 y.2]) (H.ev rfl) (own_range encM_len hown HY.out) (by kernel_rfl) s29 rfl) ?_; refine kl H rfl fun a H => ?_
      refine op_new 29 9 (.tmp 22) #[.int .i64 y.1, .int .i64 y.2] _ z29 s29 rfl (ints_one [y.1, y.2]) (fun p => (H.put 9 p rfl).ev rfl) (fun p => (H.put 9 p rfl).ev rfl) fun w3 b3 hge hb k3 => ?_; have g3 := Nat.le_trans hall.size hge; have d0_3 : b0 < b3 := Nat.lt_of_lt_of_le k0.lt hge; have d1_3 : b1 < b3 := Nat.lt_of_lt_of_le k1.lt hge; have d2_3 : b2 < b3 := Nat.lt_of_lt_of_le k2.lt hge; have hDn3 := Nat.le_trans hDs hge; replace k0 := Block.ups k0 hb; replace k1 := Block.ups k1 hb; replace k2 := Block.ups k2 hb; replace hown := ROwn.up hown hb; replace hids := own_ups hids hb; replace hDs := le_up hDs hb; replace hall := hall.trans (hb.mono hall.size); clear hb; clear hge; refine kl H rfl fun a H => ?_
      refine wpList_nil ?_
      refine c_next ?_
      refine wp_seq ?_
      refine wp_region_lit ?_
      refine wl_v _ (r_move (H.ev rfl)) ?_; refine kl H rfl fun a H => ?_
      refine wl_v _ (r_fld (q := 0) fld29_0 (H.ev rfl) rfl) ?_; refine kl H rfl fun a H => ?_
      refine wl_v _ (r_ld Try.underlying3 rfl (H.ev rfl) ((Block.cell k3 0).trans rfl)) ?_; refine kl H rfl fun a H => ?_
      refine wl_call _ _ _ (containsI_any _ _ R y.1 (IRow.up hR.out hall) hRn) (r_call2 cf15 (H.ev rfl) (H.ev rfl)) ?_; rintro e w9 ⟨rfl, hb⟩; refine ⟨_, rfl, ?_⟩; rw [hc]; replace k0 := Block.ups k0 hb; replace k1 := Block.ups k1 hb; replace k2 := Block.ups k2 hb; replace hown := ROwn.up hown hb; replace hids := own_ups hids hb; replace hDs := le_up hDs hb; replace k3 := Block.ups k3 hb; replace hall := hall.trans (hb.mono hall.size); clear hb; refine kl H rfl fun a H => ?_
      refine wpList_nil ?_
      refine c_next ?_
      refine c_cond_f H rfl ?_
      refine wp_skip ?_
      refine n_block ?_
      refine c_next ?_
      refine wp_region_lit ?_
      refine wl_v _ (r_add (q := ((k + 1 : Nat) : Int)) Try.underlying3 (H.ev rfl) evc (by omega) (by omega)) ?_; refine kl H rfl fun a H => ?_
      refine wl_v _ (r_move (H.ev rfl)) ?_; refine kl H rfl fun a H => ?_
      refine wpList_nil ?_
      refine n_then ⟨⟨k + 1, I, A3, c3, H.pick [1, 2, 4, 5, 7, 17, 18, 19], by omega, by rw [ids_skip HY.out hc, hI.out], hids, hown, k0, k1, k2, hDs, hall⟩, ?_⟩
      rw [H.ev (j := 19) rfl, H0.ev (j := 19) rfl]
      simp only [intOf]
      omega
    · skip
      refine wp_seq ?_
      refine wp_region_lit ?_
      refine wl_v _ (r_lt Try.underlying3 (H.ev rfl) (H.ev rfl) (dec_t (by omega))) ?_; refine kl H rfl fun a H => ?_
      refine wpList_nil ?_
      refine c_next ?_
      refine wp_seq ?_
      refine c_cond_t H rfl ?_
      refine wp_skip ?_
      refine c_next ?_
      refine wp_seq ?_
      refine wp_block ?_
      refine wp_seq ?_
      refine wp_region_lit ?_
      refine wl_v _ (r_idx (j := k) (q := 0 + k * 2) Try.underlying22 s29 (H.ev rfl) (H.ev rfl) (by omega) rfl) ?_; refine kl H rfl fun a H => ?_
      refine wl_v _ (r_row (cs := [.int .i64 y.1, .int .i64 y.2]) (H.ev rfl) (own_range encM_len hown HY.out) (by kernel_rfl) s29 rfl) ?_; refine kl H rfl fun a H => ?_
      refine op_new 29 9 (.tmp 22) #[.int .i64 y.1, .int .i64 y.2] _ z29 s29 rfl (ints_one [y.1, y.2]) (fun p => (H.put 9 p rfl).ev rfl) (fun p => (H.put 9 p rfl).ev rfl) fun w4 b4 hge hb k4 => ?_; have g4 := Nat.le_trans hall.size hge; have d0_4 : b0 < b4 := Nat.lt_of_lt_of_le k0.lt hge; have d1_4 : b1 < b4 := Nat.lt_of_lt_of_le k1.lt hge; have d2_4 : b2 < b4 := Nat.lt_of_lt_of_le k2.lt hge; have hDn4 := Nat.le_trans hDs hge; replace k0 := Block.ups k0 hb; replace k1 := Block.ups k1 hb; replace k2 := Block.ups k2 hb; replace hown := ROwn.up hown hb; replace hids := own_ups hids hb; replace hDs := le_up hDs hb; replace hall := hall.trans (hb.mono hall.size); clear hb; clear hge; refine kl H rfl fun a H => ?_
      refine wpList_nil ?_
      refine c_next ?_
      refine wp_seq ?_
      refine wp_region_lit ?_
      refine wl_v _ (r_move (H.ev rfl)) ?_; refine kl H rfl fun a H => ?_
      refine wl_v _ (r_fld (q := 0) fld29_0 (H.ev rfl) rfl) ?_; refine kl H rfl fun a H => ?_
      refine wl_v _ (r_ld Try.underlying3 rfl (H.ev rfl) ((Block.cell k4 0).trans rfl)) ?_; refine kl H rfl fun a H => ?_
      refine wl_call _ _ _ (containsI_any _ _ R y.1 (IRow.up hR.out hall) hRn) (r_call2 cf15 (H.ev rfl) (H.ev rfl)) ?_; rintro e w9 ⟨rfl, hb⟩; refine ⟨_, rfl, ?_⟩; rw [hc]; replace k0 := Block.ups k0 hb; replace k1 := Block.ups k1 hb; replace k2 := Block.ups k2 hb; replace hown := ROwn.up hown hb; replace hids := own_ups hids hb; replace hDs := le_up hDs hb; replace k4 := Block.ups k4 hb; replace hall := hall.trans (hb.mono hall.size); clear hb; refine kl H rfl fun a H => ?_
      refine wpList_nil ?_
      refine c_next ?_
      refine c_cond_t H rfl ?_
      refine wp_region_lit ?_
      refine wl_v _ (r_move (H.ev rfl)) ?_; refine kl H rfl fun a H => ?_
      refine wl_v _ (r_fld (q := 0) fld29_0 (H.ev rfl) rfl) ?_; refine kl H rfl fun a H => ?_
      refine wl_v _ (r_ld Try.underlying3 rfl (H.ev rfl) ((Block.cell k4 0).trans rfl)) ?_; refine kl H rfl fun a H => ?_
      refine op_litv 25 1 #[(0, .int .i64 y.1)] 3 #[.int .i64 y.1] (by simp [evc, H.ev (j := 29) rfl]) (fun w => by kernel_rfl) fun w5 b5 hge hb k5 => ?_; have g5 := Nat.le_trans hall.size hge; have d0_5 : b0 < b5 := Nat.lt_of_lt_of_le k0.lt hge; have d1_5 : b1 < b5 := Nat.lt_of_lt_of_le k1.lt hge; have d2_5 : b2 < b5 := Nat.lt_of_lt_of_le k2.lt hge; have d4_5 : b4 < b5 := Nat.lt_of_lt_of_le k4.lt hge; have hDn5 := Nat.le_trans hDs hge; replace k0 := Block.ups k0 hb; replace k1 := Block.ups k1 hb; replace k2 := Block.ups k2 hb; replace hown := ROwn.up hown hb; replace hids := own_ups hids hb; replace hDs := le_up hDs hb; replace k4 := Block.ups k4 hb; replace hall := hall.trans (hb.mono hall.size); clear hb; clear hge; refine kl H rfl fun a H => ?_
      refine op_append 25 3 (.tmp 27) (.tmp 30) D (.int .i64 0) 1 8 _ _ _ (some ⟨b5, 0, none⟩) 1 1 [.int .i64 y.1] (H.ev rfl) (H.ev rfl) Try.underlying25 i3 rfl (by omega) hids rfl (Block.holds k5) (one_list y.1) (by unfold maxLen; omega) (by omega) hDs fun o2 w9 hown2 hg9 hv9 hb2 => ?_; have hids9 := ids_app hown2; replace k0 := Block.up k0 hb2 hD0; replace k1 := Block.up k1 hb2 hD1; replace k2 := Block.up k2 hb2 hD2; replace hown := ROwn.upD hown hqD hb2; replace hall := hall.trans (hb2.mono hDW); replace hDs := le_up hDs hb2; clear hids hown2 hg9 hv9 hb2; have hids := hids9; clear hids9; obtain ⟨A4, c4, rfl⟩ := own_sliceI hids; refine kl H rfl fun a H => ?_
      refine wl_v _ (r_assign (H.ev rfl)) ?_; refine kl H rfl fun a H => ?_
      refine wpList_nil ?_
      refine n_block ?_
      refine c_next ?_
      refine wp_region_lit ?_
      refine wl_v _ (r_add (q := ((k + 1 : Nat) : Int)) Try.underlying3 (H.ev rfl) evc (by omega) (by omega)) ?_; refine kl H rfl fun a H => ?_
      refine wl_v _ (r_move (H.ev rfl)) ?_; refine kl H rfl fun a H => ?_
      refine wpList_nil ?_
      refine n_then ⟨⟨k + 1, I ++ [y.1], A4, c4, H.pick [1, 2, 4, 5, 7, 17, 18, 19], by omega, by rw [ids_take HY.out hc, hI.out], hids, hown, k0, k1, k2, hDs, hall⟩, ?_⟩
      rw [H.ev (j := 19) rfl, H0.ev (j := 19) rfl]
      simp only [intOf]
      omega
  · skip
    obtain rfl : k = L.length := by omega
    have hI2 : idsF L R = I := by have := hI.out; rwa [List.take_length] at this
    replace hI := Lib.hid hI2
    clear hI2 hIl
    have hIl : I.length ≤ L.length := by have := ids_len (R := R) (Nat.le_refl L.length); rw [List.take_length, hI.out] at this; exact this
    refine wp_seq ?_
    refine wp_region_lit ?_
    refine wl_v _ (r_lt Try.underlying3 (H.ev rfl) (H.ev rfl) (dec_f (by omega))) ?_; refine kl H rfl fun a H => ?_
    refine wpList_nil ?_
    refine c_next ?_
    refine wp_seq ?_
    refine c_cond_f H rfl ?_
    refine wp_exit ?_
    refine e_then ?_
    refine e_then ?_
    refine e_here ?_
    refine c_next ?_
    refine wp_seq ?_
    replace H := H.pick [2, 4, 5, 7]
    by_cases hne : I ≠ []
    · skip
      have hLp : 0 < L.length := by have := List.length_pos_iff.2 hne; omega
      obtain ⟨g, hA⟩ := own_addr hown hLp
      subst hA
      have hgD := hqD g rfl
      refine wp_region_lit ?_
      refine wl_v _ (r_move (H.ev rfl)) ?_; refine kl H rfl fun a H => ?_
      refine wl_v _ (r_fld (q := 1) fld24_1 (H.ev rfl) rfl) ?_; refine kl H rfl fun a H => ?_
      refine wl_v _ (r_ld Try.underlying3 rfl (H.ev rfl) ((Block.cell k0 1).trans rfl)) ?_; refine kl H rfl fun a H => ?_
      refine wl_call _ _ _ (turn_any _ D _ I t hids hDs (by omega) ht (fun x hx => ids_max (R := R) hw.out (by rw [hI.out]; exact hx))) (r_call2 cf16 (H.ev rfl) (H.ev rfl)) ?_; rintro e w9 ⟨rfl, hb⟩; refine ⟨_, rfl, ?_⟩; rw [dec_t hne]; have hb2 := hb; clear hb; replace k0 := Block.up k0 hb2 hD0; replace k1 := Block.up k1 hb2 hD1; replace k2 := Block.up k2 hb2 hD2; replace hown := ROwn.upD hown hqD hb2; replace hall := hall.trans (hb2.mono hDW); replace hDs := le_up hDs hb2; clear hids hb2; refine kl H rfl fun a H => ?_
      refine wl_v _ (r_move (H.ev rfl)) ?_; refine kl H rfl fun a H => ?_
      refine wl_v _ (r_extract (v := .int .i64 (turnF I t)) (H.ev rfl) rfl) ?_; refine kl H rfl fun a H => ?_
      refine wl_v _ (r_extract (v := .bool true) (H.ev rfl) rfl) ?_; refine kl H rfl fun a H => ?_
      refine op_alloc1 3 (.int .i64 0) z3 rfl fun w6 b6 hge hb k6 => ?_; have g6 := Nat.le_trans hall.size hge; have d0_6 : b0 < b6 := Nat.lt_of_lt_of_le k0.lt hge; have d1_6 : b1 < b6 := Nat.lt_of_lt_of_le k1.lt hge; have d2_6 : b2 < b6 := Nat.lt_of_lt_of_le k2.lt hge; have hDn6 := Nat.le_trans hDs hge; replace k0 := Block.ups k0 hb; replace k1 := Block.ups k1 hb; replace k2 := Block.ups k2 hb; replace hown := ROwn.up hown hb; replace hDs := le_up hDs hb; replace hall := hall.trans (hb.mono hall.size); clear hb; clear hge; refine kl H rfl fun a H => ?_
      refine op_store1 3 (.tmp 10) (.tmp 38) b6 0 3 (.int .i64 (turnF I t)) _ (H.ev rfl) (H.ev rfl) k6 s3 (by simp [Value.cells]) (ints_one [(turnF I t)]) fun w' hb ho kq => ?_; clear k6; have k6 : Block _ b6 3 #[.int .i64 (turnF I t)] := kq; clear kq; replace k0 := block_same k0 (ho _ (by omega)); replace k1 := block_same k1 (ho _ (by omega)); replace k2 := block_same k2 (ho _ (by omega)); replace hown := ROwn.keep hown (fun q hq => ho _ (fun e => by have := (hown.lt hq).1; have := hqD q hq; omega)); replace hDs := le_up hDs (hb 0 (Nat.zero_le _)); replace hall := hall.trans (hb _ g6); clear hb ho; refine kl0 H fun a H => ?_
      refine wl_v _ (r_assign (H.ev rfl)) ?_; refine kl H rfl fun a H => ?_
      refine wpList_nil ?_
      refine c_next ?_
      refine wp_seq ?_
      refine wp_seq ?_
      refine wp_region_lit ?_
      refine wl_v _ (r_move (H.ev rfl)) ?_; refine kl H rfl fun a H => ?_
      refine wl_v _ (r_not (H.ev rfl) rfl) ?_; refine kl H rfl fun a H => ?_
      refine wpList_nil ?_
      refine c_next ?_
      refine c_cond_f H rfl ?_
      refine wp_skip ?_
      refine c_next ?_
      refine wp_seq ?_
      refine wp_region_lit ?_
      refine wl_v _ (r_fld (q := 0) fld24_0 (H.ev rfl) rfl) ?_; refine kl H rfl fun a H => ?_
      refine wl_v _ (r_ld Try.underlying22 rfl (H.ev rfl) ((Block.cell k0 0).trans rfl)) ?_; refine kl H rfl fun a H => ?_
      refine wl_v (.func (.func 18) #[] #[.pointer (some ⟨b6, 0, none⟩)]) (r_mkfn1 (H.ev rfl)) ?_; refine kl H rfl fun a H => ?_
      refine wl_call _ _ _ (indexf_any _ _ _ L (fun y => decide (y.1 = turnF I t)) 18 #[.pointer (some ⟨b6, 0, none⟩)] cf18 (pf18 ((Block.cell k6 0).trans rfl)) (Below.refl _ _) (MOwn.row hown) (by omega)) (r_call2 cf17 (H.ev rfl) (H.ev rfl)) ?_; rintro e w9 ⟨⟨kq, rfl, hfst⟩, hb⟩; refine ⟨_, rfl, ?_⟩; replace k0 := Block.ups k0 hb; replace k1 := Block.ups k1 hb; replace k2 := Block.ups k2 hb; replace hown := ROwn.up hown hb; replace hDs := le_up hDs hb; replace k6 := Block.ups k6 hb; replace hall := hall.trans (hb.mono hall.size); clear hb; refine kl H rfl fun a H => ?_
      refine wl_v _ (r_assign (H.ev rfl)) ?_; refine kl H rfl fun a H => ?_
      refine wpList_nil ?_
      refine c_next ?_
      refine wp_seq ?_
      rcases hfst with ⟨j, y, rfl, hy, hpy, hno⟩ | ⟨rfl, hno⟩
      · skip
        have hjl := (List.getElem?_eq_some_iff.1 hy).1
        have HY := Lib.hid hy
        have HF := Lib.hid (first_at hy hpy hno)
        clear hy hpy hno
        refine wp_region_lit ?_
        refine wl_v _ (r_fld (q := 0) fld24_0 (H.ev rfl) rfl) ?_; refine kl H rfl fun a H => ?_
        refine wl_v _ (r_ld Try.underlying22 rfl (H.ev rfl) ((Block.cell k0 0).trans rfl)) ?_; refine kl H rfl fun a H => ?_
        refine wl_v _ (r_move (H.ev rfl)) ?_; refine kl H rfl fun a H => ?_
        refine wl_v _ (r_idx (j := j) (q := 0 + j * 2) Try.underlying22 s29 (H.ev rfl) (H.ev rfl) (by omega) rfl) ?_; refine kl H rfl fun a H => ?_
        refine wl_v _ (r_row (cs := [.int .i64 y.1, .int .i64 y.2]) (H.ev rfl) (own_range encM_len hown HY.out) (by kernel_rfl) s29 rfl) ?_; refine kl H rfl fun a H => ?_
        refine op_new 29 13 (.tmp 52) #[.int .i64 y.1, .int .i64 y.2] _ z29 s29 rfl (ints_one [y.1, y.2]) (fun p => (H.put 13 p rfl).ev rfl) (fun p => (H.put 13 p rfl).ev rfl) fun w7 b7 hge hb k7 => ?_; have g7 := Nat.le_trans hall.size hge; have d0_7 : b0 < b7 := Nat.lt_of_lt_of_le k0.lt hge; have d1_7 : b1 < b7 := Nat.lt_of_lt_of_le k1.lt hge; have d2_7 : b2 < b7 := Nat.lt_of_lt_of_le k2.lt hge; have d6_7 : b6 < b7 := Nat.lt_of_lt_of_le k6.lt hge; have hDn7 := Nat.le_trans hDs hge; replace k0 := Block.ups k0 hb; replace k1 := Block.ups k1 hb; replace k2 := Block.ups k2 hb; replace hown := ROwn.up hown hb; replace hDs := le_up hDs hb; replace k6 := Block.ups k6 hb; replace hall := hall.trans (hb.mono hall.size); clear hb; clear hge; refine kl H rfl fun a H => ?_
        refine wpList_nil ?_
        refine c_next ?_
        refine wp_seq ?_
        have hS : SNx b6 (turnF I t) _ := k6
        refine region_tree (SNx b6 (turnF I t)) 11 (.fl 0 (.fl 2 (.fl 3 (.fl 4 (.fl 6 (.one 1 (.one 5 (.fl 7 (.one 8 (.fl 9 (.one 10 .done))))))))))) (by kernel_rfl) (by kernel_rfl) rfl (by kernel_rfl) hS ?_
        replace k0 : Block (World.drew _) b0 24 _ := k0
        replace k1 : Block (World.drew _) b1 24 _ := k1
        replace k2 : Block (World.drew _) b2 29 _ := k2
        replace k7 : Block (World.drew _) b7 29 _ := k7
        replace hown : MOwn (World.drew _) B _ L := ROwn.keep hown (fun _ _ => rfl)
        replace hall := hall.drew
        clear k6 hDs
        refine pt_f0 _ rfl (fun w' hS' => r_fld (q := 0) fld24_0 (H.ev rfl) rfl) ?_; refine kt H rfl fun a H => ?_
        refine pt_f0 _ rfl (fun w' hS' => r_move (H.ev rfl)) ?_; refine kt H rfl fun a H => ?_
        refine pt_f0 _ rfl (fun w' hS' => r_move (H.ev rfl)) ?_; refine kt H rfl fun a H => ?_
        refine pt_f0 _ rfl (fun w' hS' => r_add (q := ((j + 1 : Nat) : Int)) Try.underlying3 (H.ev rfl) evc (by omega) (by omega)) ?_; refine kt H rfl fun a H => ?_
        refine pt_f0 _ rfl (fun w' hS' => r_ld Try.underlying3 rfl (H.ev rfl) ((Block.cell hS' 0).trans rfl)) ?_; refine kt H rfl fun a H => ?_
        refine pt_one (fun K hK => ?_)
        refine st_a0 rfl ?_; refine wpo_w (.slice (some ⟨g, 0, none⟩) L.length c2) _ (r_ld Try.underlying22 rfl (H.ev rfl) ((Block.cell k0 0).trans rfl)) ?_; refine hK _ _ ⟨(fun _ => hS), ?_⟩; clear hK; clear K; refine kt H rfl fun a H => ?_
        refine pt_one (fun K hK => ?_)
        refine st_a0 rfl ?_; refine wpo_call _ _ _ (delM_any _ B g c2 L hown j hjl hn) (r_call3 cf19 (H.ev rfl) (H.ev rfl) (H.ev rfl)) ?_; rintro e w9 ⟨⟨M, A5, c5, hM, rfl, hown5⟩, hb, hoth⟩; refine ⟨_, rfl, ?_⟩; replace k0 := Block.up k0 hb hB0; replace k1 := Block.up k1 hb hB1; replace k2 := Block.up k2 hb hB2; replace k7 := block_same k7 (hoth _ (by omega)); replace hS : SNx b6 (turnF I t) w9 := block_same hS (hoth _ (by omega)); replace hall := hall.trans (hb.mono hBW); replace hM := Lib.hid hM; clear hb hoth hown; have hown := hown5; clear hown5; refine hK _ _ ⟨(fun _ => hS), ?_⟩; clear hK; clear K; refine kt H rfl fun a H => ?_
        refine pt_f0 _ rfl (fun w' hS' => r_fld (q := 0) fld24_0 (H.ev rfl) rfl) ?_; refine kt H rfl fun a H => ?_
        refine pt_one (fun K hK => ?_)
        refine st_a0 rfl ?_; refine wpo_store1 22 (.tmp 60) (.tmp 58) b0 0 24 (.slice A5 M.length c5) _ (H.ev rfl) (H.ev rfl) k0 s22 (by simp [Value.cells]) (by simp [Value.cells, Value.oneCell']) fun w7 hb7 ho7 kq => ?_; clear k0; have k0 : Block _ b0 24 #[.slice A5 M.length c5, .int .i64 t] := kq; replace k1 := block_same k1 (ho7 _ (by omega)); replace k2 := block_same k2 (ho7 _ (by omega)); replace k7 := block_same k7 (ho7 _ (by omega)); replace hS : SNx b6 (turnF I t) w7 := block_same hS (ho7 _ (by omega)); replace hown := ROwn.keep hown (fun q hq => ho7 _ (fun e => by have := (hown.lt hq).1; omega)); replace hall := hall.trans (hb7 _ g0); clear hb7 ho7 kq; refine hK _ _ ⟨(fun _ => hS), ?_⟩; clear hK; clear K; skip
        refine pt_f0 _ rfl (fun w' hS' => r_fld (q := 1) fld24_1 (H.ev rfl) rfl) ?_; refine kt H rfl fun a H => ?_
        refine pt_one (fun K hK => ?_)
        refine st_a0 rfl ?_; refine wpo_store1 3 (.tmp 61) (.tmp 59) b0 1 24 (.int .i64 (turnF I t)) _ (H.ev rfl) (H.ev rfl) k0 s3 (by simp [Value.cells]) (by simp [Value.cells, Value.oneCell']) fun w7 hb7 ho7 kq => ?_; clear k0; have k0 : Block _ b0 24 #[.slice A5 M.length c5, .int .i64 (turnF I t)] := kq; replace k1 := block_same k1 (ho7 _ (by omega)); replace k2 := block_same k2 (ho7 _ (by omega)); replace k7 := block_same k7 (ho7 _ (by omega)); replace hS : SNx b6 (turnF I t) w7 := block_same hS (ho7 _ (by omega)); replace hown := ROwn.keep hown (fun q hq => ho7 _ (fun e => by have := (hown.lt hq).1; omega)); replace hall := hall.trans (hb7 _ g0); clear hb7 ho7 kq; refine hK _ _ ⟨(fun _ => hS), ?_⟩; clear hK; clear K; skip
        refine pt_done (NoPanic.normal ?_)
        refine c_next ?_
        refine wp_seq ?_
        have hS : SNy w b0 b7 (.slice A5 M.length c5) (turnF I t) y _ := ⟨hall.drew, k0, k7⟩
        refine region_pi (SNy w b0 b7 (.slice A5 M.length c5) (turnF I t) y) [(0, true), (1, true), (2, false), (3, false), (4, true)] (by kernel_rfl) (by kernel_rfl) rfl (by kernel_rfl) hS ?_
        replace k1 : Block (World.drew _) b1 24 _ := k1
        replace k2 : Block (World.drew _) b2 29 _ := k2
        replace hown : MOwn (World.drew _) B _ M := ROwn.keep hown (fun _ _ => rfl)
        clear hall k0 k7
        refine pi_f0 _ rfl (fun w' hS' => r_row (cs := [.slice A5 M.length c5, .int .i64 (turnF I t)]) (H.ev rfl) (block_range (hS'.2.1)) (by kernel_rfl) s24 rfl) ?_; refine kp H rfl fun a H => ?_
        refine pi_f0 _ rfl (fun w' hS' => r_row (cs := [.int .i64 y.1, .int .i64 y.2]) (H.ev rfl) (block_range (hS'.2.2)) (by kernel_rfl) s29 rfl) ?_; refine kp H rfl fun a H => ?_
        refine pi_a0 rfl (fun K hK => ?_); refine wpo_store1 24 (.tmp 4) (.tmp 62) b1 0 24 (.agg #[.slice A5 M.length c5, .int .i64 (turnF I t)]) _ (H.ev rfl) (H.ev rfl) k1 s24 (by simp [Value.cells]) (by simp [Value.cells, Value.oneCell']) fun w7 hb7 ho7 kq => ?_; clear k1; have k1 : Block _ b1 24 #[.slice A5 M.length c5, .int .i64 (turnF I t)] := kq; replace k2 := block_same k2 (ho7 _ (by omega)); replace hS : SNy w b0 b7 _ _ y w7 := ⟨hS.1.trans (hb7 _ g1), block_same hS.2.1 (ho7 _ (by omega)), block_same hS.2.2 (ho7 _ (by omega))⟩; replace hown := ROwn.keep hown (fun q hq => ho7 _ (fun e => by have := (hown.lt hq).1; omega)); clear hb7 ho7 kq; refine hK _ _ ⟨hS, ?_⟩; clear hK; clear K; skip
        refine pi_a0 rfl (fun K hK => ?_); refine wpo_store1 29 (.tmp 5) (.tmp 63) b2 0 29 (.agg #[.int .i64 y.1, .int .i64 y.2]) _ (H.ev rfl) (H.ev rfl) k2 s29 (by simp [Value.cells]) (by simp [Value.cells, Value.oneCell']) fun w7 hb7 ho7 kq => ?_; clear k2; have k2 : Block _ b2 29 #[.int .i64 y.1, .int .i64 y.2] := kq; replace k1 := block_same k1 (ho7 _ (by omega)); replace hS : SNy w b0 b7 _ _ y w7 := ⟨hS.1.trans (hb7 _ g2), block_same hS.2.1 (ho7 _ (by omega)), block_same hS.2.2 (ho7 _ (by omega))⟩; replace hown := ROwn.keep hown (fun q hq => ho7 _ (fun e => by have := (hown.lt hq).1; omega)); clear hb7 ho7 kq; refine hK _ _ ⟨hS, ?_⟩; clear hK; clear K; skip
        refine pi_f0 _ rfl (fun w' hS' => r_assign evc) ?_; refine kp H rfl fun a H => ?_
        refine pi_nil (NoPanic.normal ?_)
        have hall := hS.1
        clear hS
        refine c_next ?_
        refine wp_ret ?_
        exact k_ret_cells H rfl rfl rfl rfl k1 k2 Try.underlying24 rfl s24 Try.underlying29 rfl s29 ⟨⟨M, turnF I t, y, true, _, _, by rw [next_yes hI.out hne HF.out, hM.out], rfl, ROwn.base hown hBW⟩, hall⟩
      · skip
        exact absurd hno (some_turn hI.out hne)
    · skip
      refine wp_region_lit ?_
      refine wl_v _ (r_move (H.ev rfl)) ?_; refine kl H rfl fun a H => ?_
      refine wl_v _ (r_fld (q := 1) fld24_1 (H.ev rfl) rfl) ?_; refine kl H rfl fun a H => ?_
      refine wl_v _ (r_ld Try.underlying3 rfl (H.ev rfl) ((Block.cell k0 1).trans rfl)) ?_; refine kl H rfl fun a H => ?_
      refine wl_call _ _ _ (turn_any _ D _ I t hids hDs (by omega) ht (fun x hx => ids_max (R := R) hw.out (by rw [hI.out]; exact hx))) (r_call2 cf16 (H.ev rfl) (H.ev rfl)) ?_; rintro e w9 ⟨rfl, hb⟩; refine ⟨_, rfl, ?_⟩; rw [dec_f hne]; have hb2 := hb; clear hb; replace k0 := Block.up k0 hb2 hD0; replace k1 := Block.up k1 hb2 hD1; replace k2 := Block.up k2 hb2 hD2; replace hown := ROwn.upD hown hqD hb2; replace hall := hall.trans (hb2.mono hDW); replace hDs := le_up hDs hb2; clear hids hb2; refine kl H rfl fun a H => ?_
      refine wl_v _ (r_move (H.ev rfl)) ?_; refine kl H rfl fun a H => ?_
      refine wl_v _ (r_extract (v := .int .i64 (turnF I t)) (H.ev rfl) rfl) ?_; refine kl H rfl fun a H => ?_
      refine wl_v _ (r_extract (v := .bool false) (H.ev rfl) rfl) ?_; refine kl H rfl fun a H => ?_
      refine op_alloc1 3 (.int .i64 0) z3 rfl fun w8 b8 hge hb k8 => ?_; have g8 := Nat.le_trans hall.size hge; have d0_8 : b0 < b8 := Nat.lt_of_lt_of_le k0.lt hge; have d1_8 : b1 < b8 := Nat.lt_of_lt_of_le k1.lt hge; have d2_8 : b2 < b8 := Nat.lt_of_lt_of_le k2.lt hge; have hDn8 := Nat.le_trans hDs hge; replace k0 := Block.ups k0 hb; replace k1 := Block.ups k1 hb; replace k2 := Block.ups k2 hb; replace hown := ROwn.up hown hb; replace hDs := le_up hDs hb; replace hall := hall.trans (hb.mono hall.size); clear hb; clear hge; refine kl H rfl fun a H => ?_
      refine op_store1 3 (.tmp 10) (.tmp 38) b8 0 3 (.int .i64 (turnF I t)) _ (H.ev rfl) (H.ev rfl) k8 s3 (by simp [Value.cells]) (ints_one [(turnF I t)]) fun w' hb ho kq => ?_; clear k8; have k8 : Block _ b8 3 #[.int .i64 (turnF I t)] := kq; clear kq; replace k0 := block_same k0 (ho _ (by omega)); replace k1 := block_same k1 (ho _ (by omega)); replace k2 := block_same k2 (ho _ (by omega)); replace hown := ROwn.keep hown (fun q hq => ho _ (fun e => by have := (hown.lt hq).1; have := hqD q hq; omega)); replace hDs := le_up hDs (hb 0 (Nat.zero_le _)); replace hall := hall.trans (hb _ g8); clear hb ho; refine kl0 H fun a H => ?_
      refine wl_v _ (r_assign (H.ev rfl)) ?_; refine kl H rfl fun a H => ?_
      refine wpList_nil ?_
      refine c_next ?_
      refine wp_seq ?_
      refine wp_seq ?_
      refine wp_region_lit ?_
      refine wl_v _ (r_move (H.ev rfl)) ?_; refine kl H rfl fun a H => ?_
      refine wl_v _ (r_not (H.ev rfl) rfl) ?_; refine kl H rfl fun a H => ?_
      refine wpList_nil ?_
      refine c_next ?_
      refine c_cond_t H rfl ?_
      refine wp_seq ?_
      refine wp_region_lit ?_
      refine wl_v _ (r_row (cs := [.slice A2 L.length c2, .int .i64 t]) (H.ev rfl) (block_range k0) (by kernel_rfl) s24 rfl) ?_; refine kl H rfl fun a H => ?_
      refine wl_v _ (r_build #[] (.agg #[.int .i64 0, .int .i64 0]) (by simp [evc]) (fun w => by kernel_rfl)) ?_; refine kl H rfl fun a H => ?_
      refine op_store1 24 (.tmp 4) (.tmp 42) b1 0 24 (.agg #[.slice A2 L.length c2, .int .i64 t]) _ (H.ev rfl) (H.ev rfl) k1 s24 (by simp [Value.cells]) (by simp [Value.cells, Value.oneCell']) fun w' hb ho kq => ?_; clear k1; have k1 : Block _ b1 24 #[.slice A2 L.length c2, .int .i64 t] := kq; clear kq; replace k0 := block_same k0 (ho _ (by omega)); replace k2 := block_same k2 (ho _ (by omega)); replace hown := ROwn.keep hown (fun q hq => ho _ (fun e => by have := (hown.lt hq).1; have := hqD q hq; omega)); replace hDs := le_up hDs (hb 0 (Nat.zero_le _)); replace k8 := block_same k8 (ho _ (by omega)); replace hall := hall.trans (hb _ g1); clear hb ho; refine kl0 H fun a H => ?_
      refine op_store1 29 (.tmp 5) (.tmp 43) b2 0 29 (.agg #[.int .i64 0, .int .i64 0]) _ (H.ev rfl) (H.ev rfl) k2 s29 (by simp [Value.cells]) (ints_one [0, 0]) fun w' hb ho kq => ?_; clear k2; have k2 : Block _ b2 29 #[.int .i64 0, .int .i64 0] := kq; clear kq; replace k0 := block_same k0 (ho _ (by omega)); replace k1 := block_same k1 (ho _ (by omega)); replace hown := ROwn.keep hown (fun q hq => ho _ (fun e => by have := (hown.lt hq).1; have := hqD q hq; omega)); replace hDs := le_up hDs (hb 0 (Nat.zero_le _)); replace k8 := block_same k8 (ho _ (by omega)); replace hall := hall.trans (hb _ g2); clear hb ho; refine kl0 H fun a H => ?_
      refine wl_v _ (r_assign evc) ?_; refine kl H rfl fun a H => ?_
      refine wpList_nil ?_
      refine c_next ?_
      refine wp_ret ?_
      refine r_then ?_
      exact k_ret_cells H rfl rfl rfl rfl k1 k2 Try.underlying24 rfl s24 Try.underlying29 rfl s29 ⟨⟨L, t, (0, 0), false, _, _, next_no (by rw [hI.out]; exact Classical.not_not.1 hne), rfl, ROwn.base hown hBW⟩, hall⟩
end Go.Proofs.Ytpegfbdepgmbjaa
