/- Roster: Right. -/
import Derived.Test.YtfehhenbdiageaaUe
import Derived.Maps.Own
import Derived.Maps.Views
import Derived.Maps.Keyed
namespace Go.Proofs.Ytfehhenbdiageaa
open Go.RowKit Go.Maps
set_option linter.unusedVariables false
set_option linter.unusedSimpArgs false

theorem intKeyed : Keyed Try.prog 3 := int_keyed Try.underlying3
theorem wf_nat {m : Nat} (h : m ≤ maxLen) : (Lit.int .i64 (m : Nat)).wf = true := by
  unfold maxLen at h
  have h1 : IntKind.i64.min = -9223372036854775808 := by decide
  have h2 : IntKind.i64.max = 9223372036854775807 := by decide
  simp only [Lit.wf, h1, h2, Bool.and_eq_true, decide_eq_true_eq]
  omega
/-- block bm is a map from ints to their counts -/
def Seen (w : World) (bm n : Nat) (cnt : Int → Nat) : Prop :=
  ∃ D : DataW Unit, IsMap D ∧ w.ownsMap Try.prog 3 (plainElem Try.prog 3) bm n D ∧ ∀ (x : Int), (Lit.int .i64 x).wf = true → D.atKey (.int .i64 x) (.lit (.int .i64 0)) = .lit (.int .i64 (cnt x : Nat))
theorem Seen.made (w : World) : Seen (w.alloc (.map #[] 0)) w.heap.size 0 (fun _ => 0) :=
  ⟨.map [], isMap_empty, World.ownsMap_made _ _ _ _, fun x _ => by simp [DataW.atKey]⟩
theorem seen_eq {w : World} {bm n : Nat} {c d : Int → Nat} (h : Seen w bm n c) (e : ∀ x, c x = d x) : Seen w bm n d := by
  have : c = d := funext e
  rw [← this]; exact h
theorem Seen.lt {w : World} {bm n : Nat} {cnt : Int → Nat} (h : Seen w bm n cnt) : bm < w.heap.size := by
  obtain ⟨D, _, h, _⟩ := h
  exact h.lt
theorem Seen.kept {w w' : World} {bm n : Nat} {cnt : Int → Nat} {row : Option Nat} (h : Seen w bm n cnt) (hg : w.grownBy w' row) (hne : some bm ≠ row) : Seen w' bm n cnt := by
  obtain ⟨D, hD, h, hat⟩ := h
  exact ⟨D, hD, h.kept hg hne, hat⟩
theorem Seen.far {w w' : World} {bm n g : Nat} {cnt : Int → Nat} (h : Seen w bm n cnt) (hb : ∀ B, B ≤ g → Below B w w') (ho : ∀ g', g' ≠ g → w'.heap[g']? = w.heap[g']?) (hg : bm < g) : Seen w' bm n cnt :=
  h.kept (row := some g) ⟨(hb _ (Nat.le_refl _)).os, (hb _ (Nat.le_refl _)).tape, (hb _ (Nat.le_refl _)).output, (hb _ (Nat.le_refl _)).size, fun k hk hne => ho k (fun e => hne (by rw [e]))⟩ (by simp; omega)
theorem Seen.ups {w w' : World} {bm n : Nat} {cnt : Int → Nat} (h : Seen w bm n cnt) (hb : Below w.heap.size w w') : Seen w' bm n cnt :=
  h.kept (row := none) ⟨hb.os, hb.tape, hb.output, hb.size, fun k hk _ => hb.block k hk⟩ (by simp)
theorem zero3 (w : World) : (zeroValue 3).run Try.prog w = .ok (.int .i64 0) w := by kernel_rfl
theorem Seen.look {w : World} {bm n : Nat} {cnt : Int → Nat} (h : Seen w bm n cnt) (x : Int) (hx : (Lit.int .i64 x).wf = true) :
    (Instr.lookup 47 (.map (some bm)) (.int .i64 x) false).run Try.prog w = .ok (.int .i64 (cnt x : Nat)) w := by
  obtain ⟨D, hD, h, hat⟩ := h
  obtain ⟨v, ps, hrun, hv⟩ := h.lookup intKeyed Try.underlying47 (zero3 w) (plainElem_int (H := Unit) Try.underlying3 (by decide)) (keyOf_int_mk Try.underlying3 hx)
  rw [hat x hx] at hv
  rw [hrun]
  congr 1
  obtain ⟨a, rfl, hz⟩ := plainElem_int_inv Try.underlying3 hv
  have : (cnt x : Int) = a := by
    simp at hz
    first | exact hz.1.1 | exact hz.1 | exact hz
  rw [this]
theorem Seen.put {w : World} {bm n : Nat} {cnt : Int → Nat} (h : Seen w bm n cnt) (hn : n < maxLen) (x : Int) (m : Nat) (hx : (Lit.int .i64 x).wf = true) (hm : m ≤ maxLen) :
    ∃ w', (Instr.mapUpdate 47 (.map (some bm)) (.int .i64 x) (.int .i64 (m : Nat))).run Try.prog w = .ok () w' ∧ Seen w' bm (n + 1) (fun y => if y = x then m else cnt y) ∧ w.grownBy w' (some bm) := by
  obtain ⟨D, hD, h, hat⟩ := h
  have hk := keyOf_int_mk Try.underlying3 hx
  obtain ⟨w', hrun, h', hg⟩ := h.update intKeyed Try.underlying47 hn hk (plainElem_int (H := Unit) Try.underlying3 (wf_nat hm))
  refine ⟨w', hrun, ⟨_, hD.put _ _, h', fun y hy => ?_⟩, hg⟩
  by_cases e : y = x
  · subst e
    rw [atKey_put_same hD (intKeyed.key hk)]
    simp
  · have hne : Lit.int .i64 y ≠ Lit.int .i64 x := fun e2 => e (by injection e2)
    rw [atKey_put_other hne, hat y hy]
    simp [e]
section
variable {P : Program} {ops : Array Oper} {rest : List Oper} {d : Option Tmp} {tt : TypeId} {ps : String} {af : Array Edge} {gd : Option (Nat × Bool)} {a : Act} {w : World} {Q : Exit → Act → World → Prop}
theorem wl_k {op : Op} (w' : World) (hv : (execOp a.eval ⟨d, op, tt, ps, af, none⟩).run P w = .ok .skip w') (h : wpList P ops Q rest (a.put d undef) w') : wpList P ops Q (⟨d, op, tt, ps, af, none⟩ :: rest) a w :=
  wpList_plain rfl fun _ hK => by
    unfold Oper.wp
    rw [hv]
    exact hK _ _ h
theorem op_mm {op : Op} (hr : (execOp a.eval ⟨d, op, tt, ps, af, none⟩).run P w = .ok (.value (.map (some w.heap.size))) (w.alloc (.map #[] 0)))
    (h : ∀ w' bm, w.heap.size ≤ bm → Below w.heap.size w w' → Seen w' bm 0 (fun _ => 0) → wpList P ops Q rest (a.put d (.map (some bm))) w') : wpList P ops Q (⟨d, op, tt, ps, af, none⟩ :: rest) a w :=
  wl_w _ _ hr (h _ _ (Nat.le_refl _) ((Below.refl _ _).alloc (Nat.le_refl _) _) (Seen.made w))
theorem r_mm {t : TypeId} : (execOp a.eval ⟨d, .makeMap t none, tt, ps, af, gd⟩).run P w = .ok (.value (.map (some w.heap.size))) (w.alloc (.map #[] 0)) := by
  have hmm := @run_makeMap P t w
  unfold execOp
  simp [hmm, Sem.run_bind, Sem.run_pure, Result.andThen_ok]
theorem r_lookup {t : TypeId} {x y : Operand} {M K v : Value} {ok : Bool} (hx : a.eval x = M) (hy : a.eval y = K) (hr : (Instr.lookup t M K ok).run P w = .ok v w) : (execOp a.eval ⟨d, .lookup t x y ok, tt, ps, af, gd⟩).run P w = .ok (.value v) w := by
  subst hx hy
  unfold execOp
  simp [hr, Sem.run_bind, Sem.run_pure, Result.andThen_ok]
theorem r_mapup {t : TypeId} {x y z : Operand} {M K v : Value} {w' : World} (hx : a.eval x = M) (hy : a.eval y = K) (hz : a.eval z = v) (hr : (Instr.mapUpdate t M K v).run P w = .ok () w') : (execOp a.eval ⟨d, .mapUpdate t x y z, tt, ps, af, gd⟩).run P w = .ok .skip w' := by
  subst hx hy hz
  unfold execOp
  simp [hr, Sem.run_bind, Sem.run_pure, Result.andThen_ok]
end
theorem hlt_of {w : World} {bm n bx : Nat} {cnt : Int → Nat} (h : Seen w bm n cnt) (hb : w.heap.size ≤ bx) : bm < bx := Nat.lt_of_lt_of_le h.lt hb
theorem many_len {L : List Tm} {k : Nat} {x : Int} (h : k ≤ L.length) : manyF (L.take k) x ≤ k := Nat.le_trans List.countP_le_length (by rw [List.length_take]; omega)
theorem cnt_next {L : List Tm} {k m : Nat} {y : Tm} (hy : L[k]? = some y) (hm : manyF (L.take k) y.1 = m) (x : Int) : (if x = y.1 then m + 1 else manyF (L.take k) x) = manyF (L.take (k + 1)) x := by
  by_cases e : x = y.1
  · rw [if_pos e, e, many_yes hy rfl hm]
  · rw [if_neg e, many_no hy (fun e2 => e e2.symm) rfl]
theorem right_end {L : List Tm} (h : OkG (fun j y => manyF (L.take (j + 1)) y.1) L L.length) : rightF L = decide (L.length ≤ 64) := by
  by_cases e : L.length ≤ 64
  · rw [decide_eq_true e]; exact right_true h (fun j y _ => Nat.le_refl _) e
  · rw [decide_eq_false e]; exact right_long (by omega)
def SRp (W : World) (bm bx k : Nat) (L : List Tm) (y : Tm) (w : World) : Prop := Below W.heap.size W w ∧ Seen w bm (k + 1) (manyF (L.take (k + 1))) ∧ Block w bx 37 #[.int .i64 y.1, .int .i64 y.2.1, .int .i64 y.2.2]
theorem SRp.up {W w w' : World} {bm bx k : Nat} {L : List Tm} {y : Tm} (h : SRp W bm bx k L y w) (hb : Below w.heap.size w w') : SRp W bm bx k L y w' := ⟨h.1.trans (hb.mono h.1.size), h.2.1.ups hb, h.2.2.ups hb⟩
def RpI (W : World) (A : Option Addr) (c : Nat) (L : List Tm) (bm : Nat) (a : Act) (w : World) : Prop :=
  ∃ k : Nat, Kn a 47 [(0, .slice A L.length c), (3, .map (some bm)), (7, .slice A L.length c), (8, .int .i64 (L.length : Nat)), (9, .int .i64 (k : Nat))] ∧ k ≤ L.length ∧ OkG (fun j y => manyF (L.take (j + 1)) y.1) L k ∧ Seen w bm k (manyF (L.take k)) ∧ Below W.heap.size W w
set_option maxHeartbeats 4000000 in
theorem right_any (w : World) (v : Value) (L : List Tm) (h : TRow w v L) (hn : L.length ≤ 9223372036854775807) (hw : ∀ x ∈ L, (Lit.int .i64 x.1).wf = true) :
    Calls Try.prog 11 #[v] w fun e w' => e = .returned (.bool (rightF L)) ∧ Below w.heap.size w w' := by
  obtain ⟨A, c, rfl, h1, h2, h3, hh⟩ := h
  replace hh := Lib.hid hh
  have hall := Below.refl w.heap.size w
  replace hw := Lib.hid hw
  refine K_enter 47 Try.func11 rfl rfl fun a H => ?_
  replace H := H.pick [0]
  refine wp_seq ?_
  refine wp_region_lit ?_
  refine wl_v _ (r_assign evc) ?_; refine kl H rfl fun a H => ?_
  refine wpList_nil ?_
  refine c_next ?_
  refine wp_seq ?_
  refine wp_region_lit ?_
  refine op_mm r_mm fun w1 bm hbm hb hs => ?_; replace hall := hall.trans (hb.mono hall.size); clear hb; refine kl H rfl fun a H => ?_
  refine wl_v _ (r_assign (H.ev rfl)) ?_; refine kl H rfl fun a H => ?_
  refine wpList_nil ?_
  refine c_next ?_
  refine wp_seq ?_
  refine wp_seq ?_
  refine wp_region_lit ?_
  refine wl_v _ (r_move (H.ev rfl)) ?_; refine kl H rfl fun a H => ?_
  refine wl_v _ (r_len Try.underlying22 (H.ev rfl)) ?_; refine kl H rfl fun a H => ?_
  refine wl_v _ (r_move evc) ?_; refine kl H rfl fun a H => ?_
  refine wpList_nil ?_
  refine c_next ?_
  refine wp_block ?_
  refine wp_loop (RpI w A c L bm) (fun a _ => L.length - (intOf (a.eval (.tmp 9))).toNat) ⟨0, H.pick [0, 3, 7, 8, 9], by omega, fun j y hj => by omega, seen_eq hs (fun x => by simp [manyF]), hall⟩ ?_
  clear H hall hs
  rintro a w' ⟨k, H, hk, hok, hs, hall⟩
  have H0 := H
  by_cases hlt : k < L.length
  · skip
    obtain ⟨b, o, hA, hr⟩ := flat_some encT_len hh.out (by omega) hlt
    subst hA
    have hy : L[k]? = some L[k] := List.getElem?_eq_getElem hlt
    have HY := Lib.hid hy
    have HRG := Lib.hid hr
    generalize L[k] = y at *
    clear hy hr
    refine wp_seq ?_
    refine wp_region_lit ?_
    refine wl_v _ (r_lt Try.underlying3 (H.ev rfl) (H.ev rfl) (dec_t (by omega))) ?_; refine kl H rfl fun a H => ?_
    refine wpList_nil ?_
    refine c_next ?_
    refine wp_seq ?_
    refine c_cond_t H rfl ?_
    refine wp_skip ?_
    refine c_next ?_
    refine wp_seq ?_
    refine wp_block ?_
    refine wp_seq ?_
    have HX : Hid ((Lit.int .i64 y.1).wf = true) := Lib.hid (hw.out _ (List.mem_of_getElem? HY.out))
    obtain ⟨m, hm⟩ : ∃ m, manyF (L.take k) y.1 = m := ⟨_, rfl⟩
    have HM := Lib.hid hm
    have HM1 : Hid (manyF (L.take (k + 1)) y.1 = m + 1) := Lib.hid (many_yes HY.out rfl hm)
    have hmk : m ≤ k := by rw [← hm]; exact many_len hk
    clear hm
    refine wp_region_lit ?_
    refine wl_v _ (r_move (H.ev rfl)) ?_; refine kl H rfl fun a H => ?_
    refine wl_v _ (r_idx (j := k) (q := o + k * 3) Try.underlying22 s37 (H.ev rfl) (H.ev rfl) (by omega) rfl) ?_; refine kl H rfl fun a H => ?_
    refine wl_v _ (r_row (cs := [.int .i64 y.1, .int .i64 y.2.1, .int .i64 y.2.2]) (H.ev rfl) (range_ups HRG.out hall) (by kernel_rfl) s37 rfl) ?_; refine kl H rfl fun a H => ?_
    refine op_alloc 37 #[.int .i64 0, .int .i64 0, .int .i64 0] z37 fun w1 bx hge hb hk0 => ?_; have hne : bm < bx := hlt_of hs hge; have hbx := Nat.le_trans hall.size hge; replace hs := hs.ups hb; replace hall := hall.trans (hb.mono hall.size); clear hb hge; refine kl H rfl fun a H => ?_
    refine wl_v _ (r_assign (H.ev rfl)) ?_; refine kl H rfl fun a H => ?_
    refine op_store 37 (.tmp 5) (.tmp 13) bx 37 #[.int .i64 y.1, .int .i64 y.2.1, .int .i64 y.2.2] _ (H.ev rfl) (H.ev rfl) hk0 s37 rfl (ints_one [y.1, y.2.1, y.2.2]) fun w2 hb ho hk2 => ?_; replace hs := hs.far hb ho hne; replace hall := hall.trans (hb _ hbx); clear hb ho hk0; refine kl0 H fun a H => ?_
    refine wpList_nil ?_
    refine c_next ?_
    refine wp_seq ?_
    refine wp_region_lit ?_
    refine wl_v _ (r_move (H.ev rfl)) ?_; refine kl H rfl fun a H => ?_
    refine wl_v _ (r_fld (q := 0) fld37_0 (H.ev rfl) rfl) ?_; refine kl H rfl fun a H => ?_
    refine wl_v _ (r_ld Try.underlying3 rfl (H.ev rfl) ((Block.cell hk2 0).trans rfl)) ?_; refine kl H rfl fun a H => ?_
    refine wl_v (.int .i64 (m : Nat)) (r_lookup (H.ev rfl) (H.ev rfl) (by have q := hs.look y.1 HX.out; rw [HM.out] at q; exact q)) ?_; refine kl H rfl fun a H => ?_
    refine wl_v _ (r_add (q := ((m + 1 : Nat) : Int)) Try.underlying3 (H.ev rfl) evc (by omega) (by omega)) ?_; refine kl H rfl fun a H => ?_
    obtain ⟨w8, hrun8, hs8, hg8⟩ := hs.put (by unfold maxLen at h2; unfold maxLen; omega) y.1 (m + 1) HX.out (by unfold maxLen at h2; unfold maxLen; omega); refine wl_k w8 (r_mapup (H.ev rfl) (H.ev rfl) (H.ev rfl) hrun8) ?_; replace hk2 := block_same hk2 (hg8.block bx hk2.lt (by intro e; injection e with e; omega)); replace hall := hall.grown hg8 (by have := hs.lt; omega) (fun k' e => by injection e with e; omega); replace hs8 := seen_eq hs8 (cnt_next HY.out HM.out); clear hs hg8 hrun8; refine kl0 H fun a H => ?_
    refine wpList_nil ?_
    refine c_next ?_
    refine wp_seq ?_
    obtain ⟨ok, hok2⟩ : ∃ ok, okB y = ok := ⟨_, rfl⟩
    have HOKB := Lib.hid hok2
    clear hok2
    by_cases h0 : k = 0
    · skip
      cases ok
      · skip
        have hS : SRp w bm bx k L y _ := ⟨hall.drew, hs8, hk2⟩
        refine region_pi (SRp w bm bx k L y) [(0, true), (1, false), (2, true), (3, true), (4, true), (5, true), (6, true), (7, true), (8, true), (9, true), (10, true), (11, true), (12, true), (13, true), (14, true), (15, true), (16, true), (17, true), (18, true), (19, true), (20, false), (21, true), (22, true), (23, true)] (by kernel_rfl) (by kernel_rfl) rfl (by kernel_rfl) hS ?_
        clear hall hs8 hk2
        refine pi_f0 _ rfl (fun w' hS' => r_row (cs := [.int .i64 y.1, .int .i64 y.2.1, .int .i64 y.2.2]) (H.ev rfl) (block_range hS'.2.2) (by kernel_rfl) s37 rfl) ?_; refine kp H rfl fun a H => ?_
        refine pi_a0 rfl (fun K hK => ?_); refine wpo_call _ _ _ (rightx_any y _) (r_call1 cf25 (H.ev rfl)) ?_; rintro e w9 ⟨rfl, hb9⟩; refine ⟨_, rfl, ?_⟩; rw [HOKB.out]; replace hS := hS.up hb9; clear hb9; refine hK _ _ ⟨hS, ?_⟩; clear hK; clear K; refine kp H rfl fun a H => ?_
        refine pi_f0 _ rfl (fun w' hS' => r_not (H.ev rfl) rfl) ?_; refine kp H rfl fun a H => ?_
        refine pi_f0 _ rfl (fun w' hS' => r_move (H.ev rfl)) ?_; refine kp H rfl fun a H => ?_
        refine pi_s1 rfl rfl rfl (H.ev rfl) ?_; refine kp H rfl fun a H => ?_
        refine pi_s1 rfl rfl rfl (H.ev rfl) ?_; refine kp H rfl fun a H => ?_
        refine pi_s1 rfl rfl rfl (H.ev rfl) ?_; refine kp H rfl fun a H => ?_
        refine pi_s1 rfl rfl rfl (H.ev rfl) ?_; refine kp H rfl fun a H => ?_
        refine pi_s1 rfl rfl rfl (H.ev rfl) ?_; refine kp H rfl fun a H => ?_
        refine pi_f0 _ rfl (fun w' hS' => r_pick_t (H.ev rfl) evc) ?_; refine kp H rfl fun a H => ?_
        refine pi_f0 _ rfl (fun w' hS' => r_move (H.ev rfl)) ?_; refine kp H rfl fun a H => ?_
        refine pi_s1 rfl rfl rfl (H.ev rfl) ?_; refine kp H rfl fun a H => ?_
        refine pi_s1 rfl rfl rfl (H.ev rfl) ?_; refine kp H rfl fun a H => ?_
        refine pi_s1 rfl rfl rfl (H.ev rfl) ?_; refine kp H rfl fun a H => ?_
        refine pi_s2 rfl rfl rfl (H.ev rfl) ?_; refine kp H rfl fun a H => ?_
        refine pi_s2 rfl rfl rfl (H.ev rfl) ?_; refine kp H rfl fun a H => ?_
        refine pi_s2 rfl rfl rfl (H.ev rfl) ?_; refine kp H rfl fun a H => ?_
        refine pi_s2 rfl rfl rfl (H.ev rfl) ?_; refine kp H rfl fun a H => ?_
        refine pi_s2 rfl rfl rfl (H.ev rfl) ?_; refine kp H rfl fun a H => ?_
        refine pi_s2 rfl rfl rfl (H.ev rfl) ?_; refine kp H rfl fun a H => ?_
        refine pi_s2 rfl rfl rfl (H.ev rfl) ?_; refine kp H rfl fun a H => ?_
        refine pi_s2 rfl rfl rfl (H.ev rfl) ?_; refine kp H rfl fun a H => ?_
        refine pi_s1 rfl rfl rfl (H.ev rfl) ?_; refine kp H rfl fun a H => ?_
        refine pi_f0 _ rfl (fun w' hS' => r_pick_t (H.ev rfl) evc) ?_; refine kp H rfl fun a H => ?_
        refine pi_nil (NoPanic.normal ?_)
        have hall := hS.1
        have hs := hS.2.1
        clear hS
        refine c_next ?_
        refine c_cond_t H rfl ?_
        refine wp_seq ?_
        refine wp_region_lit ?_
        refine wl_v _ (r_assign evc) ?_; refine kl H rfl fun a H => ?_
        refine wpList_nil ?_
        refine c_next ?_
        refine wp_ret ?_
        refine r_block ?_
        refine r_then ?_
        refine r_then ?_
        refine r_block ?_
        refine r_then ?_
        exact k_ret1 H rfl rfl ⟨by rw [right_no HY.out (by first | exact .inl HOKB.out | exact .inr (.inl (by have := many_le L (k + 1) y.1; have := HM1.out; omega)) | exact .inr (.inr ⟨j, p, HJ.out, HPY.out, fun hlt => by have := (ord_lt p y).2 hlt; rw [HO.out] at this; omega⟩))], hall⟩
      · skip
        have hS : SRp w bm bx k L y _ := ⟨hall.drew, hs8, hk2⟩
        refine region_pi (SRp w bm bx k L y) [(0, true), (1, false), (2, true), (3, true), (4, true), (5, true), (6, true), (7, true), (8, true), (9, true), (10, true), (11, true), (12, true), (13, true), (14, true), (15, true), (16, true), (17, true), (18, true), (19, true), (20, false), (21, true), (22, true), (23, true)] (by kernel_rfl) (by kernel_rfl) rfl (by kernel_rfl) hS ?_
        clear hall hs8 hk2
        refine pi_f0 _ rfl (fun w' hS' => r_row (cs := [.int .i64 y.1, .int .i64 y.2.1, .int .i64 y.2.2]) (H.ev rfl) (block_range hS'.2.2) (by kernel_rfl) s37 rfl) ?_; refine kp H rfl fun a H => ?_
        refine pi_a0 rfl (fun K hK => ?_); refine wpo_call _ _ _ (rightx_any y _) (r_call1 cf25 (H.ev rfl)) ?_; rintro e w9 ⟨rfl, hb9⟩; refine ⟨_, rfl, ?_⟩; rw [HOKB.out]; replace hS := hS.up hb9; clear hb9; refine hK _ _ ⟨hS, ?_⟩; clear hK; clear K; refine kp H rfl fun a H => ?_
        refine pi_f0 _ rfl (fun w' hS' => r_not (H.ev rfl) rfl) ?_; refine kp H rfl fun a H => ?_
        refine pi_f0 _ rfl (fun w' hS' => r_move (H.ev rfl)) ?_; refine kp H rfl fun a H => ?_
        refine pi_f1 _ rfl rfl rfl (H.ev rfl) (fun w' hS' => r_move (H.ev rfl)) ?_; refine kp H rfl fun a H => ?_
        refine pi_f1 _ rfl rfl rfl (H.ev rfl) (fun w' hS' => r_fld (q := 0) fld37_0 (H.ev rfl) rfl) ?_; refine kp H rfl fun a H => ?_
        refine pi_f1 _ rfl rfl rfl (H.ev rfl) (fun w' hS' => r_ld Try.underlying3 rfl (H.ev rfl) ((Block.cell hS'.2.2 0).trans rfl)) ?_; refine kp H rfl fun a H => ?_
        refine pi_f1 (.int .i64 (m + 1 : Nat)) rfl rfl rfl (H.ev rfl) (fun w' hS' => r_lookup (H.ev rfl) (H.ev rfl) (by have q := hS'.2.1.look y.1 HX.out; rw [HM1.out] at q; exact q)) ?_; refine kp H rfl fun a H => ?_
        by_cases c0 : ((m + 1 : Nat) : Int) > 8
        · skip
          refine pi_f1 _ rfl rfl rfl (H.ev rfl) (fun w' hS' => r_gt Try.underlying3 (H.ev rfl) evc (dec_t (c0))) ?_; refine kp H rfl fun a H => ?_
          refine pi_f0 _ rfl (fun w' hS' => r_pick_f (H.ev rfl) (H.ev rfl)) ?_; refine kp H rfl fun a H => ?_
          refine pi_f0 _ rfl (fun w' hS' => r_move (H.ev rfl)) ?_; refine kp H rfl fun a H => ?_
          refine pi_s1 rfl rfl rfl (H.ev rfl) ?_; refine kp H rfl fun a H => ?_
          refine pi_s1 rfl rfl rfl (H.ev rfl) ?_; refine kp H rfl fun a H => ?_
          refine pi_s1 rfl rfl rfl (H.ev rfl) ?_; refine kp H rfl fun a H => ?_
          refine pi_s2 rfl rfl rfl (H.ev rfl) ?_; refine kp H rfl fun a H => ?_
          refine pi_s2 rfl rfl rfl (H.ev rfl) ?_; refine kp H rfl fun a H => ?_
          refine pi_s2 rfl rfl rfl (H.ev rfl) ?_; refine kp H rfl fun a H => ?_
          refine pi_s2 rfl rfl rfl (H.ev rfl) ?_; refine kp H rfl fun a H => ?_
          refine pi_s2 rfl rfl rfl (H.ev rfl) ?_; refine kp H rfl fun a H => ?_
          refine pi_s2 rfl rfl rfl (H.ev rfl) ?_; refine kp H rfl fun a H => ?_
          refine pi_s2 rfl rfl rfl (H.ev rfl) ?_; refine kp H rfl fun a H => ?_
          refine pi_s2 rfl rfl rfl (H.ev rfl) ?_; refine kp H rfl fun a H => ?_
          refine pi_s1 rfl rfl rfl (H.ev rfl) ?_; refine kp H rfl fun a H => ?_
          refine pi_f0 _ rfl (fun w' hS' => r_pick_t (H.ev rfl) evc) ?_; refine kp H rfl fun a H => ?_
          refine pi_nil (NoPanic.normal ?_)
          have hall := hS.1
          have hs := hS.2.1
          clear hS
          refine c_next ?_
          refine c_cond_t H rfl ?_
          refine wp_seq ?_
          refine wp_region_lit ?_
          refine wl_v _ (r_assign evc) ?_; refine kl H rfl fun a H => ?_
          refine wpList_nil ?_
          refine c_next ?_
          refine wp_ret ?_
          refine r_block ?_
          refine r_then ?_
          refine r_then ?_
          refine r_block ?_
          refine r_then ?_
          exact k_ret1 H rfl rfl ⟨by rw [right_no HY.out (by first | exact .inl HOKB.out | exact .inr (.inl (by have := many_le L (k + 1) y.1; have := HM1.out; omega)) | exact .inr (.inr ⟨j, p, HJ.out, HPY.out, fun hlt => by have := (ord_lt p y).2 hlt; rw [HO.out] at this; omega⟩))], hall⟩
        · skip
          refine pi_f1 _ rfl rfl rfl (H.ev rfl) (fun w' hS' => r_gt Try.underlying3 (H.ev rfl) evc (dec_f (c0))) ?_; refine kp H rfl fun a H => ?_
          refine pi_f0 _ rfl (fun w' hS' => r_pick_f (H.ev rfl) (H.ev rfl)) ?_; refine kp H rfl fun a H => ?_
          refine pi_f0 _ rfl (fun w' hS' => r_move (H.ev rfl)) ?_; refine kp H rfl fun a H => ?_
          refine pi_f1 _ rfl rfl rfl (H.ev rfl) (fun w' hS' => r_move (H.ev rfl)) ?_; refine kp H rfl fun a H => ?_
          refine pi_f1 _ rfl rfl rfl (H.ev rfl) (fun w' hS' => r_gt Try.underlying3 (H.ev rfl) evc (dec_f (by omega))) ?_; refine kp H rfl fun a H => ?_
          refine pi_f1 _ rfl rfl rfl (H.ev rfl) (fun w' hS' => r_move (H.ev rfl)) ?_; refine kp H rfl fun a H => ?_
          refine pi_s1 rfl rfl rfl (H.ev rfl) ?_; refine kp H rfl fun a H => ?_
          refine pi_s1 rfl rfl rfl (H.ev rfl) ?_; refine kp H rfl fun a H => ?_
          refine pi_s1 rfl rfl rfl (H.ev rfl) ?_; refine kp H rfl fun a H => ?_
          refine pi_s1 rfl rfl rfl (H.ev rfl) ?_; refine kp H rfl fun a H => ?_
          refine pi_s1 rfl rfl rfl (H.ev rfl) ?_; refine kp H rfl fun a H => ?_
          refine pi_s1 rfl rfl rfl (H.ev rfl) ?_; refine kp H rfl fun a H => ?_
          refine pi_s1 rfl rfl rfl (H.ev rfl) ?_; refine kp H rfl fun a H => ?_
          refine pi_s1 rfl rfl rfl (H.ev rfl) ?_; refine kp H rfl fun a H => ?_
          refine pi_f1 _ rfl rfl rfl (H.ev rfl) (fun w' hS' => r_pick_f (H.ev rfl) evc) ?_; refine kp H rfl fun a H => ?_
          refine pi_f0 _ rfl (fun w' hS' => r_pick_f (H.ev rfl) (H.ev rfl)) ?_; refine kp H rfl fun a H => ?_
          refine pi_nil (NoPanic.normal ?_)
          have hall := hS.1
          have hs := hS.2.1
          clear hS
          refine c_next ?_
          refine c_cond_f H rfl ?_
          refine wp_skip ?_
          refine n_block ?_
          refine c_next ?_
          refine wp_region_lit ?_
          refine wl_v _ (r_add (q := ((k + 1 : Nat) : Int)) Try.underlying3 (H.ev rfl) evc (by omega) (by omega)) ?_; refine kl H rfl fun a H => ?_
          refine wl_v _ (r_move (H.ev rfl)) ?_; refine kl H rfl fun a H => ?_
          refine wpList_nil ?_
          refine n_then ⟨⟨k + 1, H.pick [0, 3, 7, 8, 9], by omega, okg_next hok HY.out HOKB.out (by have := HM1.out; omega) (fun i p e => by omega), hs, hall⟩, ?_⟩
          rw [H.ev (j := 9) rfl, H0.ev (j := 9) rfl]
          simp only [intOf]
          omega
    · skip
      obtain ⟨j, hj⟩ : ∃ j, k = j + 1 := ⟨k - 1, by omega⟩
      have HJ := Lib.hid hj
      have hj1 : k ≤ j + 1 := by omega
      have hj2 : j + 1 ≤ k := by omega
      clear hj
      have hj : j < L.length := by omega
      have hp : L[j]? = some L[j] := List.getElem?_eq_getElem hj
      have HPY := Lib.hid hp
      have HP := Lib.hid (flat_range encT_len hh.out rfl hj)
      generalize L[j] = p at *
      clear hp
      obtain ⟨z, hz⟩ : ∃ z, ordF p y = z := ⟨_, rfl⟩
      have HO := Lib.hid hz
      clear hz h0
      cases ok
      · skip
        have hS : SRp w bm bx k L y _ := ⟨hall.drew, hs8, hk2⟩
        refine region_pi (SRp w bm bx k L y) [(0, true), (1, false), (2, true), (3, true), (4, true), (5, true), (6, true), (7, true), (8, true), (9, true), (10, true), (11, true), (12, true), (13, true), (14, true), (15, true), (16, true), (17, true), (18, true), (19, true), (20, false), (21, true), (22, true), (23, true)] (by kernel_rfl) (by kernel_rfl) rfl (by kernel_rfl) hS ?_
        clear hall hs8 hk2
        refine pi_f0 _ rfl (fun w' hS' => r_row (cs := [.int .i64 y.1, .int .i64 y.2.1, .int .i64 y.2.2]) (H.ev rfl) (block_range hS'.2.2) (by kernel_rfl) s37 rfl) ?_; refine kp H rfl fun a H => ?_
        refine pi_a0 rfl (fun K hK => ?_); refine wpo_call _ _ _ (rightx_any y _) (r_call1 cf25 (H.ev rfl)) ?_; rintro e w9 ⟨rfl, hb9⟩; refine ⟨_, rfl, ?_⟩; rw [HOKB.out]; replace hS := hS.up hb9; clear hb9; refine hK _ _ ⟨hS, ?_⟩; clear hK; clear K; refine kp H rfl fun a H => ?_
        refine pi_f0 _ rfl (fun w' hS' => r_not (H.ev rfl) rfl) ?_; refine kp H rfl fun a H => ?_
        refine pi_f0 _ rfl (fun w' hS' => r_move (H.ev rfl)) ?_; refine kp H rfl fun a H => ?_
        refine pi_s1 rfl rfl rfl (H.ev rfl) ?_; refine kp H rfl fun a H => ?_
        refine pi_s1 rfl rfl rfl (H.ev rfl) ?_; refine kp H rfl fun a H => ?_
        refine pi_s1 rfl rfl rfl (H.ev rfl) ?_; refine kp H rfl fun a H => ?_
        refine pi_s1 rfl rfl rfl (H.ev rfl) ?_; refine kp H rfl fun a H => ?_
        refine pi_s1 rfl rfl rfl (H.ev rfl) ?_; refine kp H rfl fun a H => ?_
        refine pi_f0 _ rfl (fun w' hS' => r_pick_t (H.ev rfl) evc) ?_; refine kp H rfl fun a H => ?_
        refine pi_f0 _ rfl (fun w' hS' => r_move (H.ev rfl)) ?_; refine kp H rfl fun a H => ?_
        refine pi_s1 rfl rfl rfl (H.ev rfl) ?_; refine kp H rfl fun a H => ?_
        refine pi_s1 rfl rfl rfl (H.ev rfl) ?_; refine kp H rfl fun a H => ?_
        refine pi_s1 rfl rfl rfl (H.ev rfl) ?_; refine kp H rfl fun a H => ?_
        refine pi_s2 rfl rfl rfl (H.ev rfl) ?_; refine kp H rfl fun a H => ?_
        refine pi_s2 rfl rfl rfl (H.ev rfl) ?_; refine kp H rfl fun a H => ?_
        refine pi_s2 rfl rfl rfl (H.ev rfl) ?_; refine kp H rfl fun a H => ?_
        refine pi_s2 rfl rfl rfl (H.ev rfl) ?_; refine kp H rfl fun a H => ?_
        refine pi_s2 rfl rfl rfl (H.ev rfl) ?_; refine kp H rfl fun a H => ?_
        refine pi_s2 rfl rfl rfl (H.ev rfl) ?_; refine kp H rfl fun a H => ?_
        refine pi_s2 rfl rfl rfl (H.ev rfl) ?_; refine kp H rfl fun a H => ?_
        refine pi_s2 rfl rfl rfl (H.ev rfl) ?_; refine kp H rfl fun a H => ?_
        refine pi_s1 rfl rfl rfl (H.ev rfl) ?_; refine kp H rfl fun a H => ?_
        refine pi_f0 _ rfl (fun w' hS' => r_pick_t (H.ev rfl) evc) ?_; refine kp H rfl fun a H => ?_
        refine pi_nil (NoPanic.normal ?_)
        have hall := hS.1
        have hs := hS.2.1
        clear hS
        refine c_next ?_
        refine c_cond_t H rfl ?_
        refine wp_seq ?_
        refine wp_region_lit ?_
        refine wl_v _ (r_assign evc) ?_; refine kl H rfl fun a H => ?_
        refine wpList_nil ?_
        refine c_next ?_
        refine wp_ret ?_
        refine r_block ?_
        refine r_then ?_
        refine r_then ?_
        refine r_block ?_
        refine r_then ?_
        exact k_ret1 H rfl rfl ⟨by rw [right_no HY.out (by first | exact .inl HOKB.out | exact .inr (.inl (by have := many_le L (k + 1) y.1; have := HM1.out; omega)) | exact .inr (.inr ⟨j, p, HJ.out, HPY.out, fun hlt => by have := (ord_lt p y).2 hlt; rw [HO.out] at this; omega⟩))], hall⟩
      · skip
        have hS : SRp w bm bx k L y _ := ⟨hall.drew, hs8, hk2⟩
        refine region_pi (SRp w bm bx k L y) [(0, true), (1, false), (2, true), (3, true), (4, true), (5, true), (6, true), (7, true), (8, true), (9, true), (10, true), (11, true), (12, true), (13, true), (14, true), (15, true), (16, true), (17, true), (18, true), (19, true), (20, false), (21, true), (22, true), (23, true)] (by kernel_rfl) (by kernel_rfl) rfl (by kernel_rfl) hS ?_
        clear hall hs8 hk2
        refine pi_f0 _ rfl (fun w' hS' => r_row (cs := [.int .i64 y.1, .int .i64 y.2.1, .int .i64 y.2.2]) (H.ev rfl) (block_range hS'.2.2) (by kernel_rfl) s37 rfl) ?_; refine kp H rfl fun a H => ?_
        refine pi_a0 rfl (fun K hK => ?_); refine wpo_call _ _ _ (rightx_any y _) (r_call1 cf25 (H.ev rfl)) ?_; rintro e w9 ⟨rfl, hb9⟩; refine ⟨_, rfl, ?_⟩; rw [HOKB.out]; replace hS := hS.up hb9; clear hb9; refine hK _ _ ⟨hS, ?_⟩; clear hK; clear K; refine kp H rfl fun a H => ?_
        refine pi_f0 _ rfl (fun w' hS' => r_not (H.ev rfl) rfl) ?_; refine kp H rfl fun a H => ?_
        refine pi_f0 _ rfl (fun w' hS' => r_move (H.ev rfl)) ?_; refine kp H rfl fun a H => ?_
        refine pi_f1 _ rfl rfl rfl (H.ev rfl) (fun w' hS' => r_move (H.ev rfl)) ?_; refine kp H rfl fun a H => ?_
        refine pi_f1 _ rfl rfl rfl (H.ev rfl) (fun w' hS' => r_fld (q := 0) fld37_0 (H.ev rfl) rfl) ?_; refine kp H rfl fun a H => ?_
        refine pi_f1 _ rfl rfl rfl (H.ev rfl) (fun w' hS' => r_ld Try.underlying3 rfl (H.ev rfl) ((Block.cell hS'.2.2 0).trans rfl)) ?_; refine kp H rfl fun a H => ?_
        refine pi_f1 (.int .i64 (m + 1 : Nat)) rfl rfl rfl (H.ev rfl) (fun w' hS' => r_lookup (H.ev rfl) (H.ev rfl) (by have q := hS'.2.1.look y.1 HX.out; rw [HM1.out] at q; exact q)) ?_; refine kp H rfl fun a H => ?_
        by_cases c1 : ((m + 1 : Nat) : Int) > 8
        · skip
          refine pi_f1 _ rfl rfl rfl (H.ev rfl) (fun w' hS' => r_gt Try.underlying3 (H.ev rfl) evc (dec_t (c1))) ?_; refine kp H rfl fun a H => ?_
          refine pi_f0 _ rfl (fun w' hS' => r_pick_f (H.ev rfl) (H.ev rfl)) ?_; refine kp H rfl fun a H => ?_
          refine pi_f0 _ rfl (fun w' hS' => r_move (H.ev rfl)) ?_; refine kp H rfl fun a H => ?_
          refine pi_s1 rfl rfl rfl (H.ev rfl) ?_; refine kp H rfl fun a H => ?_
          refine pi_s1 rfl rfl rfl (H.ev rfl) ?_; refine kp H rfl fun a H => ?_
          refine pi_s1 rfl rfl rfl (H.ev rfl) ?_; refine kp H rfl fun a H => ?_
          refine pi_s2 rfl rfl rfl (H.ev rfl) ?_; refine kp H rfl fun a H => ?_
          refine pi_s2 rfl rfl rfl (H.ev rfl) ?_; refine kp H rfl fun a H => ?_
          refine pi_s2 rfl rfl rfl (H.ev rfl) ?_; refine kp H rfl fun a H => ?_
          refine pi_s2 rfl rfl rfl (H.ev rfl) ?_; refine kp H rfl fun a H => ?_
          refine pi_s2 rfl rfl rfl (H.ev rfl) ?_; refine kp H rfl fun a H => ?_
          refine pi_s2 rfl rfl rfl (H.ev rfl) ?_; refine kp H rfl fun a H => ?_
          refine pi_s2 rfl rfl rfl (H.ev rfl) ?_; refine kp H rfl fun a H => ?_
          refine pi_s2 rfl rfl rfl (H.ev rfl) ?_; refine kp H rfl fun a H => ?_
          refine pi_s1 rfl rfl rfl (H.ev rfl) ?_; refine kp H rfl fun a H => ?_
          refine pi_f0 _ rfl (fun w' hS' => r_pick_t (H.ev rfl) evc) ?_; refine kp H rfl fun a H => ?_
          refine pi_nil (NoPanic.normal ?_)
          have hall := hS.1
          have hs := hS.2.1
          clear hS
          refine c_next ?_
          refine c_cond_t H rfl ?_
          refine wp_seq ?_
          refine wp_region_lit ?_
          refine wl_v _ (r_assign evc) ?_; refine kl H rfl fun a H => ?_
          refine wpList_nil ?_
          refine c_next ?_
          refine wp_ret ?_
          refine r_block ?_
          refine r_then ?_
          refine r_then ?_
          refine r_block ?_
          refine r_then ?_
          exact k_ret1 H rfl rfl ⟨by rw [right_no HY.out (by first | exact .inl HOKB.out | exact .inr (.inl (by have := many_le L (k + 1) y.1; have := HM1.out; omega)) | exact .inr (.inr ⟨j, p, HJ.out, HPY.out, fun hlt => by have := (ord_lt p y).2 hlt; rw [HO.out] at this; omega⟩))], hall⟩
        · skip
          refine pi_f1 _ rfl rfl rfl (H.ev rfl) (fun w' hS' => r_gt Try.underlying3 (H.ev rfl) evc (dec_f (c1))) ?_; refine kp H rfl fun a H => ?_
          refine pi_f0 _ rfl (fun w' hS' => r_pick_f (H.ev rfl) (H.ev rfl)) ?_; refine kp H rfl fun a H => ?_
          refine pi_f0 _ rfl (fun w' hS' => r_move (H.ev rfl)) ?_; refine kp H rfl fun a H => ?_
          refine pi_f1 _ rfl rfl rfl (H.ev rfl) (fun w' hS' => r_move (H.ev rfl)) ?_; refine kp H rfl fun a H => ?_
          refine pi_f1 _ rfl rfl rfl (H.ev rfl) (fun w' hS' => r_gt Try.underlying3 (H.ev rfl) evc (dec_t (by omega))) ?_; refine kp H rfl fun a H => ?_
          refine pi_f1 _ rfl rfl rfl (H.ev rfl) (fun w' hS' => r_move (H.ev rfl)) ?_; refine kp H rfl fun a H => ?_
          refine pi_f1 _ rfl rfl rfl (H.ev rfl) (fun w' hS' => r_move (H.ev rfl)) ?_; refine kp H rfl fun a H => ?_
          refine pi_f1 _ rfl rfl rfl (H.ev rfl) (fun w' hS' => r_move (H.ev rfl)) ?_; refine kp H rfl fun a H => ?_
          refine pi_f1 (.int .i64 (j : Nat)) rfl rfl rfl (H.ev rfl) (fun w' hS' => r_sub (q := ((j : Nat) : Int)) Try.underlying3 (H.ev rfl) evc (by omega) (by omega)) ?_; refine kp H rfl fun a H => ?_
          refine pi_f1 _ rfl rfl rfl (H.ev rfl) (fun w' hS' => r_idx (j := j) (q := o + j * 3) Try.underlying22 s37 (H.ev rfl) (H.ev rfl) (by omega) rfl) ?_; refine kp H rfl fun a H => ?_
          refine pi_f1 _ rfl rfl rfl (H.ev rfl) (fun w' hS' => r_row (cs := [.int .i64 p.1, .int .i64 p.2.1, .int .i64 p.2.2]) (H.ev rfl) (range_ups HP.out hS'.1) (by kernel_rfl) s37 rfl) ?_; refine kp H rfl fun a H => ?_
          refine pi_f1 _ rfl rfl rfl (H.ev rfl) (fun w' hS' => r_row (cs := [.int .i64 y.1, .int .i64 y.2.1, .int .i64 y.2.2]) (H.ev rfl) (block_range hS'.2.2) (by kernel_rfl) s37 rfl) ?_; refine kp H rfl fun a H => ?_
          refine pi_a1 rfl rfl rfl (H.ev rfl) (fun K hK => ?_); refine wpo_call _ _ _ (order_any p y _) (r_call2 cf26 (H.ev rfl) (H.ev rfl)) ?_; rintro e w9 ⟨rfl, hb9⟩; refine ⟨_, rfl, ?_⟩; rw [HO.out]; replace hS := hS.up hb9; clear hb9; refine hK _ _ ⟨hS, ?_⟩; clear hK; clear K; refine kp H rfl fun a H => ?_
          by_cases c2 : z ≥ 0
          · skip
            refine pi_f1 _ rfl rfl rfl (H.ev rfl) (fun w' hS' => r_ge Try.underlying3 (H.ev rfl) evc (dec_t (c2))) ?_; refine kp H rfl fun a H => ?_
            refine pi_f1 _ rfl rfl rfl (H.ev rfl) (fun w' hS' => r_pick_t (H.ev rfl) (H.ev rfl)) ?_; refine kp H rfl fun a H => ?_
            refine pi_f0 _ rfl (fun w' hS' => r_pick_f (H.ev rfl) (H.ev rfl)) ?_; refine kp H rfl fun a H => ?_
            refine pi_nil (NoPanic.normal ?_)
            have hall := hS.1
            have hs := hS.2.1
            clear hS
            refine c_next ?_
            refine c_cond_t H rfl ?_
            refine wp_seq ?_
            refine wp_region_lit ?_
            refine wl_v _ (r_assign evc) ?_; refine kl H rfl fun a H => ?_
            refine wpList_nil ?_
            refine c_next ?_
            refine wp_ret ?_
            refine r_block ?_
            refine r_then ?_
            refine r_then ?_
            refine r_block ?_
            refine r_then ?_
            exact k_ret1 H rfl rfl ⟨by rw [right_no HY.out (by first | exact .inl HOKB.out | exact .inr (.inl (by have := many_le L (k + 1) y.1; have := HM1.out; omega)) | exact .inr (.inr ⟨j, p, HJ.out, HPY.out, fun hlt => by have := (ord_lt p y).2 hlt; rw [HO.out] at this; omega⟩))], hall⟩
          · skip
            refine pi_f1 _ rfl rfl rfl (H.ev rfl) (fun w' hS' => r_ge Try.underlying3 (H.ev rfl) evc (dec_f (c2))) ?_; refine kp H rfl fun a H => ?_
            refine pi_f1 _ rfl rfl rfl (H.ev rfl) (fun w' hS' => r_pick_t (H.ev rfl) (H.ev rfl)) ?_; refine kp H rfl fun a H => ?_
            refine pi_f0 _ rfl (fun w' hS' => r_pick_f (H.ev rfl) (H.ev rfl)) ?_; refine kp H rfl fun a H => ?_
            refine pi_nil (NoPanic.normal ?_)
            have hall := hS.1
            have hs := hS.2.1
            clear hS
            refine c_next ?_
            refine c_cond_f H rfl ?_
            refine wp_skip ?_
            refine n_block ?_
            refine c_next ?_
            refine wp_region_lit ?_
            refine wl_v _ (r_add (q := ((k + 1 : Nat) : Int)) Try.underlying3 (H.ev rfl) evc (by omega) (by omega)) ?_; refine kl H rfl fun a H => ?_
            refine wl_v _ (r_move (H.ev rfl)) ?_; refine kl H rfl fun a H => ?_
            refine wpList_nil ?_
            refine n_then ⟨⟨k + 1, H.pick [0, 3, 7, 8, 9], by omega, okg_next hok HY.out HOKB.out (by have := HM1.out; omega) (prev_ok HJ.out HPY.out ((ord_lt p y).1 (by rw [HO.out]; omega))), hs, hall⟩, ?_⟩
            rw [H.ev (j := 9) rfl, H0.ev (j := 9) rfl]
            simp only [intOf]
            omega
  · skip
    obtain rfl : k = L.length := by omega
    have HOK := Lib.hid hok
    clear hok
    refine wp_seq ?_
    refine wp_region_lit ?_
    refine wl_v _ (r_lt Try.underlying3 (H.ev rfl) (H.ev rfl) (dec_f (by omega))) ?_; refine kl H rfl fun a H => ?_
    refine wpList_nil ?_
    refine c_next ?_
    refine wp_seq ?_
    refine c_cond_f H rfl ?_
    refine wp_exit ?_
    refine e_then ?_
    refine e_then ?_
    refine e_here ?_
    refine c_next ?_
    refine wp_seq ?_
    refine wp_region_lit ?_
    refine wl_v _ (r_move (H.ev rfl)) ?_; refine kl H rfl fun a H => ?_
    refine wl_v _ (r_len Try.underlying22 (H.ev rfl)) ?_; refine kl H rfl fun a H => ?_
    refine wl_v (.bool (decide (L.length ≤ 64))) (r_le Try.underlying3 (H.ev rfl) evc (by rw [decide_eq_decide]; omega)) ?_; refine kl H rfl fun a H => ?_
    refine wl_v _ (r_assign (H.ev rfl)) ?_; refine kl H rfl fun a H => ?_
    refine wpList_nil ?_
    refine c_next ?_
    refine wp_ret ?_
    exact k_ret1 H rfl rfl ⟨by rw [right_end HOK.out], hall⟩
end Go.Proofs.Ytfehhenbdiageaa
