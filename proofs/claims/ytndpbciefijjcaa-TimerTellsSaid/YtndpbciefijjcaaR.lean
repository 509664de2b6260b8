/- Timer: Right. -/
import Derived.Test.YtndpbciefijjcaaQ
import Derived.Maps.Own
import Derived.Maps.Views
import Derived.Maps.Keyed
namespace Go.Proofs.Ytndpbciefijjcaa
open Go.RowKit Go.Maps
set_option linter.unusedVariables false
set_option linter.unusedSimpArgs false

theorem intKeyed : Keyed Try.prog 3 := int_keyed Try.underlying3
/-- block bm is a map from just the ints of 'had' to true -/
def Seen (w : World) (bm n : Nat) (had : List Int) : Prop :=
  ∃ D : DataW Unit, IsMap D ∧ w.ownsMap Try.prog 3 (plainElem Try.prog 4) bm n D ∧ ∀ (x : Int), (Lit.int .i64 x).wf = true → D.atKey (.int .i64 x) (.lit (.bool false)) = .lit (.bool (decide (x ∈ had)))
theorem Seen.made (w : World) : Seen (w.alloc (.map #[] 0)) w.heap.size 0 [] :=
  ⟨.map [], isMap_empty, World.ownsMap_made _ _ _ _, fun x _ => by simp [DataW.atKey]⟩
theorem Seen.lt {w : World} {bm n : Nat} {had : List Int} (h : Seen w bm n had) : bm < w.heap.size := by
  obtain ⟨D, _, h, _⟩ := h
  exact h.lt
theorem Seen.kept {w w' : World} {bm n : Nat} {had : List Int} {row : Option Nat} (h : Seen w bm n had) (hg : w.grownBy w' row) (hne : some bm ≠ row) : Seen w' bm n had := by
  obtain ⟨D, hD, h, hat⟩ := h
  exact ⟨D, hD, h.kept hg hne, hat⟩
theorem Seen.far {w w' : World} {bm n g : Nat} {had : List Int} (h : Seen w bm n had) (hb : ∀ B, B ≤ g → Below B w w') (ho : ∀ g', g' ≠ g → w'.heap[g']? = w.heap[g']?) (hg : bm < g) : Seen w' bm n had :=
  h.kept (row := some g) ⟨(hb _ (Nat.le_refl _)).os, (hb _ (Nat.le_refl _)).tape, (hb _ (Nat.le_refl _)).output, (hb _ (Nat.le_refl _)).size, fun k hk hne => ho k (fun e => hne (by rw [e]))⟩ (by simp; omega)
theorem Seen.ups {w w' : World} {bm n : Nat} {had : List Int} (h : Seen w bm n had) (hb : Below w.heap.size w w') : Seen w' bm n had :=
  h.kept (row := none) ⟨hb.os, hb.tape, hb.output, hb.size, fun k hk _ => hb.block k hk⟩ (by simp)
theorem zero4 (w : World) : (zeroValue 4).run Try.prog w = .ok (.bool false) w := by kernel_rfl
theorem Seen.look {w : World} {bm n : Nat} {had : List Int} (h : Seen w bm n had) (x : Int) (hx : (Lit.int .i64 x).wf = true) :
    (Instr.lookup 44 (.map (some bm)) (.int .i64 x) false).run Try.prog w = .ok (.bool (decide (x ∈ had))) w := by
  obtain ⟨D, hD, h, hat⟩ := h
  obtain ⟨v, ps, hrun, hv⟩ := h.lookup intKeyed Try.underlying44 (zero4 w) (plainElem_bool (H := Unit) Try.underlying4 false) (keyOf_int_mk Try.underlying3 hx)
  rw [hat x hx] at hv
  rw [hrun]
  congr 1
  unfold plainElem at hv
  rw [Try.underlying4] at hv
  cases v <;> simp at hv
  rw [hv.1]
theorem Seen.put {w : World} {bm n : Nat} {had : List Int} (h : Seen w bm n had) (hn : n < maxLen) (x : Int) (hx : (Lit.int .i64 x).wf = true) :
    ∃ w', (Instr.mapUpdate 44 (.map (some bm)) (.int .i64 x) (.bool true)).run Try.prog w = .ok () w' ∧ Seen w' bm (n + 1) (x :: had) ∧ w.grownBy w' (some bm) := by
  obtain ⟨D, hD, h, hat⟩ := h
  have hk := keyOf_int_mk Try.underlying3 hx
  obtain ⟨w', hrun, h', hg⟩ := h.update intKeyed Try.underlying44 hn hk (plainElem_bool (H := Unit) Try.underlying4 true)
  refine ⟨w', hrun, ⟨_, hD.put _ _, h', fun y hy => ?_⟩, hg⟩
  by_cases e : y = x
  · subst e
    rw [atKey_put_same hD (intKeyed.key hk)]
    simp
  · have hne : Lit.int .i64 y ≠ Lit.int .i64 x := fun e2 => e (by injection e2)
    rw [atKey_put_other hne, hat y hy]
    simp [e]
section
variable {P : Program} {ops : Array Oper} {rest : List Oper} {d : Option Tmp} {tt : TypeId} {ps : String} {af : Array Edge} {a : Act} {w : World} {Q : Exit → Act → World → Prop}
theorem wl_k {op : Op} (w' : World) (hv : (execOp a.eval ⟨d, op, tt, ps, af, none⟩).run P w = .ok .skip w') (h : wpList P ops Q rest (a.put d undef) w') : wpList P ops Q (⟨d, op, tt, ps, af, none⟩ :: rest) a w :=
  wpList_plain rfl fun _ hK => by
    unfold Oper.wp
    rw [hv]
    exact hK _ _ h
theorem op_mm {op : Op} (hr : (execOp a.eval ⟨d, op, tt, ps, af, none⟩).run P w = .ok (.value (.map (some w.heap.size))) (w.alloc (.map #[] 0)))
    (h : ∀ w' bm, w.heap.size ≤ bm → Below w.heap.size w w' → Seen w' bm 0 [] → wpList P ops Q rest (a.put d (.map (some bm))) w') : wpList P ops Q (⟨d, op, tt, ps, af, none⟩ :: rest) a w :=
  wl_w _ _ hr (h _ _ (Nat.le_refl _) ((Below.refl _ _).alloc (Nat.le_refl _) _) (Seen.made w))
end
def hadF (L : List Tm) (k : Nat) : List Int := ((L.take k).map (·.1)).reverse
theorem had_next {L : List Tm} {k : Nat} {y : Tm} {w : World} {bm : Nat} (hy : L[k]? = some y) (h : Seen w bm (k + 1) (y.1 :: hadF L k)) : Seen w bm (k + 1) (hadF L (k + 1)) := by
  obtain ⟨hk, e⟩ := List.getElem?_eq_some_iff.1 hy
  unfold hadF at h ⊢
  rw [List.take_succ_eq_append_getElem hk, List.map_append, List.reverse_append, e]
  exact h
/-- is timer k right beside those ahead of it? -/
def OkAt (L : List Tm) (k : Nat) (y : Tm) : Prop := decide (y.1 ∈ hadF L k) = false ∧ (k = 0 ∨ ∃ j p, k = j + 1 ∧ L[j]? = some p ∧ ordF p y < 0)
def NotOk (L : List Tm) (k : Nat) (y : Tm) : Prop := decide (y.1 ∈ hadF L k) = true ∨ ∃ j p, k = j + 1 ∧ L[j]? = some p ∧ ¬ ordF p y < 0
def OkTo (L : List Tm) (k : Nat) : Prop := ∀ j y, j < k → L[j]? = some y → OkAt L j y
open Classical in
noncomputable def rightF (L : List Tm) : Bool := decide (OkTo L L.length ∧ L.length ≤ 64)
theorem right_step {L : List Tm} {k : Nat} {y : Tm} (h : OkTo L k) (hy : L[k]? = some y) (ho : OkAt L k y) : OkTo L (k + 1) := by
  intro j z hj hz
  by_cases e : j = k
  · subst e
    rw [hy] at hz
    injection hz with hz
    rw [← hz]; exact ho
  · exact h j z (by omega) hz
theorem right_no {L : List Tm} {k : Nat} {y : Tm} (hy : L[k]? = some y) (ho : NotOk L k y) : rightF L = false := by
  unfold rightF
  rw [decide_eq_false_iff_not]
  rintro ⟨h, _⟩
  obtain ⟨h1, h2⟩ := h k y (List.getElem?_eq_some_iff.1 hy).1 hy
  rcases ho with ho | ⟨j, p, e, hp, hn⟩
  · rw [h1] at ho; cases ho
  · rcases h2 with rfl | ⟨j', p', e', hp', hlt⟩
    · omega
    · obtain rfl : j = j' := by omega
      rw [hp] at hp'
      injection hp' with hp'
      subst hp'
      exact hn hlt
theorem right_end {L : List Tm} (h : OkTo L L.length) : rightF L = decide (L.length ≤ 64) := by
  unfold rightF
  simp [h]
def SR (W : World) (bm bx k : Nat) (L : List Tm) (y : Tm) (w : World) : Prop := Below W.heap.size W w ∧ Seen w bm k (hadF L k) ∧ Block w bx 40 #[.int .i64 y.1, .int .i64 y.2]
theorem SR.up {W w w' : World} {bm bx k : Nat} {L : List Tm} {y : Tm} (h : SR W bm bx k L y w) (hb : Below w.heap.size w w') : SR W bm bx k L y w' := ⟨h.1.trans (hb.mono h.1.size), h.2.1.ups hb, h.2.2.ups hb⟩
theorem hlt_of {w : World} {bm n bx : Nat} {had : List Int} (h : Seen w bm n had) (hb : w.heap.size ≤ bx) : bm < bx := Nat.lt_of_lt_of_le h.lt hb
def RtRel (W : World) (L : List Tm) (bm : Nat) (i : Value) (w : World) : Prop := ∃ k : Nat, k ≤ L.length ∧ i = .int .i64 (k : Nat) ∧ OkTo L k ∧ Seen w bm k (hadF L k) ∧ Below W.heap.size W w
set_option maxHeartbeats 2000000 in
set_option maxRecDepth 100000 in
theorem right_any (w : World) (v : Value) (L : List Tm) (h : TRow w v L) (hn : L.length ≤ 9223372036854775807) (hw : ∀ x ∈ L, (Lit.int .i64 x.1).wf = true) :
    Calls Try.prog 8 #[v] w fun e w' => e = .returned (.bool (rightF L)) ∧ Below w.heap.size w w' := by
  obtain ⟨A, c, rfl, h1, h2, h3, hh⟩ := h
  have hall := Below.refl w.heap.size w
  replace hh := Lib.hid hh
  replace hw := Lib.hid hw
  have hmm := @run_makeMap Try.prog
  go_enter Try.func8, Try.ntmps8
  go_upto_region 0 with (fail)
  refine wp_region_lit ?_
  refine wl_v ?_ ?_ ?_; rotate_left; (focus (go_simp; (try with_reducible rfl); done)); try simp only [Act.put, List.setIfInBounds_toArray, List.set_cons_zero, List.set_cons_succ]
  go_upto_region 1 with (fail)
  refine wp_region_lit ?_
  refine op_mm (by go_simp) fun w1 bm hbm hb hs => ?_; replace hall := hall.trans (hb.mono hall.size); clear hb; try simp only [Act.put, List.setIfInBounds_toArray, List.set_cons_zero, List.set_cons_succ]
  refine wl_v ?_ ?_ ?_; rotate_left; (focus (go_simp; (try with_reducible rfl); done)); try simp only [Act.put, List.setIfInBounds_toArray, List.set_cons_zero, List.set_cons_succ]
  go_upto_region 2 with (fail)
  refine wp_region_lit ?_
  refine wl_v ?_ ?_ ?_; rotate_left; (focus (go_simp; (try with_reducible rfl); done)); try simp only [Act.put, List.setIfInBounds_toArray, List.set_cons_zero, List.set_cons_succ]
  refine wl_v ?_ ?_ ?_; rotate_left; (focus (go_simp; (try with_reducible rfl); done)); try simp only [Act.put, List.setIfInBounds_toArray, List.set_cons_zero, List.set_cons_succ]
  refine wl_v ?_ ?_ ?_; rotate_left; (focus (go_simp; (try with_reducible rfl); done)); try simp only [Act.put, List.setIfInBounds_toArray, List.set_cons_zero, List.set_cons_succ]
  go_wp2_with fail
  go_loopw [9] (RtRel w L bm) (fun i _ => L.length - (intOf i).toNat)
  case atStart => exact ⟨0, by omega, rfl, fun j y hj => by omega, hs, hall⟩
  case round =>
    clear hall hs
    obtain ⟨k, hk, rfl, hok, hs, hall⟩ := hrel
    by_cases hlt : k < L.length
    · skip
      obtain ⟨b, o, hA, hr⟩ := flat_some encT_len hh.out (by omega) hlt
      subst hA
      have hy : L[k]? = some L[k] := List.getElem?_eq_getElem hlt
      have HY := Lib.hid hy
      have HR := Lib.hid hr
      have HX : Hid ((Lit.int .i64 L[k].1).wf = true) := Lib.hid (hw.out _ (List.getElem_mem _))
      have HOK := Lib.hid hok
      have hltI : (k : Int) < L.length := by omega
      generalize L[k] = y at *
      obtain ⟨sn, hsn⟩ : ∃ sn, decide (y.1 ∈ hadF L k) = sn := ⟨_, rfl⟩
      have HSN := Lib.hid hsn
      clear hy hr hok hsn
      go_upto_region 3 with (fail)
      refine wp_region_lit ?_
      refine wl_v (.bool true) (by go_simp <;> omega) ?_; try simp only [Act.put, List.setIfInBounds_toArray, List.set_cons_zero, List.set_cons_succ]
      go_upto_region 4 with (fail)
      refine wp_region_lit ?_
      refine wl_v ?_ ?_ ?_; rotate_left; (focus (go_simp; (try with_reducible rfl); done)); try simp only [Act.put, List.setIfInBounds_toArray, List.set_cons_zero, List.set_cons_succ]
      refine wl_v ?_ ?_ ?_; rotate_left; (focus (go_simp; (try with_reducible rfl); done)); try simp only [Act.put, List.setIfInBounds_toArray, List.set_cons_zero, List.set_cons_succ]
      refine op_loadM 40 _ b (o + k * 2) _ #[.int .i64 y.1, .int .i64 y.2] rfl (by rfl) (range_ups HR.out hall) (by kernel_rfl) s40 ?_; try simp only [Act.put, List.setIfInBounds_toArray, List.set_cons_zero, List.set_cons_succ]
      refine op_alloc 40 #[.int .i64 0, .int .i64 0] z40 fun w1 bx hge hb hk => ?_; have hs0 := hs; replace hs := hs.ups hb; have hbx := Nat.le_trans hall.size hge; have hbs := hs.lt; have hne : bm < bx := hlt_of hs0 hge; replace hall := hall.trans (hb.mono hall.size); clear hb hge hs0; try simp only [Act.put, List.setIfInBounds_toArray, List.set_cons_zero, List.set_cons_succ]
      refine wl_v ?_ ?_ ?_; rotate_left; (focus (go_simp; (try with_reducible rfl); done)); try simp only [Act.put, List.setIfInBounds_toArray, List.set_cons_zero, List.set_cons_succ]
      refine op_store 40 _ _ bx 40 #[.int .i64 y.1, .int .i64 y.2] _ rfl rfl hk s40 rfl (ints_one [y.1, y.2]) fun w2 hb ho hk2 => ?_; replace hs : Seen w2 bm k (hadF L k) := hs.far hb ho hne; replace hall := hall.trans (hb _ hbx); clear hb ho hk; try simp only [Act.put, List.setIfInBounds_toArray, List.set_cons_zero, List.set_cons_succ]
      cases sn
      · skip
        by_cases h0 : k = 0
        · skip
          have H0 := Lib.hid h0
          have h0i : (k : Int) < 1 := by omega
          clear h0
          go_upto_region 5 with (fail)
          have hS : SR w bm bx k L y _ := ⟨hall.drew, hs, hk2⟩
          refine region_pi (SR w bm bx k L y) [(0, true), (1, true), (2, true), (3, true), (4, true), (5, true), (6, true), (7, true), (8, true), (9, true), (10, true), (11, true), (12, true), (13, true), (14, false), (15, true), (16, true), (17, true)] (by kernel_rfl) (by kernel_rfl) rfl (by kernel_rfl) hS ?_
          clear hall hs hk2
          refine pi_f0 ?_ rfl ?_ ?_; rotate_left; (focus (intro w' hS'; go_simp; (try with_reducible rfl); done)); try simp only [Act.put, List.setIfInBounds_toArray, List.set_cons_zero, List.set_cons_succ]
          refine pi_f0 ?_ rfl ?_ ?_; rotate_left; (focus (intro w' hS'; go_simp; (try with_reducible rfl); done)); try simp only [Act.put, List.setIfInBounds_toArray, List.set_cons_zero, List.set_cons_succ]
          refine pi_f0 (.int .i64 y.1) rfl (fun w' hS' => run_load1 _ bx 0 rfl ((hS'.2.2.cell 0).trans rfl)) ?_; try simp only [Act.put, List.setIfInBounds_toArray, List.set_cons_zero, List.set_cons_succ]
          refine pi_f0 (.bool false) rfl (fun w' hS' => by have q := hS'.2.1.look y.1 HX.out; rw [HSN.out] at q; go_simp) ?_; try simp only [Act.put, List.setIfInBounds_toArray, List.set_cons_zero, List.set_cons_succ]
          refine pi_f0 ?_ rfl ?_ ?_; rotate_left; (focus (intro w' hS'; go_simp; (try with_reducible rfl); done)); try simp only [Act.put, List.setIfInBounds_toArray, List.set_cons_zero, List.set_cons_succ]
          refine pi_f1 ?_ rfl rfl rfl rfl ?_ ?_; rotate_left; (focus (intro w' hS'; go_simp; (try with_reducible rfl); done)); try simp only [Act.put, List.setIfInBounds_toArray, List.set_cons_zero, List.set_cons_succ]
          refine pi_f1 (.bool false) rfl rfl rfl rfl (by intro w' hS'; go_simp <;> omega) ?_; try simp only [Act.put, List.setIfInBounds_toArray, List.set_cons_zero, List.set_cons_succ]
          refine pi_f1 ?_ rfl rfl rfl rfl ?_ ?_; rotate_left; (focus (intro w' hS'; go_simp; (try with_reducible rfl); done)); try simp only [Act.put, List.setIfInBounds_toArray, List.set_cons_zero, List.set_cons_succ]
          refine pi_s1 rfl rfl rfl rfl ?_; try simp only [Act.put, List.setIfInBounds_toArray, List.set_cons_zero, List.set_cons_succ]
          refine pi_s1 rfl rfl rfl rfl ?_; try simp only [Act.put, List.setIfInBounds_toArray, List.set_cons_zero, List.set_cons_succ]
          refine pi_s1 rfl rfl rfl rfl ?_; try simp only [Act.put, List.setIfInBounds_toArray, List.set_cons_zero, List.set_cons_succ]
          refine pi_s1 rfl rfl rfl rfl ?_; try simp only [Act.put, List.setIfInBounds_toArray, List.set_cons_zero, List.set_cons_succ]
          refine pi_s1 rfl rfl rfl rfl ?_; try simp only [Act.put, List.setIfInBounds_toArray, List.set_cons_zero, List.set_cons_succ]
          refine pi_s1 rfl rfl rfl rfl ?_; try simp only [Act.put, List.setIfInBounds_toArray, List.set_cons_zero, List.set_cons_succ]
          refine pi_s1 rfl rfl rfl rfl ?_; try simp only [Act.put, List.setIfInBounds_toArray, List.set_cons_zero, List.set_cons_succ]
          refine pi_s1 rfl rfl rfl rfl ?_; try simp only [Act.put, List.setIfInBounds_toArray, List.set_cons_zero, List.set_cons_succ]
          refine pi_f1 ?_ rfl rfl rfl rfl ?_ ?_; rotate_left; (focus (intro w' hS'; go_simp; (try with_reducible rfl); done)); try simp only [Act.put, List.setIfInBounds_toArray, List.set_cons_zero, List.set_cons_succ]
          refine pi_f0 ?_ rfl ?_ ?_; rotate_left; (focus (intro w' hS'; go_simp; (try with_reducible rfl); done)); try simp only [Act.put, List.setIfInBounds_toArray, List.set_cons_zero, List.set_cons_succ]
          refine pi_nil (NoPanic.normal ?_)
          have hall := hS.1
          have hs := hS.2.1
          have hk2 := hS.2.2
          clear hS
          go_upto_region 7 with (fail)
          refine wp_region_lit ?_
          refine wl_v ?_ ?_ ?_; rotate_left; (focus (go_simp; (try with_reducible rfl); done)); try simp only [Act.put, List.setIfInBounds_toArray, List.set_cons_zero, List.set_cons_succ]
          refine wl_v ?_ ?_ ?_; rotate_left; (focus (go_simp; (try with_reducible rfl); done)); try simp only [Act.put, List.setIfInBounds_toArray, List.set_cons_zero, List.set_cons_succ]
          refine wl_v (.int .i64 y.1) (run_load1 _ bx 0 rfl ((hk2.cell 0).trans rfl)) ?_; try simp only [Act.put, List.setIfInBounds_toArray, List.set_cons_zero, List.set_cons_succ]
          obtain ⟨w8, hrun8, hs8, hg8⟩ := hs.put (by unfold maxLen; omega) y.1 HX.out; refine wl_k w8 (by go_simp) ?_; replace hall := hall.grown hg8 (by have := hs.lt; omega) (fun k' e => by injection e with e; omega); clear hs hg8 hrun8; try simp only [Act.put, List.setIfInBounds_toArray, List.set_cons_zero, List.set_cons_succ]
          go_upto_region 8 with (fail)
          refine wp_region_lit ?_
          refine wl_v (.int .i64 (k + 1 : Nat)) (by go_simp <;> exact IntWalk.i64_in _ (by omega)) ?_; try simp only [Act.put, List.setIfInBounds_toArray, List.set_cons_zero, List.set_cons_succ]
          refine wl_v ?_ ?_ ?_; rotate_left; (focus (go_simp; (try with_reducible rfl); done)); try simp only [Act.put, List.setIfInBounds_toArray, List.set_cons_zero, List.set_cons_succ]
          go_wp2_with fail
          refine ⟨?_, ?_⟩
          · first
            | (exact ⟨k + 1, by omega, rfl, right_step HOK.out HY.out (⟨HSN.out, .inl H0.out⟩), had_next HY.out hs8, hall⟩)
            | ((repeat apply Exists.intro); refine ⟨?_, ?_⟩; rotate_left; (focus (first | exact rfl | (repeat (first | exact rfl | refine ⟨rfl, ?_⟩)))); (exact ⟨k + 1, by omega, rfl, right_step HOK.out HY.out (⟨HSN.out, .inl H0.out⟩), had_next HY.out hs8, hall⟩))
          · simp [intOf]; omega
        · skip
          obtain ⟨j, hj⟩ : ∃ j, k = j + 1 := ⟨k - 1, by omega⟩
          have HJ := Lib.hid hj
          have hj1 : k ≤ j + 1 := by omega
          have hj2 : j + 1 ≤ k := by omega
          clear hj h0
          have hj : j < L.length := by omega
          have hp : L[j]? = some L[j] := List.getElem?_eq_getElem hj
          have HPY := Lib.hid hp
          have HP := Lib.hid (flat_range encT_len hh.out rfl hj)
          generalize L[j] = p at *
          obtain ⟨z, hz⟩ : ∃ z, ordF p y = z := ⟨_, rfl⟩
          have HO := Lib.hid hz
          have hjI : (j : Int) < L.length := by omega
          clear hp hz
          by_cases hz : z < 0
          · skip
            go_upto_region 5 with (fail)
            have hS : SR w bm bx k L y _ := ⟨hall.drew, hs, hk2⟩
            refine region_pi (SR w bm bx k L y) [(0, true), (1, true), (2, true), (3, true), (4, true), (5, true), (6, true), (7, true), (8, true), (9, true), (10, true), (11, true), (12, true), (13, true), (14, false), (15, true), (16, true), (17, true)] (by kernel_rfl) (by kernel_rfl) rfl (by kernel_rfl) hS ?_
            clear hall hs hk2
            refine pi_f0 ?_ rfl ?_ ?_; rotate_left; (focus (intro w' hS'; go_simp; (try with_reducible rfl); done)); try simp only [Act.put, List.setIfInBounds_toArray, List.set_cons_zero, List.set_cons_succ]
            refine pi_f0 ?_ rfl ?_ ?_; rotate_left; (focus (intro w' hS'; go_simp; (try with_reducible rfl); done)); try simp only [Act.put, List.setIfInBounds_toArray, List.set_cons_zero, List.set_cons_succ]
            refine pi_f0 (.int .i64 y.1) rfl (fun w' hS' => run_load1 _ bx 0 rfl ((hS'.2.2.cell 0).trans rfl)) ?_; try simp only [Act.put, List.setIfInBounds_toArray, List.set_cons_zero, List.set_cons_succ]
            refine pi_f0 (.bool false) rfl (fun w' hS' => by have q := hS'.2.1.look y.1 HX.out; rw [HSN.out] at q; go_simp) ?_; try simp only [Act.put, List.setIfInBounds_toArray, List.set_cons_zero, List.set_cons_succ]
            refine pi_f0 ?_ rfl ?_ ?_; rotate_left; (focus (intro w' hS'; go_simp; (try with_reducible rfl); done)); try simp only [Act.put, List.setIfInBounds_toArray, List.set_cons_zero, List.set_cons_succ]
            refine pi_f1 ?_ rfl rfl rfl rfl ?_ ?_; rotate_left; (focus (intro w' hS'; go_simp; (try with_reducible rfl); done)); try simp only [Act.put, List.setIfInBounds_toArray, List.set_cons_zero, List.set_cons_succ]
            refine pi_f1 (.bool true) rfl rfl rfl rfl (by intro w' hS'; go_simp <;> omega) ?_; try simp only [Act.put, List.setIfInBounds_toArray, List.set_cons_zero, List.set_cons_succ]
            refine pi_f1 ?_ rfl rfl rfl rfl ?_ ?_; rotate_left; (focus (intro w' hS'; go_simp; (try with_reducible rfl); done)); try simp only [Act.put, List.setIfInBounds_toArray, List.set_cons_zero, List.set_cons_succ]
            refine pi_f1 ?_ rfl rfl rfl rfl ?_ ?_; rotate_left; (focus (intro w' hS'; go_simp; (try with_reducible rfl); done)); try simp only [Act.put, List.setIfInBounds_toArray, List.set_cons_zero, List.set_cons_succ]
            refine pi_f1 ?_ rfl rfl rfl rfl ?_ ?_; rotate_left; (focus (intro w' hS'; go_simp; (try with_reducible rfl); done)); try simp only [Act.put, List.setIfInBounds_toArray, List.set_cons_zero, List.set_cons_succ]
            refine pi_f1 (.int .i64 (j : Nat)) rfl rfl rfl rfl (by intro w' hS'; go_simp <;> first | omega | (rw [IntWalk.i64_in _ (by omega)]; omega)) ?_; try simp only [Act.put, List.setIfInBounds_toArray, List.set_cons_zero, List.set_cons_succ]
            refine pi_f1 ?_ rfl rfl rfl rfl ?_ ?_; rotate_left; (focus (intro w' hS'; go_simp; (try with_reducible rfl); done)); try simp only [Act.put, List.setIfInBounds_toArray, List.set_cons_zero, List.set_cons_succ]
            refine pi_f1 (.agg #[.int .i64 p.1, .int .i64 p.2]) rfl rfl rfl rfl (fun w' hS' => run_loadM 40 _ b (o + j * 2) [.int .i64 p.1, .int .i64 p.2] rfl (range_ups HP.out hS'.1) (by kernel_rfl) s40) ?_; try simp only [Act.put, List.setIfInBounds_toArray, List.set_cons_zero, List.set_cons_succ]
            refine pi_f1 (.agg #[.int .i64 y.1, .int .i64 y.2]) rfl rfl rfl rfl (fun w' hS' => run_loadM 40 _ bx 0 [.int .i64 y.1, .int .i64 y.2] rfl (range_block hS'.2.2) (by kernel_rfl) s40) ?_; try simp only [Act.put, List.setIfInBounds_toArray, List.set_cons_zero, List.set_cons_succ]
            refine pi_a1 rfl rfl rfl rfl (fun K hK => ?_); go_simp; refine (order_any p y _).mono ?_; rintro e w9 ⟨rfl, hb9⟩; rw [HO.out]; replace hS := hS.up hb9; clear hb9; refine hK _ _ ⟨?_, ?_⟩; exact hS; clear hK; clear K; try simp only [Act.put, List.setIfInBounds_toArray, List.set_cons_zero, List.set_cons_succ]
            refine pi_f1 (.bool false) rfl rfl rfl rfl (by intro w' hS'; go_simp <;> omega) ?_; try simp only [Act.put, List.setIfInBounds_toArray, List.set_cons_zero, List.set_cons_succ]
            refine pi_f1 ?_ rfl rfl rfl rfl ?_ ?_; rotate_left; (focus (intro w' hS'; go_simp; (try with_reducible rfl); done)); try simp only [Act.put, List.setIfInBounds_toArray, List.set_cons_zero, List.set_cons_succ]
            refine pi_f0 ?_ rfl ?_ ?_; rotate_left; (focus (intro w' hS'; go_simp; (try with_reducible rfl); done)); try simp only [Act.put, List.setIfInBounds_toArray, List.set_cons_zero, List.set_cons_succ]
            refine pi_nil (NoPanic.normal ?_)
            have hall := hS.1
            have hs := hS.2.1
            have hk2 := hS.2.2
            clear hS
            go_upto_region 7 with (fail)
            refine wp_region_lit ?_
            refine wl_v ?_ ?_ ?_; rotate_left; (focus (go_simp; (try with_reducible rfl); done)); try simp only [Act.put, List.setIfInBounds_toArray, List.set_cons_zero, List.set_cons_succ]
            refine wl_v ?_ ?_ ?_; rotate_left; (focus (go_simp; (try with_reducible rfl); done)); try simp only [Act.put, List.setIfInBounds_toArray, List.set_cons_zero, List.set_cons_succ]
            refine wl_v (.int .i64 y.1) (run_load1 _ bx 0 rfl ((hk2.cell 0).trans rfl)) ?_; try simp only [Act.put, List.setIfInBounds_toArray, List.set_cons_zero, List.set_cons_succ]
            obtain ⟨w8, hrun8, hs8, hg8⟩ := hs.put (by unfold maxLen; omega) y.1 HX.out; refine wl_k w8 (by go_simp) ?_; replace hall := hall.grown hg8 (by have := hs.lt; omega) (fun k' e => by injection e with e; omega); clear hs hg8 hrun8; try simp only [Act.put, List.setIfInBounds_toArray, List.set_cons_zero, List.set_cons_succ]
            go_upto_region 8 with (fail)
            refine wp_region_lit ?_
            refine wl_v (.int .i64 (k + 1 : Nat)) (by go_simp <;> exact IntWalk.i64_in _ (by omega)) ?_; try simp only [Act.put, List.setIfInBounds_toArray, List.set_cons_zero, List.set_cons_succ]
            refine wl_v ?_ ?_ ?_; rotate_left; (focus (go_simp; (try with_reducible rfl); done)); try simp only [Act.put, List.setIfInBounds_toArray, List.set_cons_zero, List.set_cons_succ]
            go_wp2_with fail
            refine ⟨?_, ?_⟩
            · first
              | (exact ⟨k + 1, by omega, rfl, right_step HOK.out HY.out (⟨HSN.out, .inr ⟨j, p, HJ.out, HPY.out, by rw [HO.out]; exact hz⟩⟩), had_next HY.out hs8, hall⟩)
              | ((repeat apply Exists.intro); refine ⟨?_, ?_⟩; rotate_left; (focus (first | exact rfl | (repeat (first | exact rfl | refine ⟨rfl, ?_⟩)))); (exact ⟨k + 1, by omega, rfl, right_step HOK.out HY.out (⟨HSN.out, .inr ⟨j, p, HJ.out, HPY.out, by rw [HO.out]; exact hz⟩⟩), had_next HY.out hs8, hall⟩))
            · simp [intOf]; omega
          · skip
            go_upto_region 5 with (fail)
            have hS : SR w bm bx k L y _ := ⟨hall.drew, hs, hk2⟩
            refine region_pi (SR w bm bx k L y) [(0, true), (1, true), (2, true), (3, true), (4, true), (5, true), (6, true), (7, true), (8, true), (9, true), (10, true), (11, true), (12, true), (13, true), (14, false), (15, true), (16, true), (17, true)] (by kernel_rfl) (by kernel_rfl) rfl (by kernel_rfl) hS ?_
            clear hall hs hk2
            refine pi_f0 ?_ rfl ?_ ?_; rotate_left; (focus (intro w' hS'; go_simp; (try with_reducible rfl); done)); try simp only [Act.put, List.setIfInBounds_toArray, List.set_cons_zero, List.set_cons_succ]
            refine pi_f0 ?_ rfl ?_ ?_; rotate_left; (focus (intro w' hS'; go_simp; (try with_reducible rfl); done)); try simp only [Act.put, List.setIfInBounds_toArray, List.set_cons_zero, List.set_cons_succ]
            refine pi_f0 (.int .i64 y.1) rfl (fun w' hS' => run_load1 _ bx 0 rfl ((hS'.2.2.cell 0).trans rfl)) ?_; try simp only [Act.put, List.setIfInBounds_toArray, List.set_cons_zero, List.set_cons_succ]
            refine pi_f0 (.bool false) rfl (fun w' hS' => by have q := hS'.2.1.look y.1 HX.out; rw [HSN.out] at q; go_simp) ?_; try simp only [Act.put, List.setIfInBounds_toArray, List.set_cons_zero, List.set_cons_succ]
            refine pi_f0 ?_ rfl ?_ ?_; rotate_left; (focus (intro w' hS'; go_simp; (try with_reducible rfl); done)); try simp only [Act.put, List.setIfInBounds_toArray, List.set_cons_zero, List.set_cons_succ]
            refine pi_f1 ?_ rfl rfl rfl rfl ?_ ?_; rotate_left; (focus (intro w' hS'; go_simp; (try with_reducible rfl); done)); try simp only [Act.put, List.setIfInBounds_toArray, List.set_cons_zero, List.set_cons_succ]
            refine pi_f1 (.bool true) rfl rfl rfl rfl (by intro w' hS'; go_simp <;> omega) ?_; try simp only [Act.put, List.setIfInBounds_toArray, List.set_cons_zero, List.set_cons_succ]
            refine pi_f1 ?_ rfl rfl rfl rfl ?_ ?_; rotate_left; (focus (intro w' hS'; go_simp; (try with_reducible rfl); done)); try simp only [Act.put, List.setIfInBounds_toArray, List.set_cons_zero, List.set_cons_succ]
            refine pi_f1 ?_ rfl rfl rfl rfl ?_ ?_; rotate_left; (focus (intro w' hS'; go_simp; (try with_reducible rfl); done)); try simp only [Act.put, List.setIfInBounds_toArray, List.set_cons_zero, List.set_cons_succ]
            refine pi_f1 ?_ rfl rfl rfl rfl ?_ ?_; rotate_left; (focus (intro w' hS'; go_simp; (try with_reducible rfl); done)); try simp only [Act.put, List.setIfInBounds_toArray, List.set_cons_zero, List.set_cons_succ]
            refine pi_f1 (.int .i64 (j : Nat)) rfl rfl rfl rfl (by intro w' hS'; go_simp <;> first | omega | (rw [IntWalk.i64_in _ (by omega)]; omega)) ?_; try simp only [Act.put, List.setIfInBounds_toArray, List.set_cons_zero, List.set_cons_succ]
            refine pi_f1 ?_ rfl rfl rfl rfl ?_ ?_; rotate_left; (focus (intro w' hS'; go_simp; (try with_reducible rfl); done)); try simp only [Act.put, List.setIfInBounds_toArray, List.set_cons_zero, List.set_cons_succ]
            refine pi_f1 (.agg #[.int .i64 p.1, .int .i64 p.2]) rfl rfl rfl rfl (fun w' hS' => run_loadM 40 _ b (o + j * 2) [.int .i64 p.1, .int .i64 p.2] rfl (range_ups HP.out hS'.1) (by kernel_rfl) s40) ?_; try simp only [Act.put, List.setIfInBounds_toArray, List.set_cons_zero, List.set_cons_succ]
            refine pi_f1 (.agg #[.int .i64 y.1, .int .i64 y.2]) rfl rfl rfl rfl (fun w' hS' => run_loadM 40 _ bx 0 [.int .i64 y.1, .int .i64 y.2] rfl (range_block hS'.2.2) (by kernel_rfl) s40) ?_; try simp only [Act.put, List.setIfInBounds_toArray, List.set_cons_zero, List.set_cons_succ]
            refine pi_a1 rfl rfl rfl rfl (fun K hK => ?_); go_simp; refine (order_any p y _).mono ?_; rintro e w9 ⟨rfl, hb9⟩; rw [HO.out]; replace hS := hS.up hb9; clear hb9; refine hK _ _ ⟨?_, ?_⟩; exact hS; clear hK; clear K; try simp only [Act.put, List.setIfInBounds_toArray, List.set_cons_zero, List.set_cons_succ]
            refine pi_f1 (.bool true) rfl rfl rfl rfl (by intro w' hS'; go_simp <;> omega) ?_; try simp only [Act.put, List.setIfInBounds_toArray, List.set_cons_zero, List.set_cons_succ]
            refine pi_f1 ?_ rfl rfl rfl rfl ?_ ?_; rotate_left; (focus (intro w' hS'; go_simp; (try with_reducible rfl); done)); try simp only [Act.put, List.setIfInBounds_toArray, List.set_cons_zero, List.set_cons_succ]
            refine pi_f0 ?_ rfl ?_ ?_; rotate_left; (focus (intro w' hS'; go_simp; (try with_reducible rfl); done)); try simp only [Act.put, List.setIfInBounds_toArray, List.set_cons_zero, List.set_cons_succ]
            refine pi_nil (NoPanic.normal ?_)
            have hall := hS.1
            have hs := hS.2.1
            have hk2 := hS.2.2
            clear hS
            go_wp2_with fail
            go_ret
            exact ⟨by rw [right_no HY.out (.inr ⟨j, p, HJ.out, HPY.out, by rw [HO.out]; omega⟩)]; rfl, hall⟩
      · skip
        go_upto_region 5 with (fail)
        have hS : SR w bm bx k L y _ := ⟨hall.drew, hs, hk2⟩
        refine region_pi (SR w bm bx k L y) [(0, true), (1, true), (2, true), (3, true), (4, true), (5, true), (6, true), (7, true), (8, true), (9, true), (10, true), (11, true), (12, true), (13, true), (14, false), (15, true), (16, true), (17, true)] (by kernel_rfl) (by kernel_rfl) rfl (by kernel_rfl) hS ?_
        clear hall hs hk2
        refine pi_f0 ?_ rfl ?_ ?_; rotate_left; (focus (intro w' hS'; go_simp; (try with_reducible rfl); done)); try simp only [Act.put, List.setIfInBounds_toArray, List.set_cons_zero, List.set_cons_succ]
        refine pi_f0 ?_ rfl ?_ ?_; rotate_left; (focus (intro w' hS'; go_simp; (try with_reducible rfl); done)); try simp only [Act.put, List.setIfInBounds_toArray, List.set_cons_zero, List.set_cons_succ]
        refine pi_f0 (.int .i64 y.1) rfl (fun w' hS' => run_load1 _ bx 0 rfl ((hS'.2.2.cell 0).trans rfl)) ?_; try simp only [Act.put, List.setIfInBounds_toArray, List.set_cons_zero, List.set_cons_succ]
        refine pi_f0 (.bool true) rfl (fun w' hS' => by have q := hS'.2.1.look y.1 HX.out; rw [HSN.out] at q; go_simp) ?_; try simp only [Act.put, List.setIfInBounds_toArray, List.set_cons_zero, List.set_cons_succ]
        refine pi_f0 ?_ rfl ?_ ?_; rotate_left; (focus (intro w' hS'; go_simp; (try with_reducible rfl); done)); try simp only [Act.put, List.setIfInBounds_toArray, List.set_cons_zero, List.set_cons_succ]
        refine pi_s1 rfl rfl rfl rfl ?_; try simp only [Act.put, List.setIfInBounds_toArray, List.set_cons_zero, List.set_cons_succ]
        refine pi_s1 rfl rfl rfl rfl ?_; try simp only [Act.put, List.setIfInBounds_toArray, List.set_cons_zero, List.set_cons_succ]
        refine pi_s1 rfl rfl rfl rfl ?_; try simp only [Act.put, List.setIfInBounds_toArray, List.set_cons_zero, List.set_cons_succ]
        refine pi_s2 rfl rfl rfl rfl ?_; try simp only [Act.put, List.setIfInBounds_toArray, List.set_cons_zero, List.set_cons_succ]
        refine pi_s2 rfl rfl rfl rfl ?_; try simp only [Act.put, List.setIfInBounds_toArray, List.set_cons_zero, List.set_cons_succ]
        refine pi_s2 rfl rfl rfl rfl ?_; try simp only [Act.put, List.setIfInBounds_toArray, List.set_cons_zero, List.set_cons_succ]
        refine pi_s2 rfl rfl rfl rfl ?_; try simp only [Act.put, List.setIfInBounds_toArray, List.set_cons_zero, List.set_cons_succ]
        refine pi_s2 rfl rfl rfl rfl ?_; try simp only [Act.put, List.setIfInBounds_toArray, List.set_cons_zero, List.set_cons_succ]
        refine pi_s2 rfl rfl rfl rfl ?_; try simp only [Act.put, List.setIfInBounds_toArray, List.set_cons_zero, List.set_cons_succ]
        refine pi_s2 rfl rfl rfl rfl ?_; try simp only [Act.put, List.setIfInBounds_toArray, List.set_cons_zero, List.set_cons_succ]
        refine pi_s2 rfl rfl rfl rfl ?_; try simp only [Act.put, List.setIfInBounds_toArray, List.set_cons_zero, List.set_cons_succ]
        refine pi_s1 rfl rfl rfl rfl ?_; try simp only [Act.put, List.setIfInBounds_toArray, List.set_cons_zero, List.set_cons_succ]
        refine pi_f0 ?_ rfl ?_ ?_; rotate_left; (focus (intro w' hS'; go_simp; (try with_reducible rfl); done)); try simp only [Act.put, List.setIfInBounds_toArray, List.set_cons_zero, List.set_cons_succ]
        refine pi_nil (NoPanic.normal ?_)
        have hall := hS.1
        have hs := hS.2.1
        have hk2 := hS.2.2
        clear hS
        go_wp2_with fail
        go_ret
        exact ⟨by rw [right_no HY.out (.inl HSN.out)]; rfl, hall⟩
    · obtain rfl : k = L.length := by omega
      have HOK := Lib.hid hok
      clear hok
      go_upto_region 3 with (fail)
      refine wp_region_lit ?_
      refine wl_v (.bool false) (by go_simp <;> omega) ?_; try simp only [Act.put, List.setIfInBounds_toArray, List.set_cons_zero, List.set_cons_succ]
      go_upto_region 9 with (fail)
      refine wp_region_lit ?_
      refine wl_v ?_ ?_ ?_; rotate_left; (focus (go_simp; (try with_reducible rfl); done)); try simp only [Act.put, List.setIfInBounds_toArray, List.set_cons_zero, List.set_cons_succ]
      refine wl_v ?_ ?_ ?_; rotate_left; (focus (go_simp; (try with_reducible rfl); done)); try simp only [Act.put, List.setIfInBounds_toArray, List.set_cons_zero, List.set_cons_succ]
      refine wl_v (.bool (decide (L.length ≤ 64))) (by go_simp <;> omega) ?_; try simp only [Act.put, List.setIfInBounds_toArray, List.set_cons_zero, List.set_cons_succ]
      refine wl_v ?_ ?_ ?_; rotate_left; (focus (go_simp; (try with_reducible rfl); done)); try simp only [Act.put, List.setIfInBounds_toArray, List.set_cons_zero, List.set_cons_succ]
      go_wp2_with fail
      go_ret
      exact ⟨by rw [right_end HOK.out]; rfl, hall⟩
end Go.Proofs.Ytndpbciefijjcaa
