/- Timer: where the timer of an ID stands. -/
import Derived.Test.YtndpbciefijjcaaF
namespace Go.Proofs.Ytndpbciefijjcaa
open Go.RowKit
set_option linter.unusedVariables false
set_option linter.unusedSimpArgs false

section
variable {P : Program} {ops : Array Oper} {rest : List Oper} {d : Option Tmp} {tt : TypeId} {ps : String} {af : Array Edge} {a : Act} {w : World} {Q : Exit → Act → World → Prop}
/-- a new variable of one cell -/
theorem op_box1 (e : TypeId) (x : Operand) (v : Value) (hx : a.eval x = v) (h1 : v.cells = #[v])
    (h : ∀ w' g, w.heap.size ≤ g → Below w.heap.size w w' → w'.cell? ⟨g, 0, none⟩ = some v → wpList P ops Q rest (a.put d (.pointer (some ⟨g, 0, none⟩))) w') :
    wpList P ops Q (⟨d, .box e x, tt, ps, af, none⟩ :: rest) a w :=
  wpList_plain rfl fun _ hK => by
    unfold Oper.wp execOp
    simp only [hx, Instr.box, newVar, newRow, newObj, h1, Sem.run, Sem.run_bind, Sem.run_pure, Result.andThen_ok]
    exact hK _ _ (h (w.alloc (.cells #[v] e)) w.heap.size (Nat.le_refl _) ((Below.refl _ _).alloc (Nat.le_refl _) _) (by have : Block (w.alloc (.cells #[v] e)) w.heap.size e #[v] := heap_alloc_new w _; rw [this.cell]; rfl))
end

/-- where the first timer of an ID stands; -1: nowhere -/
def plF (L : List Tm) (id : Int) : Int := match L.findIdx? (fun x => x.1 == id) with | some k => (k : Int) | none => -1
theorem plF_none {L : List Tm} {id : Int} (h : ∀ j, j < L.length → ∀ x, L[j]? = some x → (x.1 == id) = false) : plF L id = -1 := by
  have : L.findIdx? (fun x => x.1 == id) = none := by
    rw [List.findIdx?_eq_none_iff]
    intro x hx
    obtain ⟨j, hj, rfl⟩ := List.getElem_of_mem hx
    exact h j hj _ (List.getElem?_eq_getElem hj)
  simp [plF, this]
theorem plF_some {L : List Tm} {id : Int} {k : Nat} {x : Tm} (h : ∀ j, j < k → ∀ x, L[j]? = some x → (x.1 == id) = false) (hx : L[k]? = some x) (hi : (x.1 == id) = true) : plF L id = k := by
  obtain ⟨hk, rfl⟩ := List.getElem?_eq_some_iff.1 hx
  have : L.findIdx? (fun x => x.1 == id) = some k := by
    rw [List.findIdx?_eq_some_iff_getElem]
    refine ⟨hk, hi, fun j hj => ?_⟩
    have := h j hj _ (List.getElem?_eq_getElem (by omega))
    simp [this]
  simp [plF, this]
theorem idx_next {L : List Tm} {id : Int} {k : Nat} {x : Tm} (h : ∀ j, j < k → ∀ x, L[j]? = some x → (x.1 == id) = false) (hx : L[k]? = some x) (hi : (x.1 == id) = false) : ∀ j, j < k + 1 → ∀ x, L[j]? = some x → (x.1 == id) = false := by
  intro j hj y hy
  by_cases e : j = k
  · subst e
    rw [hx] at hy
    injection hy with hy
    rw [← hy]; exact hi
  · exact h j (by omega) y hy
set_option maxHeartbeats 1000000 in
theorem is_any (w : World) (x : Tm) (id : Int) (bc : Nat) (hc : w.cell? ⟨bc, 0, none⟩ = some (.int .i64 id)) :
    Calls Try.prog 35 #[.agg #[.int .i64 x.1, .int .i64 x.2], .pointer (some ⟨bc, 0, none⟩)] w fun e w' => e = .returned (.bool (x.1 == id)) ∧ Below w.heap.size w w' := by
  have hlt := World.block_lt_of_cell? w _ hc
  have hall := Below.refl w.heap.size w
  go_enter Try.func35, Try.ntmps35
  go_upto_region 0 with (fail)
  refine wp_region_lit ?_
  refine op_box 40 _ #[.int .i64 x.1, .int .i64 x.2] rfl fun w1 b hge hb k => ?_; replace hc := (hb.cell (p := ⟨bc, 0, none⟩) hlt).trans hc; replace hall := hall.trans (hb.mono hall.size); have q0 := k.cell 0; clear hb hge k; try simp only [Act.put, List.setIfInBounds_toArray, List.set_cons_zero, List.set_cons_succ]
  refine wl_v ?_ ?_ ?_; rotate_left; (focus (go_simp; (try with_reducible rfl); done)); try simp only [Act.put, List.setIfInBounds_toArray, List.set_cons_zero, List.set_cons_succ]
  go_upto_region 1 with (fail)
  refine wp_region_lit ?_
  refine wl_v ?_ ?_ ?_; rotate_left; (focus (go_simp; (try with_reducible rfl); done)); try simp only [Act.put, List.setIfInBounds_toArray, List.set_cons_zero, List.set_cons_succ]
  refine wl_v ?_ ?_ ?_; rotate_left; (focus (go_simp; (try with_reducible rfl); done)); try simp only [Act.put, List.setIfInBounds_toArray, List.set_cons_zero, List.set_cons_succ]
  refine wl_v ?_ ?_ ?_; rotate_left; (focus (go_simp; (try with_reducible rfl); done)); try simp only [Act.put, List.setIfInBounds_toArray, List.set_cons_zero, List.set_cons_succ]
  refine wl_v (.bool (x.1 == id)) (by go_simp) ?_; try simp only [Act.put, List.setIfInBounds_toArray, List.set_cons_zero, List.set_cons_succ]
  refine wl_v ?_ ?_ ?_; rotate_left; (focus (go_simp; (try with_reducible rfl); done)); try simp only [Act.put, List.setIfInBounds_toArray, List.set_cons_zero, List.set_cons_succ]
  go_wp2_with fail
  go_ret
  exact ⟨rfl, hall⟩
def IxRel (W : World) (L : List Tm) (id : Int) (i : Value) (w : World) : Prop := ∃ k : Nat, k ≤ L.length ∧ i = .int .i64 k ∧ (∀ j, j < k → ∀ x, L[j]? = some x → (x.1 == id) = false) ∧ Below W.heap.size W w
set_option maxHeartbeats 1000000 in
theorem idx_any (w : World) (v : Value) (L : List Tm) (id : Int) (bc : Nat) (h : TRow w v L) (hn : L.length ≤ 9223372036854775807) (hc : w.cell? ⟨bc, 0, none⟩ = some (.int .i64 id)) :
    Calls Try.prog 34 #[v, .func (.func 35) #[] #[.pointer (some ⟨bc, 0, none⟩)]] w fun e w' => e = .returned (.int .i64 (plF L id)) ∧ Below w.heap.size w w' := by
  obtain ⟨A, c, rfl, h1, h2, h3, hh⟩ := h
  go_enter Try.func34, Try.ntmps34
  go_wp2_with fail
  go_loopw [8] (IxRel w L id) (fun i _ => L.length - (intOf i).toNat)
  case atStart => exact ⟨0, by omega, rfl, fun j hj => by omega, Below.refl _ _⟩
  case round =>
    obtain ⟨k, hk, rfl, hno, hbel⟩ := hrel
    by_cases hlt : k < L.length
    · skip
      obtain ⟨b, o, rfl, hrg⟩ := flat_some encT_len hh (by omega) hlt
      have HRG := Lib.hid (range_ups hrg hbel)
      have hc' := (hbel.cell (p := ⟨bc, 0, none⟩) (World.block_lt_of_cell? w _ hc)).trans hc
      obtain ⟨r, hr⟩ : ∃ r, (L[k].1 == id) = r := ⟨_, rfl⟩
      have HR := Lib.hid hr
      have hyes : L[k]? = some L[k] := List.getElem?_eq_getElem hlt
      have HY := Lib.hid hyes
      have HNO := Lib.hid hno
      have hlt' : (k : Int) < (L.length : Int) := by omega
      generalize L[k] = x at *
      clear hr hyes hno hh hrg
      go_upto_region 2 with (fail)
      refine wp_region_lit ?_
      refine wl_v (.bool true) (by go_simp <;> omega) ?_; try simp only [Act.put, List.setIfInBounds_toArray, List.set_cons_zero, List.set_cons_succ]
      go_upto_region 3 with (fail)
      refine wp_region_lit ?_
      refine wl_v ?_ ?_ ?_; rotate_left; (focus (go_simp; (try with_reducible rfl); done)); try simp only [Act.put, List.setIfInBounds_toArray, List.set_cons_zero, List.set_cons_succ]
      refine wl_v ?_ ?_ ?_; rotate_left; (focus (go_simp; (try with_reducible rfl); done)); try simp only [Act.put, List.setIfInBounds_toArray, List.set_cons_zero, List.set_cons_succ]
      go_upto_region 4 with (fail)
      refine wp_region_lit ?_
      refine wl_v ?_ ?_ ?_; rotate_left; (focus (go_simp; (try with_reducible rfl); done)); try simp only [Act.put, List.setIfInBounds_toArray, List.set_cons_zero, List.set_cons_succ]
      refine wl_v ?_ ?_ ?_; rotate_left; (focus (go_simp; (try with_reducible rfl); done)); try simp only [Act.put, List.setIfInBounds_toArray, List.set_cons_zero, List.set_cons_succ]
      refine wl_v ?_ ?_ ?_; rotate_left; (focus (go_simp; (try with_reducible rfl); done)); try simp only [Act.put, List.setIfInBounds_toArray, List.set_cons_zero, List.set_cons_succ]
      refine wl_v ?_ ?_ ?_; rotate_left; (focus (go_simp; (try with_reducible rfl); done)); try simp only [Act.put, List.setIfInBounds_toArray, List.set_cons_zero, List.set_cons_succ]
      refine op_loadM 40 _ b (o + k * 2) _ #[.int .i64 x.1, .int .i64 x.2] rfl (by rfl) HRG.out (by kernel_rfl) s40 ?_; try simp only [Act.put, List.setIfInBounds_toArray, List.set_cons_zero, List.set_cons_succ]
      refine wl_call _ _ _ (is_any _ x id bc hc') (by go_simp) ?_; rintro e w9 ⟨rfl, hb⟩; refine ⟨_, rfl, ?_⟩; replace hbel := hbel.trans (hb.mono hbel.size); rw [HR.out]; clear hb hc'; try simp only [Act.put, List.setIfInBounds_toArray, List.set_cons_zero, List.set_cons_succ]
      cases r
      · skip
        go_upto_region 6 with (fail)
        refine wp_region_lit ?_
        refine wl_v (.int .i64 ((k : Int) + 1)) (by go_simp <;> exact IntWalk.i64_in _ (by omega)) ?_; try simp only [Act.put, List.setIfInBounds_toArray, List.set_cons_zero, List.set_cons_succ]
        refine wl_v ?_ ?_ ?_; rotate_left; (focus (go_simp; (try with_reducible rfl); done)); try simp only [Act.put, List.setIfInBounds_toArray, List.set_cons_zero, List.set_cons_succ]
        go_wp2_with fail
        refine ⟨?_, ?_⟩
        · first
          | (exact ⟨k + 1, by omega, by go_num, idx_next HNO.out HY.out HR.out, hbel⟩)
          | ((repeat apply Exists.intro); refine ⟨?_, ?_⟩; rotate_left; (focus (first | exact rfl | (repeat (first | exact rfl | refine ⟨rfl, ?_⟩)))); (exact ⟨k + 1, by omega, by go_num, idx_next HNO.out HY.out HR.out, hbel⟩))
        · simp [intOf]; omega
      · skip
        go_wp2_with fail
        go_ret
        exact ⟨by rw [plF_some HNO.out HY.out HR.out]; rfl, hbel⟩
    · obtain rfl : k = L.length := by omega
      have HNO := Lib.hid hno
      clear hno hh hc
      go_upto_region 2 with (fail)
      refine wp_region_lit ?_
      refine wl_v (.bool false) (by go_simp <;> omega) ?_; try simp only [Act.put, List.setIfInBounds_toArray, List.set_cons_zero, List.set_cons_succ]
      go_wp2_with fail
      go_ret
      exact ⟨by rw [plF_none HNO.out]; rfl, hbel⟩
set_option maxHeartbeats 1000000 in
theorem place_any (w : World) (v : Value) (L : List Tm) (id : Int) (h : TRow w v L) (hn : L.length ≤ 9223372036854775807) :
    Calls Try.prog 28 #[v, .int .i64 id] w fun e w' => e = .returned (.int .i64 (plF L id)) ∧ Below w.heap.size w w' := by
  have hall := Below.refl w.heap.size w
  have hmf : ∀ fn first cap w, (Instr.makeFunc fn first cap).run Try.prog w = .ok (.func fn first cap) w := fun _ _ _ _ => rfl
  go_enter Try.func28, Try.ntmps28
  go_upto_region 0 with (fail)
  refine wp_region_lit ?_
  refine op_box1 3 _ (.int .i64 id) rfl rfl fun w1 bc hge hb k => ?_; replace h := h.up hb; replace hall := hall.trans (hb.mono hall.size); clear hb hge; try simp only [Act.put, List.setIfInBounds_toArray, List.set_cons_zero, List.set_cons_succ]
  refine wl_v ?_ ?_ ?_; rotate_left; (focus (go_simp; (try with_reducible rfl); done)); try simp only [Act.put, List.setIfInBounds_toArray, List.set_cons_zero, List.set_cons_succ]
  go_upto_region 1 with (fail)
  refine wp_region_lit ?_
  refine wl_v ?_ ?_ ?_; rotate_left; (focus (go_simp; (try with_reducible rfl); done)); try simp only [Act.put, List.setIfInBounds_toArray, List.set_cons_zero, List.set_cons_succ]
  refine wl_v ?_ ?_ ?_; rotate_left; (focus (go_simp; (try with_reducible rfl); done)); try simp only [Act.put, List.setIfInBounds_toArray, List.set_cons_zero, List.set_cons_succ]
  refine wl_call _ _ _ (idx_any _ v L id bc h hn k) (by go_simp) ?_; rintro e w9 ⟨rfl, hb⟩; refine ⟨_, rfl, ?_⟩; replace hall := hall.trans (hb.mono hall.size); clear hb; try simp only [Act.put, List.setIfInBounds_toArray, List.set_cons_zero, List.set_cons_succ]
  refine wl_v ?_ ?_ ?_; rotate_left; (focus (go_simp; (try with_reducible rfl); done)); try simp only [Act.put, List.setIfInBounds_toArray, List.set_cons_zero, List.set_cons_succ]
  go_wp2_with fail
  go_ret
  exact ⟨rfl, hall⟩
end Go.Proofs.Ytndpbciefijjcaa
