/- Roster: two rows held against each other. -/
import Derived.Test.YtfehhenbdiageaaKp
import Derived.ScopeJumps
import Derived.WalkMore
namespace Go.Proofs.Ytfehhenbdiageaa
open Go.RowKit
set_option linter.unusedVariables false
set_option linter.unusedSimpArgs false

abbrev enc1 (x : Int) : List Int := [x]
theorem enc1_len (x : Int) : (enc1 x).length = 1 := rfl
abbrev IRow (w : World) (v : Value) (L : List Int) : Prop := Row enc1 w v L
abbrev IOwn (w : World) (base : Nat) (v : Value) (L : List Int) : Prop := w.ownsRow base 3 1 v L.length (FV enc1 L)
theorem IOwn.row {w : World} {base : Nat} {v : Value} {L : List Int} (h : IOwn w base v L) : IRow w v L := Row.own enc1_len (by omega) h
theorem i3 : (Try.prog.info? 3).map (fun i => (i.zero, i.size, i.bytes)) = some (some (.int .i64 0), 1, 8) := by kernel_rfl
theorem block1 {w : World} {b : Nat} {x : Int} (hx : Block w b 3 #[.int .i64 x]) : Holds w (some ⟨b, 0, none⟩) (FV enc1 [x]) := by
  intro j hj
  refine ⟨b, 0, rfl, ?_⟩
  rw [Nat.zero_add, Block.cell hx]
  simp [FV, IV, flat]
theorem g37 : Try.prog.eqGuardType Try.prog.depth 37 = false := by kernel_rfl
theorem h37 : Try.prog.stoodInHeld 37 = false := by kernel_rfl
theorem eqT (x y : Tm) (w : World) : (Op.equalIn 10000 37 (.agg #[.int .i64 x.1, .int .i64 x.2.1, .int .i64 x.2.2]) (.agg #[.int .i64 y.1, .int .i64 y.2.1, .int .i64 y.2.2])).run Try.prog w = .ok (decide (x = y)) w := by
  have h0 := h37
  have u37 := Try.underlying37
  have u3 := Try.underlying3
  obtain ⟨a, b, e⟩ := x
  obtain ⟨c, d, f⟩ := y
  go_simp
  by_cases e1 : a = c <;> by_cases e2 : b = d <;> by_cases e3 : e = f <;> simp [e1, e2, e3]
theorem run_load1 {a : Act} {w : World} (x : Operand) (b o : Nat) {v : Int} {d : Option Tmp} {tt : TypeId} {ps : String} {af : Array Edge} {gd : Option (Nat × Bool)} (hx : a.eval x = .pointer (some ⟨b, o, none⟩)) (hc : w.cell? ⟨b, o, none⟩ = some (.int .i64 v)) :
    (execOp a.eval ⟨d, .load 3 x, tt, ps, af, gd⟩).run Try.prog w = .ok (.value (.int .i64 v)) w := by
  have u3 := Try.underlying3
  unfold execOp
  simp only [hx]
  go_simp
def SmRel {α : Type} (W : World) (L M : List α) (i : Value) (w : World) : Prop := ∃ k : Nat, k ≤ L.length ∧ i = .int .i64 (k : Nat) ∧ (∀ j, j < k → L[j]? = M[j]?) ∧ Below W.heap.size W w
theorem same_next {α : Type} [DecidableEq α] {L M : List α} {k : Nat} {x y : α} (h : ∀ j, j < k → L[j]? = M[j]?) (hx : L[k]? = some x) (hy : M[k]? = some y) (hz : decide (x = y) = true) : ∀ j, j < k + 1 → L[j]? = M[j]? := by
  intro j hj
  by_cases e : j = k
  · subst e
    rw [hx, hy, of_decide_eq_true hz]
  · exact h j (by omega)
theorem same_end {α : Type} {L M : List α} (hl : L.length = M.length) (h : ∀ j, j < L.length → L[j]? = M[j]?) : L = M := by
  apply List.ext_getElem?
  intro j
  by_cases hj : j < L.length
  · exact h j hj
  · rw [List.getElem?_eq_none (by omega), List.getElem?_eq_none (by omega)]
theorem ne_of_at {α : Type} [DecidableEq α] {L M : List α} {k : Nat} {x y : α} (hx : L[k]? = some x) (hy : M[k]? = some y) (hz : decide (x = y) = false) : L ≠ M := by
  intro e
  subst e
  rw [hx] at hy
  injection hy with hy
  exact of_decide_eq_false hz hy
set_option maxHeartbeats 1000000 in
set_option maxRecDepth 100000 in
theorem same15_any (w : World) (v u : Value) (L M : List Tm) (h : Row encT w v L) (hu : Row encT w u M) (hn : L.length ≤ 100000) (hm : M.length ≤ 100000) :
    Calls Try.prog 15 #[v, u] w fun e w' => e = .returned (.bool (decide (L = M))) ∧ Below w.heap.size w w' := by
  obtain ⟨A, c, rfl, h1, h2, h3, hh⟩ := h
  obtain ⟨A', c', rfl, h1', h2', h3', hg⟩ := hu
  have hall := Below.refl w.heap.size w
  by_cases hlen : L.length = M.length
  · have HEQ := Lib.hid hlen
    have hne : ((L.length : Int) != (M.length : Int)) = false := by simp [bne]; omega
    replace hh := Lib.hid hh
    replace hg := Lib.hid hg
    clear hlen
    go_enter Try.func15, Try.ntmps15
    go_upto_region 0 with (fail)
    refine wp_region_lit ?_
    refine wl_v ?_ ?_ ?_; rotate_left; (focus (go_simp; (try with_reducible rfl); done)); try simp only [Act.put, List.setIfInBounds_toArray, List.set_cons_zero, List.set_cons_succ]
    go_upto_region 1 with (fail)
    refine wp_region_lit ?_
    refine wl_v ?_ ?_ ?_; rotate_left; (focus (go_simp; (try with_reducible rfl); done)); try simp only [Act.put, List.setIfInBounds_toArray, List.set_cons_zero, List.set_cons_succ]
    refine wl_v ?_ ?_ ?_; rotate_left; (focus (go_simp; (try with_reducible rfl); done)); try simp only [Act.put, List.setIfInBounds_toArray, List.set_cons_zero, List.set_cons_succ]
    refine wl_v ?_ ?_ ?_; rotate_left; (focus (go_simp; (try with_reducible rfl); done)); try simp only [Act.put, List.setIfInBounds_toArray, List.set_cons_zero, List.set_cons_succ]
    refine wl_v ?_ ?_ ?_; rotate_left; (focus (go_simp; (try with_reducible rfl); done)); try simp only [Act.put, List.setIfInBounds_toArray, List.set_cons_zero, List.set_cons_succ]
    refine wl_v (.bool false) (by go_simp <;> omega) ?_; try simp only [Act.put, List.setIfInBounds_toArray, List.set_cons_zero, List.set_cons_succ]
    go_upto_region 3 with (fail)
    refine wp_region_lit ?_
    refine wl_v ?_ ?_ ?_; rotate_left; (focus (go_simp; (try with_reducible rfl); done)); try simp only [Act.put, List.setIfInBounds_toArray, List.set_cons_zero, List.set_cons_succ]
    go_wp2_with fail
    go_loopw [5] (SmRel w L M) (fun i _ => L.length - (intOf i).toNat)
    case atStart => exact ⟨0, by omega, rfl, fun j hj => by omega, hall⟩
    case round =>
      clear hall
      obtain ⟨k, hk, rfl, hsame, hbel⟩ := hrel
      by_cases hlt : k < L.length
      · skip
        obtain ⟨b1, o1, hA1, hr1⟩ := flat_some (k := 3) (fun _ => rfl) hh.out (by omega) hlt
        obtain ⟨b2, o2, hA2, hr2⟩ := flat_some (k := 3) (fun _ => rfl) hg.out (by omega) (j := k) (by have := HEQ.out; omega)
        subst hA1 hA2
        have hy1 : L[k]? = some L[k] := List.getElem?_eq_getElem hlt
        have hy2 : M[k]? = some (M[k]'(by have := HEQ.out; omega)) := List.getElem?_eq_getElem _
        have HY1 := Lib.hid hy1
        have HY2 := Lib.hid hy2
        have HR1 := Lib.hid hr1
        have HR2 := Lib.hid hr2
        have HS := Lib.hid hsame
        generalize L[k] = x at *
        generalize M[k]'_ = y at *
        obtain ⟨z, hz⟩ : ∃ z, decide (x = y) = z := ⟨_, rfl⟩
        have hg37 := g37
        have heq : ∀ w, (Op.equalIn 10000 37 (.agg #[.int .i64 x.1, .int .i64 x.2.1, .int .i64 x.2.2]) (.agg #[.int .i64 y.1, .int .i64 y.2.1, .int .i64 y.2.2])).run Try.prog w = .ok z w := fun w => by rw [eqT, hz]
        have HZ := Lib.hid hz
        have hltI : (k : Int) < L.length := by omega
        have hltM : (k : Int) < M.length := by have := HEQ.out; omega
        clear hy1 hy2 hr1 hr2 hsame hz
        go_upto_region 4 with (fail)
        refine wp_region_lit ?_
        refine wl_v ?_ ?_ ?_; rotate_left; (focus (go_simp; (try with_reducible rfl); done)); try simp only [Act.put, List.setIfInBounds_toArray, List.set_cons_zero, List.set_cons_succ]
        refine wl_v ?_ ?_ ?_; rotate_left; (focus (go_simp; (try with_reducible rfl); done)); try simp only [Act.put, List.setIfInBounds_toArray, List.set_cons_zero, List.set_cons_succ]
        refine wl_v ?_ ?_ ?_; rotate_left; (focus (go_simp; (try with_reducible rfl); done)); try simp only [Act.put, List.setIfInBounds_toArray, List.set_cons_zero, List.set_cons_succ]
        refine wl_v (.bool true) (by go_simp <;> omega) ?_; try simp only [Act.put, List.setIfInBounds_toArray, List.set_cons_zero, List.set_cons_succ]
        cases z
        · skip
          go_upto_region 6 with (fail)
          have hS : BelowOf w _ := hbel.drew
          refine region_pi (BelowOf w) [(0, true), (1, true), (2, true), (3, true), (4, true), (5, true), (6, true), (7, true), (8, true)] (by kernel_rfl) (by kernel_rfl) rfl (by kernel_rfl) hS ?_
          have hbel : BelowOf w _ := hS
          unfold BelowOf at hbel
          clear hS
          refine pi_f0 ?_ rfl ?_ ?_; rotate_left; (focus (intro w' hS'; go_simp; (try with_reducible rfl); done)); try simp only [Act.put, List.setIfInBounds_toArray, List.set_cons_zero, List.set_cons_succ]
          refine pi_f0 ?_ rfl ?_ ?_; rotate_left; (focus (intro w' hS'; go_simp; (try with_reducible rfl); done)); try simp only [Act.put, List.setIfInBounds_toArray, List.set_cons_zero, List.set_cons_succ]
          refine pi_f0 ?_ rfl ?_ ?_; rotate_left; (focus (intro w' hS'; go_simp; (try with_reducible rfl); done)); try simp only [Act.put, List.setIfInBounds_toArray, List.set_cons_zero, List.set_cons_succ]
          refine pi_f0 (.agg #[.int .i64 x.1, .int .i64 x.2.1, .int .i64 x.2.2]) rfl (fun w' hS' => run_loadM 37 _ b1 (o1 + k * 3) [.int .i64 x.1, .int .i64 x.2.1, .int .i64 x.2.2] rfl (range_ups HR1.out hS') (by kernel_rfl) s37) ?_; try simp only [Act.put, List.setIfInBounds_toArray, List.set_cons_zero, List.set_cons_succ]
          refine pi_f0 ?_ rfl ?_ ?_; rotate_left; (focus (intro w' hS'; go_simp; (try with_reducible rfl); done)); try simp only [Act.put, List.setIfInBounds_toArray, List.set_cons_zero, List.set_cons_succ]
          refine pi_f0 ?_ rfl ?_ ?_; rotate_left; (focus (intro w' hS'; go_simp; (try with_reducible rfl); done)); try simp only [Act.put, List.setIfInBounds_toArray, List.set_cons_zero, List.set_cons_succ]
          refine pi_f0 ?_ rfl ?_ ?_; rotate_left; (focus (intro w' hS'; go_simp; (try with_reducible rfl); done)); try simp only [Act.put, List.setIfInBounds_toArray, List.set_cons_zero, List.set_cons_succ]
          refine pi_f0 (.agg #[.int .i64 y.1, .int .i64 y.2.1, .int .i64 y.2.2]) rfl (fun w' hS' => run_loadM 37 _ b2 (o2 + k * 3) [.int .i64 y.1, .int .i64 y.2.1, .int .i64 y.2.2] rfl (range_ups HR2.out hS') (by kernel_rfl) s37) ?_; try simp only [Act.put, List.setIfInBounds_toArray, List.set_cons_zero, List.set_cons_succ]
          refine pi_f0 (.bool true) rfl (by intro w' hS'; go_simp) ?_; try simp only [Act.put, List.setIfInBounds_toArray, List.set_cons_zero, List.set_cons_succ]
          refine pi_nil (NoPanic.normal ?_)
          go_wp2_with fail
          go_ret
          exact ⟨by rw [decide_eq_false (ne_of_at HY1.out HY2.out HZ.out)]; rfl, hbel⟩
        · skip
          go_upto_region 6 with (fail)
          have hS : BelowOf w _ := hbel.drew
          refine region_pi (BelowOf w) [(0, true), (1, true), (2, true), (3, true), (4, true), (5, true), (6, true), (7, true), (8, true)] (by kernel_rfl) (by kernel_rfl) rfl (by kernel_rfl) hS ?_
          have hbel : BelowOf w _ := hS
          unfold BelowOf at hbel
          clear hS
          refine pi_f0 ?_ rfl ?_ ?_; rotate_left; (focus (intro w' hS'; go_simp; (try with_reducible rfl); done)); try simp only [Act.put, List.setIfInBounds_toArray, List.set_cons_zero, List.set_cons_succ]
          refine pi_f0 ?_ rfl ?_ ?_; rotate_left; (focus (intro w' hS'; go_simp; (try with_reducible rfl); done)); try simp only [Act.put, List.setIfInBounds_toArray, List.set_cons_zero, List.set_cons_succ]
          refine pi_f0 ?_ rfl ?_ ?_; rotate_left; (focus (intro w' hS'; go_simp; (try with_reducible rfl); done)); try simp only [Act.put, List.setIfInBounds_toArray, List.set_cons_zero, List.set_cons_succ]
          refine pi_f0 (.agg #[.int .i64 x.1, .int .i64 x.2.1, .int .i64 x.2.2]) rfl (fun w' hS' => run_loadM 37 _ b1 (o1 + k * 3) [.int .i64 x.1, .int .i64 x.2.1, .int .i64 x.2.2] rfl (range_ups HR1.out hS') (by kernel_rfl) s37) ?_; try simp only [Act.put, List.setIfInBounds_toArray, List.set_cons_zero, List.set_cons_succ]
          refine pi_f0 ?_ rfl ?_ ?_; rotate_left; (focus (intro w' hS'; go_simp; (try with_reducible rfl); done)); try simp only [Act.put, List.setIfInBounds_toArray, List.set_cons_zero, List.set_cons_succ]
          refine pi_f0 ?_ rfl ?_ ?_; rotate_left; (focus (intro w' hS'; go_simp; (try with_reducible rfl); done)); try simp only [Act.put, List.setIfInBounds_toArray, List.set_cons_zero, List.set_cons_succ]
          refine pi_f0 ?_ rfl ?_ ?_; rotate_left; (focus (intro w' hS'; go_simp; (try with_reducible rfl); done)); try simp only [Act.put, List.setIfInBounds_toArray, List.set_cons_zero, List.set_cons_succ]
          refine pi_f0 (.agg #[.int .i64 y.1, .int .i64 y.2.1, .int .i64 y.2.2]) rfl (fun w' hS' => run_loadM 37 _ b2 (o2 + k * 3) [.int .i64 y.1, .int .i64 y.2.1, .int .i64 y.2.2] rfl (range_ups HR2.out hS') (by kernel_rfl) s37) ?_; try simp only [Act.put, List.setIfInBounds_toArray, List.set_cons_zero, List.set_cons_succ]
          refine pi_f0 (.bool false) rfl (by intro w' hS'; go_simp) ?_; try simp only [Act.put, List.setIfInBounds_toArray, List.set_cons_zero, List.set_cons_succ]
          refine pi_nil (NoPanic.normal ?_)
          go_upto_region 5 with (fail)
          refine wp_region_lit ?_
          refine wl_v ?_ ?_ ?_; rotate_left; (focus (go_simp; (try with_reducible rfl); done)); try simp only [Act.put, List.setIfInBounds_toArray, List.set_cons_zero, List.set_cons_succ]
          refine wl_v (.int .i64 ((k : Int) + 1)) (by go_simp <;> exact IntWalk.i64_in _ (by omega)) ?_; try simp only [Act.put, List.setIfInBounds_toArray, List.set_cons_zero, List.set_cons_succ]
          refine wl_v ?_ ?_ ?_; rotate_left; (focus (go_simp; (try with_reducible rfl); done)); try simp only [Act.put, List.setIfInBounds_toArray, List.set_cons_zero, List.set_cons_succ]
          go_wp2_with fail
          refine ⟨?_, ?_⟩
          · first
            | (exact ⟨k + 1, by omega, by go_num, same_next HS.out HY1.out HY2.out HZ.out, hbel⟩)
            | ((repeat apply Exists.intro); refine ⟨?_, ?_⟩; rotate_left; (focus (first | exact rfl | (repeat (first | exact rfl | refine ⟨rfl, ?_⟩)))); (exact ⟨k + 1, by omega, by go_num, same_next HS.out HY1.out HY2.out HZ.out, hbel⟩))
          · simp [intOf]; omega
      · obtain rfl : k = L.length := by omega
        have HS := Lib.hid hsame
        clear hsame
        go_upto_region 4 with (fail)
        refine wp_region_lit ?_
        refine wl_v ?_ ?_ ?_; rotate_left; (focus (go_simp; (try with_reducible rfl); done)); try simp only [Act.put, List.setIfInBounds_toArray, List.set_cons_zero, List.set_cons_succ]
        refine wl_v ?_ ?_ ?_; rotate_left; (focus (go_simp; (try with_reducible rfl); done)); try simp only [Act.put, List.setIfInBounds_toArray, List.set_cons_zero, List.set_cons_succ]
        refine wl_v ?_ ?_ ?_; rotate_left; (focus (go_simp; (try with_reducible rfl); done)); try simp only [Act.put, List.setIfInBounds_toArray, List.set_cons_zero, List.set_cons_succ]
        refine wl_v (.bool false) (by go_simp <;> omega) ?_; try simp only [Act.put, List.setIfInBounds_toArray, List.set_cons_zero, List.set_cons_succ]
        go_wp2_with fail
        go_ret
        exact ⟨by rw [decide_eq_true (same_end HEQ.out HS.out)]; rfl, hbel⟩
  · have HNE := Lib.hid hlen
    have hne : ((L.length : Int) != (M.length : Int)) = true := by simp [bne]; omega
    clear hlen hh hg
    go_enter Try.func15, Try.ntmps15
    go_upto_region 0 with (fail)
    refine wp_region_lit ?_
    refine wl_v ?_ ?_ ?_; rotate_left; (focus (go_simp; (try with_reducible rfl); done)); try simp only [Act.put, List.setIfInBounds_toArray, List.set_cons_zero, List.set_cons_succ]
    go_upto_region 1 with (fail)
    refine wp_region_lit ?_
    refine wl_v ?_ ?_ ?_; rotate_left; (focus (go_simp; (try with_reducible rfl); done)); try simp only [Act.put, List.setIfInBounds_toArray, List.set_cons_zero, List.set_cons_succ]
    refine wl_v ?_ ?_ ?_; rotate_left; (focus (go_simp; (try with_reducible rfl); done)); try simp only [Act.put, List.setIfInBounds_toArray, List.set_cons_zero, List.set_cons_succ]
    refine wl_v ?_ ?_ ?_; rotate_left; (focus (go_simp; (try with_reducible rfl); done)); try simp only [Act.put, List.setIfInBounds_toArray, List.set_cons_zero, List.set_cons_succ]
    refine wl_v ?_ ?_ ?_; rotate_left; (focus (go_simp; (try with_reducible rfl); done)); try simp only [Act.put, List.setIfInBounds_toArray, List.set_cons_zero, List.set_cons_succ]
    refine wl_v (.bool true) (by go_simp <;> omega) ?_; try simp only [Act.put, List.setIfInBounds_toArray, List.set_cons_zero, List.set_cons_succ]
    go_wp2_with fail
    go_ret
    exact ⟨by rw [decide_eq_false (fun e => HNE.out (congrArg List.length e))]; rfl, hall⟩
set_option maxHeartbeats 1000000 in
set_option maxRecDepth 100000 in
theorem same18_any (w : World) (v u : Value) (L M : List Int) (h : Row enc1 w v L) (hu : Row enc1 w u M) (hn : L.length ≤ 100000) (hm : M.length ≤ 100000) :
    Calls Try.prog 18 #[v, u] w fun e w' => e = .returned (.bool (decide (L = M))) ∧ Below w.heap.size w w' := by
  obtain ⟨A, c, rfl, h1, h2, h3, hh⟩ := h
  obtain ⟨A', c', rfl, h1', h2', h3', hg⟩ := hu
  have hall := Below.refl w.heap.size w
  by_cases hlen : L.length = M.length
  · have HEQ := Lib.hid hlen
    have hne : ((L.length : Int) != (M.length : Int)) = false := by simp [bne]; omega
    replace hh := Lib.hid hh
    replace hg := Lib.hid hg
    clear hlen
    go_enter Try.func18, Try.ntmps18
    go_upto_region 0 with (fail)
    refine wp_region_lit ?_
    refine wl_v ?_ ?_ ?_; rotate_left; (focus (go_simp; (try with_reducible rfl); done)); try simp only [Act.put, List.setIfInBounds_toArray, List.set_cons_zero, List.set_cons_succ]
    go_upto_region 1 with (fail)
    refine wp_region_lit ?_
    refine wl_v ?_ ?_ ?_; rotate_left; (focus (go_simp; (try with_reducible rfl); done)); try simp only [Act.put, List.setIfInBounds_toArray, List.set_cons_zero, List.set_cons_succ]
    refine wl_v ?_ ?_ ?_; rotate_left; (focus (go_simp; (try with_reducible rfl); done)); try simp only [Act.put, List.setIfInBounds_toArray, List.set_cons_zero, List.set_cons_succ]
    refine wl_v ?_ ?_ ?_; rotate_left; (focus (go_simp; (try with_reducible rfl); done)); try simp only [Act.put, List.setIfInBounds_toArray, List.set_cons_zero, List.set_cons_succ]
    refine wl_v ?_ ?_ ?_; rotate_left; (focus (go_simp; (try with_reducible rfl); done)); try simp only [Act.put, List.setIfInBounds_toArray, List.set_cons_zero, List.set_cons_succ]
    refine wl_v (.bool false) (by go_simp <;> omega) ?_; try simp only [Act.put, List.setIfInBounds_toArray, List.set_cons_zero, List.set_cons_succ]
    go_upto_region 3 with (fail)
    refine wp_region_lit ?_
    refine wl_v ?_ ?_ ?_; rotate_left; (focus (go_simp; (try with_reducible rfl); done)); try simp only [Act.put, List.setIfInBounds_toArray, List.set_cons_zero, List.set_cons_succ]
    go_wp2_with fail
    go_loopw [5] (SmRel w L M) (fun i _ => L.length - (intOf i).toNat)
    case atStart => exact ⟨0, by omega, rfl, fun j hj => by omega, hall⟩
    case round =>
      clear hall
      obtain ⟨k, hk, rfl, hsame, hbel⟩ := hrel
      by_cases hlt : k < L.length
      · skip
        obtain ⟨b1, o1, hA1, hr1⟩ := flat_some (k := 1) (fun _ => rfl) hh.out (by omega) hlt
        obtain ⟨b2, o2, hA2, hr2⟩ := flat_some (k := 1) (fun _ => rfl) hg.out (by omega) (j := k) (by have := HEQ.out; omega)
        subst hA1 hA2
        have hy1 : L[k]? = some L[k] := List.getElem?_eq_getElem hlt
        have hy2 : M[k]? = some (M[k]'(by have := HEQ.out; omega)) := List.getElem?_eq_getElem _
        have HY1 := Lib.hid hy1
        have HY2 := Lib.hid hy2
        have HR1 := Lib.hid hr1
        have HR2 := Lib.hid hr2
        have HS := Lib.hid hsame
        generalize L[k] = x at *
        generalize M[k]'_ = y at *
        obtain ⟨z, hz⟩ : ∃ z, decide (x = y) = z := ⟨_, rfl⟩
        have heq : (x != y) = !z := by rw [← hz]; by_cases e : x = y <;> simp [e]
        have HZ := Lib.hid hz
        have hltI : (k : Int) < L.length := by omega
        have hltM : (k : Int) < M.length := by have := HEQ.out; omega
        clear hy1 hy2 hr1 hr2 hsame hz
        go_upto_region 4 with (fail)
        refine wp_region_lit ?_
        refine wl_v ?_ ?_ ?_; rotate_left; (focus (go_simp; (try with_reducible rfl); done)); try simp only [Act.put, List.setIfInBounds_toArray, List.set_cons_zero, List.set_cons_succ]
        refine wl_v ?_ ?_ ?_; rotate_left; (focus (go_simp; (try with_reducible rfl); done)); try simp only [Act.put, List.setIfInBounds_toArray, List.set_cons_zero, List.set_cons_succ]
        refine wl_v ?_ ?_ ?_; rotate_left; (focus (go_simp; (try with_reducible rfl); done)); try simp only [Act.put, List.setIfInBounds_toArray, List.set_cons_zero, List.set_cons_succ]
        refine wl_v (.bool true) (by go_simp <;> omega) ?_; try simp only [Act.put, List.setIfInBounds_toArray, List.set_cons_zero, List.set_cons_succ]
        cases z
        · skip
          go_upto_region 6 with (fail)
          have hS : BelowOf w _ := hbel.drew
          refine region_pi (BelowOf w) [(0, true), (1, true), (2, true), (3, true), (4, true), (5, true), (6, true), (7, true), (8, true)] (by kernel_rfl) (by kernel_rfl) rfl (by kernel_rfl) hS ?_
          have hbel : BelowOf w _ := hS
          unfold BelowOf at hbel
          clear hS
          refine pi_f0 ?_ rfl ?_ ?_; rotate_left; (focus (intro w' hS'; go_simp; (try with_reducible rfl); done)); try simp only [Act.put, List.setIfInBounds_toArray, List.set_cons_zero, List.set_cons_succ]
          refine pi_f0 ?_ rfl ?_ ?_; rotate_left; (focus (intro w' hS'; go_simp; (try with_reducible rfl); done)); try simp only [Act.put, List.setIfInBounds_toArray, List.set_cons_zero, List.set_cons_succ]
          refine pi_f0 ?_ rfl ?_ ?_; rotate_left; (focus (intro w' hS'; go_simp; (try with_reducible rfl); done)); try simp only [Act.put, List.setIfInBounds_toArray, List.set_cons_zero, List.set_cons_succ]
          refine pi_f0 (.int .i64 x) rfl (fun w' hS' => run_load1 _ b1 (o1 + k) rfl (by simpa using range_cell (range_ups HR1.out hS') 0 (v := .int .i64 x) rfl)) ?_; try simp only [Act.put, List.setIfInBounds_toArray, List.set_cons_zero, List.set_cons_succ]
          refine pi_f0 ?_ rfl ?_ ?_; rotate_left; (focus (intro w' hS'; go_simp; (try with_reducible rfl); done)); try simp only [Act.put, List.setIfInBounds_toArray, List.set_cons_zero, List.set_cons_succ]
          refine pi_f0 ?_ rfl ?_ ?_; rotate_left; (focus (intro w' hS'; go_simp; (try with_reducible rfl); done)); try simp only [Act.put, List.setIfInBounds_toArray, List.set_cons_zero, List.set_cons_succ]
          refine pi_f0 ?_ rfl ?_ ?_; rotate_left; (focus (intro w' hS'; go_simp; (try with_reducible rfl); done)); try simp only [Act.put, List.setIfInBounds_toArray, List.set_cons_zero, List.set_cons_succ]
          refine pi_f0 (.int .i64 y) rfl (fun w' hS' => run_load1 _ b2 (o2 + k) rfl (by simpa using range_cell (range_ups HR2.out hS') 0 (v := .int .i64 y) rfl)) ?_; try simp only [Act.put, List.setIfInBounds_toArray, List.set_cons_zero, List.set_cons_succ]
          refine pi_f0 (.bool true) rfl (by intro w' hS'; go_simp) ?_; try simp only [Act.put, List.setIfInBounds_toArray, List.set_cons_zero, List.set_cons_succ]
          refine pi_nil (NoPanic.normal ?_)
          go_wp2_with fail
          go_ret
          exact ⟨by rw [decide_eq_false (ne_of_at HY1.out HY2.out HZ.out)]; rfl, hbel⟩
        · skip
          go_upto_region 6 with (fail)
          have hS : BelowOf w _ := hbel.drew
          refine region_pi (BelowOf w) [(0, true), (1, true), (2, true), (3, true), (4, true), (5, true), (6, true), (7, true), (8, true)] (by kernel_rfl) (by kernel_rfl) rfl (by kernel_rfl) hS ?_
          have hbel : BelowOf w _ := hS
          unfold BelowOf at hbel
          clear hS
          refine pi_f0 ?_ rfl ?_ ?_; rotate_left; (focus (intro w' hS'; go_simp; (try with_reducible rfl); done)); try simp only [Act.put, List.setIfInBounds_toArray, List.set_cons_zero, List.set_cons_succ]
          refine pi_f0 ?_ rfl ?_ ?_; rotate_left; (focus (intro w' hS'; go_simp; (try with_reducible rfl); done)); try simp only [Act.put, List.setIfInBounds_toArray, List.set_cons_zero, List.set_cons_succ]
          refine pi_f0 ?_ rfl ?_ ?_; rotate_left; (focus (intro w' hS'; go_simp; (try with_reducible rfl); done)); try simp only [Act.put, List.setIfInBounds_toArray, List.set_cons_zero, List.set_cons_succ]
          refine pi_f0 (.int .i64 x) rfl (fun w' hS' => run_load1 _ b1 (o1 + k) rfl (by simpa using range_cell (range_ups HR1.out hS') 0 (v := .int .i64 x) rfl)) ?_; try simp only [Act.put, List.setIfInBounds_toArray, List.set_cons_zero, List.set_cons_succ]
          refine pi_f0 ?_ rfl ?_ ?_; rotate_left; (focus (intro w' hS'; go_simp; (try with_reducible rfl); done)); try simp only [Act.put, List.setIfInBounds_toArray, List.set_cons_zero, List.set_cons_succ]
          refine pi_f0 ?_ rfl ?_ ?_; rotate_left; (focus (intro w' hS'; go_simp; (try with_reducible rfl); done)); try simp only [Act.put, List.setIfInBounds_toArray, List.set_cons_zero, List.set_cons_succ]
          refine pi_f0 ?_ rfl ?_ ?_; rotate_left; (focus (intro w' hS'; go_simp; (try with_reducible rfl); done)); try simp only [Act.put, List.setIfInBounds_toArray, List.set_cons_zero, List.set_cons_succ]
          refine pi_f0 (.int .i64 y) rfl (fun w' hS' => run_load1 _ b2 (o2 + k) rfl (by simpa using range_cell (range_ups HR2.out hS') 0 (v := .int .i64 y) rfl)) ?_; try simp only [Act.put, List.setIfInBounds_toArray, List.set_cons_zero, List.set_cons_succ]
          refine pi_f0 (.bool false) rfl (by intro w' hS'; go_simp) ?_; try simp only [Act.put, List.setIfInBounds_toArray, List.set_cons_zero, List.set_cons_succ]
          refine pi_nil (NoPanic.normal ?_)
          go_upto_region 5 with (fail)
          refine wp_region_lit ?_
          refine wl_v ?_ ?_ ?_; rotate_left; (focus (go_simp; (try with_reducible rfl); done)); try simp only [Act.put, List.setIfInBounds_toArray, List.set_cons_zero, List.set_cons_succ]
          refine wl_v (.int .i64 ((k : Int) + 1)) (by go_simp <;> exact IntWalk.i64_in _ (by omega)) ?_; try simp only [Act.put, List.setIfInBounds_toArray, List.set_cons_zero, List.set_cons_succ]
          refine wl_v ?_ ?_ ?_; rotate_left; (focus (go_simp; (try with_reducible rfl); done)); try simp only [Act.put, List.setIfInBounds_toArray, List.set_cons_zero, List.set_cons_succ]
          go_wp2_with fail
          refine ⟨?_, ?_⟩
          · first
            | (exact ⟨k + 1, by omega, by go_num, same_next HS.out HY1.out HY2.out HZ.out, hbel⟩)
            | ((repeat apply Exists.intro); refine ⟨?_, ?_⟩; rotate_left; (focus (first | exact rfl | (repeat (first | exact rfl | refine ⟨rfl, ?_⟩)))); (exact ⟨k + 1, by omega, by go_num, same_next HS.out HY1.out HY2.out HZ.out, hbel⟩))
          · simp [intOf]; omega
      · obtain rfl : k = L.length := by omega
        have HS := Lib.hid hsame
        clear hsame
        go_upto_region 4 with (fail)
        refine wp_region_lit ?_
        refine wl_v ?_ ?_ ?_; rotate_left; (focus (go_simp; (try with_reducible rfl); done)); try simp only [Act.put, List.setIfInBounds_toArray, List.set_cons_zero, List.set_cons_succ]
        refine wl_v ?_ ?_ ?_; rotate_left; (focus (go_simp; (try with_reducible rfl); done)); try simp only [Act.put, List.setIfInBounds_toArray, List.set_cons_zero, List.set_cons_succ]
        refine wl_v ?_ ?_ ?_; rotate_left; (focus (go_simp; (try with_reducible rfl); done)); try simp only [Act.put, List.setIfInBounds_toArray, List.set_cons_zero, List.set_cons_succ]
        refine wl_v (.bool false) (by go_simp <;> omega) ?_; try simp only [Act.put, List.setIfInBounds_toArray, List.set_cons_zero, List.set_cons_succ]
        go_wp2_with fail
        go_ret
        exact ⟨by rw [decide_eq_true (same_end HEQ.out HS.out)]; rfl, hbel⟩
  · have HNE := Lib.hid hlen
    have hne : ((L.length : Int) != (M.length : Int)) = true := by simp [bne]; omega
    clear hlen hh hg
    go_enter Try.func18, Try.ntmps18
    go_upto_region 0 with (fail)
    refine wp_region_lit ?_
    refine wl_v ?_ ?_ ?_; rotate_left; (focus (go_simp; (try with_reducible rfl); done)); try simp only [Act.put, List.setIfInBounds_toArray, List.set_cons_zero, List.set_cons_succ]
    go_upto_region 1 with (fail)
    refine wp_region_lit ?_
    refine wl_v ?_ ?_ ?_; rotate_left; (focus (go_simp; (try with_reducible rfl); done)); try simp only [Act.put, List.setIfInBounds_toArray, List.set_cons_zero, List.set_cons_succ]
    refine wl_v ?_ ?_ ?_; rotate_left; (focus (go_simp; (try with_reducible rfl); done)); try simp only [Act.put, List.setIfInBounds_toArray, List.set_cons_zero, List.set_cons_succ]
    refine wl_v ?_ ?_ ?_; rotate_left; (focus (go_simp; (try with_reducible rfl); done)); try simp only [Act.put, List.setIfInBounds_toArray, List.set_cons_zero, List.set_cons_succ]
    refine wl_v ?_ ?_ ?_; rotate_left; (focus (go_simp; (try with_reducible rfl); done)); try simp only [Act.put, List.setIfInBounds_toArray, List.set_cons_zero, List.set_cons_succ]
    refine wl_v (.bool true) (by go_simp <;> omega) ?_; try simp only [Act.put, List.setIfInBounds_toArray, List.set_cons_zero, List.set_cons_succ]
    go_wp2_with fail
    go_ret
    exact ⟨by rw [decide_eq_false (fun e => HNE.out (congrArg List.length e))]; rfl, hall⟩

theorem Row.drop {α : Type} {enc : α → List Int} {size : Nat} (hk : ∀ x, (enc x).length = size) {w : World} {A : Option Addr} {c : Nat} {L : List α} (h : Row enc w (.slice A L.length c) L) {j : Nat} (hj : j ≤ L.length) : Row enc w (.slice (slAt A c j size) (L.length - j) (c - j)) (L.drop j) := by
  obtain ⟨A', c', e, h1, h2, h3, hh⟩ := h
  injection e with e1 e2 e3
  subst e1 e3
  refine ⟨_, _, by rw [List.length_drop], by rw [List.length_drop]; omega, by omega, fun e => ?_, by rw [FV_drop hk]; exact slAt_holds (FV_len hk L) h1 hh j⟩
  unfold slAt at e
  split at e
  · omega
  · have := h3 (by cases A <;> simp_all)
    omega
theorem own_base {w : World} {base base' size n : Nat} {e : TypeId} {v : Value} {xs : List Value} (h : w.ownsRow base e size v n xs) (hb : base' ≤ base) : w.ownsRow base' e size v n xs := by
  obtain ⟨h1, h2 | ⟨g, cap, cur, a1, a2, a3⟩⟩ := h
  · exact ⟨h1, .inl h2⟩
  · exact ⟨h1, .inr ⟨g, cap, cur, a1, Nat.le_trans hb a2, a3⟩⟩
end Go.Proofs.Ytfehhenbdiageaa
