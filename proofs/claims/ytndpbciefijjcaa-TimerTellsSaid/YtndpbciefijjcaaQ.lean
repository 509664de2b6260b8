/- Timer: Due; two rows held against each other. -/
import Derived.Test.YtndpbciefijjcaaN
import Derived.ScopeJumps
import Derived.WalkMore
namespace Go.Proofs.Ytndpbciefijjcaa
open Go.RowKit
set_option linter.unusedVariables false
set_option linter.unusedSimpArgs false

abbrev enc1 (x : Int) : List Int := [x]
theorem enc1_len (x : Int) : (enc1 x).length = 1 := rfl
abbrev IRow (w : World) (v : Value) (L : List Int) : Prop := Row enc1 w v L
abbrev IOwn (w : World) (base : Nat) (v : Value) (L : List Int) : Prop := w.ownsRow base 3 1 v L.length (FV enc1 L)
theorem IOwn.row {w : World} {base : Nat} {v : Value} {L : List Int} (h : IOwn w base v L) : IRow w v L := Row.own enc1_len (by omega) h
theorem i3 : (Try.prog.info? 3).map (fun i => (i.zero, i.size, i.bytes)) = some (some (.int .i64 0), 1, 8) := by kernel_rfl
theorem block1 {w : World} {b : Nat} {x : Int} (hx : Block w b 3 #[.int .i64 x]) : Holds w (some ⟨b, 0, none⟩) (FV enc1 [x]) := by
  intro j hj
  refine ⟨b, 0, rfl, ?_⟩
  rw [Nat.zero_add, Block.cell hx]
  simp [FV, IV, flat]
theorem g40 : Try.prog.eqGuardType Try.prog.depth 40 = false := by kernel_rfl
theorem h40 : Try.prog.stoodInHeld 40 = false := by kernel_rfl
theorem eqT (x y : Tm) (w : World) : (Op.equalIn 10000 40 (.agg #[.int .i64 x.1, .int .i64 x.2]) (.agg #[.int .i64 y.1, .int .i64 y.2])).run Try.prog w = .ok (decide (x = y)) w := by
  have h0 := h40
  have u28 := Try.underlying40
  have u3 := Try.underlying3
  obtain ⟨a, b⟩ := x
  obtain ⟨c, d⟩ := y
  go_simp
  by_cases e1 : a = c <;> by_cases e2 : b = d <;> simp [e1, e2]
theorem run_load1 {a : Act} {w : World} (x : Operand) (b o : Nat) {v : Int} {d : Option Tmp} {tt : TypeId} {ps : String} {af : Array Edge} {gd : Option (Nat × Bool)} (hx : a.eval x = .pointer (some ⟨b, o, none⟩)) (hc : w.cell? ⟨b, o, none⟩ = some (.int .i64 v)) :
    (execOp a.eval ⟨d, .load 3 x, tt, ps, af, gd⟩).run Try.prog w = .ok (.value (.int .i64 v)) w := by
  have u3 := Try.underlying3
  unfold execOp
  simp only [hx]
  go_simp
def SmRel {α : Type} (W : World) (L M : List α) (i : Value) (w : World) : Prop := ∃ k : Nat, k ≤ L.length ∧ i = .int .i64 (k : Nat) ∧ (∀ j, j < k → L[j]? = M[j]?) ∧ Below W.heap.size W w
theorem same_next {α : Type} [DecidableEq α] {L M : List α} {k : Nat} {x y : α} (h : ∀ j, j < k → L[j]? = M[j]?) (hx : L[k]? = some x) (hy : M[k]? = some y) (hz : decide (x = y) = true) : ∀ j, j < k + 1 → L[j]? = M[j]? := by
  intro j hj
  by_cases e : j = k
  · subst e
    rw [hx, hy, of_decide_eq_true hz]
  · exact h j (by omega)
theorem same_end {α : Type} {L M : List α} (hl : L.length = M.length) (h : ∀ j, j < L.length → L[j]? = M[j]?) : L = M := by
  apply List.ext_getElem?
  intro j
  by_cases hj : j < L.length
  · exact h j hj
  · rw [List.getElem?_eq_none (by omega), List.getElem?_eq_none (by omega)]
theorem ne_of_at {α : Type} [DecidableEq α] {L M : List α} {k : Nat} {x y : α} (hx : L[k]? = some x) (hy : M[k]? = some y) (hz : decide (x = y) = false) : L ≠ M := by
  intro e
  subst e
  rw [hx] at hy
  injection hy with hy
  exact of_decide_eq_false hz hy
set_option maxHeartbeats 1000000 in
set_option maxRecDepth 100000 in
theorem same21_any (w : World) (v u : Value) (L M : List Tm) (h : Row encT w v L) (hu : Row encT w u M) (hn : L.length ≤ 100000) (hm : M.length ≤ 100000) :
    Calls Try.prog 21 #[v, u] w fun e w' => e = .returned (.bool (decide (L = M))) ∧ Below w.heap.size w w' := by
  obtain ⟨A, c, rfl, h1, h2, h3, hh⟩ := h
  obtain ⟨A', c', rfl, h1', h2', h3', hg⟩ := hu
  have hall := Below.refl w.heap.size w
  by_cases hlen : L.length = M.length
  · have HEQ := Lib.hid hlen
    have hne : ((L.length : Int) != (M.length : Int)) = false := by simp [bne]; omega
    replace hh := Lib.hid hh
    replace hg := Lib.hid hg
    clear hlen
    go_enter Try.func21, Try.ntmps21
    go_upto_region 0 with (fail)
    refine wp_region_lit ?_
    refine wl_v ?_ ?_ ?_; rotate_left; (focus (go_simp; (try with_reducible rfl); done)); try simp only [Act.put, List.setIfInBounds_toArray, List.set_cons_zero, List.set_cons_succ]
    go_upto_region 1 with (fail)
    refine wp_region_lit ?_
    refine wl_v ?_ ?_ ?_; rotate_left; (focus (go_simp; (try with_reducible rfl); done)); try simp only [Act.put, List.setIfInBounds_toArray, List.set_cons_zero, List.set_cons_succ]
    refine wl_v ?_ ?_ ?_; rotate_left; (focus (go_simp; (try with_reducible rfl); done)); try simp only [Act.put, List.setIfInBounds_toArray, List.set_cons_zero, List.set_cons_succ]
    refine wl_v ?_ ?_ ?_; rotate_left; (focus (go_simp; (try with_reducible rfl); done)); try simp only [Act.put, List.setIfInBounds_toArray, List.set_cons_zero, List.set_cons_succ]
    refine wl_v ?_ ?_ ?_; rotate_left; (focus (go_simp; (try with_reducible rfl); done)); try simp only [Act.put, List.setIfInBounds_toArray, List.set_cons_zero, List.set_cons_succ]
    refine wl_v (.bool false) (by go_simp <;> omega) ?_; try simp only [Act.put, List.setIfInBounds_toArray, List.set_cons_zero, List.set_cons_succ]
    go_upto_region 3 with (fail)
    refine wp_region_lit ?_
    refine wl_v ?_ ?_ ?_; rotate_left; (focus (go_simp; (try with_reducible rfl); done)); try simp only [Act.put, List.setIfInBounds_toArray, List.set_cons_zero, List.set_cons_succ]
    go_wp2_with fail
    go_loopw [5] (SmRel w L M) (fun i _ => L.length - (intOf i).toNat)
    case atStart => exact ⟨0, by omega, rfl, fun j hj => by omega, hall⟩
    case round =>
      clear hall
      obtain ⟨k, hk, rfl, hsame, hbel⟩ := hrel
      by_cases hlt : k < L.length
      · skip
        obtain ⟨b1, o1, hA1, hr1⟩ := flat_some (k := 2) (fun _ => rfl) hh.out (by omega) hlt
        obtain ⟨b2, o2, hA2, hr2⟩ := flat_some (k := 2) (fun _ => rfl) hg.out (by omega) (j := k) (by have := HEQ.out; omega)
        subst hA1 hA2
        have hy1 : L[k]? = some L[k] := List.getElem?_eq_getElem hlt
        have hy2 : M[k]? = some (M[k]'(by have := HEQ.out; omega)) := List.getElem?_eq_getElem _
        have HY1 := Lib.hid hy1
        have HY2 := Lib.hid hy2
        have HR1 := Lib.hid hr1
        have HR2 := Lib.hid hr2
        have HS := Lib.hid hsame
        generalize L[k] = x at *
        generalize M[k]'_ = y at *
        obtain ⟨z, hz⟩ : ∃ z, decide (x = y) = z := ⟨_, rfl⟩
        have hg40 := g40
        have heq : ∀ w, (Op.equalIn 10000 40 (.agg #[.int .i64 x.1, .int .i64 x.2]) (.agg #[.int .i64 y.1, .int .i64 y.2])).run Try.prog w = .ok z w := fun w => by rw [eqT, hz]
        have HZ := Lib.hid hz
        have hltI : (k : Int) < L.length := by omega
        have hltM : (k : Int) < M.length := by have := HEQ.out; omega
        clear hy1 hy2 hr1 hr2 hsame hz
        go_upto_region 4 with (fail)
        refine wp_region_lit ?_
        refine wl_v ?_ ?_ ?_; rotate_left; (focus (go_simp; (try with_reducible rfl); done)); try simp only [Act.put, List.setIfInBounds_toArray, List.set_cons_zero, List.set_cons_succ]
        refine wl_v ?_ ?_ ?_; rotate_left; (focus (go_simp; (try with_reducible rfl); done)); try simp only [Act.put, List.setIfInBounds_toArray, List.set_cons_zero, List.set_cons_succ]
        refine wl_v ?_ ?_ ?_; rotate_left; (focus (go_simp; (try with_reducible rfl); done)); try simp only [Act.put, List.setIfInBounds_toArray, List.set_cons_zero, List.set_cons_succ]
        refine wl_v (.bool true) (by go_simp <;> omega) ?_; try simp only [Act.put, List.setIfInBounds_toArray, List.set_cons_zero, List.set_cons_succ]
        cases z
        · skip
          go_upto_region 6 with (fail)
          have hS : BelowOf w _ := hbel.drew
          refine region_pi (BelowOf w) [(0, true), (1, true), (2, true), (3, true), (4, true), (5, true), (6, true), (7, true), (8, true)] (by kernel_rfl) (by kernel_rfl) rfl (by kernel_rfl) hS ?_
          have hbel : BelowOf w _ := hS
          unfold BelowOf at hbel
          clear hS
          refine pi_f0 ?_ rfl ?_ ?_; rotate_left; (focus (intro w' hS'; go_simp; (try with_reducible rfl); done)); try simp only [Act.put, List.setIfInBounds_toArray, List.set_cons_zero, List.set_cons_succ]
          refine pi_f0 ?_ rfl ?_ ?_; rotate_left; (focus (intro w' hS'; go_simp; (try with_reducible rfl); done)); try simp only [Act.put, List.setIfInBounds_toArray, List.set_cons_zero, List.set_cons_succ]
          refine pi_f0 ?_ rfl ?_ ?_; rotate_left; (focus (intro w' hS'; go_simp; (try with_reducible rfl); done)); try simp only [Act.put, List.setIfInBounds_toArray, List.set_cons_zero, List.set_cons_succ]
          refine pi_f0 (.agg #[.int .i64 x.1, .int .i64 x.2]) rfl (fun w' hS' => run_loadM 40 _ b1 (o1 + k * 2) [.int .i64 x.1, .int .i64 x.2] rfl (range_ups HR1.out hS') (by kernel_rfl) s40) ?_; try simp only [Act.put, List.setIfInBounds_toArray, List.set_cons_zero, List.set_cons_succ]
          refine pi_f0 ?_ rfl ?_ ?_; rotate_left; (focus (intro w' hS'; go_simp; (try with_reducible rfl); done)); try simp only [Act.put, List.setIfInBounds_toArray, List.set_cons_zero, List.set_cons_succ]
          refine pi_f0 ?_ rfl ?_ ?_; rotate_left; (focus (intro w' hS'; go_simp; (try with_reducible rfl); done)); try simp only [Act.put, List.setIfInBounds_toArray, List.set_cons_zero, List.set_cons_succ]
          refine pi_f0 ?_ rfl ?_ ?_; rotate_left; (focus (intro w' hS'; go_simp; (try with_reducible rfl); done)); try simp only [Act.put, List.setIfInBounds_toArray, List.set_cons_zero, List.set_cons_succ]
          refine pi_f0 (.agg #[.int .i64 y.1, .int .i64 y.2]) rfl (fun w' hS' => run_loadM 40 _ b2 (o2 + k * 2) [.int .i64 y.1, .int .i64 y.2] rfl (range_ups HR2.out hS') (by kernel_rfl) s40) ?_; try simp only [Act.put, List.setIfInBounds_toArray, List.set_cons_zero, List.set_cons_succ]
          refine pi_f0 (.bool true) rfl (by intro w' hS'; go_simp) ?_; try simp only [Act.put, List.setIfInBounds_toArray, List.set_cons_zero, List.set_cons_succ]
          refine pi_nil (NoPanic.normal ?_)
          go_wp2_with fail
          go_ret
          exact ⟨by rw [decide_eq_false (ne_of_at HY1.out HY2.out HZ.out)]; rfl, hbel⟩
        · skip
          go_upto_region 6 with (fail)
          have hS : BelowOf w _ := hbel.drew
          refine region_pi (BelowOf w) [(0, true), (1, true), (2, true), (3, true), (4, true), (5, true), (6, true), (7, true), (8, true)] (by kernel_rfl) (by kernel_rfl) rfl (by kernel_rfl) hS ?_
          have hbel : BelowOf w _ := hS
          unfold BelowOf at hbel
          clear hS
          refine pi_f0 ?_ rfl ?_ ?_; rotate_left; (focus (intro w' hS'; go_simp; (try with_reducible rfl); done)); try simp only [Act.put, List.setIfInBounds_toArray, List.set_cons_zero, List.set_cons_succ]
          refine pi_f0 ?_ rfl ?_ ?_; rotate_left; (focus (intro w' hS'; go_simp; (try with_reducible rfl); done)); try simp only [Act.put, List.setIfInBounds_toArray, List.set_cons_zero, List.set_cons_succ]
          refine pi_f0 ?_ rfl ?_ ?_; rotate_left; (focus (intro w' hS'; go_simp; (try with_reducible rfl); done)); try simp only [Act.put, List.setIfInBounds_toArray, List.set_cons_zero, List.set_cons_succ]
          refine pi_f0 (.agg #[.int .i64 x.1, .int .i64 x.2]) rfl (fun w' hS' => run_loadM 40 _ b1 (o1 + k * 2) [.int .i64 x.1, .int .i64 x.2] rfl (range_ups HR1.out hS') (by kernel_rfl) s40) ?_; try simp only [Act.put, List.setIfInBounds_toArray, List.set_cons_zero, List.set_cons_succ]
          refine pi_f0 ?_ rfl ?_ ?_; rotate_left; (focus (intro w' hS'; go_simp; (try with_reducible rfl); done)); try simp only [Act.put, List.setIfInBounds_toArray, List.set_cons_zero, List.set_cons_succ]
          refine pi_f0 ?_ rfl ?_ ?_; rotate_left; (focus (intro w' hS'; go_simp; (try with_reducible rfl); done)); try simp only [Act.put, List.setIfInBounds_toArray, List.set_cons_zero, List.set_cons_succ]
          refine pi_f0 ?_ rfl ?_ ?_; rotate_left; (focus (intro w' hS'; go_simp; (try with_reducible rfl); done)); try simp only [Act.put, List.setIfInBounds_toArray, List.set_cons_zero, List.set_cons_succ]
          refine pi_f0 (.agg #[.int .i64 y.1, .int .i64 y.2]) rfl (fun w' hS' => run_loadM 40 _ b2 (o2 + k * 2) [.int .i64 y.1, .int .i64 y.2] rfl (range_ups HR2.out hS') (by kernel_rfl) s40) ?_; try simp only [Act.put, List.setIfInBounds_toArray, List.set_cons_zero, List.set_cons_succ]
          refine pi_f0 (.bool false) rfl (by intro w' hS'; go_simp) ?_; try simp only [Act.put, List.setIfInBounds_toArray, List.set_cons_zero, List.set_cons_succ]
          refine pi_nil (NoPanic.normal ?_)
          go_upto_region 5 with (fail)
          refine wp_region_lit ?_
          refine wl_v ?_ ?_ ?_; rotate_left; (focus (go_simp; (try with_reducible rfl); done)); try simp only [Act.put, List.setIfInBounds_toArray, List.set_cons_zero, List.set_cons_succ]
          refine wl_v (.int .i64 ((k : Int) + 1)) (by go_simp <;> exact IntWalk.i64_in _ (by omega)) ?_; try simp only [Act.put, List.setIfInBounds_toArray, List.set_cons_zero, List.set_cons_succ]
          refine wl_v ?_ ?_ ?_; rotate_left; (focus (go_simp; (try with_reducible rfl); done)); try simp only [Act.put, List.setIfInBounds_toArray, List.set_cons_zero, List.set_cons_succ]
          go_wp2_with fail
          refine ⟨?_, ?_⟩
          · first
            | (exact ⟨k + 1, by omega, by go_num, same_next HS.out HY1.out HY2.out HZ.out, hbel⟩)
            | ((repeat apply Exists.intro); refine ⟨?_, ?_⟩; rotate_left; (focus (first | exact rfl | (repeat (first | exact rfl | refine ⟨rfl, ?_⟩)))); (exact ⟨k + 1, by omega, by go_num, same_next HS.out HY1.out HY2.out HZ.out, hbel⟩))
          · simp [intOf]; omega
      · obtain rfl : k = L.length := by omega
        have HS := Lib.hid hsame
        clear hsame
        go_upto_region 4 with (fail)
        refine wp_region_lit ?_
        refine wl_v ?_ ?_ ?_; rotate_left; (focus (go_simp; (try with_reducible rfl); done)); try simp only [Act.put, List.setIfInBounds_toArray, List.set_cons_zero, List.set_cons_succ]
        refine wl_v ?_ ?_ ?_; rotate_left; (focus (go_simp; (try with_reducible rfl); done)); try simp only [Act.put, List.setIfInBounds_toArray, List.set_cons_zero, List.set_cons_succ]
        refine wl_v ?_ ?_ ?_; rotate_left; (focus (go_simp; (try with_reducible rfl); done)); try simp only [Act.put, List.setIfInBounds_toArray, List.set_cons_zero, List.set_cons_succ]
        refine wl_v (.bool false) (by go_simp <;> omega) ?_; try simp only [Act.put, List.setIfInBounds_toArray, List.set_cons_zero, List.set_cons_succ]
        go_wp2_with fail
        go_ret
        exact ⟨by rw [decide_eq_true (same_end HEQ.out HS.out)]; rfl, hbel⟩
  · have HNE := Lib.hid hlen
    have hne : ((L.length : Int) != (M.length : Int)) = true := by simp [bne]; omega
    clear hlen hh hg
    go_enter Try.func21, Try.ntmps21
    go_upto_region 0 with (fail)
    refine wp_region_lit ?_
    refine wl_v ?_ ?_ ?_; rotate_left; (focus (go_simp; (try with_reducible rfl); done)); try simp only [Act.put, List.setIfInBounds_toArray, List.set_cons_zero, List.set_cons_succ]
    go_upto_region 1 with (fail)
    refine wp_region_lit ?_
    refine wl_v ?_ ?_ ?_; rotate_left; (focus (go_simp; (try with_reducible rfl); done)); try simp only [Act.put, List.setIfInBounds_toArray, List.set_cons_zero, List.set_cons_succ]
    refine wl_v ?_ ?_ ?_; rotate_left; (focus (go_simp; (try with_reducible rfl); done)); try simp only [Act.put, List.setIfInBounds_toArray, List.set_cons_zero, List.set_cons_succ]
    refine wl_v ?_ ?_ ?_; rotate_left; (focus (go_simp; (try with_reducible rfl); done)); try simp only [Act.put, List.setIfInBounds_toArray, List.set_cons_zero, List.set_cons_succ]
    refine wl_v ?_ ?_ ?_; rotate_left; (focus (go_simp; (try with_reducible rfl); done)); try simp only [Act.put, List.setIfInBounds_toArray, List.set_cons_zero, List.set_cons_succ]
    refine wl_v (.bool true) (by go_simp <;> omega) ?_; try simp only [Act.put, List.setIfInBounds_toArray, List.set_cons_zero, List.set_cons_succ]
    go_wp2_with fail
    go_ret
    exact ⟨by rw [decide_eq_false (fun e => HNE.out (congrArg List.length e))]; rfl, hall⟩
set_option maxHeartbeats 1000000 in
set_option maxRecDepth 100000 in
theorem same16_any (w : World) (v u : Value) (L M : List Int) (h : Row enc1 w v L) (hu : Row enc1 w u M) (hn : L.length ≤ 100000) (hm : M.length ≤ 100000) :
    Calls Try.prog 16 #[v, u] w fun e w' => e = .returned (.bool (decide (L = M))) ∧ Below w.heap.size w w' := by
  obtain ⟨A, c, rfl, h1, h2, h3, hh⟩ := h
  obtain ⟨A', c', rfl, h1', h2', h3', hg⟩ := hu
  have hall := Below.refl w.heap.size w
  by_cases hlen : L.length = M.length
  · have HEQ := Lib.hid hlen
    have hne : ((L.length : Int) != (M.length : Int)) = false := by simp [bne]; omega
    replace hh := Lib.hid hh
    replace hg := Lib.hid hg
    clear hlen
    go_enter Try.func16, Try.ntmps16
    go_upto_region 0 with (fail)
    refine wp_region_lit ?_
    refine wl_v ?_ ?_ ?_; rotate_left; (focus (go_simp; (try with_reducible rfl); done)); try simp only [Act.put, List.setIfInBounds_toArray, List.set_cons_zero, List.set_cons_succ]
    go_upto_region 1 with (fail)
    refine wp_region_lit ?_
    refine wl_v ?_ ?_ ?_; rotate_left; (focus (go_simp; (try with_reducible rfl); done)); try simp only [Act.put, List.setIfInBounds_toArray, List.set_cons_zero, List.set_cons_succ]
    refine wl_v ?_ ?_ ?_; rotate_left; (focus (go_simp; (try with_reducible rfl); done)); try simp only [Act.put, List.setIfInBounds_toArray, List.set_cons_zero, List.set_cons_succ]
    refine wl_v ?_ ?_ ?_; rotate_left; (focus (go_simp; (try with_reducible rfl); done)); try simp only [Act.put, List.setIfInBounds_toArray, List.set_cons_zero, List.set_cons_succ]
    refine wl_v ?_ ?_ ?_; rotate_left; (focus (go_simp; (try with_reducible rfl); done)); try simp only [Act.put, List.setIfInBounds_toArray, List.set_cons_zero, List.set_cons_succ]
    refine wl_v (.bool false) (by go_simp <;> omega) ?_; try simp only [Act.put, List.setIfInBounds_toArray, List.set_cons_zero, List.set_cons_succ]
    go_upto_region 3 with (fail)
    refine wp_region_lit ?_
    refine wl_v ?_ ?_ ?_; rotate_left; (focus (go_simp; (try with_reducible rfl); done)); try simp only [Act.put, List.setIfInBounds_toArray, List.set_cons_zero, List.set_cons_succ]
    go_wp2_with fail
    go_loopw [5] (SmRel w L M) (fun i _ => L.length - (intOf i).toNat)
    case atStart => exact ⟨0, by omega, rfl, fun j hj => by omega, hall⟩
    case round =>
      clear hall
      obtain ⟨k, hk, rfl, hsame, hbel⟩ := hrel
      by_cases hlt : k < L.length
      · skip
        obtain ⟨b1, o1, hA1, hr1⟩ := flat_some (k := 1) (fun _ => rfl) hh.out (by omega) hlt
        obtain ⟨b2, o2, hA2, hr2⟩ := flat_some (k := 1) (fun _ => rfl) hg.out (by omega) (j := k) (by have := HEQ.out; omega)
        subst hA1 hA2
        have hy1 : L[k]? = some L[k] := List.getElem?_eq_getElem hlt
        have hy2 : M[k]? = some (M[k]'(by have := HEQ.out; omega)) := List.getElem?_eq_getElem _
        have HY1 := Lib.hid hy1
        have HY2 := Lib.hid hy2
        have HR1 := Lib.hid hr1
        have HR2 := Lib.hid hr2
        have HS := Lib.hid hsame
        generalize L[k] = x at *
        generalize M[k]'_ = y at *
        obtain ⟨z, hz⟩ : ∃ z, decide (x = y) = z := ⟨_, rfl⟩
        have heq : (x != y) = !z := by rw [← hz]; by_cases e : x = y <;> simp [e]
        have HZ := Lib.hid hz
        have hltI : (k : Int) < L.length := by omega
        have hltM : (k : Int) < M.length := by have := HEQ.out; omega
        clear hy1 hy2 hr1 hr2 hsame hz
        go_upto_region 4 with (fail)
        refine wp_region_lit ?_
        refine wl_v ?_ ?_ ?_; rotate_left; (focus (go_simp; (try with_reducible rfl); done)); try simp only [Act.put, List.setIfInBounds_toArray, List.set_cons_zero, List.set_cons_succ]
        refine wl_v ?_ ?_ ?_; rotate_left; (focus (go_simp; (try with_reducible rfl); done)); try simp only [Act.put, List.setIfInBounds_toArray, List.set_cons_zero, List.set_cons_succ]
        refine wl_v ?_ ?_ ?_; rotate_left; (focus (go_simp; (try with_reducible rfl); done)); try simp only [Act.put, List.setIfInBounds_toArray, List.set_cons_zero, List.set_cons_succ]
        refine wl_v (.bool true) (by go_simp <;> omega) ?_; try simp only [Act.put, List.setIfInBounds_toArray, List.set_cons_zero, List.set_cons_succ]
        cases z
        · skip
          go_upto_region 6 with (fail)
          have hS : BelowOf w _ := hbel.drew
          refine region_pi (BelowOf w) [(0, true), (1, true), (2, true), (3, true), (4, true), (5, true), (6, true), (7, true), (8, true)] (by kernel_rfl) (by kernel_rfl) rfl (by kernel_rfl) hS ?_
          have hbel : BelowOf w _ := hS
          unfold BelowOf at hbel
          clear hS
          refine pi_f0 ?_ rfl ?_ ?_; rotate_left; (focus (intro w' hS'; go_simp; (try with_reducible rfl); done)); try simp only [Act.put, List.setIfInBounds_toArray, List.set_cons_zero, List.set_cons_succ]
          refine pi_f0 ?_ rfl ?_ ?_; rotate_left; (focus (intro w' hS'; go_simp; (try with_reducible rfl); done)); try simp only [Act.put, List.setIfInBounds_toArray, List.set_cons_zero, List.set_cons_succ]
          refine pi_f0 ?_ rfl ?_ ?_; rotate_left; (focus (intro w' hS'; go_simp; (try with_reducible rfl); done)); try simp only [Act.put, List.setIfInBounds_toArray, List.set_cons_zero, List.set_cons_succ]
          refine pi_f0 (.int .i64 x) rfl (fun w' hS' => run_load1 _ b1 (o1 + k) rfl (by simpa using range_cell (range_ups HR1.out hS') 0 (v := .int .i64 x) rfl)) ?_; try simp only [Act.put, List.setIfInBounds_toArray, List.set_cons_zero, List.set_cons_succ]
          refine pi_f0 ?_ rfl ?_ ?_; rotate_left; (focus (intro w' hS'; go_simp; (try with_reducible rfl); done)); try simp only [Act.put, List.setIfInBounds_toArray, List.set_cons_zero, List.set_cons_succ]
          refine pi_f0 ?_ rfl ?_ ?_; rotate_left; (focus (intro w' hS'; go_simp; (try with_reducible rfl); done)); try simp only [Act.put, List.setIfInBounds_toArray, List.set_cons_zero, List.set_cons_succ]
          refine pi_f0 ?_ rfl ?_ ?_; rotate_left; (focus (intro w' hS'; go_simp; (try with_reducible rfl); done)); try simp only [Act.put, List.setIfInBounds_toArray, List.set_cons_zero, List.set_cons_succ]
          refine pi_f0 (.int .i64 y) rfl (fun w' hS' => run_load1 _ b2 (o2 + k) rfl (by simpa using range_cell (range_ups HR2.out hS') 0 (v := .int .i64 y) rfl)) ?_; try simp only [Act.put, List.setIfInBounds_toArray, List.set_cons_zero, List.set_cons_succ]
          refine pi_f0 (.bool true) rfl (by intro w' hS'; go_simp) ?_; try simp only [Act.put, List.setIfInBounds_toArray, List.set_cons_zero, List.set_cons_succ]
          refine pi_nil (NoPanic.normal ?_)
          go_wp2_with fail
          go_ret
          exact ⟨by rw [decide_eq_false (ne_of_at HY1.out HY2.out HZ.out)]; rfl, hbel⟩
        · skip
          go_upto_region 6 with (fail)
          have hS : BelowOf w _ := hbel.drew
          refine region_pi (BelowOf w) [(0, true), (1, true), (2, true), (3, true), (4, true), (5, true), (6, true), (7, true), (8, true)] (by kernel_rfl) (by kernel_rfl) rfl (by kernel_rfl) hS ?_
          have hbel : BelowOf w _ := hS
          unfold BelowOf at hbel
          clear hS
          refine pi_f0 ?_ rfl ?_ ?_; rotate_left; (focus (intro w' hS'; go_simp; (try with_reducible rfl); done)); try simp only [Act.put, List.setIfInBounds_toArray, List.set_cons_zero, List.set_cons_succ]
          refine pi_f0 ?_ rfl ?_ ?_; rotate_left; (focus (intro w' hS'; go_simp; (try with_reducible rfl); done)); try simp only [Act.put, List.setIfInBounds_toArray, List.set_cons_zero, List.set_cons_succ]
          refine pi_f0 ?_ rfl ?_ ?_; rotate_left; (focus (intro w' hS'; go_simp; (try with_reducible rfl); done)); try simp only [Act.put, List.setIfInBounds_toArray, List.set_cons_zero, List.set_cons_succ]
          refine pi_f0 (.int .i64 x) rfl (fun w' hS' => run_load1 _ b1 (o1 + k) rfl (by simpa using range_cell (range_ups HR1.out hS') 0 (v := .int .i64 x) rfl)) ?_; try simp only [Act.put, List.setIfInBounds_toArray, List.set_cons_zero, List.set_cons_succ]
          refine pi_f0 ?_ rfl ?_ ?_; rotate_left; (focus (intro w' hS'; go_simp; (try with_reducible rfl); done)); try simp only [Act.put, List.setIfInBounds_toArray, List.set_cons_zero, List.set_cons_succ]
          refine pi_f0 ?_ rfl ?_ ?_; rotate_left; (focus (intro w' hS'; go_simp; (try with_reducible rfl); done)); try simp only [Act.put, List.setIfInBounds_toArray, List.set_cons_zero, List.set_cons_succ]
          refine pi_f0 ?_ rfl ?_ ?_; rotate_left; (focus (intro w' hS'; go_simp; (try with_reducible rfl); done)); try simp only [Act.put, List.setIfInBounds_toArray, List.set_cons_zero, List.set_cons_succ]
          refine pi_f0 (.int .i64 y) rfl (fun w' hS' => run_load1 _ b2 (o2 + k) rfl (by simpa using range_cell (range_ups HR2.out hS') 0 (v := .int .i64 y) rfl)) ?_; try simp only [Act.put, List.setIfInBounds_toArray, List.set_cons_zero, List.set_cons_succ]
          refine pi_f0 (.bool false) rfl (by intro w' hS'; go_simp) ?_; try simp only [Act.put, List.setIfInBounds_toArray, List.set_cons_zero, List.set_cons_succ]
          refine pi_nil (NoPanic.normal ?_)
          go_upto_region 5 with (fail)
          refine wp_region_lit ?_
          refine wl_v ?_ ?_ ?_; rotate_left; (focus (go_simp; (try with_reducible rfl); done)); try simp only [Act.put, List.setIfInBounds_toArray, List.set_cons_zero, List.set_cons_succ]
          refine wl_v (.int .i64 ((k : Int) + 1)) (by go_simp <;> exact IntWalk.i64_in _ (by omega)) ?_; try simp only [Act.put, List.setIfInBounds_toArray, List.set_cons_zero, List.set_cons_succ]
          refine wl_v ?_ ?_ ?_; rotate_left; (focus (go_simp; (try with_reducible rfl); done)); try simp only [Act.put, List.setIfInBounds_toArray, List.set_cons_zero, List.set_cons_succ]
          go_wp2_with fail
          refine ⟨?_, ?_⟩
          · first
            | (exact ⟨k + 1, by omega, by go_num, same_next HS.out HY1.out HY2.out HZ.out, hbel⟩)
            | ((repeat apply Exists.intro); refine ⟨?_, ?_⟩; rotate_left; (focus (first | exact rfl | (repeat (first | exact rfl | refine ⟨rfl, ?_⟩)))); (exact ⟨k + 1, by omega, by go_num, same_next HS.out HY1.out HY2.out HZ.out, hbel⟩))
          · simp [intOf]; omega
      · obtain rfl : k = L.length := by omega
        have HS := Lib.hid hsame
        clear hsame
        go_upto_region 4 with (fail)
        refine wp_region_lit ?_
        refine wl_v ?_ ?_ ?_; rotate_left; (focus (go_simp; (try with_reducible rfl); done)); try simp only [Act.put, List.setIfInBounds_toArray, List.set_cons_zero, List.set_cons_succ]
        refine wl_v ?_ ?_ ?_; rotate_left; (focus (go_simp; (try with_reducible rfl); done)); try simp only [Act.put, List.setIfInBounds_toArray, List.set_cons_zero, List.set_cons_succ]
        refine wl_v ?_ ?_ ?_; rotate_left; (focus (go_simp; (try with_reducible rfl); done)); try simp only [Act.put, List.setIfInBounds_toArray, List.set_cons_zero, List.set_cons_succ]
        refine wl_v (.bool false) (by go_simp <;> omega) ?_; try simp only [Act.put, List.setIfInBounds_toArray, List.set_cons_zero, List.set_cons_succ]
        go_wp2_with fail
        go_ret
        exact ⟨by rw [decide_eq_true (same_end HEQ.out HS.out)]; rfl, hbel⟩
  · have HNE := Lib.hid hlen
    have hne : ((L.length : Int) != (M.length : Int)) = true := by simp [bne]; omega
    clear hlen hh hg
    go_enter Try.func16, Try.ntmps16
    go_upto_region 0 with (fail)
    refine wp_region_lit ?_
    refine wl_v ?_ ?_ ?_; rotate_left; (focus (go_simp; (try with_reducible rfl); done)); try simp only [Act.put, List.setIfInBounds_toArray, List.set_cons_zero, List.set_cons_succ]
    go_upto_region 1 with (fail)
    refine wp_region_lit ?_
    refine wl_v ?_ ?_ ?_; rotate_left; (focus (go_simp; (try with_reducible rfl); done)); try simp only [Act.put, List.setIfInBounds_toArray, List.set_cons_zero, List.set_cons_succ]
    refine wl_v ?_ ?_ ?_; rotate_left; (focus (go_simp; (try with_reducible rfl); done)); try simp only [Act.put, List.setIfInBounds_toArray, List.set_cons_zero, List.set_cons_succ]
    refine wl_v ?_ ?_ ?_; rotate_left; (focus (go_simp; (try with_reducible rfl); done)); try simp only [Act.put, List.setIfInBounds_toArray, List.set_cons_zero, List.set_cons_succ]
    refine wl_v ?_ ?_ ?_; rotate_left; (focus (go_simp; (try with_reducible rfl); done)); try simp only [Act.put, List.setIfInBounds_toArray, List.set_cons_zero, List.set_cons_succ]
    refine wl_v (.bool true) (by go_simp <;> omega) ?_; try simp only [Act.put, List.setIfInBounds_toArray, List.set_cons_zero, List.set_cons_succ]
    go_wp2_with fail
    go_ret
    exact ⟨by rw [decide_eq_false (fun e => HNE.out (congrArg List.length e))]; rfl, hall⟩

theorem Row.drop {α : Type} {enc : α → List Int} {size : Nat} (hk : ∀ x, (enc x).length = size) {w : World} {A : Option Addr} {c : Nat} {L : List α} (h : Row enc w (.slice A L.length c) L) {j : Nat} (hj : j ≤ L.length) : Row enc w (.slice (slAt A c j size) (L.length - j) (c - j)) (L.drop j) := by
  obtain ⟨A', c', e, h1, h2, h3, hh⟩ := h
  injection e with e1 e2 e3
  subst e1 e3
  refine ⟨_, _, by rw [List.length_drop], by rw [List.length_drop]; omega, by omega, fun e => ?_, by rw [FV_drop hk]; exact slAt_holds (FV_len hk L) h1 hh j⟩
  unfold slAt at e
  split at e
  · omega
  · have := h3 (by cases A <;> simp_all)
    omega
theorem own_base {w : World} {base base' size n : Nat} {e : TypeId} {v : Value} {xs : List Value} (h : w.ownsRow base e size v n xs) (hb : base' ≤ base) : w.ownsRow base' e size v n xs := by
  obtain ⟨h1, h2 | ⟨g, cap, cur, a1, a2, a3⟩⟩ := h
  · exact ⟨h1, .inl h2⟩
  · exact ⟨h1, .inr ⟨g, cap, cur, a1, Nat.le_trans hb a2, a3⟩⟩
def idsF (L : List Tm) (k : Nat) : List Int := (L.take k).map (·.1)
theorem ids_len {L : List Tm} {k : Nat} (h : k ≤ L.length) : (idsF L k).length = k := by simp [idsF]; omega
def dueIds (L : List Tm) (now : Int) : List Int := (L.takeWhile fun x => decide (x.2 ≤ now)).map (·.1)
def dueRest (L : List Tm) (now : Int) : List Tm := L.dropWhile fun x => decide (x.2 ≤ now)
theorem due_next {L : List Tm} {now : Int} {k : Nat} {y : Tm} (h : ∀ j, j < k → ∀ x, L[j]? = some x → x.2 ≤ now) (hy : L[k]? = some y) (hle : y.2 ≤ now) : ∀ j, j < k + 1 → ∀ x, L[j]? = some x → x.2 ≤ now := by
  intro j hj x hx
  by_cases e : j = k
  · subst e
    rw [hy] at hx
    injection hx with hx
    rw [← hx]; exact hle
  · exact h j (by omega) x hx
theorem due_own {L : List Tm} {k : Nat} {y : Tm} {w : World} {base : Nat} {v : Value} (hy : L[k]? = some y) (h : w.ownsRow base 3 1 v (k + 1) (FV enc1 (idsF L k) ++ FV enc1 [y.1])) : w.ownsRow base 3 1 v (k + 1) (FV enc1 (idsF L (k + 1))) := by
  obtain ⟨hk, e⟩ := List.getElem?_eq_some_iff.1 hy
  rw [← FV_append] at h
  unfold idsF at h ⊢
  rw [List.take_succ_eq_append_getElem hk, List.map_append, e]
  exact h
theorem due_split {L : List Tm} {now : Int} : ∀ {k : Nat}, k ≤ L.length → (∀ j, j < k → ∀ x, L[j]? = some x → x.2 ≤ now) → (∀ x, L[k]? = some x → ¬ x.2 ≤ now) → dueIds L now = idsF L k ∧ dueRest L now = L.drop k := by
  induction L with
  | nil => intro k hk _ _; simp [dueIds, dueRest, idsF]
  | cons y L ih =>
    intro k hk h1 h2
    cases k with
    | zero =>
      have := h2 y rfl
      simp [dueIds, dueRest, idsF, this]
    | succ k =>
      have h0 := h1 0 (by omega) y rfl
      have := ih (k := k) (by simpa using hk) (fun j hj x hx => h1 (j + 1) (by omega) x (by simpa using hx)) (fun x hx => h2 x (by simpa using hx))
      simp only [dueIds, dueRest, idsF, List.takeWhile_cons, List.dropWhile_cons, h0, decide_true, if_true, List.map_cons, List.take_succ_cons, List.drop_succ_cons] at this ⊢
      exact ⟨by rw [this.1], this.2⟩
def DueEnd (W : World) (L : List Tm) (now : Int) (e : Ending) (w : World) : Prop := ∃ v u, e = .returned (.tuple #[v, u]) ∧ TOwn w W.heap.size v (dueRest L now) ∧ IOwn w W.heap.size u (dueIds L now)
def NotDue (L : List Tm) (k : Nat) (now : Int) : Prop := ∀ x, L[k]? = some x → ¬ x.2 ≤ now
theorem due_end {W w : World} {L : List Tm} {now : Int} {k : Nat} {v u : Value} (hk : k ≤ L.length) (h1 : ∀ j, j < k → ∀ x, L[j]? = some x → x.2 ≤ now) (h2 : NotDue L k now)
    (hv : TOwn w W.heap.size v (L.drop k)) (hu : w.ownsRow W.heap.size 3 1 u k (FV enc1 (idsF L k))) : DueEnd W L now (.returned (.tuple #[v, u])) w := by
  obtain ⟨e1, e2⟩ := due_split hk h1 h2
  refine ⟨v, u, rfl, by rw [e2]; exact hv, ?_⟩
  unfold IOwn
  rw [e1, ids_len hk]
  exact hu
/-- a scope whose label is jumped to -/
theorem wp_scope_label {P : Program} {a : Act} {w : World} {Q : Exit → Act → World → Prop} {c rest : Code} (l : Nat) (J : Act → World → Prop) (μ : Act → World → Nat) (hf : findLabel c l = some (Code.skip.seq rest))
    (first : (∀ a w, J a w → rest.wp P (Exit.jump l J Q) a w) → c.wp P (Exit.jump l J Q) a w)
    (pass : ∀ a w, J a w → rest.wp P (Exit.jump l (fun a' w' => J a' w' ∧ μ a' w' < μ a w) Q) a w) : (Code.scope c).wp P Q a w :=
  wp_scope_jumps l J μ hf (first fun a w hJ => wp_mono (pass a w hJ) fun e a w q => by cases e <;> first | exact q | exact ⟨q.1, q.2.1⟩) (fun a w hJ => wp_seq (wp_skip (pass a w hJ)))
def DueJ (W : World) (A : Option Addr) (c : Nat) (L : List Tm) (now : Int) (a : Act) (w : World) : Prop :=
  ∃ (k : Nat) (v6 u8 u9 u10 u11 u12 u13 u14 u15 u16 u17 u18 u19 u20 u21 u22 u23 u24 u25 u26 u27 u28 u29 u30 u31 u32 u33 u34 u35 : Value), a = { tmps := #[.slice A L.length c, .int .i64 now, undef, undef, .slice none 0 0, .slice none 0 0, v6, .int .i64 (k : Nat), u8, u9, u10, u11, u12, u13, u14, u15, u16, u17, u18, u19, u20, u21, u22, u23, u24, u25, u26, u27, u28, u29, u30, u31, u32, u33, u34, u35], defers := [] } ∧ k ≤ L.length ∧ w.ownsRow W.heap.size 3 1 v6 k (FV enc1 (idsF L k)) ∧ (∀ j, j < k → ∀ x, L[j]? = some x → x.2 ≤ now) ∧ Below W.heap.size W w
set_option maxHeartbeats 2000000 in
set_option maxRecDepth 100000 in
theorem due_any (w : World) (v : Value) (L : List Tm) (now : Int) (h : TRow w v L) (hn : L.length ≤ 100000) :
    Calls Try.prog 14 #[v, .int .i64 now] w fun e w' => DueEnd w L now e w' ∧ Below w.heap.size w w' := by
  obtain ⟨A, c, rfl, h1, h2, h3, hh⟩ := h
  have hrow : Hid (TRow w (.slice A L.length c) L) := Lib.hid ⟨A, c, rfl, h1, h2, h3, hh⟩
  replace hh := Lib.hid hh
  have hall := Below.refl w.heap.size w
  go_enter Try.func14, Try.ntmps14
  go_wp2_with fail
  refine wp_scope_label 0 (DueJ w A c L now) (fun a' _ => L.length - (intOf (a'.tmps.getD 7 undef)).toNat) rfl (fun hp => ?_) ?_
  · skip
    go_wp2_with fail
    go_step3
    simp only [Exit.then]
    apply_assumption
    refine hp _ _ ?_
    exact ⟨0, _, undef, undef, undef, undef, undef, undef, undef, undef, undef, undef, undef, undef, undef, undef, undef, undef, undef, undef, undef, undef, undef, undef, undef, undef, undef, undef, undef, undef, rfl, by omega, World.ownsRow_nil _ _ _ _, fun j hj => by omega, hall⟩
  · skip
    clear hall
    rintro a' w' ⟨k, v6, u8, u9, u10, u11, u12, u13, u14, u15, u16, u17, u18, u19, u20, u21, u22, u23, u24, u25, u26, u27, u28, u29, u30, u31, u32, u33, u34, u35, rfl, hk, hown, hdue, hall⟩
    by_cases hlt : k < L.length
    · skip
      obtain ⟨b, o, hA, hr⟩ := flat_some encT_len hh.out (by omega) hlt
      subst hA
      have hy : L[k]? = some L[k] := List.getElem?_eq_getElem hlt
      have HY := Lib.hid hy
      have hr' := range_ups hr hall
      have HD := Lib.hid hdue
      generalize L[k] = y at *
      have hc0 : w'.cell? ⟨b, o + k * 2, none⟩ = some (.int .i64 y.1) := range_cell hr' 0 rfl
      have hc1 := range_cell hr' 1 (v := .int .i64 y.2) rfl
      have hltI : (k : Int) < L.length := by omega
      clear hy hr hr' hdue
      by_cases hle : y.2 ≤ now
      · skip
        go_upto_region 3 with (fail)
        refine wp_region_lit ?_
        refine wl_v ?_ ?_ ?_; rotate_left; (focus (go_simp; (try with_reducible rfl); done)); try simp only [Act.put, List.setIfInBounds_toArray, List.set_cons_zero, List.set_cons_succ]
        refine wl_v ?_ ?_ ?_; rotate_left; (focus (go_simp; (try with_reducible rfl); done)); try simp only [Act.put, List.setIfInBounds_toArray, List.set_cons_zero, List.set_cons_succ]
        refine wl_v ?_ ?_ ?_; rotate_left; (focus (go_simp; (try with_reducible rfl); done)); try simp only [Act.put, List.setIfInBounds_toArray, List.set_cons_zero, List.set_cons_succ]
        refine wl_v ?_ ?_ ?_; rotate_left; (focus (go_simp; (try with_reducible rfl); done)); try simp only [Act.put, List.setIfInBounds_toArray, List.set_cons_zero, List.set_cons_succ]
        refine wl_v ?_ ?_ ?_; rotate_left; (focus (go_simp; (try with_reducible rfl); done)); try simp only [Act.put, List.setIfInBounds_toArray, List.set_cons_zero, List.set_cons_succ]
        refine op_unguard _ _ rfl ?_; refine wl_v ?_ ?_ ?_; rotate_left; (focus (go_simp; (try with_reducible rfl); done)); try simp only [Act.put, List.setIfInBounds_toArray, List.set_cons_zero, List.set_cons_succ]
        refine op_unguard _ _ rfl ?_; refine wl_v ?_ ?_ ?_; rotate_left; (focus (go_simp; (try with_reducible rfl); done)); try simp only [Act.put, List.setIfInBounds_toArray, List.set_cons_zero, List.set_cons_succ]
        refine op_unguard _ _ rfl ?_; refine wl_v ?_ ?_ ?_; rotate_left; (focus (go_simp; (try with_reducible rfl); done)); try simp only [Act.put, List.setIfInBounds_toArray, List.set_cons_zero, List.set_cons_succ]
        refine op_unguard _ _ rfl ?_; refine wl_v ?_ ?_ ?_; rotate_left; (focus (go_simp; (try with_reducible rfl); done)); try simp only [Act.put, List.setIfInBounds_toArray, List.set_cons_zero, List.set_cons_succ]
        refine op_unguard _ _ rfl ?_; refine wl_v ?_ ?_ ?_; rotate_left; (focus (go_simp; (try with_reducible rfl); done)); try simp only [Act.put, List.setIfInBounds_toArray, List.set_cons_zero, List.set_cons_succ]
        refine op_unguard _ _ rfl ?_; refine wl_v ?_ ?_ ?_; rotate_left; (focus (go_simp; (try with_reducible rfl); done)); try simp only [Act.put, List.setIfInBounds_toArray, List.set_cons_zero, List.set_cons_succ]
        refine op_unguard _ _ rfl ?_; refine wl_v (.bool true) (by go_simp <;> omega) ?_; try simp only [Act.put, List.setIfInBounds_toArray, List.set_cons_zero, List.set_cons_succ]
        refine wl_v (.bool true) (by go_simp <;> omega) ?_; try simp only [Act.put, List.setIfInBounds_toArray, List.set_cons_zero, List.set_cons_succ]
        go_upto_region 4 with (fail)
        refine wp_region_lit ?_
        refine wl_v ?_ ?_ ?_; rotate_left; (focus (go_simp; (try with_reducible rfl); done)); try simp only [Act.put, List.setIfInBounds_toArray, List.set_cons_zero, List.set_cons_succ]
        refine wl_v ?_ ?_ ?_; rotate_left; (focus (go_simp; (try with_reducible rfl); done)); try simp only [Act.put, List.setIfInBounds_toArray, List.set_cons_zero, List.set_cons_succ]
        refine wl_v ?_ ?_ ?_; rotate_left; (focus (go_simp; (try with_reducible rfl); done)); try simp only [Act.put, List.setIfInBounds_toArray, List.set_cons_zero, List.set_cons_succ]
        refine wl_v ?_ ?_ ?_; rotate_left; (focus (go_simp; (try with_reducible rfl); done)); try simp only [Act.put, List.setIfInBounds_toArray, List.set_cons_zero, List.set_cons_succ]
        refine wl_v ?_ ?_ ?_; rotate_left; (focus (go_simp; (try with_reducible rfl); done)); try simp only [Act.put, List.setIfInBounds_toArray, List.set_cons_zero, List.set_cons_succ]
        refine wl_v ?_ ?_ ?_; rotate_left; (focus (go_simp; (try with_reducible rfl); done)); try simp only [Act.put, List.setIfInBounds_toArray, List.set_cons_zero, List.set_cons_succ]
        refine op_lit 31 1 _ 3 #[.int .i64 y.1] (by intro wl; kernel_rfl) fun w1 b1 hge hb k1 => ?_; replace hown := own_ups hown hb; replace hall := hall.trans (hb.mono hall.size); clear hb hge hc0 hc1; try simp only [Act.put, List.setIfInBounds_toArray, List.set_cons_zero, List.set_cons_succ]
        refine op_append 31 3 (.tmp 21) (.tmp 27) w.heap.size (.int .i64 0) 1 8 v6 k (FV enc1 (idsF L k)) (some ⟨b1, 0, none⟩) 1 1 (FV enc1 [y.1]) rfl rfl Try.underlying31 i3 rfl (by omega) hown rfl (block1 k1) (FV_one _ _) (by unfold maxLen; omega) (by omega) hall.size fun v' w2 hown2 _ _ hb2 => ?_; replace hall := hall.trans hb2; clear hb2 hown k1; try simp only [Act.put, List.setIfInBounds_toArray, List.set_cons_zero, List.set_cons_succ]
        refine wl_v ?_ ?_ ?_; rotate_left; (focus (go_simp; (try with_reducible rfl); done)); try simp only [Act.put, List.setIfInBounds_toArray, List.set_cons_zero, List.set_cons_succ]
        go_upto_region 5 with (fail)
        refine wp_region_lit ?_
        refine wl_v ?_ ?_ ?_; rotate_left; (focus (go_simp; (try with_reducible rfl); done)); try simp only [Act.put, List.setIfInBounds_toArray, List.set_cons_zero, List.set_cons_succ]
        refine wl_v (.int .i64 (k + 1 : Nat)) (by go_simp <;> exact IntWalk.i64_in _ (by omega)) ?_; try simp only [Act.put, List.setIfInBounds_toArray, List.set_cons_zero, List.set_cons_succ]
        refine wl_v ?_ ?_ ?_; rotate_left; (focus (go_simp; (try with_reducible rfl); done)); try simp only [Act.put, List.setIfInBounds_toArray, List.set_cons_zero, List.set_cons_succ]
        go_wp2_with fail
        go_step3
        refine ⟨rfl, ⟨k + 1, v', _, _, _, _, _, _, _, _, _, _, _, _, _, _, _, _, _, _, _, _, _, _, _, _, _, _, _, _, rfl, by omega, due_own HY.out hown2, due_next HD.out HY.out hle, hall⟩, ?_⟩
        simp [intOf]
        omega
      · skip
        have HE : Hid (NotDue L k now) := Lib.hid (by intro x hx; rw [HY.out] at hx; injection hx with hx; rw [← hx]; exact hle)
        go_upto_region 3 with (fail)
        refine wp_region_lit ?_
        refine wl_v ?_ ?_ ?_; rotate_left; (focus (go_simp; (try with_reducible rfl); done)); try simp only [Act.put, List.setIfInBounds_toArray, List.set_cons_zero, List.set_cons_succ]
        refine wl_v ?_ ?_ ?_; rotate_left; (focus (go_simp; (try with_reducible rfl); done)); try simp only [Act.put, List.setIfInBounds_toArray, List.set_cons_zero, List.set_cons_succ]
        refine wl_v ?_ ?_ ?_; rotate_left; (focus (go_simp; (try with_reducible rfl); done)); try simp only [Act.put, List.setIfInBounds_toArray, List.set_cons_zero, List.set_cons_succ]
        refine wl_v ?_ ?_ ?_; rotate_left; (focus (go_simp; (try with_reducible rfl); done)); try simp only [Act.put, List.setIfInBounds_toArray, List.set_cons_zero, List.set_cons_succ]
        refine wl_v ?_ ?_ ?_; rotate_left; (focus (go_simp; (try with_reducible rfl); done)); try simp only [Act.put, List.setIfInBounds_toArray, List.set_cons_zero, List.set_cons_succ]
        refine op_unguard _ _ rfl ?_; refine wl_v ?_ ?_ ?_; rotate_left; (focus (go_simp; (try with_reducible rfl); done)); try simp only [Act.put, List.setIfInBounds_toArray, List.set_cons_zero, List.set_cons_succ]
        refine op_unguard _ _ rfl ?_; refine wl_v ?_ ?_ ?_; rotate_left; (focus (go_simp; (try with_reducible rfl); done)); try simp only [Act.put, List.setIfInBounds_toArray, List.set_cons_zero, List.set_cons_succ]
        refine op_unguard _ _ rfl ?_; refine wl_v ?_ ?_ ?_; rotate_left; (focus (go_simp; (try with_reducible rfl); done)); try simp only [Act.put, List.setIfInBounds_toArray, List.set_cons_zero, List.set_cons_succ]
        refine op_unguard _ _ rfl ?_; refine wl_v ?_ ?_ ?_; rotate_left; (focus (go_simp; (try with_reducible rfl); done)); try simp only [Act.put, List.setIfInBounds_toArray, List.set_cons_zero, List.set_cons_succ]
        refine op_unguard _ _ rfl ?_; refine wl_v ?_ ?_ ?_; rotate_left; (focus (go_simp; (try with_reducible rfl); done)); try simp only [Act.put, List.setIfInBounds_toArray, List.set_cons_zero, List.set_cons_succ]
        refine op_unguard _ _ rfl ?_; refine wl_v ?_ ?_ ?_; rotate_left; (focus (go_simp; (try with_reducible rfl); done)); try simp only [Act.put, List.setIfInBounds_toArray, List.set_cons_zero, List.set_cons_succ]
        refine op_unguard _ _ rfl ?_; refine wl_v (.bool false) (by go_simp <;> omega) ?_; try simp only [Act.put, List.setIfInBounds_toArray, List.set_cons_zero, List.set_cons_succ]
        refine wl_v (.bool false) (by go_simp <;> omega) ?_; try simp only [Act.put, List.setIfInBounds_toArray, List.set_cons_zero, List.set_cons_succ]
        go_upto_region 6 with (fail)
        refine wp_region_lit ?_
        refine wl_v ?_ ?_ ?_; rotate_left; (focus (go_simp; (try with_reducible rfl); done)); try simp only [Act.put, List.setIfInBounds_toArray, List.set_cons_zero, List.set_cons_succ]
        refine wl_v ?_ ?_ ?_; rotate_left; (focus (go_simp; (try with_reducible rfl); done)); try simp only [Act.put, List.setIfInBounds_toArray, List.set_cons_zero, List.set_cons_succ]
        refine wl_v (.slice (slAt (some ⟨b, o, none⟩) c k 2) (L.length - k) (c - k)) (run_op_slice Try.underlying22 (.slice (some ⟨b, o, none⟩) L.length c) (some (.int .i64 (k : Nat))) none none rfl rfl rfl rfl (slice_any k L.length Try.underlying22 s40 _ _ (.inr rfl) (.inl ⟨rfl, rfl⟩) (by omega) (by omega) rfl rfl rfl)) ?_; try simp only [Act.put, List.setIfInBounds_toArray, List.set_cons_zero, List.set_cons_succ]
        refine wl_call _ _ _ (clone_any _ _ (L.drop k) ((Row.drop encT_len hrow.out hk).up hall) (by rw [List.length_drop]; omega)) (by go_simp) ?_; rintro e w3 ⟨⟨v3, rfl, hown3⟩, hb⟩; refine ⟨_, rfl, ?_⟩; replace hown := own_ups hown hb; replace hown3 := own_base hown3 hall.size; replace hall := hall.trans (hb.mono hall.size); clear hb; try simp only [Act.put, List.setIfInBounds_toArray, List.set_cons_zero, List.set_cons_succ]
        refine wl_v ?_ ?_ ?_; rotate_left; (focus (go_simp; (try with_reducible rfl); done)); try simp only [Act.put, List.setIfInBounds_toArray, List.set_cons_zero, List.set_cons_succ]
        refine wl_v ?_ ?_ ?_; rotate_left; (focus (go_simp; (try with_reducible rfl); done)); try simp only [Act.put, List.setIfInBounds_toArray, List.set_cons_zero, List.set_cons_succ]
        refine wl_v ?_ ?_ ?_; rotate_left; (focus (go_simp; (try with_reducible rfl); done)); try simp only [Act.put, List.setIfInBounds_toArray, List.set_cons_zero, List.set_cons_succ]
        go_wp2_with fail
        simp only [Exit.jump]
        go_ret2
        exact ⟨due_end hk (HD).out HE.out hown3 hown, hall⟩
    · skip
      have HD := Lib.hid hdue
      have HE : Hid (NotDue L k now) := Lib.hid (fun x hx => absurd (List.getElem?_eq_some_iff.1 hx).1 hlt)
      clear hdue
      go_upto_region 3 with (fail)
      refine wp_region_lit ?_
      refine wl_v ?_ ?_ ?_; rotate_left; (focus (go_simp; (try with_reducible rfl); done)); try simp only [Act.put, List.setIfInBounds_toArray, List.set_cons_zero, List.set_cons_succ]
      refine wl_v ?_ ?_ ?_; rotate_left; (focus (go_simp; (try with_reducible rfl); done)); try simp only [Act.put, List.setIfInBounds_toArray, List.set_cons_zero, List.set_cons_succ]
      refine wl_v ?_ ?_ ?_; rotate_left; (focus (go_simp; (try with_reducible rfl); done)); try simp only [Act.put, List.setIfInBounds_toArray, List.set_cons_zero, List.set_cons_succ]
      refine wl_v (.bool false) (by go_simp <;> omega) ?_; try simp only [Act.put, List.setIfInBounds_toArray, List.set_cons_zero, List.set_cons_succ]
      refine wl_v ?_ ?_ ?_; rotate_left; (focus (go_simp; (try with_reducible rfl); done)); try simp only [Act.put, List.setIfInBounds_toArray, List.set_cons_zero, List.set_cons_succ]
      refine wl_s rfl ?_; try simp only [Act.put, List.setIfInBounds_toArray, List.set_cons_zero, List.set_cons_succ]
      refine wl_s rfl ?_; try simp only [Act.put, List.setIfInBounds_toArray, List.set_cons_zero, List.set_cons_succ]
      refine wl_s rfl ?_; try simp only [Act.put, List.setIfInBounds_toArray, List.set_cons_zero, List.set_cons_succ]
      refine wl_s rfl ?_; try simp only [Act.put, List.setIfInBounds_toArray, List.set_cons_zero, List.set_cons_succ]
      refine wl_s rfl ?_; try simp only [Act.put, List.setIfInBounds_toArray, List.set_cons_zero, List.set_cons_succ]
      refine wl_s rfl ?_; try simp only [Act.put, List.setIfInBounds_toArray, List.set_cons_zero, List.set_cons_succ]
      refine wl_s rfl ?_; try simp only [Act.put, List.setIfInBounds_toArray, List.set_cons_zero, List.set_cons_succ]
      refine wl_v ?_ ?_ ?_; rotate_left; (focus (go_simp; (try with_reducible rfl); done)); try simp only [Act.put, List.setIfInBounds_toArray, List.set_cons_zero, List.set_cons_succ]
      go_upto_region 6 with (fail)
      refine wp_region_lit ?_
      refine wl_v ?_ ?_ ?_; rotate_left; (focus (go_simp; (try with_reducible rfl); done)); try simp only [Act.put, List.setIfInBounds_toArray, List.set_cons_zero, List.set_cons_succ]
      refine wl_v ?_ ?_ ?_; rotate_left; (focus (go_simp; (try with_reducible rfl); done)); try simp only [Act.put, List.setIfInBounds_toArray, List.set_cons_zero, List.set_cons_succ]
      refine wl_v (.slice (slAt A c k 2) (L.length - k) (c - k)) (run_op_slice Try.underlying22 (.slice A L.length c) (some (.int .i64 (k : Nat))) none none rfl rfl rfl rfl (slice_any k L.length Try.underlying22 s40 _ _ (.inr rfl) (.inl ⟨rfl, rfl⟩) (by omega) (by omega) rfl rfl rfl)) ?_; try simp only [Act.put, List.setIfInBounds_toArray, List.set_cons_zero, List.set_cons_succ]
      refine wl_call _ _ _ (clone_any _ _ (L.drop k) ((Row.drop encT_len hrow.out hk).up hall) (by rw [List.length_drop]; omega)) (by go_simp) ?_; rintro e w3 ⟨⟨v3, rfl, hown3⟩, hb⟩; refine ⟨_, rfl, ?_⟩; replace hown := own_ups hown hb; replace hown3 := own_base hown3 hall.size; replace hall := hall.trans (hb.mono hall.size); clear hb; try simp only [Act.put, List.setIfInBounds_toArray, List.set_cons_zero, List.set_cons_succ]
      refine wl_v ?_ ?_ ?_; rotate_left; (focus (go_simp; (try with_reducible rfl); done)); try simp only [Act.put, List.setIfInBounds_toArray, List.set_cons_zero, List.set_cons_succ]
      refine wl_v ?_ ?_ ?_; rotate_left; (focus (go_simp; (try with_reducible rfl); done)); try simp only [Act.put, List.setIfInBounds_toArray, List.set_cons_zero, List.set_cons_succ]
      refine wl_v ?_ ?_ ?_; rotate_left; (focus (go_simp; (try with_reducible rfl); done)); try simp only [Act.put, List.setIfInBounds_toArray, List.set_cons_zero, List.set_cons_succ]
      go_wp2_with fail
      simp only [Exit.jump]
      go_ret2
      exact ⟨due_end hk (HD).out HE.out hown3 hown, hall⟩
end Go.Proofs.Ytndpbciefijjcaa
