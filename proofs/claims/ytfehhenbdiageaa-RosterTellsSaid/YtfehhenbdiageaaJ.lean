/- Roster: slices.BinarySearchFunc by order. -/
import Derived.Test.YtfehhenbdiageaaF
import Derived.Test.YtfehhenbdiageaaKo
namespace Go.Proofs.Ytfehhenbdiageaa
open Go.RowKit
set_option linter.unusedVariables false
set_option linter.unusedSimpArgs false

def SB (W : World) (bx : Nat) (x : Tm) (w : World) : Prop := Below W.heap.size W w ∧ Block w bx 37 #[.int .i64 x.1, .int .i64 x.2.1, .int .i64 x.2.2]
theorem SB.up {W w w' : World} {bx : Nat} {x : Tm} (h : SB W bx x w) (hb : Below w.heap.size w w') : SB W bx x w' := ⟨h.1.trans (hb.mono h.1.size), h.2.ups hb⟩
theorem range_block {w : World} {b : Nat} {e : TypeId} {x : Tm} (h : Block w b e #[.int .i64 x.1, .int .i64 x.2.1, .int .i64 x.2.2]) : w.rangeAt b 0 [.int .i64 x.1, .int .i64 x.2.1, .int .i64 x.2.2] := by
  intro i v hv
  rw [Nat.zero_add, h.cell]
  simpa using hv
section
variable {a : Act} {w : World} {d : Option Tmp} {tt : TypeId} {ps : String} {af : Array Edge} {gd : Option (Nat × Bool)}
theorem conv_up {x : Operand} (v : Int) (hx : a.eval x = .int .i64 v) (h0 : 0 ≤ v) (h1 : v < 9223372036854775808) : (execOp a.eval ⟨d, .convert 3 66 x, tt, ps, af, gd⟩).run Try.prog w = .ok (.value (.int .u64 v)) w := by
  have u3 := Try.underlying3
  have u66 := Try.underlying66
  unfold execOp
  simp only [hx]
  go_simp
  exact IntWalk.u64_in _ (by omega)
theorem conv_down {x : Operand} (v : Int) (hx : a.eval x = .int .u64 v) (h0 : 0 ≤ v) (h1 : v < 9223372036854775808) : (execOp a.eval ⟨d, .convert 66 3 x, tt, ps, af, gd⟩).run Try.prog w = .ok (.value (.int .i64 v)) w := by
  have u3 := Try.underlying3
  have u66 := Try.underlying66
  unfold execOp
  simp only [hx]
  go_simp
  exact IntWalk.i64_in _ (by omega)
theorem shr_one {x : Operand} {v m : Int} (hx : a.eval x = .int .u64 v) (h0 : 0 ≤ v) (h1 : v < 9223372036854775808) (hm : v / 2 = m) : (execOp a.eval ⟨d, .binOp .shr 66 x (.const (.int .u64 1)) 66, tt, ps, af, gd⟩).run Try.prog w = .ok (.value (.int .u64 m)) w := by
  have u66 := Try.underlying66
  unfold execOp
  simp only [hx]
  go_simp
end
/-- below i all stand ahead of x, from j on none -/
def Ahead (L : List Tm) (x : Tm) (i : Nat) : Prop := ∀ q : Nat, q < i → ∀ y, L[q]? = some y → ordF y x < 0
def Behind (L : List Tm) (x : Tm) (j : Nat) : Prop := ∀ q : Nat, j ≤ q → ∀ y, L[q]? = some y → ¬ ordF y x < 0
def Mono (L : List Tm) (x : Tm) : Prop := ∀ q r : Nat, q ≤ r → ∀ y z, L[q]? = some y → L[r]? = some z → ordF z x < 0 → ordF y x < 0
theorem bs_up {L : List Tm} {x y : Tm} {i m : Nat} (hs : Mono L x) (h : Ahead L x i) (hy : L[m]? = some y) (ho : ordF y x < 0) : Ahead L x (m + 1) :=
  fun q hq z hz => hs q m (by omega) z y hz hy ho
theorem bs_down {L : List Tm} {x y : Tm} {j m : Nat} (hs : Mono L x) (h : Behind L x j) (hy : L[m]? = some y) (ho : ¬ ordF y x < 0) : Behind L x m :=
  fun q hq z hz hlt => ho (hs m q hq y z hy hz hlt)
theorem fl_yes {L : List Tm} {x y : Tm} {i : Nat} {z : Int} (hy : L[i]? = some y) (ho : ordF y x = z) : decide (z = 0) = true ↔ ∃ y, L[i]? = some y ∧ ordF y x = 0 := by
  rw [decide_eq_true_iff]
  constructor
  · rintro rfl; exact ⟨y, hy, ho⟩
  · rintro ⟨y', hy', ho'⟩
    rw [hy] at hy'
    injection hy' with hy'
    subst hy'
    rw [← ho, ho']
theorem fl_no {L : List Tm} {x : Tm} {i : Nat} (h : ¬ i < L.length) : false = true ↔ ∃ y, L[i]? = some y ∧ ordF y x = 0 := by
  constructor
  · intro h; cases h
  · rintro ⟨y, hy, _⟩
    exact absurd (List.getElem?_eq_some_iff.1 hy).1 h
def BsRel (W : World) (L : List Tm) (x : Tm) (bx : Nat) (iv jv : Value) (w : World) : Prop :=
  ∃ i j : Nat, i ≤ j ∧ j ≤ L.length ∧ iv = .int .i64 (i : Nat) ∧ jv = .int .i64 (j : Nat) ∧ Ahead L x i ∧ Behind L x j ∧ Block w bx 37 #[.int .i64 x.1, .int .i64 x.2.1, .int .i64 x.2.2] ∧ Below W.heap.size W w
set_option maxHeartbeats 2000000 in
set_option maxRecDepth 100000 in
theorem bsearch_any (w : World) (v : Value) (L : List Tm) (x : Tm) (h : TRow w v L) (hn : L.length ≤ 100000) (hs : Mono L x) :
    Calls Try.prog 46 #[v, .agg #[.int .i64 x.1, .int .i64 x.2.1, .int .i64 x.2.2], .func (.func 26) #[] #[]] w fun e w' => (∃ (k : Nat) (f : Bool), e = .returned (.tuple #[.int .i64 (k : Nat), .bool f]) ∧ k ≤ L.length ∧ Ahead L x k ∧ Behind L x k ∧ (f = true ↔ ∃ y, L[k]? = some y ∧ ordF y x = 0)) ∧ Below w.heap.size w w' := by
  obtain ⟨A, c, rfl, h1, h2, h3, hh⟩ := h
  replace hs := Lib.hid hs
  have hall := Below.refl w.heap.size w
  go_enter Try.func46, Try.ntmps46
  go_upto_region 0 with (fail)
  refine wp_region_lit ?_
  refine op_box 37 _ #[.int .i64 x.1, .int .i64 x.2.1, .int .i64 x.2.2] rfl fun w1 bx hge hb hk => ?_; replace hall := hall.trans (hb.mono hall.size); clear hb hge; try simp only [Act.put, List.setIfInBounds_toArray, List.set_cons_zero, List.set_cons_succ]
  refine wl_v ?_ ?_ ?_; rotate_left; (focus (go_simp; (try with_reducible rfl); done)); try simp only [Act.put, List.setIfInBounds_toArray, List.set_cons_zero, List.set_cons_succ]
  refine wl_v ?_ ?_ ?_; rotate_left; (focus (go_simp; (try with_reducible rfl); done)); try simp only [Act.put, List.setIfInBounds_toArray, List.set_cons_zero, List.set_cons_succ]
  go_upto_region 1 with (fail)
  refine wp_region_lit ?_
  refine wl_v ?_ ?_ ?_; rotate_left; (focus (go_simp; (try with_reducible rfl); done)); try simp only [Act.put, List.setIfInBounds_toArray, List.set_cons_zero, List.set_cons_succ]
  refine wl_v ?_ ?_ ?_; rotate_left; (focus (go_simp; (try with_reducible rfl); done)); try simp only [Act.put, List.setIfInBounds_toArray, List.set_cons_zero, List.set_cons_succ]
  refine wl_v ?_ ?_ ?_; rotate_left; (focus (go_simp; (try with_reducible rfl); done)); try simp only [Act.put, List.setIfInBounds_toArray, List.set_cons_zero, List.set_cons_succ]
  go_upto_region 2 with (fail)
  refine wp_region_lit ?_
  refine wl_v ?_ ?_ ?_; rotate_left; (focus (go_simp; (try with_reducible rfl); done)); try simp only [Act.put, List.setIfInBounds_toArray, List.set_cons_zero, List.set_cons_succ]
  refine wl_v ?_ ?_ ?_; rotate_left; (focus (go_simp; (try with_reducible rfl); done)); try simp only [Act.put, List.setIfInBounds_toArray, List.set_cons_zero, List.set_cons_succ]
  refine wl_v ?_ ?_ ?_; rotate_left; (focus (go_simp; (try with_reducible rfl); done)); try simp only [Act.put, List.setIfInBounds_toArray, List.set_cons_zero, List.set_cons_succ]
  go_wp2_with fail
  go_loopw [9, 10] (BsRel w L x bx) (fun i j _ => (intOf j).toNat - (intOf i).toNat)
  case atStart => exact ⟨0, L.length, by omega, Nat.le_refl _, rfl, rfl, fun q hq => by omega, fun q hq y hy => by have := (List.getElem?_eq_some_iff.1 hy).1; omega, hk, hall⟩
  case round =>
    clear hk hall
    obtain ⟨i, j, hij, hj, rfl, rfl, hyes_, hno_, hk, hbel⟩ := hrel
    replace hh := Lib.hid hh
    by_cases hlt : i < j
    · skip
      obtain ⟨m, hm⟩ : ∃ m : Nat, m = (i + j) / 2 := ⟨_, rfl⟩
      have hml : m < L.length := by omega
      have hmi : i ≤ m := by omega
      have hmj : m < j := by omega
      have hmd : ((i : Int) + j) / 2 = ((m : Nat) : Int) := by omega
      have HMD := Lib.hid hmd
      obtain ⟨b, o, hAe, hrg⟩ := flat_some encT_len hh.out (by omega) hml
      have hA : A = some ⟨b, o, none⟩ := hAe
      subst hA
      have hyes : L[m]? = some L[m] := List.getElem?_eq_getElem hml
      have HY := Lib.hid hyes
      have HRG := Lib.hid hrg
      generalize L[m] = y at *
      obtain ⟨z, hz⟩ : ∃ z, ordF y x = z := ⟨_, rfl⟩
      have HO := Lib.hid hz
      have hmI : (m : Int) < L.length := by omega
      have HYES := Lib.hid hyes_
      have HNO := Lib.hid hno_
      clear hm hmd hyes hrg hz hAe hyes_ hno_
      go_upto_region 3 with (fail)
      refine wp_region_lit ?_
      refine wl_v ?_ ?_ ?_; rotate_left; (focus (go_simp; (try with_reducible rfl); done)); try simp only [Act.put, List.setIfInBounds_toArray, List.set_cons_zero, List.set_cons_succ]
      refine wl_v ?_ ?_ ?_; rotate_left; (focus (go_simp; (try with_reducible rfl); done)); try simp only [Act.put, List.setIfInBounds_toArray, List.set_cons_zero, List.set_cons_succ]
      refine wl_v (.bool true) (by go_simp <;> omega) ?_; try simp only [Act.put, List.setIfInBounds_toArray, List.set_cons_zero, List.set_cons_succ]
      go_upto_region 4 with (fail)
      refine wp_region_lit ?_
      refine wl_v ?_ ?_ ?_; rotate_left; (focus (go_simp; (try with_reducible rfl); done)); try simp only [Act.put, List.setIfInBounds_toArray, List.set_cons_zero, List.set_cons_succ]
      refine wl_v ?_ ?_ ?_; rotate_left; (focus (go_simp; (try with_reducible rfl); done)); try simp only [Act.put, List.setIfInBounds_toArray, List.set_cons_zero, List.set_cons_succ]
      refine wl_v (.int .i64 ((i : Int) + j)) (by go_simp <;> exact IntWalk.i64_in _ (by omega)) ?_; try simp only [Act.put, List.setIfInBounds_toArray, List.set_cons_zero, List.set_cons_succ]
      refine wl_v (.int .u64 ((i : Int) + j)) (conv_up _ rfl (by omega) (by omega)) ?_; try simp only [Act.put, List.setIfInBounds_toArray, List.set_cons_zero, List.set_cons_succ]
      refine wl_v (.int .u64 (m : Nat)) (shr_one rfl (by omega) (by omega) HMD.out) ?_; try simp only [Act.put, List.setIfInBounds_toArray, List.set_cons_zero, List.set_cons_succ]
      refine wl_v (.int .i64 (m : Nat)) (conv_down _ rfl (by omega) (by omega)) ?_; try simp only [Act.put, List.setIfInBounds_toArray, List.set_cons_zero, List.set_cons_succ]
      refine wl_v ?_ ?_ ?_; rotate_left; (focus (go_simp; (try with_reducible rfl); done)); try simp only [Act.put, List.setIfInBounds_toArray, List.set_cons_zero, List.set_cons_succ]
      by_cases hz : z < 0
      · skip
        go_upto_region 5 with (fail)
        have hS : SB w bx x _ := ⟨hbel.drew, hk⟩
        refine region_pi (SB w bx x) [(0, true), (1, true), (2, true), (3, true), (4, true), (5, true), (6, false), (7, true)] (by kernel_rfl) (by kernel_rfl) rfl (by kernel_rfl) hS ?_
        clear hbel hk
        refine pi_f0 ?_ rfl ?_ ?_; rotate_left; (focus (intro w' hS'; go_simp; (try with_reducible rfl); done)); try simp only [Act.put, List.setIfInBounds_toArray, List.set_cons_zero, List.set_cons_succ]
        refine pi_f0 ?_ rfl ?_ ?_; rotate_left; (focus (intro w' hS'; go_simp; (try with_reducible rfl); done)); try simp only [Act.put, List.setIfInBounds_toArray, List.set_cons_zero, List.set_cons_succ]
        refine pi_f0 ?_ rfl ?_ ?_; rotate_left; (focus (intro w' hS'; go_simp; (try with_reducible rfl); done)); try simp only [Act.put, List.setIfInBounds_toArray, List.set_cons_zero, List.set_cons_succ]
        refine pi_f0 ?_ rfl ?_ ?_; rotate_left; (focus (intro w' hS'; go_simp; (try with_reducible rfl); done)); try simp only [Act.put, List.setIfInBounds_toArray, List.set_cons_zero, List.set_cons_succ]
        refine pi_f0 (.agg #[.int .i64 y.1, .int .i64 y.2.1, .int .i64 y.2.2]) rfl (fun w' hS' => run_loadM 37 _ b (o + m * 3) [.int .i64 y.1, .int .i64 y.2.1, .int .i64 y.2.2] rfl (range_ups HRG.out hS'.1) (by kernel_rfl) s37) ?_; try simp only [Act.put, List.setIfInBounds_toArray, List.set_cons_zero, List.set_cons_succ]
        refine pi_f0 (.agg #[.int .i64 x.1, .int .i64 x.2.1, .int .i64 x.2.2]) rfl (fun w' hS' => run_loadM 37 _ bx 0 [.int .i64 x.1, .int .i64 x.2.1, .int .i64 x.2.2] rfl (range_block hS'.2) (by kernel_rfl) s37) ?_; try simp only [Act.put, List.setIfInBounds_toArray, List.set_cons_zero, List.set_cons_succ]
        refine pi_a0 rfl (fun K hK => ?_); go_simp; refine (order_any y x _).mono ?_; rintro e w9 ⟨rfl, hb9⟩; rw [HO.out]; replace hS := hS.up hb9; clear hb9; refine hK _ _ ⟨?_, ?_⟩; exact hS; clear hK; clear K; try simp only [Act.put, List.setIfInBounds_toArray, List.set_cons_zero, List.set_cons_succ]
        refine pi_f0 (.bool true) rfl (by intro w' hS'; go_simp <;> omega) ?_; try simp only [Act.put, List.setIfInBounds_toArray, List.set_cons_zero, List.set_cons_succ]
        refine pi_nil (NoPanic.normal ?_)
        have hbel := hS.1
        have hk := hS.2
        clear hS
        go_upto_region 6 with (fail)
        refine wp_region_lit ?_
        refine wl_v ?_ ?_ ?_; rotate_left; (focus (go_simp; (try with_reducible rfl); done)); try simp only [Act.put, List.setIfInBounds_toArray, List.set_cons_zero, List.set_cons_succ]
        refine wl_v (.int .i64 ((m : Int) + 1)) (by go_simp <;> exact IntWalk.i64_in _ (by omega)) ?_; try simp only [Act.put, List.setIfInBounds_toArray, List.set_cons_zero, List.set_cons_succ]
        refine wl_v ?_ ?_ ?_; rotate_left; (focus (go_simp; (try with_reducible rfl); done)); try simp only [Act.put, List.setIfInBounds_toArray, List.set_cons_zero, List.set_cons_succ]
        go_wp2_with fail
        refine ⟨?_, ?_⟩
        · first
          | (exact ⟨m + 1, j, by omega, by omega, by go_num, rfl, bs_up hs HYES.out HY.out (by rw [HO.out]; exact hz), HNO.out, hk, hbel⟩)
          | ((repeat apply Exists.intro); refine ⟨?_, ?_⟩; rotate_left; (focus (first | exact rfl | (repeat (first | exact rfl | refine ⟨rfl, ?_⟩)))); (exact ⟨m + 1, j, by omega, by omega, by go_num, rfl, bs_up hs HYES.out HY.out (by rw [HO.out]; exact hz), HNO.out, hk, hbel⟩))
        · simp [intOf]; omega
      · skip
        go_upto_region 5 with (fail)
        have hS : SB w bx x _ := ⟨hbel.drew, hk⟩
        refine region_pi (SB w bx x) [(0, true), (1, true), (2, true), (3, true), (4, true), (5, true), (6, false), (7, true)] (by kernel_rfl) (by kernel_rfl) rfl (by kernel_rfl) hS ?_
        clear hbel hk
        refine pi_f0 ?_ rfl ?_ ?_; rotate_left; (focus (intro w' hS'; go_simp; (try with_reducible rfl); done)); try simp only [Act.put, List.setIfInBounds_toArray, List.set_cons_zero, List.set_cons_succ]
        refine pi_f0 ?_ rfl ?_ ?_; rotate_left; (focus (intro w' hS'; go_simp; (try with_reducible rfl); done)); try simp only [Act.put, List.setIfInBounds_toArray, List.set_cons_zero, List.set_cons_succ]
        refine pi_f0 ?_ rfl ?_ ?_; rotate_left; (focus (intro w' hS'; go_simp; (try with_reducible rfl); done)); try simp only [Act.put, List.setIfInBounds_toArray, List.set_cons_zero, List.set_cons_succ]
        refine pi_f0 ?_ rfl ?_ ?_; rotate_left; (focus (intro w' hS'; go_simp; (try with_reducible rfl); done)); try simp only [Act.put, List.setIfInBounds_toArray, List.set_cons_zero, List.set_cons_succ]
        refine pi_f0 (.agg #[.int .i64 y.1, .int .i64 y.2.1, .int .i64 y.2.2]) rfl (fun w' hS' => run_loadM 37 _ b (o + m * 3) [.int .i64 y.1, .int .i64 y.2.1, .int .i64 y.2.2] rfl (range_ups HRG.out hS'.1) (by kernel_rfl) s37) ?_; try simp only [Act.put, List.setIfInBounds_toArray, List.set_cons_zero, List.set_cons_succ]
        refine pi_f0 (.agg #[.int .i64 x.1, .int .i64 x.2.1, .int .i64 x.2.2]) rfl (fun w' hS' => run_loadM 37 _ bx 0 [.int .i64 x.1, .int .i64 x.2.1, .int .i64 x.2.2] rfl (range_block hS'.2) (by kernel_rfl) s37) ?_; try simp only [Act.put, List.setIfInBounds_toArray, List.set_cons_zero, List.set_cons_succ]
        refine pi_a0 rfl (fun K hK => ?_); go_simp; refine (order_any y x _).mono ?_; rintro e w9 ⟨rfl, hb9⟩; rw [HO.out]; replace hS := hS.up hb9; clear hb9; refine hK _ _ ⟨?_, ?_⟩; exact hS; clear hK; clear K; try simp only [Act.put, List.setIfInBounds_toArray, List.set_cons_zero, List.set_cons_succ]
        refine pi_f0 (.bool false) rfl (by intro w' hS'; go_simp <;> omega) ?_; try simp only [Act.put, List.setIfInBounds_toArray, List.set_cons_zero, List.set_cons_succ]
        refine pi_nil (NoPanic.normal ?_)
        have hbel := hS.1
        have hk := hS.2
        clear hS
        go_upto_region 7 with (fail)
        refine wp_region_lit ?_
        refine wl_v ?_ ?_ ?_; rotate_left; (focus (go_simp; (try with_reducible rfl); done)); try simp only [Act.put, List.setIfInBounds_toArray, List.set_cons_zero, List.set_cons_succ]
        refine wl_v ?_ ?_ ?_; rotate_left; (focus (go_simp; (try with_reducible rfl); done)); try simp only [Act.put, List.setIfInBounds_toArray, List.set_cons_zero, List.set_cons_succ]
        go_wp2_with fail
        refine ⟨?_, ?_⟩
        · first
          | (exact ⟨i, m, by omega, by omega, rfl, rfl, HYES.out, bs_down hs HNO.out HY.out (by rw [HO.out]; exact hz), hk, hbel⟩)
          | ((repeat apply Exists.intro); refine ⟨?_, ?_⟩; rotate_left; (focus (first | exact rfl | (repeat (first | exact rfl | refine ⟨rfl, ?_⟩)))); (exact ⟨i, m, by omega, by omega, rfl, rfl, HYES.out, bs_down hs HNO.out HY.out (by rw [HO.out]; exact hz), hk, hbel⟩))
        · simp [intOf]; omega
    · obtain rfl : i = j := by omega
      go_upto_region 3 with (fail)
      refine wp_region_lit ?_
      refine wl_v ?_ ?_ ?_; rotate_left; (focus (go_simp; (try with_reducible rfl); done)); try simp only [Act.put, List.setIfInBounds_toArray, List.set_cons_zero, List.set_cons_succ]
      refine wl_v ?_ ?_ ?_; rotate_left; (focus (go_simp; (try with_reducible rfl); done)); try simp only [Act.put, List.setIfInBounds_toArray, List.set_cons_zero, List.set_cons_succ]
      refine wl_v (.bool false) (by go_simp <;> omega) ?_; try simp only [Act.put, List.setIfInBounds_toArray, List.set_cons_zero, List.set_cons_succ]
      by_cases hlt : i < L.length
      · skip
        obtain ⟨b, o, hAe, hrg⟩ := flat_some encT_len hh.out (by omega) hlt
        have hA : A = some ⟨b, o, none⟩ := hAe
        subst hA
        have HRG := Lib.hid hrg
        have HY : Hid (L[i]? = some L[i]) := Lib.hid (List.getElem?_eq_getElem hlt)
        generalize L[i] = y at *
        obtain ⟨z, hz⟩ : ∃ z, ordF y x = z := ⟨_, rfl⟩
        have HO := Lib.hid hz
        have HYES := Lib.hid hyes_
        have HNO := Lib.hid hno_
        have hltI : (i : Int) < L.length := by omega
        clear hrg hz hAe hyes_ hno_
        go_upto_region 8 with (fail)
        have hS : SB w bx x _ := ⟨hbel.drew, hk⟩
        refine region_pi (SB w bx x) [(0, true), (1, true), (2, true), (3, true), (4, true), (5, true), (6, true), (7, true), (8, true), (9, true), (10, true), (11, false), (12, true), (13, true), (14, true), (15, true)] (by kernel_rfl) (by kernel_rfl) rfl (by kernel_rfl) hS ?_
        clear hbel hk
        refine pi_f0 ?_ rfl ?_ ?_; rotate_left; (focus (intro w' hS'; go_simp; (try with_reducible rfl); done)); try simp only [Act.put, List.setIfInBounds_toArray, List.set_cons_zero, List.set_cons_succ]
        refine pi_f0 ?_ rfl ?_ ?_; rotate_left; (focus (intro w' hS'; go_simp; (try with_reducible rfl); done)); try simp only [Act.put, List.setIfInBounds_toArray, List.set_cons_zero, List.set_cons_succ]
        refine pi_f0 ?_ rfl ?_ ?_; rotate_left; (focus (intro w' hS'; go_simp; (try with_reducible rfl); done)); try simp only [Act.put, List.setIfInBounds_toArray, List.set_cons_zero, List.set_cons_succ]
        refine pi_f0 (.bool true) rfl (by intro w' hS'; go_simp <;> omega) ?_; try simp only [Act.put, List.setIfInBounds_toArray, List.set_cons_zero, List.set_cons_succ]
        refine pi_f0 ?_ rfl ?_ ?_; rotate_left; (focus (intro w' hS'; go_simp; (try with_reducible rfl); done)); try simp only [Act.put, List.setIfInBounds_toArray, List.set_cons_zero, List.set_cons_succ]
        refine pi_f1 ?_ rfl rfl rfl rfl ?_ ?_; rotate_left; (focus (intro w' hS'; go_simp; (try with_reducible rfl); done)); try simp only [Act.put, List.setIfInBounds_toArray, List.set_cons_zero, List.set_cons_succ]
        refine pi_f1 ?_ rfl rfl rfl rfl ?_ ?_; rotate_left; (focus (intro w' hS'; go_simp; (try with_reducible rfl); done)); try simp only [Act.put, List.setIfInBounds_toArray, List.set_cons_zero, List.set_cons_succ]
        refine pi_f1 ?_ rfl rfl rfl rfl ?_ ?_; rotate_left; (focus (intro w' hS'; go_simp; (try with_reducible rfl); done)); try simp only [Act.put, List.setIfInBounds_toArray, List.set_cons_zero, List.set_cons_succ]
        refine pi_f1 ?_ rfl rfl rfl rfl ?_ ?_; rotate_left; (focus (intro w' hS'; go_simp; (try with_reducible rfl); done)); try simp only [Act.put, List.setIfInBounds_toArray, List.set_cons_zero, List.set_cons_succ]
        refine pi_f1 (.agg #[.int .i64 y.1, .int .i64 y.2.1, .int .i64 y.2.2]) rfl rfl rfl rfl (fun w' hS' => run_loadM 37 _ b (o + i * 3) [.int .i64 y.1, .int .i64 y.2.1, .int .i64 y.2.2] rfl (range_ups HRG.out hS'.1) (by kernel_rfl) s37) ?_; try simp only [Act.put, List.setIfInBounds_toArray, List.set_cons_zero, List.set_cons_succ]
        refine pi_f1 (.agg #[.int .i64 x.1, .int .i64 x.2.1, .int .i64 x.2.2]) rfl rfl rfl rfl (fun w' hS' => run_loadM 37 _ bx 0 [.int .i64 x.1, .int .i64 x.2.1, .int .i64 x.2.2] rfl (range_block hS'.2) (by kernel_rfl) s37) ?_; try simp only [Act.put, List.setIfInBounds_toArray, List.set_cons_zero, List.set_cons_succ]
        refine pi_a1 rfl rfl rfl rfl (fun K hK => ?_); go_simp; refine (order_any y x _).mono ?_; rintro e w9 ⟨rfl, hb9⟩; rw [HO.out]; replace hS := hS.up hb9; clear hb9; refine hK _ _ ⟨?_, ?_⟩; exact hS; clear hK; clear K; try simp only [Act.put, List.setIfInBounds_toArray, List.set_cons_zero, List.set_cons_succ]
        refine pi_f1 (.bool (decide (z = 0))) rfl rfl rfl rfl (fun w' hS' => r_eq Try.underlying3 rfl rfl rfl) ?_; try simp only [Act.put, List.setIfInBounds_toArray, List.set_cons_zero, List.set_cons_succ]
        refine pi_f0 ?_ rfl ?_ ?_; rotate_left; (focus (intro w' hS'; go_simp; (try with_reducible rfl); done)); try simp only [Act.put, List.setIfInBounds_toArray, List.set_cons_zero, List.set_cons_succ]
        refine pi_f0 ?_ rfl ?_ ?_; rotate_left; (focus (intro w' hS'; go_simp; (try with_reducible rfl); done)); try simp only [Act.put, List.setIfInBounds_toArray, List.set_cons_zero, List.set_cons_succ]
        refine pi_f0 ?_ rfl ?_ ?_; rotate_left; (focus (intro w' hS'; go_simp; (try with_reducible rfl); done)); try simp only [Act.put, List.setIfInBounds_toArray, List.set_cons_zero, List.set_cons_succ]
        refine pi_nil (NoPanic.normal ?_)
        go_wp2_with fail
        go_ret2
        exact ⟨⟨i, _, rfl, by omega, HYES.out, HNO.out, fl_yes HY.out HO.out⟩, hS.1⟩
      · skip
        have HYES := Lib.hid hyes_
        have HNO := Lib.hid hno_
        clear hyes_ hno_
        go_upto_region 8 with (fail)
        have hS : SB w bx x _ := ⟨hbel.drew, hk⟩
        refine region_pi (SB w bx x) [(0, true), (1, true), (2, true), (3, true), (4, true), (5, true), (6, true), (7, true), (8, true), (9, true), (10, true), (11, false), (12, true), (13, true), (14, true), (15, true)] (by kernel_rfl) (by kernel_rfl) rfl (by kernel_rfl) hS ?_
        clear hbel hk
        refine pi_f0 ?_ rfl ?_ ?_; rotate_left; (focus (intro w' hS'; go_simp; (try with_reducible rfl); done)); try simp only [Act.put, List.setIfInBounds_toArray, List.set_cons_zero, List.set_cons_succ]
        refine pi_f0 ?_ rfl ?_ ?_; rotate_left; (focus (intro w' hS'; go_simp; (try with_reducible rfl); done)); try simp only [Act.put, List.setIfInBounds_toArray, List.set_cons_zero, List.set_cons_succ]
        refine pi_f0 ?_ rfl ?_ ?_; rotate_left; (focus (intro w' hS'; go_simp; (try with_reducible rfl); done)); try simp only [Act.put, List.setIfInBounds_toArray, List.set_cons_zero, List.set_cons_succ]
        refine pi_f0 (.bool false) rfl (by intro w' hS'; go_simp <;> omega) ?_; try simp only [Act.put, List.setIfInBounds_toArray, List.set_cons_zero, List.set_cons_succ]
        refine pi_f0 ?_ rfl ?_ ?_; rotate_left; (focus (intro w' hS'; go_simp; (try with_reducible rfl); done)); try simp only [Act.put, List.setIfInBounds_toArray, List.set_cons_zero, List.set_cons_succ]
        refine pi_s1 rfl rfl rfl rfl ?_; try simp only [Act.put, List.setIfInBounds_toArray, List.set_cons_zero, List.set_cons_succ]
        refine pi_s1 rfl rfl rfl rfl ?_; try simp only [Act.put, List.setIfInBounds_toArray, List.set_cons_zero, List.set_cons_succ]
        refine pi_s1 rfl rfl rfl rfl ?_; try simp only [Act.put, List.setIfInBounds_toArray, List.set_cons_zero, List.set_cons_succ]
        refine pi_s1 rfl rfl rfl rfl ?_; try simp only [Act.put, List.setIfInBounds_toArray, List.set_cons_zero, List.set_cons_succ]
        refine pi_s1 rfl rfl rfl rfl ?_; try simp only [Act.put, List.setIfInBounds_toArray, List.set_cons_zero, List.set_cons_succ]
        refine pi_s1 rfl rfl rfl rfl ?_; try simp only [Act.put, List.setIfInBounds_toArray, List.set_cons_zero, List.set_cons_succ]
        refine pi_s1 rfl rfl rfl rfl ?_; try simp only [Act.put, List.setIfInBounds_toArray, List.set_cons_zero, List.set_cons_succ]
        refine pi_s1 rfl rfl rfl rfl ?_; try simp only [Act.put, List.setIfInBounds_toArray, List.set_cons_zero, List.set_cons_succ]
        refine pi_f0 ?_ rfl ?_ ?_; rotate_left; (focus (intro w' hS'; go_simp; (try with_reducible rfl); done)); try simp only [Act.put, List.setIfInBounds_toArray, List.set_cons_zero, List.set_cons_succ]
        refine pi_f0 ?_ rfl ?_ ?_; rotate_left; (focus (intro w' hS'; go_simp; (try with_reducible rfl); done)); try simp only [Act.put, List.setIfInBounds_toArray, List.set_cons_zero, List.set_cons_succ]
        refine pi_f0 ?_ rfl ?_ ?_; rotate_left; (focus (intro w' hS'; go_simp; (try with_reducible rfl); done)); try simp only [Act.put, List.setIfInBounds_toArray, List.set_cons_zero, List.set_cons_succ]
        refine pi_nil (NoPanic.normal ?_)
        go_wp2_with fail
        go_ret2
        exact ⟨⟨i, _, rfl, by omega, HYES.out, HNO.out, fl_no hlt⟩, hS.1⟩
end Go.Proofs.Ytfehhenbdiageaa
