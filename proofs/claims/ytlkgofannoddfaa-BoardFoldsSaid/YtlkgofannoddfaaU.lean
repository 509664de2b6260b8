/- BoardTurns: the order of statuses does not matter to what is put, nor do those that count for nothing. -/
import Derived.Test.YtlkgofannoddfaaT
import Derived.Test.YtlkgofannoddfaaM
namespace Go.Proofs.Ytlkgofannoddfaa
open Go.ChangeShapes Go.WideShapes Go.ChangeAt Go.RowKit
set_option linter.unusedVariables false
set_option linter.unusedSimpArgs false

/-! ### the plain law -/
theorem stp_comm (p : Int × Int) (x y : Int) : stp (stp p x) y = stp (stp p y) x := by
  unfold stp
  by_cases hx : 1 ≤ x ∧ x ≤ 3 <;> by_cases hy : 1 ≤ y ∧ y ≤ 3 <;> simp only [hx, hy, if_true, if_false]
  simp only [and_self, if_true, Prod.mk.injEq]
  refine ⟨?_, trivial⟩
  by_cases h1 : p.1 < x <;> by_cases h2 : p.1 < y <;> simp only [h1, h2, if_true, if_false]
  · by_cases h3 : x < y <;> by_cases h4 : y < x <;> simp only [h3, h4, if_true, if_false] <;> omega
  · by_cases h3 : x < y <;> simp only [h3, if_true, if_false] <;> omega
  · by_cases h3 : y < x <;> simp only [h3, if_true, if_false] <;> omega
theorem foldl_stp_push (l : List Int) (p : Int × Int) (x : Int) : l.foldl stp (stp p x) = stp (l.foldl stp p) x := by
  induction l generalizing p with
  | nil => rfl
  | cons y l ih => rw [List.foldl_cons, List.foldl_cons, stp_comm, ih]
theorem fold_cons (x : Int) (l : List Int) : fold (x :: l) = stp (fold l) x := by
  unfold fold
  rw [List.foldl_cons, foldl_stp_push]

/-- what lies in the turned list when m are left -/
def bk (L : List Int) (m : Nat) : List Int := ((L.drop m).reverse).flatMap fun x => [x, 0, -1, 4]
theorem bk_all (L : List Int) : bk L L.length = [] := by simp [bk]
theorem bk_step {L : List Int} {j : Nat} (h : j < L.length) : bk L j = bk L (j + 1) ++ [L[j], 0, -1, 4] := by
  unfold bk
  rw [List.drop_eq_getElem_cons h, List.reverse_cons, List.flatMap_append]
  rfl
theorem flat4_len : ∀ l : List Int, (l.flatMap fun x => [x, 0, -1, 4]).length = 4 * l.length
  | [] => rfl
  | x :: l => by rw [List.flatMap_cons, List.length_append, flat4_len l]; simp; omega
theorem bk_len {L : List Int} {m : Nat} (h : m ≤ L.length) : (bk L m).length = 4 * (L.length - m) := by
  unfold bk
  rw [flat4_len]
  simp
theorem fold_app (l r : List Int) : fold (l ++ r) = r.foldl stp (fold l) := by simp [fold]
theorem fold_bk (L : List Int) : fold (bk L 0) = fold L := by
  unfold bk
  rw [List.drop_zero]
  induction L with
  | nil => rfl
  | cons x l ih =>
    rw [List.reverse_cons, List.flatMap_append, fold_app, ih, fold_cons]
    simp only [List.flatMap_cons, List.flatMap_nil, List.append_nil, List.foldl_cons, List.foldl_nil]
    rw [stp_no (s := 4) (by omega), stp_no (s := -1) (by omega), stp_no (s := 0) (by omega)]

def TurnRel (wa : World) (base : Nat) (L : List Int) (v i : Value) (w : World) : Prop :=
  ∃ m : Nat, m ≤ L.length ∧ i = .int .i64 ((m : Int) - 1) ∧ w.ownsRow base 3 1 v (bk L m).length ((bk L m).map (Value.int .i64)) ∧ Below base wa w

theorem turn_step {w : World} {base : Nat} {L : List Int} {v : Value} {j : Nat} (hj : j < L.length)
    (h : w.ownsRow base 3 1 v ((bk L (j+1)).length + 4) ((bk L (j+1)).map (Value.int .i64) ++ [.int .i64 L[j], .int .i64 0, .int .i64 (-1), .int .i64 4])) :
    w.ownsRow base 3 1 v (bk L j).length ((bk L j).map (Value.int .i64)) := by
  rw [bk_step hj]
  simpa using h
theorem i3 : (Try.prog.info? 3).map (fun i => (i.zero, i.size, i.bytes)) = some (some (.int .i64 0), 1, 8) := by kernel_rfl

set_option maxHeartbeats 1000000 in
set_option maxRecDepth 100000 in
theorem turns_short (B : List Int) (hB : B.length = 51) (hw : WF B) (u : Int) (L : List Int) (A : Option Addr) (c : Nat) (w : World) (hL : L.length ≤ 200) (h : Holds w A (L.map (Value.int .i64)))
    (R : List Int) (ok : Bool) (hp1 : putF B u L = (R, ok)) (hp2 : putF B u (bk L 0) = (R, ok)) :
    Calls Try.prog 7 #[.agg (ints B), .int .i64 u, .slice A L.length c] w fun e w' => e = .returned (.bool true) ∧ Below w.heap.size w w' := by
  have hall := Below.refl w.heap.size w
  have hg25 := g25
  have hR : R.length = 51 := by have := putF_len hB u L; rw [hp1] at this; exact this
  have hRW : WF R := by have := putF_wf hw u L; rw [hp1] at this; exact this
  have heq : ∀ w, (Op.equalIn 10000 25 (.agg (ints R)) (.agg (ints R))).run Try.prog w = .ok true w := fun w => by rw [eqB R R hR hR hRW hRW]; simp
  have HR := Lib.hid hR
  have HB := Lib.hid hB
  have HW := Lib.hid hw
  have HP1 := Lib.hid hp1
  have HP2 := Lib.hid hp2
  clear hB hw hp1 hp2 hR hRW
  go_enter Try.func7, Try.ntmps7
  go_wp2_with (first
    | ((with_reducible refine op_box 25 (.tmp 0) (ints B) ?_ ?_); rfl; intro w1 b3 hge hb k3; replace hall := hall.trans (hb.mono hall.size); (try replace h := h.up hb); clear hb hge)
    | (go_at_call 8; refine (small_any _).mono ?_; rintro e w1 ⟨rfl, hb⟩; replace hall := hall.trans (hb.mono hall.size); (try replace k3 := k3.ups hb); (try replace h := h.up hb); clear hb))
  go_loopw [8, 9] (TurnRel w1 w1.heap.size L) (fun _ i _ => (intOf i + 1).toNat)
  case atStart => exact ⟨L.length, Nat.le_refl _, by go_num, by rw [bk_all]; exact World.ownsRow_nil _ _ _ _, Below.refl _ _⟩
  case round =>
    obtain ⟨m, hm, rfl, hown, hbel⟩ := hrel
    have hs := hbel.size
    match m, hm with
    | 0, _ =>
      obtain ⟨A2, c2, rfl, h2, hc2, hc2m⟩ := own_slice hown
      replace h2 := Lib.hid h2
      replace h := h.up hbel
      replace k3 := k3.ups hbel
      replace hall := hall.trans (hbel.mono hall.size)
      have hbl : (bk L 0).length ≤ 800 := by rw [bk_len (by omega)]; omega
      clear hown hbel hs
      go_wp2_with (first
        | ((with_reducible refine op_unguard _ _ ?_ ?_); rfl)
        | ((with_reducible refine op_new 25 10 (.tmp 38) (ints R) zB info25z ?_ ?_ ?_ ?_ ?_ ?_); exact info25b _ HR.out; (rw [ints_size, HR.out]; exact zB_size); exact ints_one _; (intro p; rfl); (intro p; rfl); intro w2 b10 hge hb k10; replace hall := hall.trans (hb.mono hall.size); (try replace k3 := k3.ups hb); (try replace h := h.up hb); replace h2 := Lib.hid (h2.out.up hb); clear hb hge)
        | ((with_reducible refine op_new 25 12 (.tmp 45) (ints R) zB info25z ?_ ?_ ?_ ?_ ?_ ?_); exact info25b _ HR.out; (rw [ints_size, HR.out]; exact zB_size); exact ints_one _; (intro p; rfl); (intro p; rfl); intro w2 b12 hge hb k12; replace hall := hall.trans (hb.mono hall.size); (try replace k3 := k3.ups hb); (try replace k10 := k10.ups hb); (try replace h := h.up hb); replace h2 := Lib.hid (h2.out.up hb); clear hb hge)
        | ((with_reducible refine op_load 25 (.tmp 3) b3 25 (ints B) (.array 17 23) ?_ ?_ ?_ ?_ ?_ ?_); rfl; exact k3; exact Try.underlying25; rfl; exact info25b _ HB.out)
        | ((with_reducible refine op_load 25 (.tmp 10) b10 25 (ints R) (.array 17 23) ?_ ?_ ?_ ?_ ?_ ?_); rfl; exact k10; exact Try.underlying25; rfl; exact info25b _ HR.out)
        | ((with_reducible refine op_load 25 (.tmp 12) b12 25 (ints R) (.array 17 23) ?_ ?_ ?_ ?_ ?_ ?_); rfl; exact k12; exact Try.underlying25; rfl; exact info25b _ HR.out)
        | (go_at_call 11; ((with_reducible refine (put_at B u L R ok A _ c _ ?_ ?_ ?_ ?_ ?_ ?_).mono ?_); exact HB.out; exact HW.out; exact HP1.out; rfl; omega; exact h; rintro e w2 ⟨rfl, hb⟩; replace hall := hall.trans (hb.mono hall.size); (try replace k3 := k3.ups hb); (try replace k10 := k10.ups hb); (try replace k12 := k12.ups hb); (try replace h := h.up hb); replace h2 := Lib.hid (h2.out.up hb); clear hb))
        | (go_at_call 11; ((with_reducible refine (put_at B u (bk L 0) R ok A2 _ c2 _ ?_ ?_ ?_ ?_ ?_ ?_).mono ?_); exact HB.out; exact HW.out; exact HP2.out; rfl; omega; exact h2.out; rintro e w2 ⟨rfl, hb⟩; replace hall := hall.trans (hb.mono hall.size); (try replace k3 := k3.ups hb); (try replace k10 := k10.ups hb); (try replace k12 := k12.ups hb); (try replace h := h.up hb); replace h2 := Lib.hid (h2.out.up hb); clear hb)))
      go_ret
      exact ⟨rfl, hall⟩
    | j + 1, hm =>
      obtain ⟨b, o, rfl, hc⟩ := h j (by simp; omega)
      rw [List.getElem?_map, List.getElem?_eq_getElem (by omega)] at hc
      simp only [Option.map_some] at hc
      have hlt := (h.lt rfl (by simp; omega))
      rw [← hbel.cell (p := ⟨b, o + j, none⟩) hlt] at hc
      have hbl : (bk L (j + 1)).length ≤ 800 := by rw [bk_len hm]; omega
      have HX := fun w v => Lib.hid (turn_step (w := w) (v := v) (L := L) (base := w1.heap.size) (j := j) (by omega))
      generalize hx : L[j] = x at *
      clear hx h hlt hall k3 heq hg25
      go_wp2_with (first
        | ((with_reducible refine op_lit 26 4 #[(0, .tmp 30), (1, .const (.int .i64 0)), (2, .const (.int .i64 (-1))), (3, .const (.int .i64 4))] 3 (ints [x, 0, -1, 4]) ?_ ?_); (intro wl; kernel_rfl); intro w2 b1 hge hb kl; replace hbel := hbel.trans (hb.mono hs); replace hs := Nat.le_trans hs hb.size; replace hown := own_ups hown hb; clear hb hge hc)
        | ((with_reducible refine op_append 26 3 (.tmp 26) (.tmp 31) w1.heap.size (.int .i64 0) 1 8 u8 (bk L (j+1)).length ((bk L (j+1)).map (Value.int .i64)) (some ⟨b1, 0, none⟩) 4 4 [.int .i64 x, .int .i64 0, .int .i64 (-1), .int .i64 4] ?_ ?_ ?_ ?_ ?_ ?_ ?_ ?_ ?_ ?_ ?_ ?_ ?_ ?_); rfl; rfl; exact Try.underlying26; exact i3; rfl; omega; exact hown; rfl; exact Block.holds kl; (simp [Value.oneCell']); (unfold maxLen; omega); omega; omega; intro v' w3 hown' _ _ hb; replace hbel := hbel.trans hb; clear hb))
      exact ⟨⟨j, by omega, rfl, (HX _ _).out hown', hbel⟩, by simp [intOf]⟩

set_option maxHeartbeats 1000000 in
set_option maxRecDepth 100000 in
theorem turns_long (B : List Int) (u : Int) (L : List Int) (A : Option Addr) (c : Nat) (w : World) (hL : ¬ L.length ≤ 200) (hL2 : L.length ≤ 9223372036854775807) :
    Calls Try.prog 7 #[.agg (ints B), .int .i64 u, .slice A L.length c] w fun e w' => e = .returned (.bool true) ∧ Below w.heap.size w w' := by
  go_enter Try.func7, Try.ntmps7
  go_wp2_with (first
    | ((with_reducible refine op_box 25 (.tmp 0) (ints B) ?_ ?_); rfl; intro w1 b3 hge hb k3)
    | (go_at_call 8; refine (small_any _).mono ?_; rintro e w2 ⟨rfl, hb2⟩))
  go_ret
  exact ⟨rfl, hb.trans (hb2.mono hb.size)⟩

theorem turns_walk (B : List Int) (hB : B.length = 51) (hw : WF B) (u : Int) (L : List Int) (A : Option Addr) (c : Nat) (w : World) (hL2 : L.length ≤ 9223372036854775807) (h : Holds w A (L.map (Value.int .i64))) :
    Calls Try.prog 7 #[.agg (ints B), .int .i64 u, .slice A L.length c] w fun e w' => e = .returned (.bool true) ∧ Below w.heap.size w w' := by
  by_cases hL : L.length ≤ 200
  · refine turns_short B hB hw u L A c w hL h (putF B u L).1 (putF B u L).2 rfl ?_
    unfold putF
    rw [fold_bk]
  · exact turns_long B u L A c w hL hL2

set_option maxRecDepth 100000 in
theorem turns_lifted (os : Os) (started : os.Started) (H : Type) (enc : TypeId × Value → H) :
    ReturnsInHanded {} Try.checked os 7 .any (Rows.boardTurnsSpec.pre6 enc Try.prog Try.f7 Rows.boardTurnsRow.domain false) (Rows.boardTurnsSpec.post enc Try.prog Try.f7 false true false false) := by
  refine returnsInHanded_of_change (C := Try.checked) own started (by kernel_rfl) Try.func7
    (ChangeSpec.witness6 (enc := enc) (C := Try.checked) false ⟨#[], #[.agg (ints (List.replicate 51 0)), .int .i64 0, .slice none 0 0], []⟩ 8 (by kernel_rfl) (by kernel_rfl) (by kernel_rfl) (by kernel_rfl)) ?_
  intro W base args ds gs before hval0 hW hcnd _
  have hval : ∀ (j : Nat) t v, Try.f7.params[j]? = some t → args[j]? = some v → Value.okWide Try.prog W .any base t v := hval0
  have hW' := hW
  obtain ⟨p, q, hA0, hV, rfl, hfz, hnd⟩ := hW
  have hA : DataW.TrodAll enc Try.prog W 0 (fun _ => true) true Try.f7.params.toList args.toList ds p := hA0
  rw [Try.params7] at hA hval
  obtain ⟨v0, vs0, d0, ds0, p0, q0, hargs, rfl, rfl, h0, r0⟩ := trodAll_cons hA
  obtain ⟨v1, vs1, d1, ds1, p1, q1, rfl, rfl, rfl, h1, r1⟩ := trodAll_cons r0
  obtain ⟨v2, vs2, d2, ds2, p2, q2, rfl, rfl, rfl, h2, r2⟩ := trodAll_cons r1
  obtain ⟨rfl, rfl, rfl⟩ := trodAll_nil r2
  obtain rfl : args = #[v0, v1, v2] := by cases args; simp_all
  obtain ⟨rfl, rfl⟩ := trodVars_none hV
  have k0 := h0
  have lt0 : ∀ x ∈ p0, x.block < W.heap.size := by obtain ⟨m, hm⟩ := k0; exact DataW.trod_lt m _ _ _ hm
  have k2 := h2
  have lt2 : ∀ x ∈ p2, x.block < W.heap.size := by obtain ⟨m, hm⟩ := k2; exact DataW.trod_lt m _ _ _ hm
  obtain ⟨B, rfl, hB, hw⟩ := open_agg_ints 4 51 it25 (by rw [Try.underlying25]) c25 (hval 0 25 v0 rfl rfl) h0
  obtain ⟨u, rfl, rfl, rfl, wu⟩ := open_int Try.underlying3 (hval 1 3 v1 rfl rfl) h1
  obtain ⟨A, n, c, L, rfl, hn, hLw, hnc, hcm, hh⟩ := open_slice_ints 2 1 Try.underlying26 it3 c3 (by omega) (hval 2 26 v2 rfl rfl) h2
  obtain rfl : n = L.length := by omega
  clear hA0 hval0
  refine (turns_walk B hB hw u L A c W (by unfold maxLen at hcm; omega) hh).mono fun e W' ⟨he, bel⟩ => ?_
  subst he
  exact ⟨_, rfl, _, _, _, [], _, [], hW', trodAll_mk1 (shut_bool Try.underlying4 _), (trodAll_cons_mk (Below.trod laidOut (by kernel_rfl) (of_decide_eq_true (by kernel_rfl)) k0 bel lt0) (trodAll_cons_mk (shut_int Try.underlying3 wu) (trodAll_cons_mk (Below.trod laidOut (by kernel_rfl) (of_decide_eq_true (by kernel_rfl)) k2 bel lt2) trodAll_mk0))), rfl, bel.frame _, fun h => by cases h⟩

theorem boardTurns_holds : Rows.BoardTurnsSaid :=
  OpenClaim.holds_of_wide 7 Try.f7 rfl rfl rfl rfl rfl rfl rfl ⟨rfl, rfl, rfl, rfl, rfl⟩ rfl rfl rfl rfl rfl (by kernel_rfl) Try.func7 (by kernel_rfl)
    (of_decide_eq_true (by kernel_rfl)) (by unfold Func.isWrapper; first | (rw [if_pos (by decide +kernel)]; kernel_rfl) | (rw [if_neg (by decide +kernel)]; exact ⟨rfl, rfl⟩))
    (fun os started H enc _ => turns_lifted os started H enc)
#print axioms boardTurns_holds
end Go.Proofs.Ytlkgofannoddfaa
