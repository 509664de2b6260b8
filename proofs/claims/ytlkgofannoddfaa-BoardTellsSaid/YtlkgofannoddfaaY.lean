/- BoardTells: what is folded, put and told is what the document says. -/
import Derived.Test.YtlkgofannoddfaaX
namespace Go.Proofs.Ytlkgofannoddfaa
open Go.ChangeShapes Go.WideShapes Go.ChangeAt Go.RowKit
set_option linter.unusedVariables false
set_option linter.unusedSimpArgs false

def Tells (W : World) (b5 b8 b9 b16 b18 : Nat) (B R : List Int) (M N : Array Value) (w' : World) : Prop :=
  Below W.heap.size W w' ∧ Block w' b5 25 (ints B) ∧ Block w' b8 28 M ∧ Block w' b9 28 N ∧ Block w' b16 25 (ints R) ∧ Block w' b18 25 (ints R)
theorem Tells.up {W w w' : World} {b5 b8 b9 b16 b18 : Nat} {B R : List Int} {M N : Array Value} (h : Tells W b5 b8 b9 b16 b18 B R M N w) (hb : Below w.heap.size w w') : Tells W b5 b8 b9 b16 b18 B R M N w' :=
  ⟨h.1.trans (hb.mono h.1.size), h.2.1.ups hb, h.2.2.1.ups hb, h.2.2.2.1.ups hb, h.2.2.2.2.1.ups hb, h.2.2.2.2.2.ups hb⟩

set_option maxHeartbeats 1000000 in
set_option maxRecDepth 100000 in
theorem tells_short (B : List Int) (hB : B.length = 51) (hw : WF B) (u : Int) (L : List Int) (A : Option Addr) (c : Nat) (m0 m1 m2 m3 n0 n1 n2 n3 : Int) (w : World) (hL : L.length ≤ 200) (h : Holds w A (L.map (Value.int .i64)))
    (R : List Int) (ok r : Bool) (s k q0 q1 q2 q3 : Int) (hp : putF B u L = (R, ok)) (hf : fold L = (s, k)) (hn : noteF B u = (q0, q1, q2, q3)) (hr : newer m0 m1 n0 n1 = r) :
    Calls Try.prog 3 #[.agg (ints B), .int .i64 u, .slice A L.length c, .agg #[.int .i64 m0, .int .i64 m1, .int .i64 m2, .int .i64 m3], .agg #[.int .i64 n0, .int .i64 n1, .int .i64 n2, .int .i64 n3]] w fun e w' => e = .returned (.bool true) ∧ Below w.heap.size w w' := by
  have hall := Below.refl w.heap.size w
  have hg25 := g25
  have hg28 := g28
  have hR : R.length = 51 := by have := putF_len hB u L; rw [hp] at this; exact this
  have hRW : WF R := by have := putF_wf hw u L; rw [hp] at this; exact this
  have heq : ∀ w, (Op.equalIn 10000 25 (.agg (ints R)) (.agg (ints R))).run Try.prog w = .ok true w := fun w => by rw [eqB R R hR hR hRW hRW]; simp
  have heq28 : ∀ w, (Op.equalIn 10000 28 (.agg #[.int .i64 q0, .int .i64 q1, .int .i64 q2, .int .i64 q3]) (.agg #[.int .i64 q0, .int .i64 q1, .int .i64 q2, .int .i64 q3])).run Try.prog w = .ok true w := fun w => by rw [eqN]; simp
  have HR := Lib.hid hR
  have HB := Lib.hid hB
  have HW := Lib.hid hw
  have HP := Lib.hid hp
  have HF := Lib.hid hf
  have HN := Lib.hid hn
  have HNew := Lib.hid hr
  clear hB hw hp hR hRW hf hn hr
  go_enter Try.func3, Try.ntmps3
  go_wp2_with (first
    | ((with_reducible refine op_box 25 (.tmp 0) (ints B) ?_ ?_); rfl; intro w1 b5 hge hb k5; replace hall := hall.trans (hb.mono hall.size);  (try replace k8 := k8.ups hb); (try replace k9 := k9.ups hb); (try replace k16 := k16.ups hb); (try replace k18 := k18.ups hb); (try replace h := h.up hb); clear hb hge)
    | ((with_reducible refine op_box 28 (.tmp 3) #[.int .i64 m0, .int .i64 m1, .int .i64 m2, .int .i64 m3] ?_ ?_); rfl; intro w1 b8 hge hb k8; replace hall := hall.trans (hb.mono hall.size); (try replace k5 := k5.ups hb);  (try replace k9 := k9.ups hb); (try replace k16 := k16.ups hb); (try replace k18 := k18.ups hb); (try replace h := h.up hb); clear hb hge)
    | ((with_reducible refine op_box 28 (.tmp 4) #[.int .i64 n0, .int .i64 n1, .int .i64 n2, .int .i64 n3] ?_ ?_); rfl; intro w1 b9 hge hb k9; replace hall := hall.trans (hb.mono hall.size); (try replace k5 := k5.ups hb); (try replace k8 := k8.ups hb);  (try replace k16 := k16.ups hb); (try replace k18 := k18.ups hb); (try replace h := h.up hb); clear hb hge)
    | (go_at_call 8; refine (small_any _).mono ?_; rintro e w1 ⟨rfl, hb⟩; replace hall := hall.trans (hb.mono hall.size); (try replace k5 := k5.ups hb); (try replace k8 := k8.ups hb); (try replace k9 := k9.ups hb); (try replace k16 := k16.ups hb); (try replace k18 := k18.ups hb); (try replace h := h.up hb); clear hb)
    | (go_at_call 9; ((with_reducible refine (fold_at L A _ c s k _ ?_ ?_ ?_ ?_).mono ?_); exact HF.out; rfl; omega; exact h; rintro e w1 ⟨rfl, rfl⟩))
    | (go_at_call 10; ((with_reducible refine (rfold_at L A _ c s k _ ?_ ?_ ?_ ?_).mono ?_); exact HF.out; rfl; omega; exact h; rintro e w1 ⟨rfl, rfl⟩))
    | ((with_reducible refine op_load 25 (.tmp 5) b5 25 (ints B) (.array 17 23) ?_ ?_ ?_ ?_ ?_ ?_); rfl; exact k5; exact Try.underlying25; rfl; exact info25b _ HB.out)
    | (go_at_call 11; ((with_reducible refine (put_at B u L R ok A _ c _ ?_ ?_ ?_ ?_ ?_ ?_).mono ?_); exact HB.out; exact HW.out; exact HP.out; rfl; omega; exact h; rintro e w1 ⟨rfl, hb⟩; replace hall := hall.trans (hb.mono hall.size); (try replace k5 := k5.ups hb); (try replace k8 := k8.ups hb); (try replace k9 := k9.ups hb); (try replace k16 := k16.ups hb); (try replace k18 := k18.ups hb); (try replace h := h.up hb); clear hb))
    | (go_at_call 12; ((with_reducible refine (rput_at B u L R ok A _ c _ ?_ ?_ ?_ ?_ ?_ ?_).mono ?_); exact HB.out; exact HW.out; exact HP.out; rfl; omega; exact h; rintro e w1 ⟨rfl, hb⟩; replace hall := hall.trans (hb.mono hall.size); (try replace k5 := k5.ups hb); (try replace k8 := k8.ups hb); (try replace k9 := k9.ups hb); (try replace k16 := k16.ups hb); (try replace k18 := k18.ups hb); (try replace h := h.up hb); clear hb))
    | ((with_reducible refine op_new 25 16 (.tmp 40) (ints R) zB info25z ?_ ?_ ?_ ?_ ?_ ?_); exact info25b _ HR.out; (rw [ints_size, HR.out]; exact zB_size); exact ints_one _; (intro p; rfl); (intro p; rfl); intro w1 b16 hge hb k16; replace hall := hall.trans (hb.mono hall.size); (try replace k5 := k5.ups hb); (try replace k8 := k8.ups hb); (try replace k9 := k9.ups hb);  (try replace k18 := k18.ups hb); (try replace h := h.up hb); clear hb hge)
    | ((with_reducible refine op_new 25 18 (.tmp 47) (ints R) zB info25z ?_ ?_ ?_ ?_ ?_ ?_); exact info25b _ HR.out; (rw [ints_size, HR.out]; exact zB_size); exact ints_one _; (intro p; rfl); (intro p; rfl); intro w1 b18 hge hb k18; replace hall := hall.trans (hb.mono hall.size); (try replace k5 := k5.ups hb); (try replace k8 := k8.ups hb); (try replace k9 := k9.ups hb); (try replace k16 := k16.ups hb);  (try replace h := h.up hb); clear hb hge))
  have hS : Tells w b5 b8 b9 b16 b18 B R #[.int .i64 m0, .int .i64 m1, .int .i64 m2, .int .i64 m3] #[.int .i64 n0, .int .i64 n1, .int .i64 n2, .int .i64 n3] w1.drew := ⟨hall.drew, k5, k8, k9, k16, k18⟩
  refine region_pi (Tells w b5 b8 b9 b16 b18 B R #[.int .i64 m0, .int .i64 m1, .int .i64 m2, .int .i64 m3] #[.int .i64 n0, .int .i64 n1, .int .i64 n2, .int .i64 n3]) [(0, true), (1, true), (2, true), (3, true), (4, true), (5, true), (6, true), (7, true), (8, true), (9, true), (10, true), (11, true), (12, true), (13, true), (14, true), (15, true), (16, true), (17, true), (18, true), (19, true), (20, true), (21, true), (22, true), (23, true), (25, true), (26, true), (24, false), (27, false), (28, true), (29, true), (30, true), (31, true), (32, true), (34, true), (35, true), (33, false), (36, false), (37, true), (38, true), (39, true)] (by kernel_rfl) (by kernel_rfl) rfl (by kernel_rfl) hS ?_
  clear hall k5 k8 k9 k16 k18 h
  refine pi_f0 ?_ rfl ?_ ?_; rotate_left; (focus (intro w' hS'; go_simp; (try with_reducible rfl); done)); try simp only [Act.put, List.setIfInBounds_toArray, List.set_cons_zero, List.set_cons_succ]
  refine pi_f0 ?_ rfl ?_ ?_; rotate_left; (focus (intro w' hS'; go_simp; (try with_reducible rfl); done)); try simp only [Act.put, List.setIfInBounds_toArray, List.set_cons_zero, List.set_cons_succ]
  refine pi_f1 ?_ rfl rfl rfl rfl ?_ ?_; rotate_left; (focus (intro w' hS'; go_simp; (try with_reducible rfl); done)); try simp only [Act.put, List.setIfInBounds_toArray, List.set_cons_zero, List.set_cons_succ]
  refine pi_f1 ?_ rfl rfl rfl rfl ?_ ?_; rotate_left; (focus (intro w' hS'; go_simp; (try with_reducible rfl); done)); try simp only [Act.put, List.setIfInBounds_toArray, List.set_cons_zero, List.set_cons_succ]
  refine pi_f1 ?_ rfl rfl rfl rfl ?_ ?_; rotate_left; (focus (intro w' hS'; go_simp; (try with_reducible rfl); done)); try simp only [Act.put, List.setIfInBounds_toArray, List.set_cons_zero, List.set_cons_succ]
  refine pi_f0 ?_ rfl ?_ ?_; rotate_left; (focus (intro w' hS'; go_simp; (try with_reducible rfl); done)); try simp only [Act.put, List.setIfInBounds_toArray, List.set_cons_zero, List.set_cons_succ]
  refine pi_f0 ?_ rfl ?_ ?_; rotate_left; (focus (intro w' hS'; go_simp; (try with_reducible rfl); done)); try simp only [Act.put, List.setIfInBounds_toArray, List.set_cons_zero, List.set_cons_succ]
  refine pi_f1 ?_ rfl rfl rfl rfl ?_ ?_; rotate_left; (focus (intro w' hS'; go_simp; (try with_reducible rfl); done)); try simp only [Act.put, List.setIfInBounds_toArray, List.set_cons_zero, List.set_cons_succ]
  refine pi_f1 ?_ rfl rfl rfl rfl ?_ ?_; rotate_left; (focus (intro w' hS'; go_simp; (try with_reducible rfl); done)); try simp only [Act.put, List.setIfInBounds_toArray, List.set_cons_zero, List.set_cons_succ]
  refine pi_f1 ?_ rfl rfl rfl rfl ?_ ?_; rotate_left; (focus (intro w' hS'; go_simp; (try with_reducible rfl); done)); try simp only [Act.put, List.setIfInBounds_toArray, List.set_cons_zero, List.set_cons_succ]
  refine pi_f0 ?_ rfl ?_ ?_; rotate_left; (focus (intro w' hS'; go_simp; (try with_reducible rfl); done)); try simp only [Act.put, List.setIfInBounds_toArray, List.set_cons_zero, List.set_cons_succ]
  refine pi_f0 ?_ rfl ?_ ?_; rotate_left; (focus (intro w' hS'; go_simp; (try with_reducible rfl); done)); try simp only [Act.put, List.setIfInBounds_toArray, List.set_cons_zero, List.set_cons_succ]
  refine pi_f1 ?_ rfl rfl rfl rfl ?_ ?_; rotate_left; (focus (intro w' h; refine run_load_row b16 25 (ints R) (.array 17 23) ?_ h.2.2.2.2.1 Try.underlying25 ?_ (info25b _ HR.out) <;> rfl)); try simp only [Act.put, List.setIfInBounds_toArray, List.set_cons_zero, List.set_cons_succ]
  refine pi_f1 ?_ rfl rfl rfl rfl ?_ ?_; rotate_left; (focus (intro w' h; refine run_load_row b18 25 (ints R) (.array 17 23) ?_ h.2.2.2.2.2 Try.underlying25 ?_ (info25b _ HR.out) <;> rfl)); try simp only [Act.put, List.setIfInBounds_toArray, List.set_cons_zero, List.set_cons_succ]
  refine pi_f1 ?_ rfl rfl rfl rfl ?_ ?_; rotate_left; (focus (intro w' hS'; go_simp; (try with_reducible rfl); done)); try simp only [Act.put, List.setIfInBounds_toArray, List.set_cons_zero, List.set_cons_succ]
  refine pi_f0 ?_ rfl ?_ ?_; rotate_left; (focus (intro w' hS'; go_simp; (try with_reducible rfl); done)); try simp only [Act.put, List.setIfInBounds_toArray, List.set_cons_zero, List.set_cons_succ]
  refine pi_f0 ?_ rfl ?_ ?_; rotate_left; (focus (intro w' hS'; go_simp; (try with_reducible rfl); done)); try simp only [Act.put, List.setIfInBounds_toArray, List.set_cons_zero, List.set_cons_succ]
  refine pi_f1 ?_ rfl rfl rfl rfl ?_ ?_; rotate_left; (focus (intro w' hS'; go_simp; (try with_reducible rfl); done)); try simp only [Act.put, List.setIfInBounds_toArray, List.set_cons_zero, List.set_cons_succ]
  refine pi_f1 ?_ rfl rfl rfl rfl ?_ ?_; rotate_left; (focus (intro w' hS'; go_simp; (try with_reducible rfl); done)); try simp only [Act.put, List.setIfInBounds_toArray, List.set_cons_zero, List.set_cons_succ]
  refine pi_f1 ?_ rfl rfl rfl rfl ?_ ?_; rotate_left; (focus (intro w' hS'; go_simp; (try with_reducible rfl); done)); try simp only [Act.put, List.setIfInBounds_toArray, List.set_cons_zero, List.set_cons_succ]
  refine pi_f0 ?_ rfl ?_ ?_; rotate_left; (focus (intro w' hS'; go_simp; (try with_reducible rfl); done)); try simp only [Act.put, List.setIfInBounds_toArray, List.set_cons_zero, List.set_cons_succ]
  refine pi_f0 ?_ rfl ?_ ?_; rotate_left; (focus (intro w' hS'; go_simp; (try with_reducible rfl); done)); try simp only [Act.put, List.setIfInBounds_toArray, List.set_cons_zero, List.set_cons_succ]
  refine pi_f1 ?_ rfl rfl rfl rfl ?_ ?_; rotate_left; (focus (intro w' h; refine run_load_row b5 25 (ints B) (.array 17 23) ?_ h.2.1 Try.underlying25 ?_ (info25b _ HB.out) <;> rfl)); try simp only [Act.put, List.setIfInBounds_toArray, List.set_cons_zero, List.set_cons_succ]
  refine pi_f1 ?_ rfl rfl rfl rfl ?_ ?_; rotate_left; (focus (intro w' hS'; go_simp; (try with_reducible rfl); done)); try simp only [Act.put, List.setIfInBounds_toArray, List.set_cons_zero, List.set_cons_succ]
  refine pi_f1 ?_ rfl rfl rfl rfl ?_ ?_; rotate_left; (focus (intro w' h; refine run_load_row b5 25 (ints B) (.array 17 23) ?_ h.2.1 Try.underlying25 ?_ (info25b _ HB.out) <;> rfl)); try simp only [Act.put, List.setIfInBounds_toArray, List.set_cons_zero, List.set_cons_succ]
  refine pi_f1 ?_ rfl rfl rfl rfl ?_ ?_; rotate_left; (focus (intro w' hS'; go_simp; (try with_reducible rfl); done)); try simp only [Act.put, List.setIfInBounds_toArray, List.set_cons_zero, List.set_cons_succ]
  refine pi_a1 rfl rfl rfl rfl (fun K hK => ?_); go_simp; refine (note_at B u q0 q1 q2 q3 _ HB.out HN.out).mono ?_; rintro e w9 ⟨rfl, hb9⟩; replace hS := hS.up hb9; clear hb9; refine hK _ _ ⟨?_, ?_⟩; exact hS; clear hK; clear K; try simp only [Act.put, List.setIfInBounds_toArray, List.set_cons_zero, List.set_cons_succ]
  refine pi_a1 rfl rfl rfl rfl (fun K hK => ?_); go_simp; refine (rnote_at B u q0 q1 q2 q3 _ HB.out HN.out).mono ?_; rintro e w9 ⟨rfl, hb9⟩; replace hS := hS.up hb9; clear hb9; refine hK _ _ ⟨?_, ?_⟩; exact hS; clear hK; clear K; try simp only [Act.put, List.setIfInBounds_toArray, List.set_cons_zero, List.set_cons_succ]
  refine pi_f1 ?_ rfl rfl rfl rfl ?_ ?_; rotate_left; (focus (intro w' hS'; go_simp; (try with_reducible rfl); done)); try simp only [Act.put, List.setIfInBounds_toArray, List.set_cons_zero, List.set_cons_succ]
  refine pi_f0 ?_ rfl ?_ ?_; rotate_left; (focus (intro w' hS'; go_simp; (try with_reducible rfl); done)); try simp only [Act.put, List.setIfInBounds_toArray, List.set_cons_zero, List.set_cons_succ]
  refine pi_f0 ?_ rfl ?_ ?_; rotate_left; (focus (intro w' hS'; go_simp; (try with_reducible rfl); done)); try simp only [Act.put, List.setIfInBounds_toArray, List.set_cons_zero, List.set_cons_succ]
  refine pi_f1 ?_ rfl rfl rfl rfl ?_ ?_; rotate_left; (focus (intro w' h; refine run_load_row b8 28 #[.int .i64 m0, .int .i64 m1, .int .i64 m2, .int .i64 m3] _ ?_ h.2.2.1 Try.underlying28 ?_ info28s <;> rfl)); try simp only [Act.put, List.setIfInBounds_toArray, List.set_cons_zero, List.set_cons_succ]
  refine pi_f1 ?_ rfl rfl rfl rfl ?_ ?_; rotate_left; (focus (intro w' h; refine run_load_row b9 28 #[.int .i64 n0, .int .i64 n1, .int .i64 n2, .int .i64 n3] _ ?_ h.2.2.2.1 Try.underlying28 ?_ info28s <;> rfl)); try simp only [Act.put, List.setIfInBounds_toArray, List.set_cons_zero, List.set_cons_succ]
  refine pi_f1 ?_ rfl rfl rfl rfl ?_ ?_; rotate_left; (focus (intro w' h; refine run_load_row b8 28 #[.int .i64 m0, .int .i64 m1, .int .i64 m2, .int .i64 m3] _ ?_ h.2.2.1 Try.underlying28 ?_ info28s <;> rfl)); try simp only [Act.put, List.setIfInBounds_toArray, List.set_cons_zero, List.set_cons_succ]
  refine pi_f1 ?_ rfl rfl rfl rfl ?_ ?_; rotate_left; (focus (intro w' h; refine run_load_row b9 28 #[.int .i64 n0, .int .i64 n1, .int .i64 n2, .int .i64 n3] _ ?_ h.2.2.2.1 Try.underlying28 ?_ info28s <;> rfl)); try simp only [Act.put, List.setIfInBounds_toArray, List.set_cons_zero, List.set_cons_succ]
  refine pi_a1 rfl rfl rfl rfl (fun K hK => ?_); go_simp; refine (newer_at m0 m1 m2 m3 n0 n1 n2 n3 r _ HNew.out).mono ?_; rintro e w9 ⟨rfl, hb9⟩; replace hS := hS.up hb9; clear hb9; refine hK _ _ ⟨?_, ?_⟩; exact hS; clear hK; clear K; try simp only [Act.put, List.setIfInBounds_toArray, List.set_cons_zero, List.set_cons_succ]
  refine pi_a1 rfl rfl rfl rfl (fun K hK => ?_); go_simp; refine (rnewer_at m0 m1 m2 m3 n0 n1 n2 n3 r _ HNew.out).mono ?_; rintro e w9 ⟨rfl, hb9⟩; replace hS := hS.up hb9; clear hb9; refine hK _ _ ⟨?_, ?_⟩; exact hS; clear hK; clear K; try simp only [Act.put, List.setIfInBounds_toArray, List.set_cons_zero, List.set_cons_succ]
  refine pi_f1 ?_ rfl rfl rfl rfl ?_ ?_; rotate_left; (focus (intro w' hS'; go_simp; (try with_reducible rfl); done)); try simp only [Act.put, List.setIfInBounds_toArray, List.set_cons_zero, List.set_cons_succ]
  refine pi_f0 ?_ rfl ?_ ?_; rotate_left; (focus (intro w' hS'; go_simp; (try with_reducible rfl); done)); try simp only [Act.put, List.setIfInBounds_toArray, List.set_cons_zero, List.set_cons_succ]
  refine pi_f0 ?_ rfl ?_ ?_; rotate_left; (focus (intro w' hS'; go_simp; (try with_reducible rfl); done)); try simp only [Act.put, List.setIfInBounds_toArray, List.set_cons_zero, List.set_cons_succ]
  refine pi_nil (NoPanic.normal ?_)
  go_wp2
  go_ret
  exact ⟨rfl, hS.1⟩

set_option maxHeartbeats 1000000 in
set_option maxRecDepth 100000 in
theorem tells_long (B : List Int) (u : Int) (L : List Int) (A : Option Addr) (c : Nat) (M N : Array Value) (w : World) (hL : ¬ L.length ≤ 200) (hL2 : L.length ≤ 9223372036854775807) :
    Calls Try.prog 3 #[.agg (ints B), .int .i64 u, .slice A L.length c, .agg M, .agg N] w fun e w' => e = .returned (.bool true) ∧ Below w.heap.size w w' := by
  have hall := Below.refl w.heap.size w
  go_enter Try.func3, Try.ntmps3
  go_wp2_with (first
    | ((with_reducible refine op_box 25 (.tmp 0) (ints B) ?_ ?_); rfl; intro w1 b5 hge hb k5; replace hall := hall.trans (hb.mono hall.size); clear hb hge)
    | ((with_reducible refine op_box 28 (.tmp 3) M ?_ ?_); rfl; intro w1 b8 hge hb k8; replace hall := hall.trans (hb.mono hall.size); clear hb hge)
    | ((with_reducible refine op_box 28 (.tmp 4) N ?_ ?_); rfl; intro w1 b9 hge hb k9; replace hall := hall.trans (hb.mono hall.size); clear hb hge)
    | (go_at_call 8; refine (small_any _).mono ?_; rintro e w2 ⟨rfl, hb2⟩))
  go_ret
  exact ⟨rfl, hall.trans (hb2.mono hall.size)⟩

theorem len4 {α : Type} {l : List α} (h : l.length = 4) : ∃ a b c d, l = [a, b, c, d] := by
  match l, h with
  | [a, b, c, d], _ => exact ⟨a, b, c, d, rfl⟩
theorem tells_walk (B : List Int) (hB : B.length = 51) (hw : WF B) (u : Int) (L : List Int) (A : Option Addr) (c : Nat) (M N : List Int) (hM : M.length = 4) (hN : N.length = 4) (w : World) (hL2 : L.length ≤ 9223372036854775807) (h : Holds w A (L.map (Value.int .i64))) :
    Calls Try.prog 3 #[.agg (ints B), .int .i64 u, .slice A L.length c, .agg (ints M), .agg (ints N)] w fun e w' => e = .returned (.bool true) ∧ Below w.heap.size w w' := by
  by_cases hL : L.length ≤ 200
  · obtain ⟨m0, m1, m2, m3, rfl⟩ := len4 hM
    obtain ⟨n0, n1, n2, n3, rfl⟩ := len4 hN
    exact tells_short B hB hw u L A c m0 m1 m2 m3 n0 n1 n2 n3 w hL h (putF B u L).1 (putF B u L).2 _ (fold L).1 (fold L).2 (noteF B u).1 (noteF B u).2.1 (noteF B u).2.2.1 (noteF B u).2.2.2 rfl rfl rfl rfl
  · exact tells_long B u L A c _ _ w hL hL2

theorem it28 : intTy Try.prog 4 28 = true := by kernel_rfl
theorem c28 : Try.prog.cellsOf 28 = 4 := by kernel_rfl
set_option maxRecDepth 100000 in
theorem tells_lifted (os : Os) (started : os.Started) (H : Type) (enc : TypeId × Value → H) :
    ReturnsInHanded {} Try.checked os 3 .any (Rows.boardTellsSpec.pre6 enc Try.prog Try.f3 Rows.boardTellsRow.domain false) (Rows.boardTellsSpec.post enc Try.prog Try.f3 false true false false) := by
  refine returnsInHanded_of_change (C := Try.checked) own started (by kernel_rfl) Try.func3
    (ChangeSpec.witness6 (enc := enc) (C := Try.checked) false ⟨#[], #[.agg (ints (List.replicate 51 0)), .int .i64 0, .slice none 0 0, .agg (ints [0, 0, 0, 0]), .agg (ints [0, 0, 0, 0])], []⟩ 8 (by kernel_rfl) (by kernel_rfl) (by kernel_rfl) (by kernel_rfl)) ?_
  intro W base args ds gs before hval0 hW hcnd _
  have hval : ∀ (j : Nat) t v, Try.f3.params[j]? = some t → args[j]? = some v → Value.okWide Try.prog W .any base t v := hval0
  have hW' := hW
  obtain ⟨p, q, hA0, hV, rfl, hfz, hnd⟩ := hW
  have hA : DataW.TrodAll enc Try.prog W 0 (fun _ => true) true Try.f3.params.toList args.toList ds p := hA0
  rw [Try.params3] at hA hval
  obtain ⟨v0, vs0, d0, ds0, p0, q0, hargs, rfl, rfl, h0, r0⟩ := trodAll_cons hA
  obtain ⟨v1, vs1, d1, ds1, p1, q1, rfl, rfl, rfl, h1, r1⟩ := trodAll_cons r0
  obtain ⟨v2, vs2, d2, ds2, p2, q2, rfl, rfl, rfl, h2, r2⟩ := trodAll_cons r1
  obtain ⟨v3, vs3, d3, ds3, p3, q3, rfl, rfl, rfl, h3, r3⟩ := trodAll_cons r2
  obtain ⟨v4, vs4, d4, ds4, p4, q4, rfl, rfl, rfl, h4, r4⟩ := trodAll_cons r3
  obtain ⟨rfl, rfl, rfl⟩ := trodAll_nil r4
  obtain rfl : args = #[v0, v1, v2, v3, v4] := by cases args; simp_all
  obtain ⟨rfl, rfl⟩ := trodVars_none hV
  have k0 := h0
  have lt0 : ∀ x ∈ p0, x.block < W.heap.size := by obtain ⟨m, hm⟩ := k0; exact DataW.trod_lt m _ _ _ hm
  have k2 := h2
  have lt2 : ∀ x ∈ p2, x.block < W.heap.size := by obtain ⟨m, hm⟩ := k2; exact DataW.trod_lt m _ _ _ hm
  have k3 := h3
  have lt3 : ∀ x ∈ p3, x.block < W.heap.size := by obtain ⟨m, hm⟩ := k3; exact DataW.trod_lt m _ _ _ hm
  have k4 := h4
  have lt4 : ∀ x ∈ p4, x.block < W.heap.size := by obtain ⟨m, hm⟩ := k4; exact DataW.trod_lt m _ _ _ hm
  obtain ⟨B, rfl, hB, hw⟩ := open_agg_ints 4 51 it25 (by rw [Try.underlying25]) c25 (hval 0 25 v0 rfl rfl) h0
  obtain ⟨u, rfl, rfl, rfl, wu⟩ := open_int Try.underlying3 (hval 1 3 v1 rfl rfl) h1
  obtain ⟨A, n, c, L, rfl, hn, hLw, hnc, hcm, hh⟩ := open_slice_ints 2 1 Try.underlying26 it3 c3 (by omega) (hval 2 26 v2 rfl rfl) h2
  obtain ⟨M, rfl, hM, hMw⟩ := open_agg_ints 4 4 it28 (by rw [Try.underlying28]) c28 (hval 3 28 v3 rfl rfl) h3
  obtain ⟨N, rfl, hN, hNw⟩ := open_agg_ints 4 4 it28 (by rw [Try.underlying28]) c28 (hval 4 28 v4 rfl rfl) h4
  obtain rfl : n = L.length := by omega
  clear hA0 hval0
  refine (tells_walk B hB hw u L A c M N hM hN W (by unfold maxLen at hcm; omega) hh).mono fun e W' ⟨he, bel⟩ => ?_
  subst he
  exact ⟨_, rfl, _, _, _, [], _, [], hW', trodAll_mk1 (shut_bool Try.underlying4 _), (trodAll_cons_mk (Below.trod laidOut (by kernel_rfl) (of_decide_eq_true (by kernel_rfl)) k0 bel lt0) (trodAll_cons_mk (shut_int Try.underlying3 wu) (trodAll_cons_mk (Below.trod laidOut (by kernel_rfl) (of_decide_eq_true (by kernel_rfl)) k2 bel lt2) (trodAll_cons_mk (Below.trod laidOut (by kernel_rfl) (of_decide_eq_true (by kernel_rfl)) k3 bel lt3) (trodAll_cons_mk (Below.trod laidOut (by kernel_rfl) (of_decide_eq_true (by kernel_rfl)) k4 bel lt4) trodAll_mk0))))), rfl, bel.frame _, fun h => by cases h⟩

theorem boardTells_holds : Rows.BoardTellsSaid :=
  OpenClaim.holds_of_wide 3 Try.f3 rfl rfl rfl rfl rfl rfl rfl ⟨rfl, rfl, rfl, rfl, rfl⟩ rfl rfl rfl rfl rfl (by kernel_rfl) Try.func3 (by kernel_rfl)
    (of_decide_eq_true (by kernel_rfl)) (by unfold Func.isWrapper; first | (rw [if_pos (by decide +kernel)]; kernel_rfl) | (rw [if_neg (by decide +kernel)]; exact ⟨rfl, rfl⟩))
    (fun os started H enc _ => tells_lifted os started H enc)
#print axioms boardTells_holds
end Go.Proofs.Ytlkgofannoddfaa
