import Derived.Test.YtlkgofannoddfaaE
import Derived.Test.YtlkgofannoddfaaP
namespace Go.Proofs.Ytlkgofannoddfaa
open Go.RowKit
set_option linter.unusedVariables false
set_option linter.unusedSimpArgs false

theorem g25 : Try.prog.eqGuardType Try.prog.depth 25 = false := by kernel_rfl
theorem g28 : Try.prog.eqGuardType Try.prog.depth 28 = false := by kernel_rfl
theorem h28 : Try.prog.stoodInHeld 28 = false := by kernel_rfl
theorem eqN (u v s c u' v' s' c' : Int) (w : World) :
    (Op.equalIn 10000 28 (.agg #[.int .i64 u, .int .i64 v, .int .i64 s, .int .i64 c]) (.agg #[.int .i64 u', .int .i64 v', .int .i64 s', .int .i64 c'])).run Try.prog w = .ok (decide (u = u' ∧ v = v' ∧ s = s' ∧ c = c')) w := by
  have h0 := h28
  have u28 := Try.underlying28
  have u3 := Try.underlying3
  go_simp
  by_cases e1 : u = u' <;> by_cases e2 : v = v' <;> by_cases e3 : s = s' <;> by_cases e4 : c = c' <;> simp [e1, e2, e3, e4]

theorem put_at (B : List Int) (u : Int) (L R : List Int) (ok : Bool) (A : Option Addr) (n c : Nat) (w : World) (hB : B.length = 51) (hw : WF B) (hp : putF B u L = (R, ok)) (hn : n = L.length) (hL : L.length ≤ 9223372036854775807) (h : Holds w A (L.map (Value.int .i64))) :
    Calls Try.prog 11 #[.agg (ints B), .int .i64 u, .slice A n c] w fun e w' => e = .returned (.tuple #[.agg (ints R), .bool ok]) ∧ Below w.heap.size w w' := by
  subst hn
  have := put_any B hB hw u L A c w hL h
  rw [hp] at this
  exact this
theorem fold_at (L : List Int) (A : Option Addr) (n c : Nat) (s k : Int) (w : World) (hf : fold L = (s, k)) (hn : n = L.length) (hL : L.length ≤ 9223372036854775807) (h : Holds w A (L.map (Value.int .i64))) :
    Calls Try.prog 9 #[.slice A n c] w fun e w' => e = .returned (.tuple #[.int .i64 s, .int .i64 k]) ∧ w = w' := by
  subst hn
  have := fold_any L A c w hL h
  rw [hf] at this
  exact this
def noteF (B : List Int) (u : Int) : Int × Int × Int × Int :=
  if 1 ≤ u ∧ u ≤ 16 then (u, ci B (u.toNat*3), ci B (u.toNat*3+1), ci B (u.toNat*3+2)) else (0, 0, 0, 0)
theorem note_at (B : List Int) (u : Int) (a b c d : Int) (w : World) (hB : B.length = 51) (hn : noteF B u = (a, b, c, d)) :
    Calls Try.prog 13 #[.agg (ints B), .int .i64 u] w fun e w' => e = .returned (.agg #[.int .i64 a, .int .i64 b, .int .i64 c, .int .i64 d]) ∧ Below w.heap.size w w' := by
  unfold noteF at hn
  by_cases hu : 1 ≤ u ∧ u ≤ 16
  · rw [if_pos hu] at hn
    obtain ⟨n, rfl⟩ : ∃ n : Nat, u = n := ⟨u.toNat, by omega⟩
    simp only [Int.toNat_natCast, Prod.mk.injEq] at hn
    obtain ⟨rfl, rfl, rfl, rfl⟩ := hn
    exact note_any B hB n w (by omega) (by omega) _ _ _ (ints_ci (by omega)) (ints_ci (by omega)) (ints_ci (by omega))
  · rw [if_neg hu] at hn
    simp only [Prod.mk.injEq] at hn
    obtain ⟨rfl, rfl, rfl, rfl⟩ := hn
    exact note_bad B hB u w hu
theorem newer_at (u v s k u' v' s' k' : Int) (r : Bool) (w : World) (hr : newer u v u' v' = r) :
    Calls Try.prog 15 #[.agg #[.int .i64 u, .int .i64 v, .int .i64 s, .int .i64 k], .agg #[.int .i64 u', .int .i64 v', .int .i64 s', .int .i64 k']] w fun e w' => e = .returned (.bool r) ∧ Below w.heap.size w w' := by
  rw [← hr]
  exact newer_any u v s k u' v' s' k' w

/-- three boards in memory of their own, in every world of a region -/
def Three (W : World) (b3 b5 b7 : Nat) (X3 X5 X7 : List Int) (w' : World) : Prop := Below W.heap.size W w' ∧ Block w' b3 25 (ints X3) ∧ Block w' b5 25 (ints X5) ∧ Block w' b7 25 (ints X7)
theorem Three.up {W w w' : World} {b3 b5 b7 : Nat} {X3 X5 X7 : List Int} (h : Three W b3 b5 b7 X3 X5 X7 w) (hb : Below w.heap.size w w') : Three W b3 b5 b7 X3 X5 X7 w' :=
  ⟨h.1.trans (hb.mono h.1.size), h.2.1.ups hb, h.2.2.1.ups hb, h.2.2.2.ups hb⟩

def Z0 : List Int := List.replicate 51 0
def C1 : List Int := (putF Z0 2 [1, 3]).1
def G1 : List Int := (putF C1 2 []).1
theorem z0_len : Z0.length = 51 := by simp [Z0]
theorem z0_wf : WF Z0 := by
  intro x hx
  have : x = 0 := by simpa [Z0] using hx
  rw [this]; exact wf_mk (by simp)
theorem c1_len : C1.length = 51 := putF_len z0_len _ _
theorem c1_wf : WF C1 := putF_wf z0_wf _ _
theorem g1_len : G1.length = 51 := putF_len c1_len _ _
theorem g1_wf : WF G1 := putF_wf c1_wf _ _
theorem q1 : putF Z0 2 [1, 3] = (C1, true) := by decide +kernel
theorem q2 : putF C1 2 [3, 1] = (C1, false) := by decide +kernel
theorem q3 : putF C1 2 [] = (G1, true) := by decide +kernel
theorem q4 : putF C1 17 [1] = (C1, false) := by decide +kernel
theorem build25 (w : World) : (Instr.build 25 #[]).run Try.prog w = .ok (.agg (ints Z0)) w := by kernel_rfl
theorem build28 (w : World) : (Instr.build 28 #[]).run Try.prog w = .ok (.agg #[.int .i64 0, .int .i64 0, .int .i64 0, .int .i64 0]) w := by kernel_rfl

set_option maxHeartbeats 1000000 in
set_option maxRecDepth 100000 in
theorem small_any (w : World) : Calls Try.prog 8 #[] w fun e w' => e = .returned (.bool true) ∧ Below w.heap.size w w' := by
  have hall := Below.refl w.heap.size w
  have hg25 := g25
  have hg28 := g28
  have heq : ∀ w, (Op.equalIn 10000 25 (.agg (ints C1)) (.agg (ints C1))).run Try.prog w = .ok true w := fun w => by rw [eqB C1 C1 c1_len c1_len c1_wf c1_wf]; simp
  go_enter Try.func8, Try.ntmps8
  go_wp2_with (first
    | ((with_reducible refine op_unguard _ _ ?_ ?_); rfl)
    | ((with_reducible refine op_lit 26 4 #[(0, .const (.int .i64 1)), (1, .const (.int .i64 3)), (2, .const (.int .i64 0)), (3, .const (.int .i64 7))] 3 (ints [1, 3, 0, 7]) ?_ ?_); (intro wl; kernel_rfl); intro w1 b1 hge hb kl; replace hall := hall.trans (hb.mono hall.size); (try replace k3 := k3.ups hb); (try replace k5 := k5.ups hb); (try replace k7 := k7.ups hb); clear hb hge)
    | ((with_reducible refine op_lit 26 2 #[(0, .const (.int .i64 1)), (1, .const (.int .i64 3))] 3 (ints [1, 3]) ?_ ?_); (intro wl; kernel_rfl); intro w1 b1 hge hb kl; replace hall := hall.trans (hb.mono hall.size); (try replace k3 := k3.ups hb); (try replace k5 := k5.ups hb); (try replace k7 := k7.ups hb); clear hb hge)
    | ((with_reducible refine op_lit 26 2 #[(0, .const (.int .i64 3)), (1, .const (.int .i64 1))] 3 (ints [3, 1]) ?_ ?_); (intro wl; kernel_rfl); intro w1 b1 hge hb kl; replace hall := hall.trans (hb.mono hall.size); (try replace k3 := k3.ups hb); (try replace k5 := k5.ups hb); (try replace k7 := k7.ups hb); clear hb hge)
    | ((with_reducible refine op_lit 26 1 #[(0, .const (.int .i64 1))] 3 (ints [1]) ?_ ?_); (intro wl; kernel_rfl); intro w1 b1 hge hb kl; replace hall := hall.trans (hb.mono hall.size); (try replace k3 := k3.ups hb); (try replace k5 := k5.ups hb); (try replace k7 := k7.ups hb); clear hb hge)
    | ((with_reducible refine op_build0 25 _ build25 ?_))
    | ((with_reducible refine op_build0 28 _ build28 ?_))
    | ((with_reducible refine op_new 25 3 (.tmp 20) (ints C1) zB info25z ?_ ?_ ?_ ?_ ?_ ?_); exact info25b _ c1_len; (rw [ints_size, c1_len]; exact zB_size); exact ints_one _; (intro p; rfl); (intro p; rfl); intro w1 b3 hge hb k3; replace hall := hall.trans (hb.mono hall.size); skip; (try replace k5 := k5.ups hb); (try replace k7 := k7.ups hb); clear hb hge)
    | ((with_reducible refine op_new 25 5 (.tmp 26) (ints C1) zB info25z ?_ ?_ ?_ ?_ ?_ ?_); exact info25b _ c1_len; (rw [ints_size, c1_len]; exact zB_size); exact ints_one _; (intro p; rfl); (intro p; rfl); intro w1 b5 hge hb k5; replace hall := hall.trans (hb.mono hall.size); (try replace k3 := k3.ups hb); skip; (try replace k7 := k7.ups hb); clear hb hge)
    | ((with_reducible refine op_new 25 7 (.tmp 31) (ints G1) zB info25z ?_ ?_ ?_ ?_ ?_ ?_); exact info25b _ g1_len; (rw [ints_size, g1_len]; exact zB_size); exact ints_one _; (intro p; rfl); (intro p; rfl); intro w1 b7 hge hb k7; replace hall := hall.trans (hb.mono hall.size); (try replace k3 := k3.ups hb); (try replace k5 := k5.ups hb); skip; clear hb hge)
    | ((with_reducible refine op_new 25 9 (.tmp 37) (ints C1) zB info25z ?_ ?_ ?_ ?_ ?_ ?_); exact info25b _ c1_len; (rw [ints_size, c1_len]; exact zB_size); exact ints_one _; (intro p; rfl); (intro p; rfl); intro w1 b9 hge hb k9; replace hall := hall.trans (hb.mono hall.size); (try replace k3 := k3.ups hb); (try replace k5 := k5.ups hb); (try replace k7 := k7.ups hb); clear hb hge)
    | ((with_reducible refine op_load 25 (.tmp 3) b3 25 (ints C1) (.array 17 23) ?_ ?_ ?_ ?_ ?_ ?_); rfl; exact k3; exact Try.underlying25; rfl; exact info25b _ c1_len)
    | ((with_reducible refine op_load 25 (.tmp 5) b5 25 (ints C1) (.array 17 23) ?_ ?_ ?_ ?_ ?_ ?_); rfl; exact k5; exact Try.underlying25; rfl; exact info25b _ c1_len)
    | ((with_reducible refine op_load 25 (.tmp 7) b7 25 (ints G1) (.array 17 23) ?_ ?_ ?_ ?_ ?_ ?_); rfl; exact k7; exact Try.underlying25; rfl; exact info25b _ g1_len)
    | (go_at_call 9; ((with_reducible refine (fold_at [1, 3, 0, 7] _ _ _ 3 2 _ ?_ ?_ ?_ ?_).mono ?_); rfl; rfl; (simp); exact Block.holds kl; rintro e w1 ⟨rfl, rfl⟩))
    | (go_at_call 11; ((with_reducible refine (put_at Z0 2 [1, 3] C1 true _ _ _ _ ?_ ?_ ?_ ?_ ?_ ?_).mono ?_); exact z0_len; exact z0_wf; exact q1; rfl; (simp); exact Block.holds kl; rintro e w1 ⟨rfl, hb⟩; replace hall := hall.trans (hb.mono hall.size); (try replace k3 := k3.ups hb); (try replace k5 := k5.ups hb); (try replace k7 := k7.ups hb); clear hb))
    | (go_at_call 11; ((with_reducible refine (put_at C1 2 [3, 1] C1 false _ _ _ _ ?_ ?_ ?_ ?_ ?_ ?_).mono ?_); exact c1_len; exact c1_wf; exact q2; rfl; (simp); exact Block.holds kl; rintro e w1 ⟨rfl, hb⟩; replace hall := hall.trans (hb.mono hall.size); (try replace k3 := k3.ups hb); (try replace k5 := k5.ups hb); (try replace k7 := k7.ups hb); clear hb))
    | (go_at_call 11; ((with_reducible refine (put_at C1 2 [] G1 true _ _ _ _ ?_ ?_ ?_ ?_ ?_ ?_).mono ?_); exact c1_len; exact c1_wf; exact q3; rfl; (simp); (intro j hj; simp at hj); rintro e w1 ⟨rfl, hb⟩; replace hall := hall.trans (hb.mono hall.size); (try replace k3 := k3.ups hb); (try replace k5 := k5.ups hb); (try replace k7 := k7.ups hb); clear hb))
    | (go_at_call 11; ((with_reducible refine (put_at C1 17 [1] C1 false _ _ _ _ ?_ ?_ ?_ ?_ ?_ ?_).mono ?_); exact c1_len; exact c1_wf; exact q4; rfl; (simp); exact Block.holds kl; rintro e w1 ⟨rfl, hb⟩; replace hall := hall.trans (hb.mono hall.size); (try replace k3 := k3.ups hb); (try replace k5 := k5.ups hb); (try replace k7 := k7.ups hb); clear hb))
    | (go_at_call 13; ((with_reducible refine (note_at C1 2 2 1 3 2 _ ?_ ?_).mono ?_); exact c1_len; (decide +kernel); rintro e w1 ⟨rfl, hb⟩; replace hall := hall.trans (hb.mono hall.size); (try replace k3 := k3.ups hb); (try replace k5 := k5.ups hb); (try replace k7 := k7.ups hb); clear hb))
    | (go_at_call 13; ((with_reducible refine (note_at G1 2 2 2 0 0 _ ?_ ?_).mono ?_); exact g1_len; (decide +kernel); rintro e w1 ⟨rfl, hb⟩; replace hall := hall.trans (hb.mono hall.size); (try replace k3 := k3.ups hb); (try replace k5 := k5.ups hb); (try replace k7 := k7.ups hb); clear hb))
    | (go_at_call 13; ((with_reducible refine (note_at C1 0 0 0 0 0 _ ?_ ?_).mono ?_); exact c1_len; (decide +kernel); rintro e w1 ⟨rfl, hb⟩; replace hall := hall.trans (hb.mono hall.size); (try replace k3 := k3.ups hb); (try replace k5 := k5.ups hb); (try replace k7 := k7.ups hb); clear hb))
    | (go_at_call 13; ((with_reducible refine (note_at C1 1 1 0 0 0 _ ?_ ?_).mono ?_); exact c1_len; (decide +kernel); rintro e w1 ⟨rfl, hb⟩; replace hall := hall.trans (hb.mono hall.size); (try replace k3 := k3.ups hb); (try replace k5 := k5.ups hb); (try replace k7 := k7.ups hb); clear hb))
    | (go_at_call 15; ((with_reducible refine (newer_at 2 1 3 2 2 2 0 0 true _ ?_).mono ?_); rfl; rintro e w1 ⟨rfl, hb⟩; replace hall := hall.trans (hb.mono hall.size); (try replace k3 := k3.ups hb); (try replace k5 := k5.ups hb); (try replace k7 := k7.ups hb); clear hb))
    | (go_at_call 15; ((with_reducible refine (newer_at 2 2 0 0 2 1 3 2 false _ ?_).mono ?_); rfl; rintro e w1 ⟨rfl, hb⟩; replace hall := hall.trans (hb.mono hall.size); (try replace k3 := k3.ups hb); (try replace k5 := k5.ups hb); (try replace k7 := k7.ups hb); clear hb))
    | (go_at_call 15; ((with_reducible refine (newer_at 1 0 0 0 2 2 0 0 false _ ?_).mono ?_); rfl; rintro e w1 ⟨rfl, hb⟩; replace hall := hall.trans (hb.mono hall.size); (try replace k3 := k3.ups hb); (try replace k5 := k5.ups hb); (try replace k7 := k7.ups hb); clear hb)))
  have hS : Three w b3 b5 b7 C1 C1 G1 w1.drew := ⟨hall.drew, k3, k5, k7⟩
  refine region_pi (Three w b3 b5 b7 C1 C1 G1) [(0, true), (1, true), (2, true), (3, true), (4, true), (5, true), (6, true), (7, true), (8, true), (9, true), (10, true), (12, true), (11, false), (13, true), (14, true), (15, true), (16, true), (17, true), (18, true), (19, true), (20, true), (21, true), (22, true), (23, true), (24, true), (25, true), (26, true), (27, true), (28, true), (30, true), (29, false), (31, true), (32, true), (33, true), (34, true), (35, true), (36, true), (37, true), (38, true), (40, true), (39, false), (41, true), (42, true), (43, true), (44, true), (46, true), (45, false), (47, false), (48, false), (49, true), (50, true), (51, true), (53, true), (52, false), (54, false), (55, false), (56, true), (57, true), (58, true), (59, true), (61, true), (60, false), (62, false), (63, false), (64, true), (65, true), (66, true)] (by kernel_rfl) (by kernel_rfl) rfl (by kernel_rfl) hS ?_
  clear hall k3 k5 k7 k9 kl
  refine pi_f0 ?_ rfl ?_ ?_; rotate_left; (focus (intro w' hS'; go_simp; (try with_reducible rfl); done)); simp only [Act.put, List.setIfInBounds_toArray, List.set_cons_zero, List.set_cons_succ]
  refine pi_f0 ?_ rfl ?_ ?_; rotate_left; (focus (intro w' hS'; go_simp; (try with_reducible rfl); done)); simp only [Act.put, List.setIfInBounds_toArray, List.set_cons_zero, List.set_cons_succ]
  refine pi_f0 ?_ rfl ?_ ?_; rotate_left; (focus (intro w' hS'; go_simp; (try with_reducible rfl); done)); simp only [Act.put, List.setIfInBounds_toArray, List.set_cons_zero, List.set_cons_succ]
  refine pi_f1 ?_ rfl rfl rfl rfl ?_ ?_; rotate_left; (focus (intro w' hS'; go_simp; (try with_reducible rfl); done)); simp only [Act.put, List.setIfInBounds_toArray, List.set_cons_zero, List.set_cons_succ]
  refine pi_f1 ?_ rfl rfl rfl rfl ?_ ?_; rotate_left; (focus (intro w' hS'; go_simp; (try with_reducible rfl); done)); simp only [Act.put, List.setIfInBounds_toArray, List.set_cons_zero, List.set_cons_succ]
  refine pi_f0 ?_ rfl ?_ ?_; rotate_left; (focus (intro w' hS'; go_simp; (try with_reducible rfl); done)); simp only [Act.put, List.setIfInBounds_toArray, List.set_cons_zero, List.set_cons_succ]
  refine pi_f0 ?_ rfl ?_ ?_; rotate_left; (focus (intro w' hS'; go_simp; (try with_reducible rfl); done)); simp only [Act.put, List.setIfInBounds_toArray, List.set_cons_zero, List.set_cons_succ]
  refine pi_f1 ?_ rfl rfl rfl rfl ?_ ?_; rotate_left; (focus (intro w' hS'; go_simp; (try with_reducible rfl); done)); simp only [Act.put, List.setIfInBounds_toArray, List.set_cons_zero, List.set_cons_succ]
  refine pi_f0 ?_ rfl ?_ ?_; rotate_left; (focus (intro w' hS'; go_simp; (try with_reducible rfl); done)); simp only [Act.put, List.setIfInBounds_toArray, List.set_cons_zero, List.set_cons_succ]
  refine pi_f0 ?_ rfl ?_ ?_; rotate_left; (focus (intro w' hS'; go_simp; (try with_reducible rfl); done)); simp only [Act.put, List.setIfInBounds_toArray, List.set_cons_zero, List.set_cons_succ]
  refine pi_f1 ?_ rfl rfl rfl rfl ?_ ?_; rotate_left; (focus (intro w' h; refine run_load_row b3 25 (ints C1) (.array 17 23) ?_ h.2.1 Try.underlying25 ?_ (info25b _ c1_len) <;> rfl)); simp only [Act.put, List.setIfInBounds_toArray, List.set_cons_zero, List.set_cons_succ]
  refine pi_f1 ?_ rfl rfl rfl rfl ?_ ?_; rotate_left; (focus (intro w' hS'; go_simp; (try with_reducible rfl); done)); simp only [Act.put, List.setIfInBounds_toArray, List.set_cons_zero, List.set_cons_succ]
  refine pi_a1 rfl rfl rfl rfl (fun K hK => ?_); go_simp; refine (note_at C1 2 2 1 3 2 _ c1_len (by decide +kernel)).mono ?_; rintro e w9 ⟨rfl, hb9⟩; replace hS := hS.up hb9; clear hb9; refine hK _ _ ⟨?_, ?_⟩; exact hS; clear hK; clear K; try simp only [Act.put, List.setIfInBounds_toArray, List.set_cons_zero, List.set_cons_succ]
  refine pi_f1 ?_ rfl rfl rfl rfl ?_ ?_; rotate_left; (focus (intro w' hS'; go_simp; (try with_reducible rfl); done)); simp only [Act.put, List.setIfInBounds_toArray, List.set_cons_zero, List.set_cons_succ]
  refine pi_f0 ?_ rfl ?_ ?_; rotate_left; (focus (intro w' hS'; go_simp; (try with_reducible rfl); done)); simp only [Act.put, List.setIfInBounds_toArray, List.set_cons_zero, List.set_cons_succ]
  refine pi_f0 ?_ rfl ?_ ?_; rotate_left; (focus (intro w' hS'; go_simp; (try with_reducible rfl); done)); simp only [Act.put, List.setIfInBounds_toArray, List.set_cons_zero, List.set_cons_succ]
  refine pi_f1 ?_ rfl rfl rfl rfl ?_ ?_; rotate_left; (focus (intro w' hS'; go_simp; (try with_reducible rfl); done)); simp only [Act.put, List.setIfInBounds_toArray, List.set_cons_zero, List.set_cons_succ]
  refine pi_f1 ?_ rfl rfl rfl rfl ?_ ?_; rotate_left; (focus (intro w' hS'; go_simp; (try with_reducible rfl); done)); simp only [Act.put, List.setIfInBounds_toArray, List.set_cons_zero, List.set_cons_succ]
  refine pi_f0 ?_ rfl ?_ ?_; rotate_left; (focus (intro w' hS'; go_simp; (try with_reducible rfl); done)); simp only [Act.put, List.setIfInBounds_toArray, List.set_cons_zero, List.set_cons_succ]
  refine pi_f0 ?_ rfl ?_ ?_; rotate_left; (focus (intro w' hS'; go_simp; (try with_reducible rfl); done)); simp only [Act.put, List.setIfInBounds_toArray, List.set_cons_zero, List.set_cons_succ]
  refine pi_f1 ?_ rfl rfl rfl rfl ?_ ?_; rotate_left; (focus (intro w' h; refine run_load_row b5 25 (ints C1) (.array 17 23) ?_ h.2.2.1 Try.underlying25 ?_ (info25b _ c1_len) <;> rfl)); simp only [Act.put, List.setIfInBounds_toArray, List.set_cons_zero, List.set_cons_succ]
  refine pi_f1 ?_ rfl rfl rfl rfl ?_ ?_; rotate_left; (focus (intro w' h; refine run_load_row b3 25 (ints C1) (.array 17 23) ?_ h.2.1 Try.underlying25 ?_ (info25b _ c1_len) <;> rfl)); simp only [Act.put, List.setIfInBounds_toArray, List.set_cons_zero, List.set_cons_succ]
  refine pi_f1 ?_ rfl rfl rfl rfl ?_ ?_; rotate_left; (focus (intro w' hS'; go_simp; (try with_reducible rfl); done)); simp only [Act.put, List.setIfInBounds_toArray, List.set_cons_zero, List.set_cons_succ]
  refine pi_f0 ?_ rfl ?_ ?_; rotate_left; (focus (intro w' hS'; go_simp; (try with_reducible rfl); done)); simp only [Act.put, List.setIfInBounds_toArray, List.set_cons_zero, List.set_cons_succ]
  refine pi_f0 ?_ rfl ?_ ?_; rotate_left; (focus (intro w' hS'; go_simp; (try with_reducible rfl); done)); simp only [Act.put, List.setIfInBounds_toArray, List.set_cons_zero, List.set_cons_succ]
  refine pi_f1 ?_ rfl rfl rfl rfl ?_ ?_; rotate_left; (focus (intro w' hS'; go_simp; (try with_reducible rfl); done)); simp only [Act.put, List.setIfInBounds_toArray, List.set_cons_zero, List.set_cons_succ]
  refine pi_f0 ?_ rfl ?_ ?_; rotate_left; (focus (intro w' hS'; go_simp; (try with_reducible rfl); done)); simp only [Act.put, List.setIfInBounds_toArray, List.set_cons_zero, List.set_cons_succ]
  refine pi_f0 ?_ rfl ?_ ?_; rotate_left; (focus (intro w' hS'; go_simp; (try with_reducible rfl); done)); simp only [Act.put, List.setIfInBounds_toArray, List.set_cons_zero, List.set_cons_succ]
  refine pi_f1 ?_ rfl rfl rfl rfl ?_ ?_; rotate_left; (focus (intro w' h; refine run_load_row b7 25 (ints G1) (.array 17 23) ?_ h.2.2.2 Try.underlying25 ?_ (info25b _ g1_len) <;> rfl)); simp only [Act.put, List.setIfInBounds_toArray, List.set_cons_zero, List.set_cons_succ]
  refine pi_f1 ?_ rfl rfl rfl rfl ?_ ?_; rotate_left; (focus (intro w' hS'; go_simp; (try with_reducible rfl); done)); simp only [Act.put, List.setIfInBounds_toArray, List.set_cons_zero, List.set_cons_succ]
  refine pi_a1 rfl rfl rfl rfl (fun K hK => ?_); go_simp; refine (note_at G1 2 2 2 0 0 _ g1_len (by decide +kernel)).mono ?_; rintro e w9 ⟨rfl, hb9⟩; replace hS := hS.up hb9; clear hb9; refine hK _ _ ⟨?_, ?_⟩; exact hS; clear hK; clear K; try simp only [Act.put, List.setIfInBounds_toArray, List.set_cons_zero, List.set_cons_succ]
  refine pi_f1 ?_ rfl rfl rfl rfl ?_ ?_; rotate_left; (focus (intro w' hS'; go_simp; (try with_reducible rfl); done)); simp only [Act.put, List.setIfInBounds_toArray, List.set_cons_zero, List.set_cons_succ]
  refine pi_f0 ?_ rfl ?_ ?_; rotate_left; (focus (intro w' hS'; go_simp; (try with_reducible rfl); done)); simp only [Act.put, List.setIfInBounds_toArray, List.set_cons_zero, List.set_cons_succ]
  refine pi_f0 ?_ rfl ?_ ?_; rotate_left; (focus (intro w' hS'; go_simp; (try with_reducible rfl); done)); simp only [Act.put, List.setIfInBounds_toArray, List.set_cons_zero, List.set_cons_succ]
  refine pi_f1 ?_ rfl rfl rfl rfl ?_ ?_; rotate_left; (focus (intro w' hS'; go_simp; (try with_reducible rfl); done)); simp only [Act.put, List.setIfInBounds_toArray, List.set_cons_zero, List.set_cons_succ]
  refine pi_f1 ?_ rfl rfl rfl rfl ?_ ?_; rotate_left; (focus (intro w' hS'; go_simp; (try with_reducible rfl); done)); simp only [Act.put, List.setIfInBounds_toArray, List.set_cons_zero, List.set_cons_succ]
  refine pi_f0 ?_ rfl ?_ ?_; rotate_left; (focus (intro w' hS'; go_simp; (try with_reducible rfl); done)); simp only [Act.put, List.setIfInBounds_toArray, List.set_cons_zero, List.set_cons_succ]
  refine pi_f0 ?_ rfl ?_ ?_; rotate_left; (focus (intro w' hS'; go_simp; (try with_reducible rfl); done)); simp only [Act.put, List.setIfInBounds_toArray, List.set_cons_zero, List.set_cons_succ]
  refine pi_f1 ?_ rfl rfl rfl rfl ?_ ?_; rotate_left; (focus (intro w' h; refine run_load_row b3 25 (ints C1) (.array 17 23) ?_ h.2.1 Try.underlying25 ?_ (info25b _ c1_len) <;> rfl)); simp only [Act.put, List.setIfInBounds_toArray, List.set_cons_zero, List.set_cons_succ]
  refine pi_f1 ?_ rfl rfl rfl rfl ?_ ?_; rotate_left; (focus (intro w' hS'; go_simp; (try with_reducible rfl); done)); simp only [Act.put, List.setIfInBounds_toArray, List.set_cons_zero, List.set_cons_succ]
  refine pi_a1 rfl rfl rfl rfl (fun K hK => ?_); go_simp; refine (note_at C1 0 0 0 0 0 _ c1_len (by decide +kernel)).mono ?_; rintro e w9 ⟨rfl, hb9⟩; replace hS := hS.up hb9; clear hb9; refine hK _ _ ⟨?_, ?_⟩; exact hS; clear hK; clear K; try simp only [Act.put, List.setIfInBounds_toArray, List.set_cons_zero, List.set_cons_succ]
  refine pi_f1 ?_ rfl rfl rfl rfl ?_ ?_; rotate_left; (focus (intro w' hS'; go_simp; (try with_reducible rfl); done)); simp only [Act.put, List.setIfInBounds_toArray, List.set_cons_zero, List.set_cons_succ]
  refine pi_f0 ?_ rfl ?_ ?_; rotate_left; (focus (intro w' hS'; go_simp; (try with_reducible rfl); done)); simp only [Act.put, List.setIfInBounds_toArray, List.set_cons_zero, List.set_cons_succ]
  refine pi_f0 ?_ rfl ?_ ?_; rotate_left; (focus (intro w' hS'; go_simp; (try with_reducible rfl); done)); simp only [Act.put, List.setIfInBounds_toArray, List.set_cons_zero, List.set_cons_succ]
  refine pi_f1 ?_ rfl rfl rfl rfl ?_ ?_; rotate_left; (focus (intro w' h; refine run_load_row b3 25 (ints C1) (.array 17 23) ?_ h.2.1 Try.underlying25 ?_ (info25b _ c1_len) <;> rfl)); simp only [Act.put, List.setIfInBounds_toArray, List.set_cons_zero, List.set_cons_succ]
  refine pi_f1 ?_ rfl rfl rfl rfl ?_ ?_; rotate_left; (focus (intro w' h; refine run_load_row b7 25 (ints G1) (.array 17 23) ?_ h.2.2.2 Try.underlying25 ?_ (info25b _ g1_len) <;> rfl)); simp only [Act.put, List.setIfInBounds_toArray, List.set_cons_zero, List.set_cons_succ]
  refine pi_a1 rfl rfl rfl rfl (fun K hK => ?_); go_simp; refine (note_at C1 2 2 1 3 2 _ c1_len (by decide +kernel)).mono ?_; rintro e w9 ⟨rfl, hb9⟩; replace hS := hS.up hb9; clear hb9; refine hK _ _ ⟨?_, ?_⟩; exact hS; clear hK; clear K; try simp only [Act.put, List.setIfInBounds_toArray, List.set_cons_zero, List.set_cons_succ]
  refine pi_a1 rfl rfl rfl rfl (fun K hK => ?_); go_simp; refine (note_at G1 2 2 2 0 0 _ g1_len (by decide +kernel)).mono ?_; rintro e w9 ⟨rfl, hb9⟩; replace hS := hS.up hb9; clear hb9; refine hK _ _ ⟨?_, ?_⟩; exact hS; clear hK; clear K; try simp only [Act.put, List.setIfInBounds_toArray, List.set_cons_zero, List.set_cons_succ]
  refine pi_a1 rfl rfl rfl rfl (fun K hK => ?_); go_simp; refine (newer_at 2 1 3 2 2 2 0 0 true _ rfl).mono ?_; rintro e w9 ⟨rfl, hb9⟩; replace hS := hS.up hb9; clear hb9; refine hK _ _ ⟨?_, ?_⟩; exact hS; clear hK; clear K; try simp only [Act.put, List.setIfInBounds_toArray, List.set_cons_zero, List.set_cons_succ]
  refine pi_f0 ?_ rfl ?_ ?_; rotate_left; (focus (intro w' hS'; go_simp; (try with_reducible rfl); done)); simp only [Act.put, List.setIfInBounds_toArray, List.set_cons_zero, List.set_cons_succ]
  refine pi_f0 ?_ rfl ?_ ?_; rotate_left; (focus (intro w' hS'; go_simp; (try with_reducible rfl); done)); simp only [Act.put, List.setIfInBounds_toArray, List.set_cons_zero, List.set_cons_succ]
  refine pi_f1 ?_ rfl rfl rfl rfl ?_ ?_; rotate_left; (focus (intro w' h; refine run_load_row b7 25 (ints G1) (.array 17 23) ?_ h.2.2.2 Try.underlying25 ?_ (info25b _ g1_len) <;> rfl)); simp only [Act.put, List.setIfInBounds_toArray, List.set_cons_zero, List.set_cons_succ]
  refine pi_f1 ?_ rfl rfl rfl rfl ?_ ?_; rotate_left; (focus (intro w' h; refine run_load_row b3 25 (ints C1) (.array 17 23) ?_ h.2.1 Try.underlying25 ?_ (info25b _ c1_len) <;> rfl)); simp only [Act.put, List.setIfInBounds_toArray, List.set_cons_zero, List.set_cons_succ]
  refine pi_a1 rfl rfl rfl rfl (fun K hK => ?_); go_simp; refine (note_at G1 2 2 2 0 0 _ g1_len (by decide +kernel)).mono ?_; rintro e w9 ⟨rfl, hb9⟩; replace hS := hS.up hb9; clear hb9; refine hK _ _ ⟨?_, ?_⟩; exact hS; clear hK; clear K; try simp only [Act.put, List.setIfInBounds_toArray, List.set_cons_zero, List.set_cons_succ]
  refine pi_a1 rfl rfl rfl rfl (fun K hK => ?_); go_simp; refine (note_at C1 2 2 1 3 2 _ c1_len (by decide +kernel)).mono ?_; rintro e w9 ⟨rfl, hb9⟩; replace hS := hS.up hb9; clear hb9; refine hK _ _ ⟨?_, ?_⟩; exact hS; clear hK; clear K; try simp only [Act.put, List.setIfInBounds_toArray, List.set_cons_zero, List.set_cons_succ]
  refine pi_a1 rfl rfl rfl rfl (fun K hK => ?_); go_simp; refine (newer_at 2 2 0 0 2 1 3 2 false _ rfl).mono ?_; rintro e w9 ⟨rfl, hb9⟩; replace hS := hS.up hb9; clear hb9; refine hK _ _ ⟨?_, ?_⟩; exact hS; clear hK; clear K; try simp only [Act.put, List.setIfInBounds_toArray, List.set_cons_zero, List.set_cons_succ]
  refine pi_f1 ?_ rfl rfl rfl rfl ?_ ?_; rotate_left; (focus (intro w' hS'; go_simp; (try with_reducible rfl); done)); simp only [Act.put, List.setIfInBounds_toArray, List.set_cons_zero, List.set_cons_succ]
  refine pi_f0 ?_ rfl ?_ ?_; rotate_left; (focus (intro w' hS'; go_simp; (try with_reducible rfl); done)); simp only [Act.put, List.setIfInBounds_toArray, List.set_cons_zero, List.set_cons_succ]
  refine pi_f0 ?_ rfl ?_ ?_; rotate_left; (focus (intro w' hS'; go_simp; (try with_reducible rfl); done)); simp only [Act.put, List.setIfInBounds_toArray, List.set_cons_zero, List.set_cons_succ]
  refine pi_f1 ?_ rfl rfl rfl rfl ?_ ?_; rotate_left; (focus (intro w' h; refine run_load_row b3 25 (ints C1) (.array 17 23) ?_ h.2.1 Try.underlying25 ?_ (info25b _ c1_len) <;> rfl)); simp only [Act.put, List.setIfInBounds_toArray, List.set_cons_zero, List.set_cons_succ]
  refine pi_f1 ?_ rfl rfl rfl rfl ?_ ?_; rotate_left; (focus (intro w' h; refine run_load_row b7 25 (ints G1) (.array 17 23) ?_ h.2.2.2 Try.underlying25 ?_ (info25b _ g1_len) <;> rfl)); simp only [Act.put, List.setIfInBounds_toArray, List.set_cons_zero, List.set_cons_succ]
  refine pi_a1 rfl rfl rfl rfl (fun K hK => ?_); go_simp; refine (note_at C1 1 1 0 0 0 _ c1_len (by decide +kernel)).mono ?_; rintro e w9 ⟨rfl, hb9⟩; replace hS := hS.up hb9; clear hb9; refine hK _ _ ⟨?_, ?_⟩; exact hS; clear hK; clear K; try simp only [Act.put, List.setIfInBounds_toArray, List.set_cons_zero, List.set_cons_succ]
  refine pi_a1 rfl rfl rfl rfl (fun K hK => ?_); go_simp; refine (note_at G1 2 2 2 0 0 _ g1_len (by decide +kernel)).mono ?_; rintro e w9 ⟨rfl, hb9⟩; replace hS := hS.up hb9; clear hb9; refine hK _ _ ⟨?_, ?_⟩; exact hS; clear hK; clear K; try simp only [Act.put, List.setIfInBounds_toArray, List.set_cons_zero, List.set_cons_succ]
  refine pi_a1 rfl rfl rfl rfl (fun K hK => ?_); go_simp; refine (newer_at 1 0 0 0 2 2 0 0 false _ rfl).mono ?_; rintro e w9 ⟨rfl, hb9⟩; replace hS := hS.up hb9; clear hb9; refine hK _ _ ⟨?_, ?_⟩; exact hS; clear hK; clear K; try simp only [Act.put, List.setIfInBounds_toArray, List.set_cons_zero, List.set_cons_succ]
  refine pi_f1 ?_ rfl rfl rfl rfl ?_ ?_; rotate_left; (focus (intro w' hS'; go_simp; (try with_reducible rfl); done)); simp only [Act.put, List.setIfInBounds_toArray, List.set_cons_zero, List.set_cons_succ]
  refine pi_f0 ?_ rfl ?_ ?_; rotate_left; (focus (intro w' hS'; go_simp; (try with_reducible rfl); done)); simp only [Act.put, List.setIfInBounds_toArray, List.set_cons_zero, List.set_cons_succ]
  refine pi_f0 ?_ rfl ?_ ?_; rotate_left; (focus (intro w' hS'; go_simp; (try with_reducible rfl); done)); simp only [Act.put, List.setIfInBounds_toArray, List.set_cons_zero, List.set_cons_succ]
  refine pi_nil (NoPanic.normal ?_)
  go_wp2
  go_ret
  exact ⟨rfl, hS.1⟩
end Go.Proofs.Ytlkgofannoddfaa
