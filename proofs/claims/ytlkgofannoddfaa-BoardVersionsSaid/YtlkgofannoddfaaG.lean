import Derived.Test.YtlkgofannoddfaaF
namespace Go.Proofs.Ytlkgofannoddfaa
open Go.RowKit
set_option linter.unusedVariables false
set_option linter.unusedSimpArgs false

set_option maxHeartbeats 1000000 in
set_option maxRecDepth 100000 in
theorem twice_bad (B : List Int) (hB : B.length = 51) (hw : WF B) (u : Int) (hu : ¬ (1 ≤ u ∧ u ≤ 16)) (L : List Int) (A : Option Addr) (c : Nat) (w : World) (hL : L.length ≤ 200) (h : Holds w A (L.map (Value.int .i64)))
    (s k : Int) (hp1 : putF B u L = (B, false)) (hp2 : putF B u L = (B, false)) (hn : noteF B u = (0, 0, 0, 0)) (hf : fold L = (s, k)) :
    Calls Try.prog 6 #[.agg (ints B), .int .i64 u, .slice A L.length c] w fun e w' => e = .returned (.bool true) ∧ Below w.heap.size w w' := by
  have hall := Below.refl w.heap.size w
  have hg25 := g25
  have hg28 := g28
  have e28 := eqN
  have heq : ∀ w, (Op.equalIn 10000 25 (.agg (ints B)) (.agg (ints B))).run Try.prog w = .ok true w := fun w => by rw [eqB B B hB hB hw hw]; simp
  have HC := Lib.hid hB
  have HCW := Lib.hid hw
  have HB := Lib.hid hB
  have HW := Lib.hid hw
  have HP1 := Lib.hid hp1
  have HP2 := Lib.hid hp2
  have HN := Lib.hid hn
  have HF := Lib.hid hf
  clear hB hw hp1 hp2 hn hf
  go_enter Try.func6, Try.ntmps6
  go_wp2_with (first
    | ((with_reducible refine op_unguard _ _ ?_ ?_); rfl)
    | ((with_reducible refine op_box 25 (.tmp 0) (ints B) ?_ ?_); rfl; intro w1 b3 hge hb k3; replace hall := hall.trans (hb.mono hall.size); (try replace k8 := k8.ups hb); (try replace k10 := k10.ups hb); (try replace k12 := k12.ups hb); (try replace h := h.up hb); clear hb hge)
    | ((with_reducible refine op_build0 28 _ build28 ?_))
    | ((with_reducible refine op_new 25 8 (.tmp 26) (ints B) zB info25z ?_ ?_ ?_ ?_ ?_ ?_); exact info25b _ HC.out; (rw [ints_size, HC.out]; exact zB_size); exact ints_one _; (intro p; rfl); (intro p; rfl); intro w1 b8 hge hb k8; replace hall := hall.trans (hb.mono hall.size); (try replace k3 := k3.ups hb); (try replace k10 := k10.ups hb); (try replace k12 := k12.ups hb); (try replace h := h.up hb); clear hb hge)
    | ((with_reducible refine op_new 25 10 (.tmp 33) (ints B) zB info25z ?_ ?_ ?_ ?_ ?_ ?_); exact info25b _ HC.out; (rw [ints_size, HC.out]; exact zB_size); exact ints_one _; (intro p; rfl); (intro p; rfl); intro w1 b10 hge hb k10; replace hall := hall.trans (hb.mono hall.size); (try replace k3 := k3.ups hb); (try replace k8 := k8.ups hb); (try replace k12 := k12.ups hb); (try replace h := h.up hb); clear hb hge)
    | ((with_reducible refine op_new 28 12 (.tmp 37) #[.int .i64 0, .int .i64 0, .int .i64 0, .int .i64 0] zN info28z ?_ ?_ ?_ ?_ ?_ ?_); exact info28s; rfl; (simp [Value.oneCell']); (intro p; rfl); (intro p; rfl); intro w1 b12 hge hb k12; replace hall := hall.trans (hb.mono hall.size); (try replace k3 := k3.ups hb); (try replace k8 := k8.ups hb); (try replace k10 := k10.ups hb); (try replace h := h.up hb); clear hb hge; have m0 := k12.cell 0; have m1 := k12.cell 1; have m2 := k12.cell 2; have m3 := k12.cell 3)
    | ((with_reducible refine op_load 25 (.tmp 3) b3 25 (ints B) (.array 17 23) ?_ ?_ ?_ ?_ ?_ ?_); rfl; exact k3; exact Try.underlying25; rfl; exact info25b _ HB.out)
    | ((with_reducible refine op_load 25 (.tmp 8) b8 25 (ints B) (.array 17 23) ?_ ?_ ?_ ?_ ?_ ?_); rfl; exact k8; exact Try.underlying25; rfl; exact info25b _ HC.out)
    | ((with_reducible refine op_load 25 (.tmp 10) b10 25 (ints B) (.array 17 23) ?_ ?_ ?_ ?_ ?_ ?_); rfl; exact k10; exact Try.underlying25; rfl; exact info25b _ HC.out)
    | (go_at_call 8; refine (small_any _).mono ?_; rintro e w1 ⟨rfl, hb⟩; replace hall := hall.trans (hb.mono hall.size); (try replace k3 := k3.ups hb); (try replace k8 := k8.ups hb); (try replace k10 := k10.ups hb); (try replace k12 := k12.ups hb); (try replace h := h.up hb); clear hb)
    | (go_at_call 11; ((with_reducible refine (put_at B u L B false A _ c _ ?_ ?_ ?_ ?_ ?_ ?_).mono ?_); exact HB.out; exact HW.out; exact HP1.out; rfl; omega; exact h; rintro e w1 ⟨rfl, hb⟩; replace hall := hall.trans (hb.mono hall.size); (try replace k3 := k3.ups hb); (try replace k8 := k8.ups hb); (try replace k10 := k10.ups hb); (try replace k12 := k12.ups hb); (try replace h := h.up hb); clear hb))
    | (go_at_call 13; ((with_reducible refine (note_at B u 0 0 0 0 _ ?_ ?_).mono ?_); exact HC.out; exact HN.out; rintro e w1 ⟨rfl, hb⟩; replace hall := hall.trans (hb.mono hall.size); (try replace k3 := k3.ups hb); (try replace k8 := k8.ups hb); (try replace k10 := k10.ups hb); (try replace k12 := k12.ups hb); (try replace h := h.up hb); clear hb))
    | (go_at_call 9; ((with_reducible refine (fold_at L A _ c s k _ ?_ ?_ ?_ ?_).mono ?_); exact HF.out; rfl; omega; exact h; rintro e w1 ⟨rfl, rfl⟩)))
  all_goals go_ret
  all_goals exact ⟨rfl, hall⟩

set_option maxHeartbeats 1000000 in
set_option maxRecDepth 100000 in
theorem twice_full (B : List Int) (hB : B.length = 51) (hw : WF B) (n : Nat) (hn1 : 1 ≤ n) (hn2 : n ≤ 16) (v0 : Int) (hv : (ints B)[n*3]? = some (.int .i64 v0)) (L : List Int) (A : Option Addr) (c : Nat) (w : World) (hL : L.length ≤ 200) (h : Holds w A (L.map (Value.int .i64)))
    (n0 n1 n2 n3 s k : Int) (hp1 : putF B (n : Int) L = (B, false)) (hp2 : putF B (n : Int) L = (B, false)) (hn : noteF B (n : Int) = (n0, n1, n2, n3)) (hf : fold L = (s, k)) (hfull : 1073741824 ≤ v0) :
    Calls Try.prog 6 #[.agg (ints B), .int .i64 (n : Int), .slice A L.length c] w fun e w' => e = .returned (.bool true) ∧ Below w.heap.size w w' := by
  have hall := Below.refl w.heap.size w
  have hg25 := g25
  have hg28 := g28
  have e28 := eqN
  have heq : ∀ w, (Op.equalIn 10000 25 (.agg (ints B)) (.agg (ints B))).run Try.prog w = .ok true w := fun w => by rw [eqB B B hB hB hw hw]; simp
  have HC := Lib.hid hB
  have HCW := Lib.hid hw
  have HB := Lib.hid hB
  have HW := Lib.hid hw
  have HP1 := Lib.hid hp1
  have HP2 := Lib.hid hp2
  have HN := Lib.hid hn
  have HF := Lib.hid hf
  clear hB hw hp1 hp2 hn hf
  go_enter Try.func6, Try.ntmps6
  go_wp2_with (first
    | ((with_reducible refine op_unguard _ _ ?_ ?_); rfl)
    | ((with_reducible refine op_box 25 (.tmp 0) (ints B) ?_ ?_); rfl; intro w1 b3 hge hb k3; replace hall := hall.trans (hb.mono hall.size); (try replace k8 := k8.ups hb); (try replace k10 := k10.ups hb); (try replace k12 := k12.ups hb); (try replace h := h.up hb); clear hb hge)
    | ((with_reducible refine op_build0 28 _ build28 ?_))
    | ((with_reducible refine op_new 25 8 (.tmp 26) (ints B) zB info25z ?_ ?_ ?_ ?_ ?_ ?_); exact info25b _ HC.out; (rw [ints_size, HC.out]; exact zB_size); exact ints_one _; (intro p; rfl); (intro p; rfl); intro w1 b8 hge hb k8; replace hall := hall.trans (hb.mono hall.size); (try replace k3 := k3.ups hb); (try replace k10 := k10.ups hb); (try replace k12 := k12.ups hb); (try replace h := h.up hb); clear hb hge)
    | ((with_reducible refine op_new 25 10 (.tmp 33) (ints B) zB info25z ?_ ?_ ?_ ?_ ?_ ?_); exact info25b _ HC.out; (rw [ints_size, HC.out]; exact zB_size); exact ints_one _; (intro p; rfl); (intro p; rfl); intro w1 b10 hge hb k10; replace hall := hall.trans (hb.mono hall.size); (try replace k3 := k3.ups hb); (try replace k8 := k8.ups hb); (try replace k12 := k12.ups hb); (try replace h := h.up hb); clear hb hge)
    | ((with_reducible refine op_new 28 12 (.tmp 37) #[.int .i64 n0, .int .i64 n1, .int .i64 n2, .int .i64 n3] zN info28z ?_ ?_ ?_ ?_ ?_ ?_); exact info28s; rfl; (simp [Value.oneCell']); (intro p; rfl); (intro p; rfl); intro w1 b12 hge hb k12; replace hall := hall.trans (hb.mono hall.size); (try replace k3 := k3.ups hb); (try replace k8 := k8.ups hb); (try replace k10 := k10.ups hb); (try replace h := h.up hb); clear hb hge; have m0 := k12.cell 0; have m1 := k12.cell 1; have m2 := k12.cell 2; have m3 := k12.cell 3; have c0 := (k3.cell (n*3)).trans hv)
    | ((with_reducible refine op_load 25 (.tmp 3) b3 25 (ints B) (.array 17 23) ?_ ?_ ?_ ?_ ?_ ?_); rfl; exact k3; exact Try.underlying25; rfl; exact info25b _ HB.out)
    | ((with_reducible refine op_load 25 (.tmp 8) b8 25 (ints B) (.array 17 23) ?_ ?_ ?_ ?_ ?_ ?_); rfl; exact k8; exact Try.underlying25; rfl; exact info25b _ HC.out)
    | ((with_reducible refine op_load 25 (.tmp 10) b10 25 (ints B) (.array 17 23) ?_ ?_ ?_ ?_ ?_ ?_); rfl; exact k10; exact Try.underlying25; rfl; exact info25b _ HC.out)
    | (go_at_call 8; refine (small_any _).mono ?_; rintro e w1 ⟨rfl, hb⟩; replace hall := hall.trans (hb.mono hall.size); (try replace k3 := k3.ups hb); (try replace k8 := k8.ups hb); (try replace k10 := k10.ups hb); (try replace k12 := k12.ups hb); (try replace h := h.up hb); clear hb)
    | (go_at_call 11; ((with_reducible refine (put_at B n L B false A _ c _ ?_ ?_ ?_ ?_ ?_ ?_).mono ?_); exact HB.out; exact HW.out; exact HP1.out; rfl; omega; exact h; rintro e w1 ⟨rfl, hb⟩; replace hall := hall.trans (hb.mono hall.size); (try replace k3 := k3.ups hb); (try replace k8 := k8.ups hb); (try replace k10 := k10.ups hb); (try replace k12 := k12.ups hb); (try replace h := h.up hb); clear hb))
    | (go_at_call 13; ((with_reducible refine (note_at B n n0 n1 n2 n3 _ ?_ ?_).mono ?_); exact HC.out; exact HN.out; rintro e w1 ⟨rfl, hb⟩; replace hall := hall.trans (hb.mono hall.size); (try replace k3 := k3.ups hb); (try replace k8 := k8.ups hb); (try replace k10 := k10.ups hb); (try replace k12 := k12.ups hb); (try replace h := h.up hb); clear hb))
    | (go_at_call 9; ((with_reducible refine (fold_at L A _ c s k _ ?_ ?_ ?_ ?_).mono ?_); exact HF.out; rfl; omega; exact h; rintro e w1 ⟨rfl, rfl⟩)))
  all_goals go_ret
  all_goals exact ⟨rfl, hall⟩

set_option maxHeartbeats 1000000 in
set_option maxRecDepth 100000 in
theorem twice_same (B : List Int) (hB : B.length = 51) (hw : WF B) (n : Nat) (hn1 : 1 ≤ n) (hn2 : n ≤ 16) (v0 : Int) (hv : (ints B)[n*3]? = some (.int .i64 v0)) (L : List Int) (A : Option Addr) (c : Nat) (w : World) (hL : L.length ≤ 200) (h : Holds w A (L.map (Value.int .i64)))
    (n0 n1 n2 n3 : Int) (hp1 : putF B (n : Int) L = (B, false)) (hp2 : putF B (n : Int) L = (B, false)) (hn : noteF B (n : Int) = (n0, n1, n2, n3)) (hf : fold L = (n2, n3)) (hfull : v0 < 1073741824) :
    Calls Try.prog 6 #[.agg (ints B), .int .i64 (n : Int), .slice A L.length c] w fun e w' => e = .returned (.bool true) ∧ Below w.heap.size w w' := by
  have hall := Below.refl w.heap.size w
  have hg25 := g25
  have hg28 := g28
  have e28 := eqN
  have heq : ∀ w, (Op.equalIn 10000 25 (.agg (ints B)) (.agg (ints B))).run Try.prog w = .ok true w := fun w => by rw [eqB B B hB hB hw hw]; simp
  have HC := Lib.hid hB
  have HCW := Lib.hid hw
  have HB := Lib.hid hB
  have HW := Lib.hid hw
  have HP1 := Lib.hid hp1
  have HP2 := Lib.hid hp2
  have HN := Lib.hid hn
  have HF := Lib.hid hf
  clear hB hw hp1 hp2 hn hf
  go_enter Try.func6, Try.ntmps6
  go_wp2_with (first
    | ((with_reducible refine op_unguard _ _ ?_ ?_); rfl)
    | ((with_reducible refine op_box 25 (.tmp 0) (ints B) ?_ ?_); rfl; intro w1 b3 hge hb k3; replace hall := hall.trans (hb.mono hall.size); (try replace k8 := k8.ups hb); (try replace k10 := k10.ups hb); (try replace k12 := k12.ups hb); (try replace h := h.up hb); clear hb hge)
    | ((with_reducible refine op_build0 28 _ build28 ?_))
    | ((with_reducible refine op_new 25 8 (.tmp 26) (ints B) zB info25z ?_ ?_ ?_ ?_ ?_ ?_); exact info25b _ HC.out; (rw [ints_size, HC.out]; exact zB_size); exact ints_one _; (intro p; rfl); (intro p; rfl); intro w1 b8 hge hb k8; replace hall := hall.trans (hb.mono hall.size); (try replace k3 := k3.ups hb); (try replace k10 := k10.ups hb); (try replace k12 := k12.ups hb); (try replace h := h.up hb); clear hb hge)
    | ((with_reducible refine op_new 25 10 (.tmp 33) (ints B) zB info25z ?_ ?_ ?_ ?_ ?_ ?_); exact info25b _ HC.out; (rw [ints_size, HC.out]; exact zB_size); exact ints_one _; (intro p; rfl); (intro p; rfl); intro w1 b10 hge hb k10; replace hall := hall.trans (hb.mono hall.size); (try replace k3 := k3.ups hb); (try replace k8 := k8.ups hb); (try replace k12 := k12.ups hb); (try replace h := h.up hb); clear hb hge)
    | ((with_reducible refine op_new 28 12 (.tmp 37) #[.int .i64 n0, .int .i64 n1, .int .i64 n2, .int .i64 n3] zN info28z ?_ ?_ ?_ ?_ ?_ ?_); exact info28s; rfl; (simp [Value.oneCell']); (intro p; rfl); (intro p; rfl); intro w1 b12 hge hb k12; replace hall := hall.trans (hb.mono hall.size); (try replace k3 := k3.ups hb); (try replace k8 := k8.ups hb); (try replace k10 := k10.ups hb); (try replace h := h.up hb); clear hb hge; have m0 := k12.cell 0; have m1 := k12.cell 1; have m2 := k12.cell 2; have m3 := k12.cell 3; have c0 := (k3.cell (n*3)).trans hv)
    | ((with_reducible refine op_load 25 (.tmp 3) b3 25 (ints B) (.array 17 23) ?_ ?_ ?_ ?_ ?_ ?_); rfl; exact k3; exact Try.underlying25; rfl; exact info25b _ HB.out)
    | ((with_reducible refine op_load 25 (.tmp 8) b8 25 (ints B) (.array 17 23) ?_ ?_ ?_ ?_ ?_ ?_); rfl; exact k8; exact Try.underlying25; rfl; exact info25b _ HC.out)
    | ((with_reducible refine op_load 25 (.tmp 10) b10 25 (ints B) (.array 17 23) ?_ ?_ ?_ ?_ ?_ ?_); rfl; exact k10; exact Try.underlying25; rfl; exact info25b _ HC.out)
    | (go_at_call 8; refine (small_any _).mono ?_; rintro e w1 ⟨rfl, hb⟩; replace hall := hall.trans (hb.mono hall.size); (try replace k3 := k3.ups hb); (try replace k8 := k8.ups hb); (try replace k10 := k10.ups hb); (try replace k12 := k12.ups hb); (try replace h := h.up hb); clear hb)
    | (go_at_call 11; ((with_reducible refine (put_at B n L B false A _ c _ ?_ ?_ ?_ ?_ ?_ ?_).mono ?_); exact HB.out; exact HW.out; exact HP1.out; rfl; omega; exact h; rintro e w1 ⟨rfl, hb⟩; replace hall := hall.trans (hb.mono hall.size); (try replace k3 := k3.ups hb); (try replace k8 := k8.ups hb); (try replace k10 := k10.ups hb); (try replace k12 := k12.ups hb); (try replace h := h.up hb); clear hb))
    | (go_at_call 13; ((with_reducible refine (note_at B n n0 n1 n2 n3 _ ?_ ?_).mono ?_); exact HC.out; exact HN.out; rintro e w1 ⟨rfl, hb⟩; replace hall := hall.trans (hb.mono hall.size); (try replace k3 := k3.ups hb); (try replace k8 := k8.ups hb); (try replace k10 := k10.ups hb); (try replace k12 := k12.ups hb); (try replace h := h.up hb); clear hb))
    | (go_at_call 9; ((with_reducible refine (fold_at L A _ c n2 n3 _ ?_ ?_ ?_ ?_).mono ?_); exact HF.out; rfl; omega; exact h; rintro e w1 ⟨rfl, rfl⟩)))
  all_goals go_ret
  all_goals exact ⟨rfl, hall⟩

set_option maxHeartbeats 1000000 in
set_option maxRecDepth 100000 in
theorem twice_yes (B : List Int) (hB : B.length = 51) (hw : WF B) (n : Nat) (hn1 : 1 ≤ n) (hn2 : n ≤ 16) (v0 : Int) (hv : (ints B)[n*3]? = some (.int .i64 v0)) (L : List Int) (A : Option Addr) (c : Nat) (w : World) (hL : L.length ≤ 200) (h : Holds w A (L.map (Value.int .i64)))
    (C : List Int) (hC : C.length = 51) (hCw : WF C) (n0 n1 n2 n3 : Int) (hp1 : putF B (n : Int) L = (C, true)) (hp2 : putF C (n : Int) L = (C, false)) (hn : noteF C (n : Int) = (n0, n1, n2, n3)) (hf : fold L = (n2, n3)) (hfull : v0 < 1073741824) :
    Calls Try.prog 6 #[.agg (ints B), .int .i64 (n : Int), .slice A L.length c] w fun e w' => e = .returned (.bool true) ∧ Below w.heap.size w w' := by
  have hall := Below.refl w.heap.size w
  have hg25 := g25
  have hg28 := g28
  have e28 := eqN
  have heq : ∀ w, (Op.equalIn 10000 25 (.agg (ints C)) (.agg (ints C))).run Try.prog w = .ok true w := fun w => by rw [eqB C C hC hC hCw hCw]; simp
  have HC := Lib.hid hC
  have HCW := Lib.hid hCw
  clear hC hCw
  have HB := Lib.hid hB
  have HW := Lib.hid hw
  have HP1 := Lib.hid hp1
  have HP2 := Lib.hid hp2
  have HN := Lib.hid hn
  have HF := Lib.hid hf
  clear hB hw hp1 hp2 hn hf
  go_enter Try.func6, Try.ntmps6
  go_wp2_with (first
    | ((with_reducible refine op_unguard _ _ ?_ ?_); rfl)
    | ((with_reducible refine op_box 25 (.tmp 0) (ints B) ?_ ?_); rfl; intro w1 b3 hge hb k3; replace hall := hall.trans (hb.mono hall.size); (try replace k8 := k8.ups hb); (try replace k10 := k10.ups hb); (try replace k12 := k12.ups hb); (try replace h := h.up hb); clear hb hge)
    | ((with_reducible refine op_build0 28 _ build28 ?_))
    | ((with_reducible refine op_new 25 8 (.tmp 26) (ints C) zB info25z ?_ ?_ ?_ ?_ ?_ ?_); exact info25b _ HC.out; (rw [ints_size, HC.out]; exact zB_size); exact ints_one _; (intro p; rfl); (intro p; rfl); intro w1 b8 hge hb k8; replace hall := hall.trans (hb.mono hall.size); (try replace k3 := k3.ups hb); (try replace k10 := k10.ups hb); (try replace k12 := k12.ups hb); (try replace h := h.up hb); clear hb hge)
    | ((with_reducible refine op_new 25 10 (.tmp 33) (ints C) zB info25z ?_ ?_ ?_ ?_ ?_ ?_); exact info25b _ HC.out; (rw [ints_size, HC.out]; exact zB_size); exact ints_one _; (intro p; rfl); (intro p; rfl); intro w1 b10 hge hb k10; replace hall := hall.trans (hb.mono hall.size); (try replace k3 := k3.ups hb); (try replace k8 := k8.ups hb); (try replace k12 := k12.ups hb); (try replace h := h.up hb); clear hb hge)
    | ((with_reducible refine op_new 28 12 (.tmp 37) #[.int .i64 n0, .int .i64 n1, .int .i64 n2, .int .i64 n3] zN info28z ?_ ?_ ?_ ?_ ?_ ?_); exact info28s; rfl; (simp [Value.oneCell']); (intro p; rfl); (intro p; rfl); intro w1 b12 hge hb k12; replace hall := hall.trans (hb.mono hall.size); (try replace k3 := k3.ups hb); (try replace k8 := k8.ups hb); (try replace k10 := k10.ups hb); (try replace h := h.up hb); clear hb hge; have m0 := k12.cell 0; have m1 := k12.cell 1; have m2 := k12.cell 2; have m3 := k12.cell 3; have c0 := (k3.cell (n*3)).trans hv)
    | ((with_reducible refine op_load 25 (.tmp 3) b3 25 (ints B) (.array 17 23) ?_ ?_ ?_ ?_ ?_ ?_); rfl; exact k3; exact Try.underlying25; rfl; exact info25b _ HB.out)
    | ((with_reducible refine op_load 25 (.tmp 8) b8 25 (ints C) (.array 17 23) ?_ ?_ ?_ ?_ ?_ ?_); rfl; exact k8; exact Try.underlying25; rfl; exact info25b _ HC.out)
    | ((with_reducible refine op_load 25 (.tmp 10) b10 25 (ints C) (.array 17 23) ?_ ?_ ?_ ?_ ?_ ?_); rfl; exact k10; exact Try.underlying25; rfl; exact info25b _ HC.out)
    | (go_at_call 8; refine (small_any _).mono ?_; rintro e w1 ⟨rfl, hb⟩; replace hall := hall.trans (hb.mono hall.size); (try replace k3 := k3.ups hb); (try replace k8 := k8.ups hb); (try replace k10 := k10.ups hb); (try replace k12 := k12.ups hb); (try replace h := h.up hb); clear hb)
    | (go_at_call 11; ((with_reducible refine (put_at B n L C true A _ c _ ?_ ?_ ?_ ?_ ?_ ?_).mono ?_); exact HB.out; exact HW.out; exact HP1.out; rfl; omega; exact h; rintro e w1 ⟨rfl, hb⟩; replace hall := hall.trans (hb.mono hall.size); (try replace k3 := k3.ups hb); (try replace k8 := k8.ups hb); (try replace k10 := k10.ups hb); (try replace k12 := k12.ups hb); (try replace h := h.up hb); clear hb))
    | (go_at_call 11; ((with_reducible refine (put_at C n L C false A _ c _ ?_ ?_ ?_ ?_ ?_ ?_).mono ?_); exact HC.out; exact HCW.out; exact HP2.out; rfl; omega; exact h; rintro e w1 ⟨rfl, hb⟩; replace hall := hall.trans (hb.mono hall.size); (try replace k3 := k3.ups hb); (try replace k8 := k8.ups hb); (try replace k10 := k10.ups hb); (try replace k12 := k12.ups hb); (try replace h := h.up hb); clear hb))
    | (go_at_call 13; ((with_reducible refine (note_at C n n0 n1 n2 n3 _ ?_ ?_).mono ?_); exact HC.out; exact HN.out; rintro e w1 ⟨rfl, hb⟩; replace hall := hall.trans (hb.mono hall.size); (try replace k3 := k3.ups hb); (try replace k8 := k8.ups hb); (try replace k10 := k10.ups hb); (try replace k12 := k12.ups hb); (try replace h := h.up hb); clear hb))
    | (go_at_call 9; ((with_reducible refine (fold_at L A _ c n2 n3 _ ?_ ?_ ?_ ?_).mono ?_); exact HF.out; rfl; omega; exact h; rintro e w1 ⟨rfl, rfl⟩)))
  all_goals go_ret
  all_goals exact ⟨rfl, hall⟩
end Go.Proofs.Ytlkgofannoddfaa
