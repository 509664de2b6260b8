import Derived.Test.YtlkgofannoddfaaF
namespace Go.Proofs.Ytlkgofannoddfaa
open Go.RowKit
set_option linter.unusedVariables false
set_option linter.unusedSimpArgs false

theorem rfold_any (L : List Int) (A : Option Addr) (c : Nat) (w : World) (hL : L.length ≤ 9223372036854775807) (h : Holds w A (L.map (Value.int .i64))) :
    Calls Try.prog 10 #[.slice A L.length c] w fun e w' => e = .returned (.tuple #[.int .i64 (fold L).1, .int .i64 (fold L).2]) ∧ w = w' := by
  go_enter Try.func10, Try.ntmps10
  go_wp2
  go_loop [4, 5, 6] (FoldRel L) (fun _ _ i => L.length - (intOf i).toNat)
  case atStart => exact ⟨0, Nat.zero_le _, rfl, by simp [fold], by simp [fold]⟩
  case round =>
    obtain ⟨k, hk, rfl, rfl, rfl⟩ := hrel
    by_cases hlt : k < L.length
    · obtain ⟨b, o, rfl, hc⟩ := h k (by simpa using hlt)
      rw [List.getElem?_map, List.getElem?_eq_getElem hlt] at hc
      simp only [Option.map_some] at hc
      have hb := fold_bd (L.take k)
      clear h
      generalize hp : fold (L.take k) = p at *
      generalize hx : L[k] = x at *
      have H1 : Hid (fold (L.take (k + 1)) = stp p x) := by rw [take_succ_of hlt, fold_snoc, hp, hx]; exact rfl
      clear hp hx
      by_cases hx1 : 1 ≤ x
      all_goals by_cases hx3 : x ≤ 3
      all_goals go_wp2
      all_goals refine ⟨⟨k + 1, by omega, by go_num, ?_, ?_⟩, by simp [intOf]; omega⟩ <;> rw [H1.out]
      all_goals first
        | (rw [stp_no (by omega)])
        | (rw [stp_yes (by omega) (by omega)])
    · obtain rfl : k = L.length := by omega
      go_wp2
      go_ret2
      exact ⟨by simp, rfl⟩

set_option maxHeartbeats 400000 in
theorem rput_bad (B : List Int) (hB : B.length = 51) (u : Int) (v : Value) (w : World) (hu : u < 1 ∨ 16 < u) :
    Calls Try.prog 12 #[.agg (ints B), .int .i64 u, v] w fun e w' => e = .returned (.tuple #[.agg (ints B), .bool false]) ∧ Below w.heap.size w w' := by
  have HB := Lib.hid hB
  have hall := Below.refl w.heap.size w
  clear hB
  by_cases hu1 : u < 1
  · clear hu
    go_enter Try.func12, Try.ntmps12
    go_wp2_with (first
      | ((with_reducible refine op_box 25 (.tmp 0) (ints B) ?_ ?_); rfl; intro w1 b3 hge hb k3; replace hall := hall.trans (hb.mono hall.size); (try replace h := h.up hb); have g3 : w.heap.size ≤ b3 := (by omega); clear hb hge)
      | ((with_reducible refine op_alloc 25 zB ?_ ?_); exact info25z; intro w2 b6 hge hb k6; have hlt3 := k3.lt; have g6 : w.heap.size ≤ b6 := (by have := hall.size; omega); have n36 : b3 ≠ b6 := (by omega); replace k3 := k3.ups hb; replace hall := hall.trans (hb.mono hall.size); (try replace h := h.up hb); clear hb hge hlt3)
      | ((with_reducible refine op_load 25 (.tmp 3) b3 25 (ints B) (.array 17 23) ?_ ?_ ?_ ?_ ?_ ?_); rfl; exact k3; exact Try.underlying25; rfl; exact info25b _ HB.out)
      | ((with_reducible refine op_store 25 (.tmp 6) (.tmp 17) b6 25 (ints B) zB ?_ ?_ ?_ ?_ ?_ ?_ ?_); rfl; rfl; exact k6; exact info25b _ HB.out; (rw [ints_size, HB.out]; exact zB_size); exact ints_one _; intro w3 hb ho k7; replace hall := hall.trans (hb _ (by omega)); clear hb ho))
    refine bodyPost_ret (res_row_tmp rfl _ _ b6 25 (ints B) _ rfl k7 Try.underlying25 rfl (info25b _ HB.out)) rfl ⟨rfl, hall⟩
  · have hu2 : 16 < u := by omega
    clear hu
    go_enter Try.func12, Try.ntmps12
    go_wp2_with (first
      | ((with_reducible refine op_box 25 (.tmp 0) (ints B) ?_ ?_); rfl; intro w1 b3 hge hb k3; replace hall := hall.trans (hb.mono hall.size); (try replace h := h.up hb); have g3 : w.heap.size ≤ b3 := (by omega); clear hb hge)
      | ((with_reducible refine op_alloc 25 zB ?_ ?_); exact info25z; intro w2 b6 hge hb k6; have hlt3 := k3.lt; have g6 : w.heap.size ≤ b6 := (by have := hall.size; omega); have n36 : b3 ≠ b6 := (by omega); replace k3 := k3.ups hb; replace hall := hall.trans (hb.mono hall.size); (try replace h := h.up hb); clear hb hge hlt3)
      | ((with_reducible refine op_load 25 (.tmp 3) b3 25 (ints B) (.array 17 23) ?_ ?_ ?_ ?_ ?_ ?_); rfl; exact k3; exact Try.underlying25; rfl; exact info25b _ HB.out)
      | ((with_reducible refine op_store 25 (.tmp 6) (.tmp 17) b6 25 (ints B) zB ?_ ?_ ?_ ?_ ?_ ?_ ?_); rfl; rfl; exact k6; exact info25b _ HB.out; (rw [ints_size, HB.out]; exact zB_size); exact ints_one _; intro w3 hb ho k7; replace hall := hall.trans (hb _ (by omega)); clear hb ho))
    refine bodyPost_ret (res_row_tmp rfl _ _ b6 25 (ints B) _ rfl k7 Try.underlying25 rfl (info25b _ HB.out)) rfl ⟨rfl, hall⟩

set_option maxHeartbeats 400000 in
theorem rput_same (B : List Int) (hB : B.length = 51) (n : Nat) (L : List Int) (A : Option Addr) (c : Nat) (w : World) (hn : 1 ≤ n) (hn2 : n ≤ 16) (hL : L.length ≤ 9223372036854775807) (h : Holds w A (L.map (Value.int .i64))) (v0 s k : Int)
    (hv : (ints B)[n*3]? = some (.int .i64 v0)) (hs : (ints B)[n*3+1]? = some (.int .i64 s)) (hk : (ints B)[n*3+2]? = some (.int .i64 k)) (hq : s = (fold L).1) (hq' : k = (fold L).2) :
    Calls Try.prog 12 #[.agg (ints B), .int .i64 (n : Int), .slice A L.length c] w fun e w' => e = .returned (.tuple #[.agg (ints B), .bool false]) ∧ Below w.heap.size w w' := by
  have HB := Lib.hid hB
  have hall := Below.refl w.heap.size w
  clear hB
  subst hq hq'
  go_enter Try.func12, Try.ntmps12
  go_wp2_with (first
    | ((with_reducible refine op_box 25 (.tmp 0) (ints B) ?_ ?_); rfl; intro w1 b3 hge hb k3; replace hall := hall.trans (hb.mono hall.size); (try replace h := h.up hb); have g3 : w.heap.size ≤ b3 := (by omega); clear hb hge)
    | ((with_reducible refine op_alloc 25 zB ?_ ?_); exact info25z; intro w2 b6 hge hb k6; have hlt3 := k3.lt; have g6 : w.heap.size ≤ b6 := (by have := hall.size; omega); have n36 : b3 ≠ b6 := (by omega); replace k3 := k3.ups hb; replace hall := hall.trans (hb.mono hall.size); (try replace h := h.up hb); clear hb hge hlt3; have c0 := (k3.cell (n*3)).trans hv; have c1 := (k3.cell (n*3+1)).trans hs; have c2 := (k3.cell (n*3+2)).trans hk)
    | ((with_reducible refine op_new 23 10 (.tmp 25) #[.int .i64 v0, .int .i64 (fold L).1, .int .i64 (fold L).2] zE info23z ?_ ?_ ?_ ?_ ?_ ?_); exact info23s; rfl; (simp [Value.oneCell']); (intro p; rfl); (intro p; rfl); intro w2 b10 hge hb k10; replace hall := hall.trans (hb.mono hall.size); replace k3 := k3.ups hb; replace k6 := k6.ups hb; clear hb hge c0 c1 c2; have d0 := k10.cell 0; have d1 := k10.cell 1; have d2 := k10.cell 2)
    | ((with_reducible refine op_load 25 (.tmp 3) b3 25 (ints B) (.array 17 23) ?_ ?_ ?_ ?_ ?_ ?_); rfl; exact k3; exact Try.underlying25; rfl; exact info25b _ HB.out)
    | ((with_reducible refine op_store 25 (.tmp 6) (.tmp 41) b6 25 (ints B) zB ?_ ?_ ?_ ?_ ?_ ?_ ?_); rfl; rfl; exact k6; exact info25b _ HB.out; (rw [ints_size, HB.out]; exact zB_size); exact ints_one _; intro w3 hb ho k7; replace hall := hall.trans (hb _ (by omega)); clear hb ho)
    | (go_at_call 10; refine (rfold_any L A c _ hL h).mono ?_; rintro e w' ⟨rfl, rfl⟩))
  refine bodyPost_ret (res_row_tmp rfl _ _ b6 25 (ints B) _ rfl k7 Try.underlying25 rfl (info25b _ HB.out)) rfl ⟨rfl, hall⟩

set_option maxHeartbeats 400000 in
theorem rput_full (B : List Int) (hB : B.length = 51) (n : Nat) (L : List Int) (A : Option Addr) (c : Nat) (w : World) (hn : 1 ≤ n) (hn2 : n ≤ 16) (hL : L.length ≤ 9223372036854775807) (h : Holds w A (L.map (Value.int .i64))) (v0 s k : Int)
    (hv : (ints B)[n*3]? = some (.int .i64 v0)) (hs : (ints B)[n*3+1]? = some (.int .i64 s)) (hk : (ints B)[n*3+2]? = some (.int .i64 k)) (hq : ¬ (s = (fold L).1 ∧ k = (fold L).2)) (hv0 : 1073741824 ≤ v0) :
    Calls Try.prog 12 #[.agg (ints B), .int .i64 (n : Int), .slice A L.length c] w fun e w' => e = .returned (.tuple #[.agg (ints B), .bool false]) ∧ Below w.heap.size w w' := by
  have HB := Lib.hid hB
  have hall := Below.refl w.heap.size w
  clear hB
  by_cases hq1 : s = (fold L).1
  · subst hq1
    have hq2 : (k == (fold L).2) = false := by simp; intro e; exact hq ⟨rfl, e⟩
    clear hq
    go_enter Try.func12, Try.ntmps12
    go_wp2_with (first
      | ((with_reducible refine op_box 25 (.tmp 0) (ints B) ?_ ?_); rfl; intro w1 b3 hge hb k3; replace hall := hall.trans (hb.mono hall.size); (try replace h := h.up hb); have g3 : w.heap.size ≤ b3 := (by omega); clear hb hge)
      | ((with_reducible refine op_alloc 25 zB ?_ ?_); exact info25z; intro w2 b6 hge hb k6; have hlt3 := k3.lt; have g6 : w.heap.size ≤ b6 := (by have := hall.size; omega); have n36 : b3 ≠ b6 := (by omega); replace k3 := k3.ups hb; replace hall := hall.trans (hb.mono hall.size); (try replace h := h.up hb); clear hb hge hlt3; have c0 := (k3.cell (n*3)).trans hv; have c1 := (k3.cell (n*3+1)).trans hs; have c2 := (k3.cell (n*3+2)).trans hk)
      | ((with_reducible refine op_new 23 10 (.tmp 25) #[.int .i64 v0, .int .i64 (fold L).1, .int .i64 k] zE info23z ?_ ?_ ?_ ?_ ?_ ?_); exact info23s; rfl; (simp [Value.oneCell']); (intro p; rfl); (intro p; rfl); intro w2 b10 hge hb k10; replace hall := hall.trans (hb.mono hall.size); replace k3 := k3.ups hb; replace k6 := k6.ups hb; clear hb hge c0 c1 c2; have d0 := k10.cell 0; have d1 := k10.cell 1; have d2 := k10.cell 2)
      | ((with_reducible refine op_load 25 (.tmp 3) b3 25 (ints B) (.array 17 23) ?_ ?_ ?_ ?_ ?_ ?_); rfl; exact k3; exact Try.underlying25; rfl; exact info25b _ HB.out)
      | ((with_reducible refine op_store 25 (.tmp 6) (.tmp 41) b6 25 (ints B) zB ?_ ?_ ?_ ?_ ?_ ?_ ?_); rfl; rfl; exact k6; exact info25b _ HB.out; (rw [ints_size, HB.out]; exact zB_size); exact ints_one _; intro w3 hb ho k7; replace hall := hall.trans (hb _ (by omega)); clear hb ho)
      | (go_at_call 10; refine (rfold_any L A c _ hL h).mono ?_; rintro e w' ⟨rfl, rfl⟩))
    refine bodyPost_ret (res_row_tmp rfl _ _ b6 25 (ints B) _ rfl k7 Try.underlying25 rfl (info25b _ HB.out)) rfl ⟨rfl, hall⟩
  · have hq2 : (s == (fold L).1) = false := by simpa using hq1
    clear hq hq1
    go_enter Try.func12, Try.ntmps12
    go_wp2_with (first
      | ((with_reducible refine op_box 25 (.tmp 0) (ints B) ?_ ?_); rfl; intro w1 b3 hge hb k3; replace hall := hall.trans (hb.mono hall.size); (try replace h := h.up hb); have g3 : w.heap.size ≤ b3 := (by omega); clear hb hge)
      | ((with_reducible refine op_alloc 25 zB ?_ ?_); exact info25z; intro w2 b6 hge hb k6; have hlt3 := k3.lt; have g6 : w.heap.size ≤ b6 := (by have := hall.size; omega); have n36 : b3 ≠ b6 := (by omega); replace k3 := k3.ups hb; replace hall := hall.trans (hb.mono hall.size); (try replace h := h.up hb); clear hb hge hlt3; have c0 := (k3.cell (n*3)).trans hv; have c1 := (k3.cell (n*3+1)).trans hs; have c2 := (k3.cell (n*3+2)).trans hk)
      | ((with_reducible refine op_new 23 10 (.tmp 25) #[.int .i64 v0, .int .i64 s, .int .i64 k] zE info23z ?_ ?_ ?_ ?_ ?_ ?_); exact info23s; rfl; (simp [Value.oneCell']); (intro p; rfl); (intro p; rfl); intro w2 b10 hge hb k10; replace hall := hall.trans (hb.mono hall.size); replace k3 := k3.ups hb; replace k6 := k6.ups hb; clear hb hge c0 c1 c2; have d0 := k10.cell 0; have d1 := k10.cell 1; have d2 := k10.cell 2)
      | ((with_reducible refine op_load 25 (.tmp 3) b3 25 (ints B) (.array 17 23) ?_ ?_ ?_ ?_ ?_ ?_); rfl; exact k3; exact Try.underlying25; rfl; exact info25b _ HB.out)
      | ((with_reducible refine op_store 25 (.tmp 6) (.tmp 41) b6 25 (ints B) zB ?_ ?_ ?_ ?_ ?_ ?_ ?_); rfl; rfl; exact k6; exact info25b _ HB.out; (rw [ints_size, HB.out]; exact zB_size); exact ints_one _; intro w3 hb ho k7; replace hall := hall.trans (hb _ (by omega)); clear hb ho)
      | (go_at_call 10; refine (rfold_any L A c _ hL h).mono ?_; rintro e w' ⟨rfl, rfl⟩))
    refine bodyPost_ret (res_row_tmp rfl _ _ b6 25 (ints B) _ rfl k7 Try.underlying25 rfl (info25b _ HB.out)) rfl ⟨rfl, hall⟩

set_option maxHeartbeats 400000 in
theorem rput_yes (B : List Int) (hB : B.length = 51) (n : Nat) (L : List Int) (A : Option Addr) (c : Nat) (w : World) (hn : 1 ≤ n) (hn2 : n ≤ 16) (hL : L.length ≤ 9223372036854775807) (h : Holds w A (L.map (Value.int .i64))) (v0 s k : Int)
    (hv : (ints B)[n*3]? = some (.int .i64 v0)) (hs : (ints B)[n*3+1]? = some (.int .i64 s)) (hk : (ints B)[n*3+2]? = some (.int .i64 k)) (hq : ¬ (s = (fold L).1 ∧ k = (fold L).2)) (hv0 : v0 < 1073741824) (hv1 : -9223372036854775808 ≤ v0) (N : List Int) (hN : N = (((B.set (n*3) (v0+1)).set (n*3+1) (fold L).1).set (n*3+2) (fold L).2)) :
    Calls Try.prog 12 #[.agg (ints B), .int .i64 (n : Int), .slice A L.length c] w fun e w' => e = .returned (.tuple #[.agg (ints N), .bool true]) ∧ Below w.heap.size w w' := by
  have HN51 := Lib.hid (show N.length = 51 by rw [hN]; simpa using hB)
  have hset := (ints_set3 B n (v0+1) (fold L).1 (fold L).2).trans (congrArg ints hN.symm)
  have HS := Lib.hid hset
  clear hN hset
  have HB := Lib.hid hB
  have hall := Below.refl w.heap.size w
  clear hB
  by_cases hq1 : s = (fold L).1
  · subst hq1
    have hq2 : (k == (fold L).2) = false := by simp; intro e; exact hq ⟨rfl, e⟩
    clear hq
    go_enter Try.func12, Try.ntmps12
    go_wp2_with (first
      | ((with_reducible refine op_box 25 (.tmp 0) (ints B) ?_ ?_); rfl; intro w1 b3 hge hb k3; replace hall := hall.trans (hb.mono hall.size); (try replace h := h.up hb); have g3 : w.heap.size ≤ b3 := (by omega); clear hb hge)
      | ((with_reducible refine op_alloc 25 zB ?_ ?_); exact info25z; intro w2 b6 hge hb k6; have hlt3 := k3.lt; have g6 : w.heap.size ≤ b6 := (by have := hall.size; omega); have n36 : b3 ≠ b6 := (by omega); replace k3 := k3.ups hb; replace hall := hall.trans (hb.mono hall.size); (try replace h := h.up hb); clear hb hge hlt3; have c0 := (k3.cell (n*3)).trans hv; have c1 := (k3.cell (n*3+1)).trans hs; have c2 := (k3.cell (n*3+2)).trans hk)
      | ((with_reducible refine op_new 23 10 (.tmp 25) #[.int .i64 v0, .int .i64 (fold L).1, .int .i64 k] zE info23z ?_ ?_ ?_ ?_ ?_ ?_); exact info23s; rfl; (simp [Value.oneCell']); (intro p; rfl); (intro p; rfl); intro w2 b10 hge hb k10; replace hall := hall.trans (hb.mono hall.size); replace k3 := k3.ups hb; replace k6 := k6.ups hb; clear hb hge c0 c1 c2; have d0 := k10.cell 0; have d1 := k10.cell 1; have d2 := k10.cell 2)
      | ((with_reducible refine op_load 25 (.tmp 3) b3 25 (ints N) (.array 17 23) ?_ ?_ ?_ ?_ ?_ ?_); rfl; exact k3; exact Try.underlying25; rfl; exact info25b _ HN51.out)
      | ((with_reducible refine op_store 25 (.tmp 6) (.tmp 50) b6 25 (ints N) zB ?_ ?_ ?_ ?_ ?_ ?_ ?_); rfl; rfl; exact k6; exact info25b _ HN51.out; (rw [ints_size, HN51.out]; exact zB_size); exact ints_one _; intro w3 hb ho k7; replace hall := hall.trans (hb _ (by omega)); clear hb ho)
      | ((with_reducible refine op_store_mid 23 (.tmp 49) (.tmp 48) b3 (n*3) 25 #[.int .i64 (v0+1), .int .i64 (fold L).1, .int .i64 (fold L).2] (ints B) ?_ ?_ ?_ ?_ ?_ ?_ ?_); rfl; rfl; exact k3; exact info23s; (rw [ints_size, HB.out]; simp; omega); (simp [Value.oneCell']); intro w4 hb ho k30; replace k3 : Block w4 b3 25 (ints N) := (by rw [← HS.out]; exact k30); clear k30; replace k6 : Block w4 b6 25 zB := (ho b6 (by omega)).trans k6; replace hall := hall.trans (hb _ g3); clear hb ho)
      | (go_at_call 10; refine (rfold_any L A c _ hL h).mono ?_; rintro e w' ⟨rfl, rfl⟩))
    refine bodyPost_ret (res_row_tmp rfl _ _ b6 25 (ints N) _ rfl k7 Try.underlying25 rfl (info25b _ HN51.out)) rfl ⟨rfl, hall⟩
  · have hq2 : (s == (fold L).1) = false := by simpa using hq1
    clear hq hq1
    go_enter Try.func12, Try.ntmps12
    go_wp2_with (first
      | ((with_reducible refine op_box 25 (.tmp 0) (ints B) ?_ ?_); rfl; intro w1 b3 hge hb k3; replace hall := hall.trans (hb.mono hall.size); (try replace h := h.up hb); have g3 : w.heap.size ≤ b3 := (by omega); clear hb hge)
      | ((with_reducible refine op_alloc 25 zB ?_ ?_); exact info25z; intro w2 b6 hge hb k6; have hlt3 := k3.lt; have g6 : w.heap.size ≤ b6 := (by have := hall.size; omega); have n36 : b3 ≠ b6 := (by omega); replace k3 := k3.ups hb; replace hall := hall.trans (hb.mono hall.size); (try replace h := h.up hb); clear hb hge hlt3; have c0 := (k3.cell (n*3)).trans hv; have c1 := (k3.cell (n*3+1)).trans hs; have c2 := (k3.cell (n*3+2)).trans hk)
      | ((with_reducible refine op_new 23 10 (.tmp 25) #[.int .i64 v0, .int .i64 s, .int .i64 k] zE info23z ?_ ?_ ?_ ?_ ?_ ?_); exact info23s; rfl; (simp [Value.oneCell']); (intro p; rfl); (intro p; rfl); intro w2 b10 hge hb k10; replace hall := hall.trans (hb.mono hall.size); replace k3 := k3.ups hb; replace k6 := k6.ups hb; clear hb hge c0 c1 c2; have d0 := k10.cell 0; have d1 := k10.cell 1; have d2 := k10.cell 2)
      | ((with_reducible refine op_load 25 (.tmp 3) b3 25 (ints N) (.array 17 23) ?_ ?_ ?_ ?_ ?_ ?_); rfl; exact k3; exact Try.underlying25; rfl; exact info25b _ HN51.out)
      | ((with_reducible refine op_store 25 (.tmp 6) (.tmp 50) b6 25 (ints N) zB ?_ ?_ ?_ ?_ ?_ ?_ ?_); rfl; rfl; exact k6; exact info25b _ HN51.out; (rw [ints_size, HN51.out]; exact zB_size); exact ints_one _; intro w3 hb ho k7; replace hall := hall.trans (hb _ (by omega)); clear hb ho)
      | ((with_reducible refine op_store_mid 23 (.tmp 49) (.tmp 48) b3 (n*3) 25 #[.int .i64 (v0+1), .int .i64 (fold L).1, .int .i64 (fold L).2] (ints B) ?_ ?_ ?_ ?_ ?_ ?_ ?_); rfl; rfl; exact k3; exact info23s; (rw [ints_size, HB.out]; simp; omega); (simp [Value.oneCell']); intro w4 hb ho k30; replace k3 : Block w4 b3 25 (ints N) := (by rw [← HS.out]; exact k30); clear k30; replace k6 : Block w4 b6 25 zB := (ho b6 (by omega)).trans k6; replace hall := hall.trans (hb _ g3); clear hb ho)
      | (go_at_call 10; refine (rfold_any L A c _ hL h).mono ?_; rintro e w' ⟨rfl, rfl⟩))
    refine bodyPost_ret (res_row_tmp rfl _ _ b6 25 (ints N) _ rfl k7 Try.underlying25 rfl (info25b _ HN51.out)) rfl ⟨rfl, hall⟩

theorem rput_at (B : List Int) (u : Int) (L R : List Int) (ok : Bool) (A : Option Addr) (n0 c : Nat) (w : World) (hB : B.length = 51) (hw : WF B) (hp : putF B u L = (R, ok)) (hn0 : n0 = L.length) (hL : L.length ≤ 9223372036854775807) (h : Holds w A (L.map (Value.int .i64))) :
    Calls Try.prog 12 #[.agg (ints B), .int .i64 u, .slice A n0 c] w fun e w' => e = .returned (.tuple #[.agg (ints R), .bool ok]) ∧ Below w.heap.size w w' := by
  subst hn0
  obtain ⟨rfl, rfl⟩ : (putF B u L).1 = R ∧ (putF B u L).2 = ok := by rw [hp]; exact ⟨rfl, rfl⟩
  clear hp
  by_cases hu : 1 ≤ u ∧ u ≤ 16
  · obtain ⟨n, rfl⟩ : ∃ n : Nat, u = n := ⟨u.toNat, by omega⟩
    have e0 := ints_ci (B := B) (i := n*3) (by omega)
    have e1 := ints_ci (B := B) (i := n*3+1) (by omega)
    have e2 := ints_ci (B := B) (i := n*3+2) (by omega)
    have hb := wf_lo (wf_ci hw (n*3))
    by_cases hs : ci B (n*3+1) = (fold L).1 ∧ ci B (n*3+2) = (fold L).2
    · have hp : putF B n L = (B, false) := by unfold putF; rw [if_pos hu, if_pos (Or.inl (by simpa using hs))]
      rw [hp]
      exact rput_same B hB n L A c w (by omega) (by omega) hL h _ _ _ e0 e1 e2 hs.1 hs.2
    · by_cases hv : 1073741824 ≤ ci B (n*3)
      · have hp : putF B n L = (B, false) := by unfold putF; rw [if_pos hu, if_pos (Or.inr (by simpa using hv))]
        rw [hp]
        exact rput_full B hB n L A c w (by omega) (by omega) hL h _ _ _ e0 e1 e2 hs hv
      · have hp : putF B n L = (((B.set (n*3) (ci B (n*3) + 1)).set (n*3+1) (fold L).1).set (n*3+2) (fold L).2, true) := by
          unfold putF; rw [if_pos hu, if_neg]
          · simp
          · simp only [Int.toNat_natCast]
            intro hh
            rcases hh with hh | hh
            · exact hs hh
            · exact hv hh
        rw [hp]
        exact rput_yes B hB n L A c w (by omega) (by omega) hL h _ _ _ e0 e1 e2 hs (by omega) (by omega) _ rfl
  · have hp : putF B u L = (B, false) := by unfold putF; rw [if_neg hu]
    rw [hp]
    exact rput_bad B hB u _ w (by omega)
theorem rfold_at (L : List Int) (A : Option Addr) (n c : Nat) (s k : Int) (w : World) (hf : fold L = (s, k)) (hn : n = L.length) (hL : L.length ≤ 9223372036854775807) (h : Holds w A (L.map (Value.int .i64))) :
    Calls Try.prog 10 #[.slice A n c] w fun e w' => e = .returned (.tuple #[.int .i64 s, .int .i64 k]) ∧ w = w' := by
  subst hn
  have := rfold_any L A c w hL h
  rw [hf] at this
  exact this
theorem rnewer_at (u v s k u' v' s' k' : Int) (r : Bool) (w : World) (hr : newer u v u' v' = r) :
    Calls Try.prog 16 #[.agg #[.int .i64 u, .int .i64 v, .int .i64 s, .int .i64 k], .agg #[.int .i64 u', .int .i64 v', .int .i64 s', .int .i64 k']] w fun e w' => e = .returned (.bool r) ∧ Below w.heap.size w w' := by
  rw [← hr]
  unfold newer
  by_cases h1 : u = u'
  · subst h1
    by_cases h2 : v < v'
    · go_enter Try.func16, Try.ntmps16
      go_wp2
      go_ret
      exact ⟨by simp [h2], ((Below.refl _ _).alloc (Nat.le_refl _) _).alloc (by simp) _⟩
    · go_enter Try.func16, Try.ntmps16
      go_wp2
      go_ret
      exact ⟨by simp; omega, ((Below.refl _ _).alloc (Nat.le_refl _) _).alloc (by simp) _⟩
  · have h3 : (u == u') = false := by simpa using h1
    go_enter Try.func16, Try.ntmps16
    go_wp2
    go_ret
    exact ⟨by simp [h1], ((Below.refl _ _).alloc (Nat.le_refl _) _).alloc (by simp) _⟩
end Go.Proofs.Ytlkgofannoddfaa
