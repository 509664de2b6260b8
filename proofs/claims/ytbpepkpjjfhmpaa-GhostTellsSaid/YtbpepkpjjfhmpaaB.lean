import Derived.Test.YtbpepkpjjfhmpaaA
namespace Go.Proofs.Ytbpepkpjjfhmpaa
open Go.RowKit
set_option linter.unusedVariables false
set_option linter.unusedSimpArgs false

def zB : Array Value := Array.replicate 51 (.int .i64 0)
theorem info25z : (Try.prog.info? 33).map (·.zero) = some (some (.agg zB)) := by kernel_rfl
theorem info25s : (Try.prog.info? 33).map (·.size) = some 51 := by kernel_rfl
theorem zB_size : zB.size = 51 := by simp [zB]

theorem known_any (u : Int) (w : World) : Calls Try.prog 30 #[.int .i64 u] w fun e w' => e = .returned (.bool (decide (1 ≤ u ∧ u ≤ 16))) ∧ w = w' := by
  by_cases h1 : 0 < u
  · by_cases h2 : u ≤ 16
    · go_enter Try.func30, Try.ntmps30
      go_wp2
      go_ret
      exact ⟨by simp; omega, rfl⟩
    · go_enter Try.func30, Try.ntmps30
      go_wp2
      go_ret
      exact ⟨by simp; omega, rfl⟩
  · go_enter Try.func30, Try.ntmps30
    go_wp2
    go_ret
    exact ⟨by simp; omega, rfl⟩



theorem info23s : (Try.prog.info? 31).map (·.size) = some 3 := by kernel_rfl
theorem info25b (B : List Int) (h : B.length = 51) : (Try.prog.info? 33).map (·.size) = some (ints B).size := by rw [ints_size, h]; exact info25s

set_option maxHeartbeats 400000 in
theorem put_bad (B : List Int) (hB : B.length = 51) (u : Int) (v : Value) (w : World) (hu : ¬ (1 ≤ u ∧ u ≤ 16)) :
    Calls Try.prog 21 #[.agg (ints B), .int .i64 u, v] w fun e w' => e = .returned (.tuple #[.agg (ints B), .bool false]) ∧ Below w.heap.size w w' := by
  have HB := Lib.hid hB
  have hkn : decide (1 ≤ u ∧ u ≤ 16) = false := by simpa using hu
  clear hB
  go_enter Try.func21, Try.ntmps21
  go_wp2_with (first
    | ((with_reducible refine op_box 33 (.tmp 0) (ints B) ?_ ?_); rfl; intro w1 b1 hge1 hbel1 hk1)
    | ((with_reducible refine op_alloc 33 zB ?_ ?_); exact info25z; intro w2 b2 hge2 hbel2 hk2; have hlt1 := hk1.lt; replace hk1 := hk1.ups hbel2)
    | ((with_reducible refine op_load 33 (.tmp 3) b1 33 (ints B) (.array 17 31) ?_ ?_ ?_ ?_ ?_ ?_); rfl; exact hk1; exact Try.underlying33; rfl; exact info25b _ HB.out)
    | ((with_reducible refine op_store 33 (.tmp 6) (.tmp 14) b2 33 (ints B) zB ?_ ?_ ?_ ?_ ?_ ?_ ?_); rfl; rfl; exact hk2; exact info25b _ HB.out; (rw [ints_size, HB.out]; exact zB_size); exact ints_one _; intro w3 hbel3 hoth3 hk3)
    | (go_at_call 30; refine (known_any _ _).mono ?_; rintro e w' ⟨rfl, rfl⟩; rw [hkn])
    | fail)
  refine bodyPost_ret (res_row_tmp rfl _ _ b2 33 (ints B) _ rfl hk3 Try.underlying33 rfl (info25b _ HB.out)) rfl ⟨rfl, ?_⟩
  exact (hbel1.trans (hbel2.mono hbel1.size)).trans (hbel3 _ (by omega))

set_option maxHeartbeats 400000 in
theorem put_same (B : List Int) (hB : B.length = 51) (n : Nat) (L : List Int) (A : Option Addr) (c : Nat) (w : World) (hn : 1 ≤ n) (hn2 : n ≤ 16) (hL : L.length ≤ 9223372036854775807) (h : Holds w A (L.map (Value.int .i64))) (v0 s k : Int)
    (hv : (ints B)[n*3]? = some (.int .i64 v0)) (hs : (ints B)[n*3+1]? = some (.int .i64 s)) (hk : (ints B)[n*3+2]? = some (.int .i64 k)) (hq : s = (fold L).1) (hq' : k = (fold L).2) :
    Calls Try.prog 21 #[.agg (ints B), .int .i64 (n : Int), .slice A L.length c] w fun e w' => e = .returned (.tuple #[.agg (ints B), .bool false]) ∧ Below w.heap.size w w' := by
  have HB := Lib.hid hB
  have hkn : decide (1 ≤ (n : Int) ∧ (n : Int) ≤ 16) = true := by simp; omega
  clear hB
  subst hq hq'
  go_enter Try.func21, Try.ntmps21
  go_wp2_with (first
    | ((with_reducible refine op_box 33 (.tmp 0) (ints B) ?_ ?_); rfl; intro w1 b1 hge1 hbel1 hk1)
    | ((with_reducible refine op_alloc 33 zB ?_ ?_); exact info25z; intro w2 b2 hge2 hbel2 hk2; have hlt1 := hk1.lt; replace hk1 := hk1.ups hbel2; have c0 := (hk1.cell (n*3)).trans hv; have c1 := (hk1.cell (n*3+1)).trans hs; have c2 := (hk1.cell (n*3+2)).trans hk)
    | ((with_reducible refine op_load 33 (.tmp 3) b1 33 (ints B) (.array 17 31) ?_ ?_ ?_ ?_ ?_ ?_); rfl; exact hk1; exact Try.underlying33; rfl; exact info25b _ HB.out)
    | ((with_reducible refine op_store 33 (.tmp 6) (.tmp 43) b2 33 (ints B) zB ?_ ?_ ?_ ?_ ?_ ?_ ?_); rfl; rfl; exact hk2; exact info25b _ HB.out; (rw [ints_size, HB.out]; exact zB_size); exact ints_one _; intro w3 hbel3 hoth3 hk3)
    | (go_at_call 30; refine (known_any _ _).mono ?_; rintro e w' ⟨rfl, rfl⟩; rw [hkn])
    | (go_at_call 31; refine (fold_any L A c _ hL ((h.up hbel1).up hbel2)).mono ?_; rintro e w' ⟨rfl, rfl⟩))
  refine bodyPost_ret (res_row_tmp rfl _ _ b2 33 (ints B) _ rfl hk3 Try.underlying33 rfl (info25b _ HB.out)) rfl ⟨rfl, ?_⟩
  exact (hbel1.trans (hbel2.mono hbel1.size)).trans (hbel3 _ (by omega))

set_option maxHeartbeats 400000 in
theorem put_full (B : List Int) (hB : B.length = 51) (n : Nat) (L : List Int) (A : Option Addr) (c : Nat) (w : World) (hn : 1 ≤ n) (hn2 : n ≤ 16) (hL : L.length ≤ 9223372036854775807) (h : Holds w A (L.map (Value.int .i64))) (v0 s k : Int)
    (hv : (ints B)[n*3]? = some (.int .i64 v0)) (hs : (ints B)[n*3+1]? = some (.int .i64 s)) (hk : (ints B)[n*3+2]? = some (.int .i64 k)) (hq : ¬ (s = (fold L).1 ∧ k = (fold L).2)) (hv0 : 1073741824 ≤ v0) :
    Calls Try.prog 21 #[.agg (ints B), .int .i64 (n : Int), .slice A L.length c] w fun e w' => e = .returned (.tuple #[.agg (ints B), .bool false]) ∧ Below w.heap.size w w' := by
  have HB := Lib.hid hB
  have hkn : decide (1 ≤ (n : Int) ∧ (n : Int) ≤ 16) = true := by simp; omega
  clear hB
  by_cases hq1 : s = (fold L).1
  · subst hq1
    have hq2 : (k == (fold L).2) = false := by simp; intro e; exact hq ⟨rfl, e⟩
    clear hq
    go_enter Try.func21, Try.ntmps21
    go_wp2_with (first
      | ((with_reducible refine op_box 33 (.tmp 0) (ints B) ?_ ?_); rfl; intro w1 b1 hge1 hbel1 hk1)
      | ((with_reducible refine op_alloc 33 zB ?_ ?_); exact info25z; intro w2 b2 hge2 hbel2 hk2; have hlt1 := hk1.lt; replace hk1 := hk1.ups hbel2; have c0 := (hk1.cell (n*3)).trans hv; have c1 := (hk1.cell (n*3+1)).trans hs; have c2 := (hk1.cell (n*3+2)).trans hk)
      | ((with_reducible refine op_load 33 (.tmp 3) b1 33 (ints B) (.array 17 31) ?_ ?_ ?_ ?_ ?_ ?_); rfl; exact hk1; exact Try.underlying33; rfl; exact info25b _ HB.out)
      | ((with_reducible refine op_store 33 (.tmp 6) (.tmp 43) b2 33 (ints B) zB ?_ ?_ ?_ ?_ ?_ ?_ ?_); rfl; rfl; exact hk2; exact info25b _ HB.out; (rw [ints_size, HB.out]; exact zB_size); exact ints_one _; intro w3 hbel3 hoth3 hk3)
      | (go_at_call 30; refine (known_any _ _).mono ?_; rintro e w' ⟨rfl, rfl⟩; rw [hkn])
      | (go_at_call 31; refine (fold_any L A c _ hL ((h.up hbel1).up hbel2)).mono ?_; rintro e w' ⟨rfl, rfl⟩))
    refine bodyPost_ret (res_row_tmp rfl _ _ b2 33 (ints B) _ rfl hk3 Try.underlying33 rfl (info25b _ HB.out)) rfl ⟨rfl, ?_⟩
    exact (hbel1.trans (hbel2.mono hbel1.size)).trans (hbel3 _ (by omega))
  · have hq2 : (s == (fold L).1) = false := by simpa using hq1
    clear hq hq1
    go_enter Try.func21, Try.ntmps21
    go_wp2_with (first
      | ((with_reducible refine op_box 33 (.tmp 0) (ints B) ?_ ?_); rfl; intro w1 b1 hge1 hbel1 hk1)
      | ((with_reducible refine op_alloc 33 zB ?_ ?_); exact info25z; intro w2 b2 hge2 hbel2 hk2; have hlt1 := hk1.lt; replace hk1 := hk1.ups hbel2; have c0 := (hk1.cell (n*3)).trans hv; have c1 := (hk1.cell (n*3+1)).trans hs; have c2 := (hk1.cell (n*3+2)).trans hk)
      | ((with_reducible refine op_load 33 (.tmp 3) b1 33 (ints B) (.array 17 31) ?_ ?_ ?_ ?_ ?_ ?_); rfl; exact hk1; exact Try.underlying33; rfl; exact info25b _ HB.out)
      | ((with_reducible refine op_store 33 (.tmp 6) (.tmp 43) b2 33 (ints B) zB ?_ ?_ ?_ ?_ ?_ ?_ ?_); rfl; rfl; exact hk2; exact info25b _ HB.out; (rw [ints_size, HB.out]; exact zB_size); exact ints_one _; intro w3 hbel3 hoth3 hk3)
      | (go_at_call 30; refine (known_any _ _).mono ?_; rintro e w' ⟨rfl, rfl⟩; rw [hkn])
      | (go_at_call 31; refine (fold_any L A c _ hL ((h.up hbel1).up hbel2)).mono ?_; rintro e w' ⟨rfl, rfl⟩))
    refine bodyPost_ret (res_row_tmp rfl _ _ b2 33 (ints B) _ rfl hk3 Try.underlying33 rfl (info25b _ HB.out)) rfl ⟨rfl, ?_⟩
    exact (hbel1.trans (hbel2.mono hbel1.size)).trans (hbel3 _ (by omega))

theorem ints_set3 (B : List Int) (n : Nat) (x y z : Int) : setL (ints B) (n*3) #[Value.int .i64 x, .int .i64 y, .int .i64 z].toList = ints (((B.set (n*3) x).set (n*3+1) y).set (n*3+2) z) := by
  simp only [setL]
  rw [ints_set, ints_set, ints_set]

set_option maxHeartbeats 400000 in
theorem put_yes (B : List Int) (hB : B.length = 51) (n : Nat) (L : List Int) (A : Option Addr) (c : Nat) (w : World) (hn : 1 ≤ n) (hn2 : n ≤ 16) (hL : L.length ≤ 9223372036854775807) (h : Holds w A (L.map (Value.int .i64))) (v0 s k : Int)
    (hv : (ints B)[n*3]? = some (.int .i64 v0)) (hs : (ints B)[n*3+1]? = some (.int .i64 s)) (hk : (ints B)[n*3+2]? = some (.int .i64 k)) (hq : ¬ (s = (fold L).1 ∧ k = (fold L).2)) (hv0 : v0 < 1073741824) (hv1 : -9223372036854775808 ≤ v0) (N : List Int) (hN : N = (((B.set (n*3) (v0+1)).set (n*3+1) (fold L).1).set (n*3+2) (fold L).2)) :
    Calls Try.prog 21 #[.agg (ints B), .int .i64 (n : Int), .slice A L.length c] w fun e w' => e = .returned (.tuple #[.agg (ints N), .bool true]) ∧ Below w.heap.size w w' := by
  have HN51 := Lib.hid (show N.length = 51 by rw [hN]; simpa using hB)
  have hset := (ints_set3 B n (v0+1) (fold L).1 (fold L).2).trans (congrArg ints hN.symm)
  have HS := Lib.hid hset
  clear hN hset
  have HB := Lib.hid hB
  have hkn : decide (1 ≤ (n : Int) ∧ (n : Int) ≤ 16) = true := by simp; omega
  clear hB
  by_cases hq1 : s = (fold L).1
  · subst hq1
    have hq2 : (k == (fold L).2) = false := by simp; intro e; exact hq ⟨rfl, e⟩
    clear hq
    go_enter Try.func21, Try.ntmps21
    go_wp2_with (first
      | ((with_reducible refine op_box 33 (.tmp 0) (ints B) ?_ ?_); rfl; intro w1 b1 hge1 hbel1 hk1)
      | ((with_reducible refine op_alloc 33 zB ?_ ?_); exact info25z; intro w2 b2 hge2 hbel2 hk2; have hlt1 := hk1.lt; replace hk1 := hk1.ups hbel2; have c0 := (hk1.cell (n*3)).trans hv; have c1 := (hk1.cell (n*3+1)).trans hs; have c2 := (hk1.cell (n*3+2)).trans hk)
      | ((with_reducible refine op_load 33 (.tmp 3) b1 33 (ints N) (.array 17 31) ?_ ?_ ?_ ?_ ?_ ?_); rfl; exact hk4; exact Try.underlying33; rfl; exact info25b _ HN51.out)
      | ((with_reducible refine op_store 33 (.tmp 6) (.tmp 54) b2 33 (ints N) zB ?_ ?_ ?_ ?_ ?_ ?_ ?_); rfl; rfl; exact hk2s; exact info25b _ HN51.out; (rw [ints_size, HN51.out]; exact zB_size); exact ints_one _; intro w3 hbel3 hoth3 hk3)
      | ((with_reducible refine op_store_mid 31 (.tmp 53) (.tmp 52) b1 (n*3) 33 #[.int .i64 (v0+1), .int .i64 (fold L).1, .int .i64 (fold L).2] (ints B) ?_ ?_ ?_ ?_ ?_ ?_ ?_); rfl; rfl; exact hk1; exact info23s; (rw [ints_size, HB.out]; simp; omega); (simp [Value.oneCell']); intro w4 hbel4 hoth4 hk40; have hk4 : Block w4 b1 33 (ints N) := (by rw [← HS.out]; exact hk40); clear hk40; have hk2s : Block w4 b2 33 zB := (hoth4 b2 (by omega)).trans hk2; clear c0 c1 c2)
      | (go_at_call 30; refine (known_any _ _).mono ?_; rintro e w' ⟨rfl, rfl⟩; rw [hkn])
      | (go_at_call 31; refine (fold_any L A c _ hL ((h.up hbel1).up hbel2)).mono ?_; rintro e w' ⟨rfl, rfl⟩))
    refine bodyPost_ret (res_row_tmp rfl _ _ b2 33 (ints N) _ rfl hk3 Try.underlying33 rfl (info25b _ HN51.out)) rfl ⟨rfl, ?_⟩
    exact ((hbel1.trans (hbel2.mono hbel1.size)).trans (hbel4 _ hge1)).trans (hbel3 _ (by have := hbel1.size; omega))
  · have hq2 : (s == (fold L).1) = false := by simpa using hq1
    clear hq hq1
    go_enter Try.func21, Try.ntmps21
    go_wp2_with (first
      | ((with_reducible refine op_box 33 (.tmp 0) (ints B) ?_ ?_); rfl; intro w1 b1 hge1 hbel1 hk1)
      | ((with_reducible refine op_alloc 33 zB ?_ ?_); exact info25z; intro w2 b2 hge2 hbel2 hk2; have hlt1 := hk1.lt; replace hk1 := hk1.ups hbel2; have c0 := (hk1.cell (n*3)).trans hv; have c1 := (hk1.cell (n*3+1)).trans hs; have c2 := (hk1.cell (n*3+2)).trans hk)
      | ((with_reducible refine op_load 33 (.tmp 3) b1 33 (ints N) (.array 17 31) ?_ ?_ ?_ ?_ ?_ ?_); rfl; exact hk4; exact Try.underlying33; rfl; exact info25b _ HN51.out)
      | ((with_reducible refine op_store 33 (.tmp 6) (.tmp 54) b2 33 (ints N) zB ?_ ?_ ?_ ?_ ?_ ?_ ?_); rfl; rfl; exact hk2s; exact info25b _ HN51.out; (rw [ints_size, HN51.out]; exact zB_size); exact ints_one _; intro w3 hbel3 hoth3 hk3)
      | ((with_reducible refine op_store_mid 31 (.tmp 53) (.tmp 52) b1 (n*3) 33 #[.int .i64 (v0+1), .int .i64 (fold L).1, .int .i64 (fold L).2] (ints B) ?_ ?_ ?_ ?_ ?_ ?_ ?_); rfl; rfl; exact hk1; exact info23s; (rw [ints_size, HB.out]; simp; omega); (simp [Value.oneCell']); intro w4 hbel4 hoth4 hk40; have hk4 : Block w4 b1 33 (ints N) := (by rw [← HS.out]; exact hk40); clear hk40; have hk2s : Block w4 b2 33 zB := (hoth4 b2 (by omega)).trans hk2; clear c0 c1 c2)
      | (go_at_call 30; refine (known_any _ _).mono ?_; rintro e w' ⟨rfl, rfl⟩; rw [hkn])
      | (go_at_call 31; refine (fold_any L A c _ hL ((h.up hbel1).up hbel2)).mono ?_; rintro e w' ⟨rfl, rfl⟩))
    refine bodyPost_ret (res_row_tmp rfl _ _ b2 33 (ints N) _ rfl hk3 Try.underlying33 rfl (info25b _ HN51.out)) rfl ⟨rfl, ?_⟩
    exact ((hbel1.trans (hbel2.mono hbel1.size)).trans (hbel4 _ hge1)).trans (hbel3 _ (by have := hbel1.size; omega))
end Go.Proofs.Ytbpepkpjjfhmpaa
