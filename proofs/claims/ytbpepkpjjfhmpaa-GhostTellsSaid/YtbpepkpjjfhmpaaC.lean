import Derived.Test.YtbpepkpjjfhmpaaB
import Derived.Deep.DeepMust
namespace Go.Proofs.Ytbpepkpjjfhmpaa
open Go.RowKit
set_option linter.unusedVariables false
set_option linter.unusedSimpArgs false

def zE : Array Value := #[.int .i64 0, .int .i64 0, .int .i64 0]
def zN : Array Value := #[.int .i64 0, .int .i64 0, .int .i64 0, .int .i64 0]
theorem info23z : (Try.prog.info? 31).map (·.zero) = some (some (.agg zE)) := by kernel_rfl
theorem info28z : (Try.prog.info? 35).map (·.zero) = some (some (.agg zN)) := by kernel_rfl
theorem info28s : (Try.prog.info? 35).map (·.size) = some 4 := by kernel_rfl

/-- a note as a value -/
def nt (u v s c : Int) : Array Value := #[.int .i64 u, .int .i64 v, .int .i64 s, .int .i64 c]

set_option maxHeartbeats 400000 in
theorem note_bad (B : List Int) (hB : B.length = 51) (u : Int) (w : World) (hu : ¬ (1 ≤ u ∧ u ≤ 16)) :
    Calls Try.prog 22 #[.agg (ints B), .int .i64 u] w fun e w' => e = .returned (.agg (nt 0 0 0 0)) ∧ Below w.heap.size w w' := by
  have hkn : decide (1 ≤ u ∧ u ≤ 16) = false := by simpa using hu
  go_enter Try.func22, Try.ntmps22
  go_wp2_with (first
    | ((with_reducible refine op_box 33 (.tmp 0) (ints B) ?_ ?_); rfl; intro w1 b1 hge1 hbel1 hk1)
    | ((with_reducible refine op_alloc 35 zN ?_ ?_); exact info28z; intro w2 b2 hge2 hbel2 hk2; have hlt1 := hk1.lt; replace hk1 := hk1.ups hbel2)
    | ((with_reducible refine op_store 35 (.tmp 4) (.tmp 9) b2 35 (nt 0 0 0 0) zN ?_ ?_ ?_ ?_ ?_ ?_ ?_); go_must (rfl; rfl; exact hk2; exact info28s; rfl; (simp [nt, Value.oneCell']); intro w3 hbel3 hoth3 hk3))
    | (go_at_call 30; refine (known_any _ _).mono ?_; rintro e w' ⟨rfl, rfl⟩; rw [hkn]))
  refine bodyPost_ret (res_row rfl _ _ b2 35 (nt 0 0 0 0) _ rfl hk3 Try.underlying35 rfl info28s) rfl ⟨rfl, ?_⟩
  exact (hbel1.trans (hbel2.mono hbel1.size)).trans (hbel3 _ (by omega))

set_option maxHeartbeats 400000 in
theorem note_any (B : List Int) (hB : B.length = 51) (n : Nat) (w : World) (hn : 1 ≤ n) (hn2 : n ≤ 16) (v s k : Int)
    (hv : (ints B)[n*3]? = some (.int .i64 v)) (hs : (ints B)[n*3+1]? = some (.int .i64 s)) (hk : (ints B)[n*3+2]? = some (.int .i64 k)) :
    Calls Try.prog 22 #[.agg (ints B), .int .i64 (n : Int)] w fun e w' => e = .returned (.agg (nt n v s k)) ∧ Below w.heap.size w w' := by
  have hkn : decide (1 ≤ (n : Int) ∧ (n : Int) ≤ 16) = true := by simp; omega
  have HB := Lib.hid hB
  clear hB
  go_enter Try.func22, Try.ntmps22
  go_wp2_with (first
    | ((with_reducible refine op_box 33 (.tmp 0) (ints B) ?_ ?_); rfl; intro w1 b1 hge1 hbel1 hk1)
    | ((with_reducible refine op_alloc 35 zN ?_ ?_); exact info28z; intro w2 b2 hge2 hbel2 hk2; have hlt1 := hk1.lt; replace hk1 := hk1.ups hbel2; have c0 := (hk1.cell (n*3)).trans hv; have c1 := (hk1.cell (n*3+1)).trans hs; have c2 := (hk1.cell (n*3+2)).trans hk)
    | ((with_reducible refine op_alloc 31 zE ?_ ?_); exact info23z; intro w3 b3 hge3 hbel3 hk3; have hlt2 := hk2.lt; replace hk2 := hk2.ups hbel3)
    | ((with_reducible refine op_store 31 (.tmp 5) (.tmp 12) b3 31 #[.int .i64 v, .int .i64 s, .int .i64 k] zE ?_ ?_ ?_ ?_ ?_ ?_ ?_); go_must (rfl; rfl; exact hk3; exact info23s; rfl; (simp [Value.oneCell']); intro w4 hbel4 hoth4 hk4; replace hk2 := (hoth4 b2 (by omega)).trans hk2; have d0 := hk4.cell 0; have d1 := hk4.cell 1; have d2 := hk4.cell 2))
    | ((with_reducible refine op_store 35 (.tmp 4) (.tmp 20) b2 35 (nt n v s k) zN ?_ ?_ ?_ ?_ ?_ ?_ ?_); go_must (rfl; rfl; exact hk2; exact info28s; rfl; (simp [nt, Value.oneCell']); intro w5 hbel5 hoth5 hk5))
    | (go_at_call 30; refine (known_any _ _).mono ?_; rintro e w' ⟨rfl, rfl⟩; rw [hkn]))
  refine bodyPost_ret (res_row rfl _ _ b2 35 (nt n v s k) _ rfl hk5 Try.underlying35 rfl info28s) rfl ⟨rfl, ?_⟩
  have e1 := hbel1.size
  have e2 := hbel2.size
  exact (((hbel1.trans (hbel2.mono hbel1.size)).trans (hbel3.mono (by omega))).trans (hbel4 _ (by omega))).trans (hbel5 _ (by omega))

def newer (u v u' v' : Int) : Bool := decide (u = u') && decide (v < v')
theorem newer_any (u v s k u' v' s' k' : Int) (w : World) : Calls Try.prog 24 #[.agg (nt u v s k), .agg (nt u' v' s' k')] w fun e w' => e = .returned (.bool (newer u v u' v')) ∧ Below w.heap.size w w' := by
  unfold nt newer
  by_cases h1 : u = u'
  · subst h1
    by_cases h2 : v < v'
    · go_enter Try.func24, Try.ntmps24
      go_wp2
      go_ret
      exact ⟨by simp [h2], ((Below.refl _ _).alloc (Nat.le_refl _) _).alloc (by simp) _⟩
    · go_enter Try.func24, Try.ntmps24
      go_wp2
      go_ret
      exact ⟨by simp; omega, ((Below.refl _ _).alloc (Nat.le_refl _) _).alloc (by simp) _⟩
  · have h3 : (u == u') = false := by simpa using h1
    go_enter Try.func24, Try.ntmps24
    go_wp2
    go_ret
    exact ⟨by simp [h1], ((Below.refl _ _).alloc (Nat.le_refl _) _).alloc (by simp) _⟩
end Go.Proofs.Ytbpepkpjjfhmpaa
