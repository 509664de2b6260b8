import Derived.Test.YtbpepkpjjfhmpaaE
import Derived.Test.YtbpepkpjjfhmpaaP
namespace Go.Proofs.Ytbpepkpjjfhmpaa
open Go.RowKit
set_option linter.unusedVariables false
set_option linter.unusedSimpArgs false

theorem g25 : Try.prog.eqGuardType Try.prog.depth 33 = false := by kernel_rfl
theorem g28 : Try.prog.eqGuardType Try.prog.depth 35 = false := by kernel_rfl
theorem h28 : Try.prog.stoodInHeld 35 = false := by kernel_rfl
theorem eqN (u v s c u' v' s' c' : Int) (w : World) :
    (Op.equalIn 10000 35 (.agg #[.int .i64 u, .int .i64 v, .int .i64 s, .int .i64 c]) (.agg #[.int .i64 u', .int .i64 v', .int .i64 s', .int .i64 c'])).run Try.prog w = .ok (decide (u = u' ∧ v = v' ∧ s = s' ∧ c = c')) w := by
  have h0 := h28
  have u28 := Try.underlying35
  have u3 := Try.underlying3
  go_simp
  by_cases e1 : u = u' <;> by_cases e2 : v = v' <;> by_cases e3 : s = s' <;> by_cases e4 : c = c' <;> simp [e1, e2, e3, e4]

theorem put_at (B : List Int) (u : Int) (L R : List Int) (ok : Bool) (A : Option Addr) (n c : Nat) (w : World) (hB : B.length = 51) (hw : WF B) (hp : putF B u L = (R, ok)) (hn : n = L.length) (hL : L.length ≤ 9223372036854775807) (h : Holds w A (L.map (Value.int .i64))) :
    Calls Try.prog 21 #[.agg (ints B), .int .i64 u, .slice A n c] w fun e w' => e = .returned (.tuple #[.agg (ints R), .bool ok]) ∧ Below w.heap.size w w' := by
  subst hn
  have := put_any B hB hw u L A c w hL h
  rw [hp] at this
  exact this
theorem fold_at (L : List Int) (A : Option Addr) (n c : Nat) (s k : Int) (w : World) (hf : fold L = (s, k)) (hn : n = L.length) (hL : L.length ≤ 9223372036854775807) (h : Holds w A (L.map (Value.int .i64))) :
    Calls Try.prog 31 #[.slice A n c] w fun e w' => e = .returned (.tuple #[.int .i64 s, .int .i64 k]) ∧ w = w' := by
  subst hn
  have := fold_any L A c w hL h
  rw [hf] at this
  exact this
def noteF (B : List Int) (u : Int) : Int × Int × Int × Int :=
  if 1 ≤ u ∧ u ≤ 16 then (u, ci B (u.toNat*3), ci B (u.toNat*3+1), ci B (u.toNat*3+2)) else (0, 0, 0, 0)
theorem note_at (B : List Int) (u : Int) (a b c d : Int) (w : World) (hB : B.length = 51) (hn : noteF B u = (a, b, c, d)) :
    Calls Try.prog 22 #[.agg (ints B), .int .i64 u] w fun e w' => e = .returned (.agg #[.int .i64 a, .int .i64 b, .int .i64 c, .int .i64 d]) ∧ Below w.heap.size w w' := by
  unfold noteF at hn
  by_cases hu : 1 ≤ u ∧ u ≤ 16
  · rw [if_pos hu] at hn
    obtain ⟨n, rfl⟩ : ∃ n : Nat, u = n := ⟨u.toNat, by omega⟩
    simp only [Int.toNat_natCast, Prod.mk.injEq] at hn
    obtain ⟨rfl, rfl, rfl, rfl⟩ := hn
    exact note_any B hB n w (by omega) (by omega) _ _ _ (ints_ci (by omega)) (ints_ci (by omega)) (ints_ci (by omega))
  · rw [if_neg hu] at hn
    simp only [Prod.mk.injEq] at hn
    obtain ⟨rfl, rfl, rfl, rfl⟩ := hn
    exact note_bad B hB u w hu
theorem newer_at (u v s k u' v' s' k' : Int) (r : Bool) (w : World) (hr : newer u v u' v' = r) :
    Calls Try.prog 24 #[.agg #[.int .i64 u, .int .i64 v, .int .i64 s, .int .i64 k], .agg #[.int .i64 u', .int .i64 v', .int .i64 s', .int .i64 k']] w fun e w' => e = .returned (.bool r) ∧ Below w.heap.size w w' := by
  rw [← hr]
  exact newer_any u v s k u' v' s' k' w

end Go.Proofs.Ytbpepkpjjfhmpaa
