/- Timer: the order of timers: isNaN, Compare, Or, order. -/
import Derived.Test.YtfehhenbdiageaaK
namespace Go.Proofs.Ytfehhenbdiageaa
open Go.RowKit
set_option linter.unusedVariables false
set_option linter.unusedSimpArgs false

theorem isnan_any (x : Int) (w : World) : Calls Try.prog 49 #[.int .i64 x] w fun e w' => e = .returned (.bool false) ∧ w = w' := by
  go_enter Try.func49, Try.ntmps49
  go_wp2
  go_ret
  exact ⟨by simp, rfl⟩
def cmpI (x y : Int) : Int := if x < y then -1 else if y < x then 1 else 0
theorem compare_any (x y : Int) (w : World) : Calls Try.prog 45 #[.int .i64 x, .int .i64 y] w fun e w' => e = .returned (.int .i64 (cmpI x y)) ∧ w = w' := by
  unfold cmpI
  by_cases h1 : x < y
  · go_enter Try.func45, Try.ntmps45
    go_wp2_with (first | (go_at_call 49; refine (isnan_any _ _).mono ?_; rintro e w' ⟨rfl, rfl⟩))
    go_ret
    exact ⟨by simp [h1], rfl⟩
  · by_cases h2 : y < x
    · go_enter Try.func45, Try.ntmps45
      go_wp2_with (first | (go_at_call 49; refine (isnan_any _ _).mono ?_; rintro e w' ⟨rfl, rfl⟩))
      go_ret
      exact ⟨by simp [h1, h2], rfl⟩
    · go_enter Try.func45, Try.ntmps45
      go_wp2_with (first | (go_at_call 49; refine (isnan_any _ _).mono ?_; rintro e w' ⟨rfl, rfl⟩))
      go_ret
      exact ⟨by simp [h1, h2], rfl⟩
end Go.Proofs.Ytfehhenbdiageaa
