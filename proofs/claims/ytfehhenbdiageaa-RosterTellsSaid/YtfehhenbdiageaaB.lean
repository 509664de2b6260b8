/- Timer: cmp.Or. -/
import Derived.Test.YtfehhenbdiageaaA
namespace Go.Proofs.Ytfehhenbdiageaa
open Go.RowKit
set_option linter.unusedVariables false
set_option linter.unusedSimpArgs false

def orI (x y : Int) : Int := if x = 0 then y else x
def OrRel (x y : Int) (i : Value) : Prop := ∃ k : Nat, k ≤ 2 ∧ i = .int .i64 k ∧ (1 ≤ k → x = 0) ∧ (2 ≤ k → y = 0)
theorem or_two (x y : Int) (b : Nat) (w : World) (h : Block w b 3 #[.int .i64 x, .int .i64 y]) :
    Calls Try.prog 44 #[.slice (some ⟨b, 0, none⟩) 2 2] w fun e w' => e = .returned (.int .i64 (orI x y)) ∧ w = w' := by
  have c0 := h.cell 0
  have c1 := h.cell 1
  clear h
  go_enter Try.func44, Try.ntmps44
  go_wp2
  go_loop [8] (OrRel x y) (fun i => 2 - (intOf i).toNat)
  case atStart => exact ⟨0, by omega, rfl, fun h => by omega, fun h => by omega⟩
  case round =>
    obtain ⟨k, hk, rfl, hx, hy⟩ := hrel
    match k, hk with
    | 0, _ =>
      clear hx hy
      by_cases e : x = 0
      · subst e
        go_wp2
        exact ⟨⟨1, by omega, rfl, fun _ => rfl, fun h => by omega⟩, by simp [intOf]⟩
      · have e2 : (x != 0) = true := by simpa using e
        go_wp2
        go_ret
        exact ⟨by simp [orI, e], rfl⟩
    | 1, _ =>
      have hx0 := hx (by omega)
      subst hx0
      clear hx hy
      by_cases e : y = 0
      · subst e
        go_wp2
        exact ⟨⟨2, by omega, rfl, fun _ => rfl, fun _ => rfl⟩, by simp [intOf]⟩
      · have e2 : (y != 0) = true := by simpa using e
        go_wp2
        go_ret
        exact ⟨by simp [orI], rfl⟩
    | 2, _ =>
      have hx0 := hx (by omega)
      have hy0 := hy (by omega)
      subst hx0 hy0
      clear hx hy
      go_wp2
      go_ret
      exact ⟨by simp [orI], rfl⟩
end Go.Proofs.Ytfehhenbdiageaa
