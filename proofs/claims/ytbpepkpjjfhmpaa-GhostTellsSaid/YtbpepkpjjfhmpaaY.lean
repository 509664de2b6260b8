/- The ghost: what Look does, in plain Lean. -/
import Derived.Test.YtbpepkpjjfhmpaaX
namespace Go.Proofs.Ytbpepkpjjfhmpaa
open Go.RowKit Go.Maps
set_option linter.unusedVariables false
set_option linter.unusedSimpArgs false

structure GS where
  last : List Int
  many : List Int
  wrong : Bool
  had : List Nt
  n : Nat
def GG (w : World) (g bm : Nat) (G : GS) : Prop := GAt w g bm G.n G.last G.many G.wrong G.had
def seeS (u : Nat) (x : Nt) (G : GS) : GS := ⟨lastS G.last u x, G.many.set u (ci G.many u + 1), G.wrong, x :: G.had, G.n + 1⟩
def lookS (B : List Int) (u : Nat) (G : GS) : GS :=
  if newer (lastF G.last u).1 (lastF G.last u).2.1 (noteF B u).1 (noteF B u).2.1 = true then seeS u (noteF B u) G
  else if noteF B u = lastF G.last u then G else { G with wrong := true }
def lookK (B : List Int) (G : GS) : Nat → GS
  | 0 => G
  | k + 1 => lookS B (k + 1) (lookK B G k)
theorem lookK_step (B : List Int) (G : GS) (m : Nat) (h : 1 ≤ m) : lookK B G m = lookS B m (lookK B G (m - 1)) := by
  match m, h with
  | k + 1, _ => rfl
theorem lookS_n (B : List Int) (u : Nat) (G : GS) : (lookS B u G).n ≤ G.n + 1 := by
  unfold lookS seeS
  split
  · exact Nat.le_refl _
  · split
    · exact Nat.le_succ _
    · exact Nat.le_succ _
theorem lookK_n (B : List Int) (G : GS) : ∀ k, (lookK B G k).n ≤ G.n + k
  | 0 => Nat.le_refl _
  | k + 1 => by have := lookK_n B G k; have := lookS_n B (k + 1) (lookK B G k); unfold lookK; omega
theorem ci_set_ne {B : List Int} {i j : Nat} (x : Int) (h : i ≠ j) : ci (B.set i x) j = ci B j := by
  simp [ci, List.getD_eq_getElem?_getD, List.getElem?_set_ne h]
theorem lookS_many (B : List Int) (u : Nat) (G : GS) (j : Nat) (h : j ≠ u) : ci (lookS B u G).many j = ci G.many j := by
  unfold lookS seeS
  split
  · exact ci_set_ne _ (fun e => h e.symm)
  · split <;> rfl
theorem lookK_many (B : List Int) (G : GS) (j : Nat) : ∀ k, k < j → ci (lookK B G k).many j = ci G.many j
  | 0, _ => rfl
  | k + 1, h => by unfold lookK; rw [lookS_many B _ _ j (by omega), lookK_many B G j k (by omega)]

def LookRel (W : World) (g bm b3 : Nat) (B : List Int) (G : GS) (u : Value) (wr : World) : Prop :=
  ∃ m : Nat, 1 ≤ m ∧ m ≤ 17 ∧ u = .int .i64 m ∧ GG wr g bm (lookK B G (m - 1)) ∧ But g bm W wr ∧ Block wr b3 33 (ints B)
def SL (W : World) (g : Nat) (C : Array Value) (b5 : Nat) (X : Array Value) (w' : World) : Prop := Below W.heap.size W w' ∧ Block w' g 53 C ∧ Block w' b5 35 X
theorem SL.up {W w w' : World} {g b5 : Nat} {C X : Array Value} (h : SL W g C b5 X w) (hb : Below w.heap.size w w') : SL W g C b5 X w' := ⟨h.1.trans (hb.mono h.1.size), h.2.1.ups hb, h.2.2.ups hb⟩
end Go.Proofs.Ytbpepkpjjfhmpaa
