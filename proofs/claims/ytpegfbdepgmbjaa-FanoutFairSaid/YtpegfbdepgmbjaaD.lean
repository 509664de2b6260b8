/- Rows of structs as slices' values (nothing of a program in sight). -/
import Derived.Test.YtpegfbdepgmbjaaKw
namespace Go.Proofs.Ytpegfbdepgmbjaa
open Go.RowKit
set_option linter.unusedVariables false
set_option linter.unusedSimpArgs false

section
variable {α : Type} (enc : α → List Int)
/-- a slice value that reads as the row L -/
def Row (w : World) (v : Value) (L : List α) : Prop := ∃ A c, v = .slice A L.length c ∧ L.length ≤ c ∧ c ≤ maxLen ∧ (A = none → c = 0) ∧ Holds w A (FV enc L)
variable {enc} {w w' : World} {v : Value} {L M : List α}
theorem Row.up (h : Row enc w v L) (hb : Below w.heap.size w w') : Row enc w' v L := by
  obtain ⟨A, c, a1, a2, a3, a4, a5⟩ := h
  exact ⟨A, c, a1, a2, a3, a4, a5.up hb⟩
theorem Row.nil : Row enc w (.slice none 0 0) ([] : List α) := ⟨none, 0, rfl, Nat.le_refl _, by simp [maxLen], fun _ => rfl, fun j hj => by simp [FV, IV] at hj⟩
theorem Row.own {base size n : Nat} {e : TypeId} (hk : ∀ x, (enc x).length = size) (hs : 0 < size) (h : w.ownsRow base e size v n (FV enc L)) : Row enc w v L := by
  have hl := h.1
  rw [FV_len hk] at hl
  obtain rfl : L.length = n := Nat.eq_of_mul_eq_mul_right hs hl
  obtain ⟨A, c, rfl, h1, h2, h3⟩ := own_slice h
  refine ⟨A, c, rfl, h2, h3, fun e => ?_, h1⟩
  subst e
  rcases h.2 with ⟨e, _⟩ | ⟨g, cap, cur, e, _⟩
  · injection e
  · cases e
theorem row_holds {A : Option Addr} {n c : Nat} (h : Row enc w (.slice A n c) L) : Holds w A (FV enc L) := by
  obtain ⟨A', c', e, _, _, _, h⟩ := h
  injection e with e1 e2 e3
  subst e1
  exact h
theorem Row.drop {size : Nat} (hk : ∀ x, (enc x).length = size) {A : Option Addr} {c : Nat} (h : Row enc w (.slice A L.length c) L) {j : Nat} (hj : j ≤ L.length) : Row enc w (.slice (slAt A c j size) (L.length - j) (c - j)) (L.drop j) := by
  obtain ⟨A', c', e, h1, h2, h3, hh⟩ := h
  injection e with e1 e2 e3
  subst e1 e3
  refine ⟨_, _, by rw [List.length_drop], by rw [List.length_drop]; omega, by omega, fun e => ?_, by rw [FV_drop hk]; exact slAt_holds (FV_len hk L) h1 hh j⟩
  unfold slAt at e
  split at e
  · omega
  · have := h3 (by cases A <;> simp_all)
    omega
/-- a slice of memory of the call's own that reads as the row L -/
def ROwn (enc : α → List Int) (e : TypeId) (size : Nat) (w : World) (base : Nat) (v : Value) (L : List α) : Prop := w.ownsRow base e size v L.length (FV enc L)
theorem ROwn.row {base size : Nat} {e : TypeId} (h : ROwn enc e size w base v L) (hk : ∀ x, (enc x).length = size) (hs : 0 < size) : Row enc w v L := Row.own hk hs h
theorem ROwn.up {base size : Nat} {e : TypeId} (h : ROwn enc e size w base v L) (hb : Below w.heap.size w w') : ROwn enc e size w' base v L := own_ups h hb
theorem ROwn.nil {base size : Nat} {e : TypeId} : ROwn enc e size w base (.slice none 0 0) ([] : List α) := World.ownsRow_nil _ _ _ _
theorem own_cast {base size n : Nat} {e : TypeId} {xs : List Value} (hk : ∀ x, (enc x).length = size) (hs : 0 < size) (h : w.ownsRow base e size v n xs) (he : xs = FV enc M) : ROwn enc e size w base v M := by
  subst he
  have hl := h.1
  rw [FV_len hk] at hl
  obtain rfl : M.length = n := Nat.eq_of_mul_eq_mul_right hs hl
  exact h
theorem own_base {base base' size n : Nat} {e : TypeId} {xs : List Value} (h : w.ownsRow base e size v n xs) (hb : base' ≤ base) : w.ownsRow base' e size v n xs := by
  obtain ⟨h1, h2 | ⟨g, cap, cur, a1, a2, a3⟩⟩ := h
  · exact ⟨h1, .inl h2⟩
  · exact ⟨h1, .inr ⟨g, cap, cur, a1, Nat.le_trans hb a2, a3⟩⟩
theorem ROwn.base {base base' size : Nat} {e : TypeId} (h : ROwn enc e size w base v L) (hb : base' ≤ base) : ROwn enc e size w base' v L := own_base h hb
theorem ROwn.lt {base size : Nat} {e : TypeId} (h : ROwn enc e size w base v L) {q : Nat} (hq : v.ownBlock = some q) : base ≤ q ∧ q < w.heap.size := World.ownsRow.lt h q hq
theorem ROwn.keep {base size : Nat} {e : TypeId} (h : ROwn enc e size w base v L) (hk : ∀ q, v.ownBlock = some q → w'.heap[q]? = w.heap[q]?) : ROwn enc e size w' base v L := own_block h hk
theorem holds_block {b : Nat} {t : TypeId} {C : Array Value} (k : Block w b t C) (hC : C.toList = FV enc L) : Holds w (some ⟨b, 0, none⟩) (FV enc L) := by
  intro j hj
  refine ⟨b, 0, rfl, ?_⟩
  rw [Nat.zero_add, k.cell, ← hC]
  simp
theorem lit_row {b : Nat} {t : TypeId} {C : Array Value} (k : Block w b t C) (hC : C.toList = FV enc L) (hl : L.length ≤ maxLen) : Row enc w (.slice (some ⟨b, 0, none⟩) L.length L.length) L :=
  ⟨some ⟨b, 0, none⟩, L.length, rfl, Nat.le_refl _, hl, (fun e => by cases e), holds_block k hC⟩
theorem same_next [DecidableEq α] {k : Nat} {x y : α} (h : ∀ j, j < k → L[j]? = M[j]?) (hx : L[k]? = some x) (hy : M[k]? = some y) (hz : x = y) : ∀ j, j < k + 1 → L[j]? = M[j]? := by
  intro j hj
  by_cases e : j = k
  · subst e
    rw [hx, hy, hz]
  · exact h j (by omega)
theorem same_end (hl : L.length = M.length) (h : ∀ j, j < L.length → L[j]? = M[j]?) : L = M := by
  apply List.ext_getElem?
  intro j
  by_cases hj : j < L.length
  · exact h j hj
  · rw [List.getElem?_eq_none (by omega), List.getElem?_eq_none (by omega)]
theorem ne_of_at {k : Nat} {x y : α} (hx : L[k]? = some x) (hy : M[k]? = some y) (hz : ¬ x = y) : ¬ L = M := by
  intro e
  subst e
  rw [hx] at hy
  injection hy with hy
  exact hz hy
end
theorem Block.grown {w w' : World} {g : Nat} {t : TypeId} {C : Array Value} {row : Option Nat} (h : Block w g t C) (hg : w.grownBy w' row) (hne : some g ≠ row) : Block w' g t C := (hg.block g h.lt hne).trans h
theorem app_ne {w : World} {v v' : Value} {b : Nat} (h : v'.ownBlock = v.ownBlock ∨ v'.ownBlock = some w.heap.size) (hne : v.ownBlock ≠ some b) (hb : b < w.heap.size) : v'.ownBlock ≠ some b := by
  rcases h with e | e <;> rw [e]
  · exact hne
  · intro e2
    injection e2 with e2
    omega
theorem slAt_zero {A : Option Addr} {c size : Nat} : slAt A c 0 size = A := by
  unfold slAt
  split
  · rfl
  · cases A with
    | none => rfl
    | some a => obtain ⟨b, o, s⟩ := a; simp [Addr.add]
end Go.Proofs.Ytpegfbdepgmbjaa
