/- Rows of structs of ints: laws for any struct (nothing of a program in sight). -/
import Derived.Test.YtpegfbdepgmbjaaK
namespace Go.Proofs.Ytpegfbdepgmbjaa
open Go.RowKit
set_option linter.unusedVariables false
set_option linter.unusedSimpArgs false

section
variable {α : Type} (enc : α → List Int)
def flat (L : List α) : List Int := L.flatMap enc
/-- the cells of a row of structs -/
abbrev FV (L : List α) : List Value := IV (flat enc L)
@[simp] theorem flat_nil : flat enc ([] : List α) = [] := rfl
theorem flat_cons (x : α) (L : List α) : flat enc (x :: L) = enc x ++ flat enc L := by simp [flat]
theorem flat_append (L M : List α) : flat enc (L ++ M) = flat enc L ++ flat enc M := by simp [flat]
theorem FV_append (L M : List α) : FV enc (L ++ M) = FV enc L ++ FV enc M := by simp [FV, IV, flat_append]
theorem FV_one (L : List α) : ∀ u ∈ FV enc L, u.oneCell' = true := by
  intro u hu
  simp only [FV, IV, List.mem_map] at hu
  obtain ⟨x, _, rfl⟩ := hu
  rfl
variable {enc} {k : Nat} (hk : ∀ x, (enc x).length = k)
include hk
theorem flat_len : ∀ L : List α, (flat enc L).length = L.length * k
  | [] => by simp
  | x :: L => by rw [flat_cons, List.length_append, hk, flat_len L]; simp [Nat.add_mul]; omega
theorem FV_len (L : List α) : (FV enc L).length = L.length * k := by simp only [FV, IV, List.length_map]; exact flat_len hk L
theorem flat_take (L : List α) (j : Nat) : flat enc (L.take j) = (flat enc L).take (j * k) := by
  induction L generalizing j with
  | nil => simp
  | cons x L ih =>
    cases j with
    | zero => simp
    | succ j => rw [List.take_succ_cons, flat_cons, flat_cons, ih, List.take_append, hk, show (j + 1) * k - k = j * k by rw [Nat.add_mul]; omega, List.take_of_length_le (l := enc x) (by rw [hk, Nat.add_mul]; omega)]
theorem flat_drop (L : List α) (j : Nat) : flat enc (L.drop j) = (flat enc L).drop (j * k) := by
  induction L generalizing j with
  | nil => simp
  | cons x L ih =>
    cases j with
    | zero => simp
    | succ j => rw [List.drop_succ_cons, flat_cons, ih, List.drop_append, hk, show (j + 1) * k - k = j * k by rw [Nat.add_mul]; omega, show (enc x).drop ((j + 1) * k) = [] from List.drop_eq_nil_of_le (by rw [hk, Nat.add_mul]; omega), List.nil_append]
theorem FV_take (L : List α) (j : Nat) : FV enc (L.take j) = (FV enc L).take (j * k) := by simp only [FV, IV, flat_take hk, List.map_take]
theorem FV_drop (L : List α) (j : Nat) : FV enc (L.drop j) = (FV enc L).drop (j * k) := by simp only [FV, IV, flat_drop hk, List.map_drop]
theorem flat_part {L : List α} {j : Nat} (h : j < L.length) : ((flat enc L).drop (j * k)).take k = enc L[j] := by
  rw [← flat_drop hk, List.drop_eq_getElem_cons h, flat_cons, List.take_append_of_le_length (by rw [hk]; omega), List.take_of_length_le (by rw [hk]; omega)]
/-- element j of a row in memory -/
theorem flat_range {w : World} {A : Option Addr} {L : List α} (h : Holds w A (FV enc L)) {b o : Nat} (e : A = some ⟨b, o, none⟩) {j : Nat} (hj : j < L.length) : w.rangeAt b (o + j * k) (IV (enc L[j])) := by
  have := h.ints_range e (j * k) k (by rw [flat_len hk]; have : (j + 1) * k ≤ L.length * k := Nat.mul_le_mul_right _ hj; rw [Nat.add_mul] at this; omega)
  rwa [flat_part hk hj] at this
theorem flat_some {w : World} {A : Option Addr} {L : List α} (h : Holds w A (FV enc L)) (hp : 0 < k) {j : Nat} (hj : j < L.length) : ∃ b o, A = some ⟨b, o, none⟩ ∧ w.rangeAt b (o + j * k) (IV (enc L[j])) := by
  obtain ⟨b, o, rfl, _⟩ := h 0 (by rw [FV_len hk]; exact Nat.mul_pos (by omega) hp)
  exact ⟨b, o, rfl, flat_range hk h rfl hj⟩
theorem Holds.take_fv {w : World} {A : Option Addr} {L : List α} (h : Holds w A (FV enc L)) (j : Nat) : Holds w A (FV enc (L.take j)) := by
  intro i hi
  rw [FV_take hk] at hi ⊢
  obtain ⟨b, o, e, hc⟩ := h i (by simp at hi; simp; omega)
  exact ⟨b, o, e, by rw [hc, List.getElem?_take, if_pos (by simp at hi; omega)]⟩
omit hk in
/-- rows of structs out of a row of ints -/
theorem unflat (dec : List Int → α) (hd : ∀ l : List Int, l.length = k → enc (dec l) = l) : ∀ (n : Nat) (B : List Int), B.length = n * k → ∃ L : List α, flat enc L = B ∧ L.length = n
  | 0, B, h => ⟨[], by have : B = [] := List.eq_nil_of_length_eq_zero (by omega); simp [this], rfl⟩
  | n + 1, B, h => by
    obtain ⟨L, h1, h2⟩ := unflat dec hd n (B.drop k) (by rw [List.length_drop, h, Nat.add_mul]; omega)
    refine ⟨dec (B.take k) :: L, ?_, by simp [h2]⟩
    rw [flat_cons, h1, hd _ (by rw [List.length_take, h, Nat.add_mul]; omega), List.take_append_drop]

omit hk in
theorem flat_wf {L : List α} (h : WF (flat enc L)) : ∀ x ∈ L, WF (enc x) := fun x hx y hy => h y (by rw [flat, List.mem_flatMap]; exact ⟨x, hx, hy⟩)
omit hk in
theorem wf_flat {L : List α} (h : ∀ x ∈ L, WF (enc x)) : WF (flat enc L) := fun y hy => by
  rw [flat, List.mem_flatMap] at hy
  obtain ⟨x, hx, hy⟩ := hy
  exact h x hx y hy
end

/-- a cell out of a range -/
theorem range_cell {w : World} {b o : Nat} {cs : List Value} (h : w.rangeAt b o cs) (i : Nat) {v : Value} (hv : cs[i]? = some v) : w.cell? ⟨b, o + i, none⟩ = some v := h i v hv

/-- where a slice expression's row begins -/
def slAt (A : Option Addr) (c lo size : Nat) : Option Addr := if c = lo then A else A.map (·.add (lo * size))
theorem slAt_holds {w : World} {A : Option Addr} {xs : List Value} {n c size : Nat} (hl : xs.length = n * size) (hn : n ≤ c) (h : Holds w A xs) (lo : Nat) : Holds w (slAt A c lo size) (xs.drop (lo * size)) := by
  intro i hi
  unfold slAt
  by_cases e : c = lo
  · have : n * size ≤ lo * size := Nat.mul_le_mul_right _ (by omega)
    simp at hi; omega
  · rw [if_neg e]
    have hlt : lo * size + i < xs.length := by simp at hi; omega
    obtain ⟨b, o, rfl, hc⟩ := h (lo * size + i) hlt
    refine ⟨b, o + lo * size, by simp [add_flat], ?_⟩
    rw [List.getElem?_drop, ← hc, Nat.add_assoc]
theorem run_slice_any {P : Program} {T E : TypeId} {A : Option Addr} {n c size lo hi : Nat} {w : World} (hT : P.underlying T = some (.slice E)) (hs : (P.info? E).map (·.size) = some size) (low high : Option Value)
    (hlo : low = none ∧ lo = 0 ∨ low = some (.int .i64 lo)) (hhi : high = none ∧ hi = n ∨ high = some (.int .i64 hi)) (h1 : lo ≤ hi) (h2 : hi ≤ c) :
    (Instr.slice T (.slice A n c) low high none).run P w = .ok (.slice (slAt A c lo size) (hi - lo) (c - lo)) w := by
  cases hq : P.info? E with
  | none => simp [hq] at hs
  | some i =>
    have hsz : i.size = size := by simpa [hq] using hs
    have a1 : (0 : Int) ≤ hi ∧ (hi : Int) ≤ c := by omega
    have a2 : (0 : Int) ≤ lo ∧ (lo : Int) ≤ hi := by omega
    rcases hlo with ⟨rfl, rfl⟩ | rfl <;> rcases hhi with ⟨rfl, rfl⟩ | rfl <;>
      simp [Instr.slice, Instr.sliceBounds, Instr.sliceBound, run_underlying hT, sizeOf, typeInfo, program, hq, hsz, asIntOf, h1, h2, slAt, Sem.run, Sem.run_bind, Sem.run_pure, Result.andThen_ok]
end Go.Proofs.Ytpegfbdepgmbjaa
