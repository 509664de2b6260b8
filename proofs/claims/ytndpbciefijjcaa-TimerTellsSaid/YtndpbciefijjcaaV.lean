/- Timer: plain laws of what is due, for the stage's theorem. -/
import Derived.Test.YtndpbciefijjcaaU
namespace Go.Proofs.Ytndpbciefijjcaa
open Go.RowKit
set_option linter.unusedVariables false
set_option linter.unusedSimpArgs false

/-- both numbers of each timer are numbers -/
def LWF (L : List Tm) : Prop := ∀ x ∈ L, (Lit.int .i64 x.1).wf = true ∧ (Lit.int .i64 x.2).wf = true
theorem LWF.sub {L M : List Tm} (h : LWF L) (hs : M.Sublist L) : LWF M := fun x hx => h x (hs.subset hx)
theorem LWF.clr {L : List Tm} (h : LWF L) (id : Int) : LWF (clrF L id) := h.sub List.eraseP_sublist
theorem LWF.rest {L : List Tm} (h : LWF L) (now : Int) : LWF (dueRest L now) := h.sub (List.dropWhile_sublist _)
theorem LWF.set {L : List Tm} (h : LWF L) {id at' : Int} (h1 : (Lit.int .i64 id).wf = true) (h2 : (Lit.int .i64 at').wf = true) : LWF (setF L id at') := by
  unfold setF
  split
  · exact h.clr id
  · obtain ⟨A, B, e1, e2, _⟩ := ins_parts (clrF L id) (id, at')
    rw [e2]
    have hc := h.clr id
    rw [e1] at hc
    intro x hx
    rcases List.mem_append.1 hx with hx | hx
    · exact hc x (by simp [hx])
    · rcases List.mem_cons.1 hx with rfl | hx
      · exact ⟨h1, h2⟩
      · exact hc x (by simp [hx])
theorem wf_lo {x : Int} (h : (Lit.int .i64 x).wf = true) : -9223372036854775808 ≤ x ∧ x ≤ 9223372036854775807 := by
  have e1 : IntKind.i64.min = -9223372036854775808 := by decide
  have e2 : IntKind.i64.max = 9223372036854775807 := by decide
  simp only [Lit.wf, Bool.and_eq_true, decide_eq_true_eq, e1, e2] at h
  exact h
theorem due_len (L : List Tm) (now : Int) : (dueRest L now).length + (dueIds L now).length = L.length := by
  unfold dueRest dueIds
  have := congrArg List.length (List.takeWhile_append_dropWhile (p := fun x : Tm => decide (x.2 ≤ now)) (l := L))
  rw [List.length_append] at this
  rw [List.length_map]
  omega
theorem due_at {L : List Tm} {now : Int} {k : Nat} (hk : k < (dueIds L now).length) : ∃ y, L[k]? = some y ∧ (dueIds L now)[k]? = some y.1 ∧ y.2 ≤ now := by
  unfold dueIds at hk ⊢
  rw [List.length_map] at hk
  have hl := due_len L now
  have hmem := List.all_eq_true.1 (List.all_takeWhile (p := fun x : Tm => decide (x.2 ≤ now)) (l := L)) _ (List.getElem_mem hk)
  refine ⟨_, ?_, by rw [List.getElem?_map, List.getElem?_eq_getElem hk]; rfl, by simpa using hmem⟩
  conv => lhs; rw [← List.takeWhile_append_dropWhile (p := fun x : Tm => decide (x.2 ≤ now)) (l := L)]
  rw [List.getElem?_append_left hk, List.getElem?_eq_getElem hk]
theorem at_known {L : List Tm} (h : (L.map (·.1)).Nodup) {k : Nat} {y : Tm} (hy : L[k]? = some y) : atF L y.1 = y.2 ∧ hasF L y.1 = true := by
  have hm : y ∈ L := List.mem_of_getElem? hy
  refine ⟨?_, (hasF_iff L y.1).2 (List.mem_map_of_mem hm)⟩
  clear hy
  induction L with
  | nil => cases hm
  | cons z L ih =>
    rw [List.map_cons, List.nodup_cons] at h
    rcases List.mem_cons.1 hm with rfl | hm
    · simp [atF]
    · have hne : (z.1 == y.1) = false := by
        have : z.1 ≠ y.1 := fun e => h.1 (by rw [e]; exact List.mem_map_of_mem hm)
        simpa using this
      have := ih h.2 hm
      unfold atF at this ⊢
      rw [List.find?_cons, hne]
      exact this
/-- m is no later than what is due from k on -/
def LastOk (L : List Tm) (k : Nat) (m : Int) : Prop := ∀ j, k ≤ j → ∀ y, L[j]? = some y → m ≤ y.2
theorem last_first {L : List Tm} (h : LWF L) : LastOk L 0 (-9223372036854775808) := fun j _ y hy => (wf_lo (h y (List.mem_of_getElem? hy)).2).1
theorem last_next {L : List Tm} (h : L.Pairwise Lt) {k : Nat} {y : Tm} (hy : L[k]? = some y) : LastOk L (k + 1) y.2 := by
  intro j hj z hz
  obtain ⟨h1, rfl⟩ := List.getElem?_eq_some_iff.1 hy
  obtain ⟨h2, rfl⟩ := List.getElem?_eq_some_iff.1 hz
  have := List.pairwise_iff_getElem.1 h k j h1 h2 (by omega)
  unfold Lt at this
  omega
theorem rest_first {L : List Tm} {now : Int} : (dueRest L now = [] ∨ ∃ y M, dueRest L now = y :: M ∧ now < y.2) := by
  cases h : dueRest L now with
  | nil => exact .inl rfl
  | cons y M =>
    refine .inr ⟨y, M, rfl, ?_⟩
    have := List.head?_dropWhile_not (fun x : Tm => decide (x.2 ≤ now)) L
    have e : L.dropWhile (fun x : Tm => decide (x.2 ≤ now)) = y :: M := h
    rw [e] at this
    simp at this
    exact this
/-- acts -/
abbrev Ac := Int × Int × Int
abbrev encA (x : Ac) : List Int := [x.1, x.2.1, x.2.2]
theorem encA_len (x : Ac) : (encA x).length = 3 := rfl
def AWF (V : List Ac) : Prop := ∀ x ∈ V, (Lit.int .i64 x.1).wf = true ∧ (Lit.int .i64 x.2.1).wf = true ∧ (Lit.int .i64 x.2.2).wf = true
end Go.Proofs.Ytndpbciefijjcaa
