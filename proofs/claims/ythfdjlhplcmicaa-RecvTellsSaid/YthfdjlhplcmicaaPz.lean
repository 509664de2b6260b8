/- Recv: plain laws (no walk in sight). -/
import Derived.Test.YthfdjlhplcmicaaOs
namespace Go.Proofs.Ythfdjlhplcmicaa
set_option linter.unusedVariables false
set_option linter.unusedSimpArgs false

theorem pop_spec : ∀ (M : List It) (n : Int), ∃ j : Nat, j ≤ M.length ∧ popF n M = ((n + j, M.drop j), (M.take j).map (·.2))
  | [], n => ⟨0, by simp, by simp [popF]⟩
  | y :: M, n => by
    by_cases h : y.1 = n
    · obtain ⟨j, hj, e⟩ := pop_spec M (n + 1)
      refine ⟨j + 1, by simp; omega, ?_⟩
      rw [popF_go h, e]
      simp
      omega
    · exact ⟨0, by simp, by rw [popF_stop h]; simp⟩
theorem pop_len (M : List It) (n : Int) : (popF n M).1.2.length + (popF n M).2.length = M.length ∧ (popF n M).1.1 = n + ((popF n M).2.length : Nat) := by
  obtain ⟨j, hj, e⟩ := pop_spec M n
  rw [e]
  simp
  omega
theorem right_pop : ∀ (M : List It) (n : Int), 1 ≤ n → n ≤ 1073741824 → M.Pairwise (fun a b => a.1 < b.1) → (∀ y ∈ M, n ≤ y.1 ∧ y.1 - n < 8 ∧ y.1 < 1073741824) → RightL (popF n M).1.1 (popF n M).1.2
  | [], n, h1, h2, _, _ => ⟨h1, h2, .nil, by simp [popF]⟩
  | y :: M, n, h1, h2, hp, hb => by
    have hy := hb y (List.mem_cons_self ..)
    have hp' := List.pairwise_cons.1 hp
    by_cases h : y.1 = n
    · rw [popF_go h]
      exact right_pop M (n + 1) (by omega) (by omega) hp'.2 fun z hz => by
        have a1 := hp'.1 z hz
        have a2 := hb z (List.mem_cons_of_mem _ hz)
        omega
    · rw [popF_stop h]
      show RightL n (y :: M)
      refine ⟨h1, h2, hp, fun z hz => ?_⟩
      rcases List.mem_cons.1 hz with rfl | hz
      · omega
      · have a1 := hp'.1 z hz
        have a2 := hb z (List.mem_cons_of_mem _ hz)
        omega
theorem ins_mem {L : List It} {x y : It} : y ∈ insI L x ↔ y = x ∨ y ∈ L := by
  unfold insI
  rw [List.mem_append, List.mem_cons, List.mem_filter, List.mem_filter]
  constructor
  · rintro (⟨h, _⟩ | rfl | ⟨h, _⟩)
    · exact .inr h
    · exact .inl rfl
    · exact .inr h
  · rintro (rfl | h)
    · exact .inr (.inl rfl)
    · by_cases e : x.1 < y.1
      · exact .inr (.inr ⟨h, by simp [e]⟩)
      · exact .inl ⟨h, by simp; omega⟩
theorem has_iff {L : List It} {q : Int} : hasQ L q = true ↔ ∃ y ∈ L, y.1 = q := by
  unfold hasQ
  rw [List.any_eq_true]
  simp
theorem has_no {L : List It} {q : Int} : hasQ L q = false ↔ ∀ y ∈ L, y.1 ≠ q := by
  unfold hasQ
  rw [List.any_eq_false]
  simp
theorem ins_sorted {L : List It} {x : It} (hS : L.Pairwise (fun a b => a.1 < b.1)) (hq : hasQ L x.1 = false) : (insI L x).Pairwise (fun a b => a.1 < b.1) := by
  rw [has_no] at hq
  unfold insI
  rw [List.pairwise_append, List.pairwise_cons]
  refine ⟨hS.filter _, ⟨fun y hy => ?_, hS.filter _⟩, fun y hy z hz => ?_⟩
  · have := (List.mem_filter.1 hy).2
    simpa using this
  · obtain ⟨h1, h2⟩ := List.mem_filter.1 hy
    have h2 := of_decide_eq_true h2
    have h3 := hq y h1
    rcases List.mem_cons.1 hz with rfl | hz
    · omega
    · have := (List.mem_filter.1 hz).2
      have := of_decide_eq_true this
      omega
section
variable {n : Int} {L : List It} {x : It}
theorem take_shut (h : ShutP n L x) : takeF n L x = ((n, L), []) := if_pos h
theorem take_go (h : ¬ ShutP n L x) : takeF n L x = popF n (insI L x) := if_neg h
theorem open_facts (h : ¬ ShutP n L x) : RightL n L ∧ n ≤ x.1 ∧ x.1 - n < 8 ∧ x.1 < 1073741824 ∧ hasQ L x.1 = false := by
  unfold ShutP at h
  refine ⟨of_decide_eq_true ?_, by omega, by omega, by omega, ?_⟩
  · cases e : rightF n L with
    | true => exact e
    | false => exact absurd (.inl e) h
  · cases e : hasQ L x.1 with
    | false => rfl
    | true => exact absurd (.inr (.inr (.inr (.inr e)))) h
theorem ins_range (h : ¬ ShutP n L x) : (insI L x).Pairwise (fun a b => a.1 < b.1) ∧ ∀ y ∈ insI L x, n ≤ y.1 ∧ y.1 - n < 8 ∧ y.1 < 1073741824 := by
  obtain ⟨hR, h1, h2, h3, h4⟩ := open_facts h
  refine ⟨ins_sorted hR.2.2.1 h4, fun y hy => ?_⟩
  rcases ins_mem.1 hy with rfl | hy
  · omega
  · have := hR.2.2.2 y hy; omega
theorem right_take (hR : RightL n L) : RightL (takeF n L x).1.1 (takeF n L x).1.2 := by
  by_cases h : ShutP n L x
  · rw [take_shut h]; exact hR
  · rw [take_go h]
    obtain ⟨h1, h2⟩ := ins_range h
    exact right_pop _ n hR.1 hR.2.1 h1 h2
theorem take_count (h : ¬ ShutP n L x) : (takeF n L x).1.2.length + (takeF n L x).2.length = L.length + 1 ∧ (takeF n L x).1.1 = n + ((takeF n L x).2.length : Nat) := by
  rw [take_go h]
  have := pop_len (insI L x) n
  rw [ins_len] at this
  exact this
theorem take_ne (h : ¬ ShutP n L x) : sameB (takeF n L x).1.1 (takeF n L x).1.2 n L = false := by
  obtain ⟨h1, h2⟩ := take_count h
  apply decide_eq_false
  rintro ⟨e1, e2⟩
  rw [e2] at h1
  omega
theorem same_refl : sameB n L n L = true := decide_eq_true ⟨rfl, rfl⟩
end
end Go.Proofs.Ythfdjlhplcmicaa
