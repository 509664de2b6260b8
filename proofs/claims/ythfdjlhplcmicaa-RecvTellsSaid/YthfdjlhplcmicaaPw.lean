/- Recv: plain laws: two items swapped; what is acknowledged. -/
import Derived.Test.YthfdjlhplcmicaaPz
namespace Go.Proofs.Ythfdjlhplcmicaa
set_option linter.unusedVariables false
set_option linter.unusedSimpArgs false

abbrev Srt (M : List It) : Prop := M.Pairwise (fun a b => a.1 < b.1)
theorem sorted_ext : ∀ {L M : List It}, Srt L → Srt M → (∀ y, y ∈ L ↔ y ∈ M) → L = M
  | [], [], _, _, _ => rfl
  | [], y :: M, _, _, h => by have := (h y).2 (List.mem_cons_self ..); cases this
  | y :: L, [], _, _, h => by have := (h y).1 (List.mem_cons_self ..); cases this
  | y :: L, z :: M, hL, hM, h => by
    have hL' := List.pairwise_cons.1 hL
    have hM' := List.pairwise_cons.1 hM
    have e : y = z := by
      rcases List.mem_cons.1 ((h y).1 (List.mem_cons_self ..)) with e | e
      · exact e
      · rcases List.mem_cons.1 ((h z).2 (List.mem_cons_self ..)) with e2 | e2
        · exact e2.symm
        · have := hM'.1 y e; have := hL'.1 z e2; omega
    subst e
    rw [sorted_ext hL'.2 hM'.2 fun u => ?_]
    constructor
    · intro hu
      rcases List.mem_cons.1 ((h u).1 (List.mem_cons_of_mem _ hu)) with e | e
      · subst e; have := hL'.1 _ hu; omega
      · exact e
    · intro hu
      rcases List.mem_cons.1 ((h u).2 (List.mem_cons_of_mem _ hu)) with e | e
      · subst e; have := hM'.1 _ hu; omega
      · exact e
theorem ins_cons_lt {z y : It} {M : List It} (h : z.1 < y.1) : insI (z :: M) y = z :: insI M y := by
  unfold insI
  rw [List.filter_cons, List.filter_cons, if_pos (by simp; omega), if_neg (by simp; omega)]
  rfl
/-- what is put in behind is as what was put in ahead -/
theorem pop_ins : ∀ (M : List It) (n : Int) (y : It), n ≤ y.1 → (∀ z ∈ M, z.1 ≠ y.1) →
    popF n (insI M y) = ((popF (popF n M).1.1 (insI (popF n M).1.2 y)).1, (popF n M).2 ++ (popF (popF n M).1.1 (insI (popF n M).1.2 y)).2)
  | [], n, y, _, _ => by simp [popF]
  | z :: M, n, y, h1, h2 => by
    by_cases h : z.1 = n
    · have hne := h2 z (List.mem_cons_self ..)
      rw [ins_cons_lt (by omega), popF_go h, popF_go h, pop_ins M (n + 1) y (by omega) fun u hu => h2 u (List.mem_cons_of_mem _ hu)]
      simp
    · rw [popF_stop h]
      simp
theorem pop_mem : ∀ (M : List It) (n : Int), (∀ z, z ∈ (popF n M).1.2 → z ∈ M) ∧ (∀ z ∈ M, z ∈ (popF n M).1.2 ∨ z.1 < (popF n M).1.1) ∧ (∀ q, n ≤ q → q < (popF n M).1.1 → ∃ z ∈ M, z.1 = q) ∧ n ≤ (popF n M).1.1
  | [], n => by
    refine ⟨fun z hz => hz, fun z hz => (by cases hz), fun q h1 h2 => ?_, Int.le_refl _⟩
    simp only [popF] at h2
    omega
  | y :: M, n => by
    by_cases h : y.1 = n
    · obtain ⟨a1, a2, a3, a4⟩ := pop_mem M (n + 1)
      rw [popF_go h]
      refine ⟨fun z hz => List.mem_cons_of_mem _ (a1 z hz), fun z hz => ?_, fun q h1 h2 => ?_, by simp only; omega⟩
      · rcases List.mem_cons.1 hz with rfl | hz
        · right; simp only; omega
        · exact a2 z hz
      · by_cases e : q = n
        · exact ⟨y, List.mem_cons_self .., by omega⟩
        · obtain ⟨z, hz, e2⟩ := a3 q (by omega) h2
          exact ⟨z, List.mem_cons_of_mem _ hz, e2⟩
    · rw [popF_stop h]
      refine ⟨fun z hz => hz, fun z hz => .inl hz, fun q h1 h2 => ?_, Int.le_refl _⟩
      simp only at h2
      omega
section
variable {n : Int} {L : List It} {x y : It}
theorem shut_iff (hR : RightL n L) (h8 : y.1 < n + 8) : ShutP n L y ↔ y.1 < n ∨ 1073741824 ≤ y.1 ∨ ∃ z ∈ L, z.1 = y.1 := by
  unfold ShutP
  rw [show rightF n L = true from decide_eq_true hR, has_iff]
  constructor
  · rintro (e | e | e | e | e)
    · cases e
    · exact .inl e
    · omega
    · exact .inr (.inl e)
    · exact .inr (.inr e)
  · rintro (e | e | e)
    · exact .inr (.inl e)
    · exact .inr (.inr (.inr (.inl e)))
    · exact .inr (.inr (.inr (.inr e)))
theorem shut_keep (hR : RightL n L) (hne : x.1 ≠ y.1) (hy : y.1 < n + 8) : ShutP (takeF n L x).1.1 (takeF n L x).1.2 y ↔ ShutP n L y := by
  by_cases hx : ShutP n L x
  · rw [take_shut hx]
  · have hR2 := right_take (x := x) hR
    obtain ⟨a1, a2, a3, a4⟩ := pop_mem (insI L x) n
    rw [take_go hx] at hR2 ⊢
    rw [shut_iff hR2 (by omega), shut_iff hR hy]
    constructor
    · rintro (e | e | ⟨z, hz, e⟩)
      · by_cases hlt : y.1 < n
        · exact .inl hlt
        · obtain ⟨z, hz, e2⟩ := a3 y.1 (by omega) e
          rcases ins_mem.1 hz with rfl | hz
          · exact absurd e2 hne
          · exact .inr (.inr ⟨z, hz, e2⟩)
      · exact .inr (.inl e)
      · rcases ins_mem.1 (a1 z hz) with rfl | hz
        · exact absurd e hne
        · exact .inr (.inr ⟨z, hz, e⟩)
    · rintro (e | e | ⟨z, hz, e⟩)
      · left; omega
      · exact .inr (.inl e)
      · rcases a2 z (ins_mem.2 (.inr hz)) with h | h
        · exact .inr (.inr ⟨z, h, e⟩)
        · left; omega
theorem take_two (hR : RightL n L) (hne : x.1 ≠ y.1) (hy8 : y.1 < n + 8) (hx : ¬ ShutP n L x) (hy : ¬ ShutP n L y) :
    ((takeF (takeF n L x).1.1 (takeF n L x).1.2 y).1, (takeF n L x).2 ++ (takeF (takeF n L x).1.1 (takeF n L x).1.2 y).2) = popF n (insI (insI L x) y) := by
  have hk := fun h => hy ((shut_keep hR hne hy8).1 h)
  obtain ⟨_, h1, _, _, h4⟩ := open_facts hy
  rw [has_no] at h4
  have hm : ∀ z ∈ insI L x, z.1 ≠ y.1 := fun z hz => by
    rcases ins_mem.1 hz with rfl | hz
    · exact hne
    · exact h4 z hz
  rw [take_go hk, take_go hx, ← pop_ins (insI L x) n y h1 hm]
theorem ins_comm (hS : Srt L) (hne : x.1 ≠ y.1) (hx : hasQ L x.1 = false) (hy : hasQ L y.1 = false) : insI (insI L x) y = insI (insI L y) x := by
  have a1 : hasQ (insI L x) y.1 = false := has_no.2 fun z hz => by
    rcases ins_mem.1 hz with rfl | hz
    · exact hne
    · exact has_no.1 hy z hz
  have a2 : hasQ (insI L y) x.1 = false := has_no.2 fun z hz => by
    rcases ins_mem.1 hz with rfl | hz
    · exact Ne.symm hne
    · exact has_no.1 hx z hz
  refine sorted_ext (ins_sorted (ins_sorted hS hx) a1) (ins_sorted (ins_sorted hS hy) a2) fun z => ?_
  rw [ins_mem, ins_mem, ins_mem, ins_mem]
  constructor
  · rintro (h | h | h)
    · exact .inr (.inl h)
    · exact .inl h
    · exact .inr (.inr h)
  · rintro (h | h | h)
    · exact .inr (.inl h)
    · exact .inl h
    · exact .inr (.inr h)
theorem take_swap (hR : RightL n L) (hne : x.1 ≠ y.1) (hx8 : x.1 < n + 8) (hy8 : y.1 < n + 8) :
    ((takeF (takeF n L x).1.1 (takeF n L x).1.2 y).1, (takeF n L x).2 ++ (takeF (takeF n L x).1.1 (takeF n L x).1.2 y).2) =
    ((takeF (takeF n L y).1.1 (takeF n L y).1.2 x).1, (takeF n L y).2 ++ (takeF (takeF n L y).1.1 (takeF n L y).1.2 x).2) := by
  have kx := shut_keep (x := x) (y := y) hR hne hy8
  have ky := shut_keep (x := y) (y := x) hR (Ne.symm hne) hx8
  by_cases hx : ShutP n L x <;> by_cases hy : ShutP n L y
  · rw [take_shut (kx.2 hy), take_shut (ky.2 hx), take_shut hx, take_shut hy]
  · rw [take_shut (ky.2 hx), take_shut hx]; simp
  · rw [take_shut (kx.2 hy), take_shut hy]; simp
  · rw [take_two hR hne hy8 hx hy, take_two hR (Ne.symm hne) hx8 hy hx, ins_comm hR.2.2.1 hne (open_facts hx).2.2.2.2 (open_facts hy).2.2.2.2]
end
theorem bit_step : ∀ e : Fin 7, ∀ s : Fin 64, ∀ m : Fin 7, s.1 < 2 ^ e.1 → ((s.1 + 2 ^ e.1) / 2 ^ m.1 % 2 = 1 ↔ (m.1 = e.1 ∨ s.1 / 2 ^ m.1 % 2 = 1)) := by decide +kernel
theorem ack_bits {n : Int} {L : List It} (h : RightL n L) (m : Nat) (hm : m < 7) : ∀ k, k ≤ L.length → (ackS n (L.take k) / 2 ^ m % 2 = 1 ↔ ∃ y ∈ L.take k, y.1 = n + 1 + m)
  | 0, _ => by simp [ackS]
  | k + 1, hk => by
    have hy : L[k]? = some L[k] := List.getElem?_eq_getElem (by omega)
    have hb := ack_bound h hy
    have hr := h.2.2.2 _ (List.getElem_mem (l := L) (n := k) (by omega))
    have ih := ack_bits h m hm k (by omega)
    obtain ⟨e, he⟩ : ∃ e : Nat, (L[k].1 - n - 1).toNat = e := ⟨_, rfl⟩
    have he6 : e < 7 := by omega
    rw [ack_next n hy, he]
    rw [he] at hb
    have h64 := pow_le (q := e) (by omega)
    rw [bit_step ⟨e, he6⟩ ⟨ackS n (L.take k), by omega⟩ ⟨m, hm⟩ hb, ih, List.take_succ_eq_append_getElem (by omega)]
    constructor
    · rintro (e1 | ⟨y, hy, e1⟩)
      · exact ⟨_, List.mem_append_right _ (List.mem_singleton.2 rfl), by simp only at e1; omega⟩
      · exact ⟨y, List.mem_append_left _ hy, e1⟩
    · rintro ⟨y, hy, e1⟩
      rcases List.mem_append.1 hy with hy | hy
      · exact .inr ⟨y, hy, e1⟩
      · left
        rw [List.mem_singleton.1 hy] at e1
        simp only
        omega
theorem ack_128 {n : Int} {L : List It} (h : RightL n L) : ackS n L < 128 := by
  have := ack_lt h L.length 7 (Nat.le_refl _) fun j y hj hy => by
    have := h.2.2.2 y (List.mem_of_getElem? hy)
    omega
  rwa [List.take_length] at this
/-- what is acknowledged is what has come -/
theorem had_may {n : Int} {L : List It} {x : It} (hR : RightL n L) : (x.1 < (takeF n L x).1.1 ∨ ∃ y ∈ (takeF n L x).1.2, y.1 = x.1) ↔ (x.1 < n ∨ (x.1 - n < 8 ∧ x.1 < 1073741824)) := by
  by_cases h : ShutP n L x
  · rw [take_shut h]
    constructor
    · rintro (e | ⟨y, hy, e⟩)
      · exact .inl e
      · have := hR.2.2.2 y hy
        right; omega
    · rintro (e | e)
      · exact .inl e
      · by_cases hlt : x.1 < n
        · exact .inl hlt
        · unfold ShutP at h
          rw [show rightF n L = true from decide_eq_true hR, has_iff] at h
          rcases h with h | h | h | h | h
          · cases h
          · exact .inl h
          · omega
          · omega
          · exact .inr h
  · have hf := open_facts h
    rw [take_go h]
    constructor
    · intro _; right; omega
    · intro _
      rcases (pop_mem (insI L x) n).2.1 x (ins_mem.2 (.inl rfl)) with h2 | h2
      · exact .inr ⟨x, h2, rfl⟩
      · exact .inl h2
/-- the same item again -/
theorem take_again {n : Int} {L : List It} {x : It} (hR : RightL n L) : takeF (takeF n L x).1.1 (takeF n L x).1.2 x = ((takeF n L x).1, []) := by
  by_cases h : ShutP n L x
  · rw [take_shut h, take_shut h]
  · refine take_shut ?_
    rw [take_go h]
    rcases (pop_mem (insI L x) n).2.1 x (ins_mem.2 (.inl rfl)) with h2 | h2
    · exact .inr (.inr (.inr (.inr (has_iff.2 ⟨x, h2, rfl⟩))))
    · exact .inr (.inl h2)
end Go.Proofs.Ythfdjlhplcmicaa
