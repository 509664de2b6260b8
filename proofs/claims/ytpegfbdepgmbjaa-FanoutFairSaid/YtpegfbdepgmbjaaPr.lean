/- Fanout: the plain law of fair turns. -/
import Derived.Test.YtpegfbdepgmbjaaPl
namespace Go.Proofs.Ytpegfbdepgmbjaa
open Go.RowKit Go.ChangeShapes Go.WideShapes Go.ChangeAt Go.Maps
set_option linter.unusedVariables false
set_option linter.unusedSimpArgs false

/-- a stands ahead of b, going up from r around -/
def klt (r a b : Int) : Prop := (r ≤ a ∧ b < r) ∨ (r ≤ a ∧ r ≤ b ∧ a < b) ∨ (a < r ∧ b < r ∧ a < b)
/-- the round that goes on: who is in it was told between its first one and the last one; who waits beside it comes behind the last one -/
def Rnd (M : List Mk) (R : List Int) (t : Int) (I : List Int) : Prop := I = [] ∨ ∃ r : Int, (∀ x ∈ I, ¬ klt r t x) ∧ ∀ y ∈ M, y.1 ∈ R → y.1 ∉ I → klt r t y.1
structure FairI (L : List Mk) (R : List Int) (M : List Mk) (t : Int) (I : List Int) (i lf : Nat) : Prop where
  len : M.length + i = L.length
  ids : (idsF M R).length + i = lf
  right : rightF M = true
  wf : ∀ y ∈ M, MWF y
  rng : -9223372036854775808 ≤ t ∧ t ≤ 9223372036854775807
  rnd : Rnd M R t I
  il : I.length ≤ i
theorem ids_keep (M : List Mk) (R : List Int) : (idsF M R).length = (keepF (fun y => !R.contains y.1) M).length := by
  unfold idsF keepF
  rw [List.length_map]
  simp
theorem ids_of {M : List Mk} {R : List Int} {y : Mk} (hy : y ∈ M) (hR : y.1 ∈ R) : y.1 ∈ idsF M R := by
  unfold idsF
  exact List.mem_map.2 ⟨y, List.mem_filter.2 ⟨hy, by simpa using hR⟩, rfl⟩
theorem fair_start {L : List Mk} {R : List Int} {t : Int} (hr : rightF L = true) (hw : ∀ y ∈ L, MWF y) (ht : -9223372036854775808 ≤ t ∧ t ≤ 9223372036854775807) : FairI L R L t [] 0 (idsF L R).length :=
  ⟨rfl, rfl, hr, hw, ht, .inl rfl, Nat.le_refl _⟩
theorem fair_step {L M M2 : List Mk} {R I : List Int} {t tt m1 m2 : Int} {b : Bool} {i lf : Nat} (h : FairI L R M t I i lf) (hi : i < lf) (hx : nextF M t R = ((M2, tt), ((m1, m2), b))) :
    b = true ∧ tt = m1 ∧ M2.length + 1 = M.length ∧ rightF M2 = true ∧ (m1 ∈ I → ∀ y ∈ M, y.1 ∈ R → y.1 ∈ I) ∧ (m1 ∉ I → FairI L R M2 m1 (I ++ [m1]) (i + 1) lf) ∧ (m1 ∈ I → FairI L R M2 m1 [m1] (i + 1) lf) := by
  rcases next_facts hx with ⟨rfl, rfl, rfl, rfl, rfl, he⟩ | ⟨rfl, j, hj, rfl, rfl, hR, hfst, hturn⟩
  · have := h.ids
    rw [he] at this
    simp at this
    omega
  · have hml := erase_len hj
    have hmem : (tt, m2) ∈ M := List.mem_of_getElem? hj
    obtain ⟨hnd, h512⟩ := of_decide_eq_true h.right
    have hr2 : rightF (M.eraseIdx j) = true := dec_t ⟨hnd.sublist (List.eraseIdx_sublist _ _), by omega⟩
    have hw2 : ∀ y ∈ M.eraseIdx j, MWF y := fun y hy => h.wf y (erase_mem hy)
    have hrng := wf_int (h.wf _ hmem).1
    have hids : (idsF (M.eraseIdx j) R).length + 1 = (idsF M R).length := by
      rw [ids_keep, ids_keep]
      exact keep_erase _ hj (by simpa using hR)
    obtain ⟨t1, t2, t3⟩ := hturn
    have hnew : Rnd (M.eraseIdx j) R tt [tt] := by
      refine .inr ⟨tt, fun x hx => ?_, fun y hy _ hne => ?_⟩
      · rw [List.mem_singleton.1 hx]; unfold klt; omega
      · have : ¬ y.1 = tt := fun e => hne (by rw [e]; exact List.mem_singleton.2 rfl)
        unfold klt; omega
    have hkey : ∀ r : Int, (∃ y ∈ M, y.1 ∈ R ∧ klt r t y.1) → klt r t tt ∧ ∀ y ∈ M, y.1 ∈ R → klt r t y.1 → ¬ y.1 = tt → klt r tt y.1 := by
      rintro r ⟨z, hz, hzR, hzk⟩
      have hzi := ids_of hz hzR
      have z2 := t2 _ hzi
      have hall : (∀ x ∈ idsF M R, x ≤ t) ∨ t < tt := by
        by_cases hc : ∀ x ∈ idsF M R, x ≤ t
        · exact .inl hc
        · right
          obtain ⟨x, hx, hlt⟩ : ∃ x ∈ idsF M R, t < x := by simpa using hc
          exact (t2 x hx hlt).1
      have hle : ∀ x ∈ idsF M R, (∀ x ∈ idsF M R, x ≤ t) → tt ≤ x ∧ tt ≤ t := fun x hx ha => ⟨t3 ha x hx, ha tt t1⟩
      refine ⟨?_, fun y hy hyR hyk hyne => ?_⟩
      · rcases hall with ha | ha
        · have := hle _ hzi ha
          have := ha _ hzi
          unfold klt at hzk ⊢
          omega
        · unfold klt at hzk ⊢
          by_cases hzt : t < z.1
          · have := z2 hzt; omega
          · omega
      · have hyi := ids_of hy hyR
        have y2 := t2 _ hyi
        rcases hall with ha | ha
        · have := hle _ hyi ha
          have := ha _ hyi
          unfold klt at hyk ⊢
          omega
        · unfold klt at hyk ⊢
          by_cases hyt : t < y.1
          · have := y2 hyt; omega
          · omega
    have hl := h.len
    have hi2 := h.ids
    have hil := h.il
    refine ⟨rfl, rfl, hml, hr2, fun hin y hy hyR => ?_, fun hnin => ⟨by omega, by omega, hr2, hw2, hrng, ?_, by simp; omega⟩, fun hin => ⟨by omega, by omega, hr2, hw2, hrng, hnew, by simp⟩⟩
    · rcases h.rnd with rfl | ⟨r, h1, h2⟩
      · cases hin
      · apply Classical.byContradiction
        intro hyI
        have := (hkey r ⟨y, hy, hyR, h2 y hy hyR hyI⟩).1
        exact h1 tt hin this
    · rcases h.rnd with rfl | ⟨r, h1, h2⟩
      · exact hnew
      · have hk := h2 _ hmem hR hnin
        have hk2 := hkey r ⟨_, hmem, hR, hk⟩
        simp only at hk
        refine .inr ⟨r, fun x hx => ?_, fun y hy hyR hyI => ?_⟩
        · rcases List.mem_append.1 hx with hx | hx
          · have := h1 x hx
            unfold klt at this hk ⊢
            omega
          · rw [List.mem_singleton.1 hx]; unfold klt; omega
        · have hyM := erase_mem hy
          have hy1 : y.1 ∉ I := fun e => hyI (List.mem_append_left _ e)
          have hy2 : ¬ y.1 = tt := fun e => hyI (by rw [e]; exact List.mem_append_right _ (List.mem_singleton.2 rfl))
          exact hk2.2 y hyM hyR (h2 y hyM hyR hy1) hy2
theorem fair_end {L M : List Mk} {R I : List Int} {t : Int} {lf : Nat} (h : FairI L R M t I lf lf) : idsF M R = [] ∧ M.length + lf = L.length := by
  refine ⟨?_, h.len⟩
  have := h.ids
  exact List.eq_nil_of_length_eq_zero (by omega)

end Go.Proofs.Ytpegfbdepgmbjaa
