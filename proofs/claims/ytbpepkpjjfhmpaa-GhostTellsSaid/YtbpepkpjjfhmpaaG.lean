/- The ghost in plain Lean: what a look changes. -/
import Derived.Test.YtbpepkpjjfhmpaaSm
namespace Go.Proofs.Ytbpepkpjjfhmpaa
open Go.RowKit Go.Maps
set_option linter.unusedVariables false
set_option linter.unusedSimpArgs false

theorem ci_set_eq {B : List Int} {i : Nat} (x : Int) (h : i < B.length) : ci (B.set i x) i = x := by
  simp [ci, List.getD_eq_getElem?_getD, h]
theorem lastS_len (last : List Int) (u : Nat) (x : Nt) : (lastS last u x).length = last.length := by simp [lastS]
theorem lastF_nat (last : List Int) (u : Nat) (h1 : 1 ≤ u) (h2 : u ≤ 16) : lastF last u = (ci last (u*4), ci last (u*4+1), ci last (u*4+2), ci last (u*4+3)) := by
  unfold lastF; rw [if_pos (by omega)]; simp
theorem noteF_nat (B : List Int) (u : Nat) (h1 : 1 ≤ u) (h2 : u ≤ 16) : noteF B u = ((u : Int), ci B (u*3), ci B (u*3+1), ci B (u*3+2)) := by
  unfold noteF; rw [if_pos (by omega)]; simp
theorem lastF_bad (last : List Int) (u : Int) (h : ¬ (1 ≤ u ∧ u ≤ 16)) : lastF last u = (0, 0, 0, 0) := by unfold lastF; rw [if_neg h]
theorem noteF_bad (B : List Int) (u : Int) (h : ¬ (1 ≤ u ∧ u ≤ 16)) : noteF B u = (0, 0, 0, 0) := by unfold noteF; rw [if_neg h]
theorem lastF_same (last : List Int) (u : Nat) (x : Nt) (hl : last.length = 68) (h1 : 1 ≤ u) (h2 : u ≤ 16) : lastF (lastS last u x) u = x := by
  rw [lastF_nat _ _ h1 h2]
  unfold lastS
  obtain ⟨a, b, c, d⟩ := x
  simp only
  rw [ci_set_ne _ (by omega), ci_set_ne _ (by omega), ci_set_ne _ (by omega), ci_set_eq _ (by omega)]
  rw [ci_set_ne _ (by omega), ci_set_ne _ (by omega), ci_set_eq _ (by simp; omega)]
  rw [ci_set_ne _ (by omega), ci_set_eq _ (by simp; omega)]
  rw [ci_set_eq _ (by simp; omega)]
theorem lastF_other (last : List Int) (u v : Nat) (x : Nt) (h : v ≠ u) : lastF (lastS last u x) v = lastF last v := by
  by_cases hv : 1 ≤ v ∧ v ≤ 16
  · rw [lastF_nat _ _ hv.1 hv.2, lastF_nat _ _ hv.1 hv.2]
    unfold lastS
    simp only [Prod.mk.injEq]
    refine ⟨?_, ?_, ?_, ?_⟩ <;> rw [ci_set_ne _ (by omega), ci_set_ne _ (by omega), ci_set_ne _ (by omega), ci_set_ne _ (by omega)]
  · rw [lastF_bad _ _ (by omega), lastF_bad _ _ (by omega)]

/-- what one user's part of a look may do -/
structure Step (B : List Int) (u : Nat) (G G1 : GS) : Prop where
  len : G1.last.length = G.last.length
  mlen : G1.many.length = G.many.length
  other : ∀ v : Nat, v ≠ u → lastF G1.last v = lastF G.last v ∧ ci G1.many v = ci G.many v
  had : ∀ x ∈ G.had, x ∈ G1.had
  wrong : G.wrong = true → G1.wrong = true
  n : G1.n ≤ G.n + 1
  here : (lastF G1.last u = lastF G.last u ∧ ci G1.many u = ci G.many u) ∨
    (lastF G1.last u = noteF B u ∧ (lastF G.last u).2.1 < (noteF B u).2.1 ∧ ci G1.many u = ci G.many u + 1 ∧ noteF B u ∈ G1.had)
theorem lookS_step (B : List Int) (u : Nat) (G : GS) (hl : G.last.length = 68) (hm : G.many.length = 17) (h1 : 1 ≤ u) (h2 : u ≤ 16) : Step B u G (lookS B u G) := by
  unfold lookS
  split
  · rename_i hn
    have hv : (lastF G.last u).2.1 < (noteF B u).2.1 := by
      simp only [newer, Bool.and_eq_true, decide_eq_true_eq] at hn
      exact hn.2
    refine ⟨lastS_len _ _ _, by simp [seeS], fun v hv => ⟨lastF_other _ _ _ _ hv, ci_set_ne _ (fun e => hv e.symm)⟩, fun x hx => by simp [seeS, hx], fun h => h, Nat.le_refl _, .inr ⟨lastF_same _ _ _ hl h1 h2, hv, ci_set_eq _ (by omega), by simp [seeS]⟩⟩
  · split
    · exact ⟨rfl, rfl, fun v _ => ⟨rfl, rfl⟩, fun x hx => hx, fun h => h, by omega, .inl ⟨rfl, rfl⟩⟩
    · exact ⟨rfl, rfl, fun v _ => ⟨rfl, rfl⟩, fun x hx => hx, fun h => rfl, by simp only []; omega, .inl ⟨rfl, rfl⟩⟩

/-- what a look at all users up to k may do -/
structure Steps (B : List Int) (k : Nat) (G G1 : GS) : Prop where
  len : G1.last.length = G.last.length
  mlen : G1.many.length = G.many.length
  other : ∀ v : Nat, k < v ∨ v = 0 → lastF G1.last v = lastF G.last v ∧ ci G1.many v = ci G.many v
  had : ∀ x ∈ G.had, x ∈ G1.had
  wrong : G.wrong = true → G1.wrong = true
  n : G1.n ≤ G.n + k
  here : ∀ u : Nat, 1 ≤ u → u ≤ k → (lastF G1.last u = lastF G.last u ∧ ci G1.many u = ci G.many u) ∨
    (lastF G1.last u = noteF B u ∧ (lastF G.last u).2.1 < (noteF B u).2.1 ∧ ci G1.many u = ci G.many u + 1 ∧ noteF B u ∈ G1.had)
theorem lookK_steps (B : List Int) (G : GS) (hl : G.last.length = 68) (hm : G.many.length = 17) : ∀ k, k ≤ 16 → Steps B k G (lookK B G k)
  | 0, _ => ⟨rfl, rfl, fun v _ => ⟨rfl, rfl⟩, fun x hx => hx, fun h => h, Nat.le_refl _, fun u h1 h2 => by omega⟩
  | k + 1, hk => by
    have ih := lookK_steps B G hl hm k (by omega)
    have st := lookS_step B (k + 1) (lookK B G k) (ih.len.trans hl) (ih.mlen.trans hm) (by omega) (by omega)
    refine ⟨st.len.trans ih.len, st.mlen.trans ih.mlen, fun v hv => ?_, fun x hx => st.had x (ih.had x hx), fun h => st.wrong (ih.wrong h), by have := ih.n; have := st.n; unfold lookK; omega, fun u h1 h2 => ?_⟩
    · have a := st.other v (by omega)
      have b := ih.other v (by omega)
      exact ⟨a.1.trans b.1, a.2.trans b.2⟩
    · by_cases e : u = k + 1
      · subst e
        have b := ih.other (k + 1) (by omega)
        have := st.here
        rw [b.1, b.2] at this
        exact this
      · have a := st.other u e
        unfold lookK
        rw [a.1, a.2]
        rcases ih.here u h1 (by omega) with h | h
        · exact .inl h
        · exact .inr ⟨h.1, h.2.1, h.2.2.1, st.had _ h.2.2.2⟩

/-- the ghost is right after k looks -/
structure GOK (G : GS) (k : Nat) : Prop where
  len : G.last.length = 68
  mlen : G.many.length = 17
  had : ∀ u : Nat, 1 ≤ u → u ≤ 16 → lastF G.last u ∈ G.had
  wf : ∀ u : Nat, 1 ≤ u → u ≤ 16 → NWF (lastF G.last u)
  many : ∀ u, u ≤ 16 → 0 ≤ ci G.many u ∧ ci G.many u ≤ 1 + k
  n : G.n ≤ 16 + 16 * k
theorem noteF_nwf {B : List Int} (hw : WF B) (u : Nat) (h1 : 1 ≤ u) (h2 : u ≤ 16) : NWF (noteF B u) := by
  rw [noteF_nat _ _ h1 h2]
  exact ⟨wf_mk (by simp only []; omega), wf_ci hw _, wf_ci hw _, wf_ci hw _⟩
theorem GOK.look {G : GS} {k : Nat} (h : GOK G k) {B : List Int} (hw : WF B) : GOK (lookK B G 16) (k + 1) := by
  have s := lookK_steps B G h.len h.mlen 16 (by omega)
  refine ⟨s.len.trans h.len, s.mlen.trans h.mlen, fun u h1 h2 => ?_, fun u h1 h2 => ?_, fun u h2 => ?_, by have := s.n; have := h.n; omega⟩
  · rcases s.here u h1 h2 with a | a
    · rw [a.1]; exact s.had _ (h.had u h1 h2)
    · rw [a.1]; exact a.2.2.2
  · rcases s.here u h1 h2 with a | a
    · rw [a.1]; exact h.wf u h1 h2
    · rw [a.1]; exact noteF_nwf hw u h1 h2
  · have hm := h.many u h2
    by_cases h1 : 1 ≤ u
    · rcases s.here u h1 h2 with a | a
      · rw [a.2]; omega
      · rw [a.2.2.1]; omega
    · have := (s.other u (by omega)).2
      rw [this]; omega
def gokB (G : GS) : Bool := decide (G.last.length = 68) && decide (G.many.length = 17) && ((List.range 17).all fun u => u == 0 || (decide (lastF G.last u ∈ G.had) && nwfB [lastF G.last u])) && ((List.range 17).all fun u => decide (0 ≤ ci G.many u ∧ ci G.many u ≤ 1)) && decide (G.n ≤ 16)
theorem G0_ok : GOK G0 0 := by
  have h : gokB G0 = true := by decide +kernel
  simp only [gokB, Bool.and_eq_true, decide_eq_true_eq, List.all_eq_true, List.mem_range, Bool.or_eq_true, beq_iff_eq] at h
  obtain ⟨⟨⟨⟨h1, h2⟩, h3⟩, h4⟩, h5⟩ := h
  refine ⟨h1, h2, fun u a b => ?_, fun u a b => ?_, fun u a => ?_, by omega⟩
  · have := h3 u (by omega)
    rcases this with e | e
    · omega
    · exact e.1
  · have := h3 u (by omega)
    rcases this with e | e
    · omega
    · exact nwf_small _ e.2 _ (by simp)
  · have := h4 u (by omega); omega
end Go.Proofs.Ytbpepkpjjfhmpaa
