/- The ghost and the document's ghost go alike. -/
import Derived.Test.YtbpepkpjjfhmpaaD4
namespace Go.Proofs.Ytbpepkpjjfhmpaa
open Go.RowKit Go.Maps
set_option linter.unusedVariables false
set_option linter.unusedSimpArgs false

structure Rel (G : GS) (S : RS) : Prop where
  wrong : G.wrong = S.bad
  len : S.rows.length = 17
  glen : G.last.length = 68
  mlen : G.many.length = 17
  last : ∀ u : Nat, 1 ≤ u → u ≤ 16 → lastF G.last u = lastN (rowN S u)
  many : ∀ u : Nat, 1 ≤ u → u ≤ 16 → ci G.many u = (rowN S u).length
  had : ∀ x : Nt, x ∈ G.had ↔ (1 ≤ x.1 ∧ x.1 ≤ 16 ∧ x ∈ rowN S x.1.toNat)
  ne : ∀ u : Nat, 1 ≤ u → u ≤ 16 → rowN S u ≠ []
  usr : ∀ (u : Nat) (x : Nt), 1 ≤ u → u ≤ 16 → x ∈ rowN S u → x.1 = u
theorem lastN_mem {V : List Nt} (h : V ≠ []) : lastN V ∈ V := List.mem_of_getElem? (lastN_at h)
theorem lastN_snoc (V : List Nt) (x : Nt) : lastN (V ++ [x]) = x := by simp [lastN]
theorem rowN_set (S : RS) (u v : Nat) (V : List Nt) (b : Bool) (hl : S.rows.length = 17) (hu : u ≤ 16) : rowN ⟨S.rows.set u V, b⟩ v = if v = u then V else rowN S v := by
  unfold rowN
  simp only [List.getD_eq_getElem?_getD]
  by_cases e : v = u
  · subst e
    rw [List.getElem?_set_self (by omega), if_pos rfl]; rfl
  · rw [List.getElem?_set_ne (fun e' => e e'.symm), if_neg e]
theorem Rel.step {G : GS} {S : RS} (h : Rel G S) (B : List Int) (u : Nat) (h1 : 1 ≤ u) (h2 : u ≤ 16) : Rel (lookS B u G) (rlookS B u S) := by
  have hlu : (lastF G.last u).1 = u := by rw [h.last u h1 h2]; exact h.usr u _ h1 h2 (lastN_mem (h.ne u h1 h2))
  have hnu : (noteF B u).1 = u := by rw [noteF_nat _ _ h1 h2]
  have hnew : (newer (lastF G.last u).1 (lastF G.last u).2.1 (noteF B u).1 (noteF B u).2.1 = true) ↔ (lastN (rowN S u)).2.1 < (noteF B u).2.1 := by
    unfold newer
    rw [hlu, hnu, h.last u h1 h2]
    simp
  unfold lookS rlookS
  by_cases hv : (lastN (rowN S u)).2.1 < (noteF B u).2.1
  · rw [if_pos (hnew.2 hv), if_pos hv]
    have hr := fun v => rowN_set S u v (rowN S u ++ [noteF B u]) S.bad h.len h2
    refine ⟨h.wrong, by simpa using h.len, by simpa [seeS, lastS] using h.glen, by simpa [seeS] using h.mlen, fun v a b => ?_, fun v a b => ?_, fun x => ?_, fun v a b => ?_, fun v x a b hx => ?_⟩
    · rw [hr]
      by_cases e : v = u
      · subst e
        rw [if_pos rfl, lastN_snoc]
        exact lastF_same _ _ _ h.glen a b
      · rw [if_neg e]
        exact (lastF_other _ _ _ _ e).trans (h.last v a b)
    · rw [hr]
      show ci (G.many.set u _) v = _
      by_cases e : v = u
      · subst e
        rw [if_pos rfl, ci_set_eq _ (by rw [h.mlen]; omega), h.many v a b]
        simp
      · rw [if_neg e, ci_set_ne _ (fun e' => e e'.symm)]
        exact h.many v a b
    · show x ∈ noteF B u :: G.had ↔ _
      rw [List.mem_cons, h.had x, hr]
      constructor
      · rintro (rfl | ⟨a, b, c⟩)
        · rw [hnu]
          refine ⟨by omega, by omega, ?_⟩
          simp
        · refine ⟨a, b, ?_⟩
          by_cases e : x.1.toNat = u
          · rw [if_pos e, ← e]; exact List.mem_append_left _ c
          · rw [if_neg e]; exact c
      · rintro ⟨a, b, c⟩
        by_cases e : x.1.toNat = u
        · rw [if_pos e] at c
          rcases List.mem_append.1 c with c | c
          · exact .inr ⟨a, b, by rw [e]; exact c⟩
          · exact .inl (List.mem_singleton.1 c)
        · rw [if_neg e] at c
          exact .inr ⟨a, b, c⟩
    · rw [hr]
      split
      · simp
      · exact h.ne v a b
    · rw [hr] at hx
      split at hx
      · rename_i e
        subst e
        rcases List.mem_append.1 hx with hx | hx
        · exact h.usr v x a b hx
        · rw [List.mem_singleton.1 hx]; exact hnu
      · exact h.usr v x a b hx
  · rw [if_neg (fun e => hv (hnew.1 e)), if_neg hv, h.last u h1 h2]
    by_cases e : noteF B u = lastN (rowN S u)
    · rw [if_pos e, if_pos e]; exact h
    · rw [if_neg e, if_neg e]
      exact ⟨rfl, h.len, h.glen, h.mlen, h.last, h.many, h.had, h.ne, h.usr⟩
theorem Rel.look {G : GS} {S : RS} (h : Rel G S) (B : List Int) : ∀ k, k ≤ 16 → Rel (lookK B G k) (rlookK B S k)
  | 0, _ => h
  | k + 1, hk => (Rel.look h B k (by omega)).step B (k + 1) (by omega) hk
theorem rnew_rows : ((List.range 17).all fun u => u == 0 || decide (rowN (rnewK 16) u = [((u : Int), 0, 0, 0)])) = true := by decide +kernel
theorem rnew_row (u : Nat) (h1 : 1 ≤ u) (h2 : u ≤ 16) : rowN (rnewK 16) u = [((u : Int), 0, 0, 0)] := by
  have := List.all_eq_true.1 rnew_rows u (List.mem_range.2 (by omega))
  simp only [Bool.or_eq_true, beq_iff_eq, decide_eq_true_eq] at this
  rcases this with e | e
  · omega
  · exact e
def g0B : Bool := ((List.range 17).all fun u => u == 0 || (decide (lastF G0.last u = ((u : Int), 0, 0, 0)) && decide (ci G0.many u = 1) && decide (((u : Int), 0, 0, 0) ∈ G0.had))) && G0.had.all fun x => decide (1 ≤ x.1 ∧ x.1 ≤ 16 ∧ x = (x.1, 0, 0, 0))
theorem g0_all : g0B = true := by decide +kernel
theorem Rel.start : Rel G0 (rnewK 16) := by
  have hall := g0_all
  unfold g0B at hall
  rw [Bool.and_eq_true] at hall
  have hu : ∀ u : Nat, 1 ≤ u → u ≤ 16 → lastF G0.last u = ((u : Int), 0, 0, 0) ∧ ci G0.many u = 1 ∧ ((u : Int), 0, 0, 0) ∈ G0.had := by
    intro u a b
    have := List.all_eq_true.1 hall.1 u (List.mem_range.2 (by omega))
    simp only [Bool.or_eq_true, beq_iff_eq, Bool.and_eq_true, decide_eq_true_eq] at this
    rcases this with e | e
    · omega
    · exact ⟨e.1.1, e.1.2, e.2⟩
  refine ⟨by decide +kernel, by decide +kernel, by decide +kernel, by decide +kernel, fun u a b => ?_, fun u a b => ?_, fun x => ?_, fun u a b => ?_, fun u x a b hx => ?_⟩
  · rw [(hu u a b).1, rnew_row u a b]; rfl
  · rw [(hu u a b).2.1, rnew_row u a b]; rfl
  · constructor
    · intro hx
      have := List.all_eq_true.1 hall.2 x hx
      simp only [decide_eq_true_eq] at this
      refine ⟨this.1, this.2.1, ?_⟩
      rw [rnew_row _ (by omega) (by omega), show ((x.1.toNat : Nat) : Int) = x.1 by omega, ← this.2.2]
      simp
    · rintro ⟨a, b, c⟩
      rw [rnew_row _ (by omega) (by omega)] at c
      rw [List.mem_singleton.1 c]
      exact (hu x.1.toNat (by omega) (by omega)).2.2
  · rw [rnew_row u a b]; simp
  · rw [rnew_row u a b] at hx
    rw [List.mem_singleton.1 hx]
theorem Rel.lastE {G : GS} {S : RS} (h : Rel G S) (u : Int) : rlastF S u = lastF G.last u := by
  by_cases hu : 1 ≤ u ∧ u ≤ 16
  · obtain ⟨m, rfl⟩ : ∃ m : Nat, u = m := ⟨u.toNat, by omega⟩
    unfold rlastF
    rw [if_pos hu, h.last m (by omega) (by omega)]
    simp
  · unfold rlastF
    rw [if_neg hu, lastF_bad _ _ hu]
theorem Rel.manyE {G : GS} {S : RS} (h : Rel G S) (u : Int) : rmanyF S u = manyF G.many u := by
  unfold rmanyF manyF
  by_cases hu : 1 ≤ u ∧ u ≤ 16
  · rw [if_pos hu, if_pos hu, h.many u.toNat (by omega) (by omega)]
  · rw [if_neg hu, if_neg hu]
theorem Rel.hadE {G : GS} {S : RS} (h : Rel G S) (x : Nt) : rhadF S x = decide (x ∈ G.had) := by
  unfold rhadF
  rw [Bool.eq_iff_iff]
  simp only [Bool.and_eq_true, decide_eq_true_eq]
  rw [h.had x]
  exact ⟨fun ⟨⟨a, b⟩, c⟩ => ⟨a, b, c⟩, fun ⟨a, b, c⟩ => ⟨⟨a, b⟩, c⟩⟩
theorem Rel.fineE {G : GS} {S : RS} (h : Rel G S) (V : List Nt) : rfineF S V = fineF G V := by
  unfold rfineF fineF
  rw [h.wrong]
  have : V.all (rokF S) = !V.any (oddF G.had) := by
    induction V with
    | nil => rfl
    | cons x V ih =>
      rw [List.all_cons, List.any_cons, ih, Bool.not_or]
      congr 1
      unfold rokF oddF
      rw [h.hadE x]
      by_cases e : x = (0, 0, 0, 0) <;> simp [e]
  rw [this, Bool.and_comm]
theorem Rel.lastIn {G : GS} {S : RS} (h : Rel G S) (u : Int) (hu : 1 ≤ u ∧ u ≤ 16) : decide (lastF G.last u ∈ G.had) = true := by
  obtain ⟨m, rfl⟩ : ∃ m : Nat, u = m := ⟨u.toNat, by omega⟩
  rw [decide_eq_true_eq, h.had, h.last m (by omega) (by omega)]
  have hm := lastN_mem (h.ne m (by omega) (by omega))
  have e := h.usr m _ (by omega) (by omega) hm
  rw [e]
  exact ⟨by omega, by omega, by simpa using hm⟩
end Go.Proofs.Ytbpepkpjjfhmpaa
