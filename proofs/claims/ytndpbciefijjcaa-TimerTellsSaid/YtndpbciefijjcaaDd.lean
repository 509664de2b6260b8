/- Timer: the document's answers are the program's, where a row is right (no walk in sight). -/
import Derived.Test.YtndpbciefijjcaaDc
namespace Go.Proofs.Ytndpbciefijjcaa
open Go.RowKit
set_option linter.unusedVariables false
set_option linter.unusedSimpArgs false

theorem wth_eq {L : List Tm} {id : Int} (h : (L.map (·.1)).Nodup) : wthF L id = clrF L id := by
  induction L with
  | nil => rfl
  | cons y L ih =>
    rw [List.map_cons, List.nodup_cons] at h
    unfold wthF clrF at ih ⊢
    by_cases e : y.1 = id
    · subst e
      rw [List.filter_cons_of_neg (by simp), List.eraseP_cons_of_pos (by simp)]
      refine List.filter_eq_self.2 fun x hx => ?_
      have : x.1 ≠ y.1 := fun e2 => h.1 (by rw [← e2]; exact List.mem_map_of_mem hx)
      simpa using this
    · rw [List.filter_cons_of_pos (by simpa using e), List.eraseP_cons_of_neg (by simpa using e), ih h.2]
theorem rins_eq (M : List Tm) (x : Tm) : rinsF M x = insF M x := by
  have : (fun y => lessB y x) = fun y => decide (ordF y x < 0) := by
    funext y
    unfold lessB
    rw [Bool.eq_iff_iff, decide_eq_true_iff, decide_eq_true_iff, ord_lt]
  unfold rinsF insF
  rw [this]
theorem rset_eq {L : List Tm} {id at' : Int} (h : (L.map (·.1)).Nodup) : rsetF L id at' = setF L id at' := by
  unfold rsetF setF
  rw [wth_eq h, rins_eq]
theorem rok_eq {L : List Tm} {id : Int} (h : (L.map (·.1)).Nodup) : decide ((wthF L id).length < 64) = setOk L id := by
  unfold setOk
  rw [wth_eq h]
theorem rclr_eq {L : List Tm} {id : Int} (h : (L.map (·.1)).Nodup) : decide ((wthF L id).length < L.length) = hasF L id := by
  rw [wth_eq h, clr_length]
  cases hh : hasF L id
  · simp
  · cases L with
    | nil => cases hh
    | cons _ _ => simp
theorem rd_eq {L : List Tm} (h : L.Pairwise Lt) (now : Int) : rdF L now = dueRest L now ∧ roF L now = dueIds L now := by
  induction L with
  | nil => exact ⟨rfl, rfl⟩
  | cons y L ih =>
    rw [List.pairwise_cons] at h
    have ih := ih h.2
    unfold rdF dueRest roF dueIds at ih ⊢
    by_cases hy : y.2 ≤ now
    · have hn : ¬ now < y.2 := by omega
      rw [List.filter_cons_of_neg (by simpa using hy), List.dropWhile_cons_of_pos (by simpa using hy), List.filter_cons_of_pos (by simpa using hy), List.takeWhile_cons_of_pos (by simpa using hy), ih.1, List.map_cons, List.map_cons, ih.2]
      exact ⟨rfl, rfl⟩
    · have hn : now < y.2 := by omega
      have hall : ∀ x ∈ L, now < x.2 := fun x hx => by have := h.1 x hx; unfold Lt at this; omega
      rw [List.filter_cons_of_pos (by simpa using hn), List.dropWhile_cons_of_neg (by simpa using hn), List.filter_cons_of_neg (by simpa using hn), List.takeWhile_cons_of_neg (by simpa using hn)]
      refine ⟨by rw [List.filter_eq_self.2 (fun x hx => by simpa using hall x hx)], ?_⟩
      have : L.filter (fun x => decide (x.2 ≤ now)) = [] := List.filter_eq_nil_iff.2 fun x hx => by have := hall x hx; simp; omega
      rw [this]
theorem own_holds {w : World} {g n : Nat} {cur : Array Value} {L : List Tm} (hg : Block w g 40 cur) (hn : L.length = n) (htk : cur.toList.take (n * 2) = FV encT L) : Holds w (some ⟨g, 0, none⟩) (FV encT L) := by
  intro j hj
  refine ⟨g, 0, rfl, ?_⟩
  rw [Nat.zero_add, Block.cell hg, ← htk, List.getElem?_take, if_pos (by rw [FV_len encT_len, hn] at hj; exact hj)]
  simp
theorem setL_size : ∀ (vs : List Value) (C : Array Value) (o : Nat), (setL C o vs).size = C.size
  | [], _, _ => rfl
  | v :: vs, C, o => by unfold setL; rw [setL_size vs]; simp
end Go.Proofs.Ytndpbciefijjcaa
