/- Timer: plain laws of rows of timers (no walk in sight). -/
import Derived.Test.YtndpbciefijjcaaR
namespace Go.Proofs.Ytndpbciefijjcaa
set_option linter.unusedVariables false
set_option linter.unusedSimpArgs false

/-- stands ahead of -/
def Lt (a b : Tm) : Prop := a.2 < b.2 ∨ a.2 = b.2 ∧ a.1 < b.1
theorem ord_lt (a b : Tm) : ordF a b < 0 ↔ Lt a b := by
  unfold ordF orI cmpI Lt
  by_cases h1 : a.2 < b.2
  · simp [h1]
  · by_cases h2 : b.2 < a.2
    · simp only [h1, h2, if_true, if_false]; simp; omega
    · have e : a.2 = b.2 := by omega
      simp only [e, Int.lt_irrefl, if_false, if_true]
      by_cases h3 : a.1 < b.1
      · simp [h3]
      · by_cases h4 : b.1 < a.1
        · simp [h3, h4]
        · simp [h3, h4]
theorem Lt.trans {a b c : Tm} (h : Lt a b) (g : Lt b c) : Lt a c := by unfold Lt at *; omega
theorem Lt.irrefl (a : Tm) : ¬ Lt a a := by unfold Lt; omega
theorem Lt.total {a b : Tm} (h : ¬ Lt a b) (hne : a.1 ≠ b.1) : Lt b a := by unfold Lt at *; omega
def RightL (L : List Tm) : Prop := L.Pairwise Lt ∧ (L.map (·.1)).Nodup ∧ L.length ≤ 64
theorem sorted_of_steps : ∀ {L : List Tm}, (∀ j p y, L[j]? = some p → L[j + 1]? = some y → Lt p y) → L.Pairwise Lt
  | [], _ => .nil
  | [a], _ => by simp
  | a :: b :: L, h => by
    have ih : (b :: L).Pairwise Lt := sorted_of_steps (L := b :: L) fun j p y hp hy => h (j + 1) p y (by simpa using hp) (by simpa using hy)
    have hab : Lt a b := h 0 a b rfl rfl
    rw [List.pairwise_cons]
    refine ⟨fun y hy => ?_, ih⟩
    rcases List.mem_cons.1 hy with rfl | hy
    · exact hab
    · exact hab.trans ((List.pairwise_cons.1 ih).1 y hy)
theorem nodup_of_steps {L : List Tm} (h : ∀ (j : Nat) (y : Tm), L[j]? = some y → y.1 ∉ hadF L j) : (L.map (·.1)).Nodup := by
  rw [List.nodup_iff_pairwise_ne, List.pairwise_iff_getElem]
  intro i j hi hj hij e
  simp only [List.length_map] at hi hj
  simp only [List.getElem_map] at e
  refine h j L[j] (List.getElem?_eq_getElem hj) ?_
  unfold hadF
  rw [List.mem_reverse, List.mem_map]
  exact ⟨L[i], List.mem_take_iff_getElem.2 ⟨i, by omega, rfl⟩, e⟩
open Classical in
theorem right_iff (L : List Tm) : rightF L = true ↔ RightL L := by
  unfold rightF
  constructor
  · intro hd
    obtain ⟨h, hl⟩ := of_decide_eq_true hd
    refine ⟨sorted_of_steps fun j p y hp hy => ?_, nodup_of_steps fun j y hy => ?_, hl⟩
    · obtain ⟨_, h2⟩ := h (j + 1) y (List.getElem?_eq_some_iff.1 hy).1 hy
      rcases h2 with h2 | ⟨j', p', e, hp', hlt⟩
      · omega
      · obtain rfl : j = j' := by omega
        rw [hp] at hp'
        injection hp' with hp'
        subst hp'
        exact (ord_lt _ _).1 hlt
    · have := (h j y (List.getElem?_eq_some_iff.1 hy).1 hy).1
      simpa using this
  · rintro ⟨h1, h2, h3⟩
    apply decide_eq_true
    refine ⟨fun j y hj hy => ⟨?_, ?_⟩, h3⟩
    · rw [decide_eq_false_iff_not]
      intro hm
      unfold hadF at hm
      rw [List.mem_reverse, List.mem_map] at hm
      obtain ⟨p, hp, e⟩ := hm
      obtain ⟨i, hi, rfl⟩ := List.mem_take_iff_getElem.1 hp
      obtain ⟨hjl, e2⟩ := List.getElem?_eq_some_iff.1 hy
      rw [List.nodup_iff_pairwise_ne, List.pairwise_iff_getElem] at h2
      have := h2 i j (by simp; omega) (by simpa using hjl) (by omega)
      simp only [List.getElem_map] at this
      exact this (by rw [e, e2])
    · cases j with
      | zero => exact .inl rfl
      | succ j =>
        obtain ⟨hjl, e2⟩ := List.getElem?_eq_some_iff.1 hy
        refine .inr ⟨j, L[j], rfl, List.getElem?_eq_getElem (by omega), (ord_lt _ _).2 ?_⟩
        rw [← e2]
        exact List.pairwise_iff_getElem.1 h1 j (j + 1) (by omega) hjl (by omega)
theorem RightL.sub {L M : List Tm} (h : RightL L) (hs : M.Sublist L) : RightL M := ⟨h.1.sublist hs, h.2.1.sublist (hs.map _), Nat.le_trans hs.length_le h.2.2⟩
theorem RightL.clr {L : List Tm} (h : RightL L) (id : Int) : RightL (clrF L id) := h.sub List.eraseP_sublist
theorem RightL.rest {L : List Tm} (h : RightL L) (now : Int) : RightL (dueRest L now) := h.sub (List.dropWhile_sublist _)
theorem mono_of {L : List Tm} (h : L.Pairwise Lt) (x : Tm) : Mono L x := by
  intro q r hqr y z hy hz hlt
  by_cases e : q = r
  · subst e
    rw [hy] at hz
    injection hz with hz
    rw [hz]; exact hlt
  · obtain ⟨h1, rfl⟩ := List.getElem?_eq_some_iff.1 hy
    obtain ⟨h2, rfl⟩ := List.getElem?_eq_some_iff.1 hz
    exact (ord_lt _ _).2 ((List.pairwise_iff_getElem.1 h q r h1 h2 (by omega)).trans ((ord_lt _ _).1 hlt))
theorem hasF_iff (L : List Tm) (id : Int) : hasF L id = true ↔ id ∈ L.map (·.1) := by
  unfold hasF
  rw [List.any_eq_true, List.mem_map]
  simp
theorem hasF_no {L : List Tm} {id : Int} : hasF L id = false ↔ ∀ x ∈ L, x.1 ≠ id := by
  unfold hasF
  rw [List.any_eq_false]
  simp
theorem tw_dw (M : List Tm) (x : Tm) : M.takeWhile (fun y => decide (ordF y x < 0)) ++ M.dropWhile (fun y => decide (ordF y x < 0)) = M := List.takeWhile_append_dropWhile
theorem ins_parts (M : List Tm) (x : Tm) : ∃ A B, M = A ++ B ∧ insF M x = A ++ x :: B ∧ (∀ y ∈ A, Lt y x) ∧ (∀ y, B.head? = some y → ¬ Lt y x) := by
  refine ⟨_, _, (tw_dw M x).symm, rfl, fun y hy => ?_, fun y hy => ?_⟩
  · have := List.all_eq_true.1 (List.all_takeWhile (p := fun y => decide (ordF y x < 0)) (l := M)) y hy
    exact (ord_lt _ _).1 (by simpa using this)
  · have := List.head?_dropWhile_not (fun y => decide (ordF y x < 0)) M
    rw [hy] at this
    intro hl
    simp [(ord_lt y x).2 hl] at this
theorem hasF_ins (M : List Tm) (x : Tm) (id : Int) : hasF (insF M x) id = (x.1 == id || hasF M id) := by
  obtain ⟨A, B, h1, h2, _⟩ := ins_parts M x
  rw [h2, h1]
  simp only [hasF, List.any_append, List.any_cons]
  cases A.any fun x => x.1 == id <;> simp
theorem at_ins_same {M : List Tm} {x : Tm} (h : hasF M x.1 = false) : atF (insF M x) x.1 = x.2 := by
  obtain ⟨A, B, h1, h2, _⟩ := ins_parts M x
  rw [h2]
  rw [hasF_no, h1] at h
  have : A.find? (fun y => y.1 == x.1) = none := List.find?_eq_none.2 fun y hy => by simpa using h y (by simp [hy])
  simp [atF, List.find?_append, this]
theorem at_ins_other {M : List Tm} {x : Tm} {id : Int} (h : x.1 ≠ id) : atF (insF M x) id = atF M id := by
  obtain ⟨A, B, h1, h2, _⟩ := ins_parts M x
  rw [h2, h1]
  have : (x.1 == id) = false := by simpa using h
  simp [atF, List.find?_append, List.find?_cons, this]
theorem clr_ins {M : List Tm} {x : Tm} (h : hasF M x.1 = false) : clrF (insF M x) x.1 = M := by
  obtain ⟨A, B, h1, h2, _⟩ := ins_parts M x
  rw [h2]
  rw [hasF_no, h1] at h
  have : ∀ y ∈ A, ¬ (y.1 == x.1) = true := fun y hy => by simpa using h y (by simp [hy])
  unfold clrF
  rw [List.eraseP_append_right _ this, List.eraseP_cons_of_pos (by simp), h1]
theorem clr_none {L : List Tm} {id : Int} (h : hasF L id = false) : clrF L id = L := by
  rw [hasF_no] at h
  exact List.eraseP_of_forall_not fun y hy => by simpa using h y hy
theorem clr_has {L : List Tm} {id : Int} (h : (L.map (·.1)).Nodup) : hasF (clrF L id) id = false := by
  induction L with
  | nil => rfl
  | cons y L ih =>
    rw [List.map_cons, List.nodup_cons] at h
    by_cases e : y.1 = id
    · subst e
      have : clrF (y :: L) y.1 = L := by unfold clrF; rw [List.eraseP_cons_of_pos (by simp)]
      rw [this, hasF_no]
      intro x hx e2
      exact h.1 (by rw [← e2]; exact List.mem_map_of_mem hx)
    · have : clrF (y :: L) id = y :: clrF L id := by unfold clrF; rw [List.eraseP_cons_of_neg (by simpa using e)]
      rw [this, hasF_no]
      intro x hx
      rcases List.mem_cons.1 hx with rfl | hx
      · exact e
      · exact hasF_no.1 (ih h.2) x hx
theorem clr_other {L : List Tm} {id o : Int} (h : id ≠ o) : hasF (clrF L id) o = hasF L o ∧ atF (clrF L id) o = atF L o := by
  induction L with
  | nil => exact ⟨rfl, rfl⟩
  | cons y L ih =>
    by_cases e : y.1 = id
    · subst e
      have : clrF (y :: L) y.1 = L := by unfold clrF; rw [List.eraseP_cons_of_pos (by simp)]
      have hb : (y.1 == o) = false := by simpa using h
      rw [this]
      simp [hasF, atF, List.find?_cons, hb]
    · have : clrF (y :: L) id = y :: clrF L id := by unfold clrF; rw [List.eraseP_cons_of_neg (by simpa using e)]
      rw [this]
      unfold hasF atF at ih ⊢
      rw [List.any_cons, List.any_cons, ih.1, List.find?_cons, List.find?_cons]
      refine ⟨rfl, ?_⟩
      cases y.1 == o
      · exact ih.2
      · rfl
theorem clr_length {L : List Tm} {id : Int} : (clrF L id).length = if hasF L id then L.length - 1 else L.length := by
  unfold clrF hasF
  rw [List.length_eraseP]
theorem ins_length (M : List Tm) (x : Tm) : (insF M x).length = M.length + 1 := by
  obtain ⟨A, B, h1, h2, _⟩ := ins_parts M x
  rw [h2, h1]
  simp
  omega
theorem RightL.ins {M : List Tm} {x : Tm} (h : RightL M) (hx : hasF M x.1 = false) (hl : M.length < 64) : RightL (insF M x) := by
  have hlen := ins_length M x
  obtain ⟨A, B, h1, h2, h3, h4⟩ := ins_parts M x
  rw [hasF_no, h1] at hx
  refine ⟨?_, ?_, by omega⟩
  · have hs := h.1
    rw [h1, List.pairwise_append] at hs
    rw [h2, List.pairwise_append]
    obtain ⟨ha, hb, hab⟩ := hs
    have hxb : ∀ y ∈ B, Lt x y := by
      cases B with
      | nil => intro y hy; cases hy
      | cons z B =>
        have hz : Lt x z := Lt.total (h4 z rfl) (hx z (by simp))
        intro y hy
        rcases List.mem_cons.1 hy with rfl | hy
        · exact hz
        · exact hz.trans ((List.pairwise_cons.1 hb).1 y hy)
    refine ⟨ha, List.pairwise_cons.2 ⟨hxb, hb⟩, fun a ha' b hb' => ?_⟩
    rcases List.mem_cons.1 hb' with rfl | hb'
    · exact h3 a ha'
    · exact hab a ha' b hb'
  · have hd := h.2.1
    rw [h1] at hd
    rw [h2]
    have hp : (A ++ x :: B).Perm (x :: (A ++ B)) := List.perm_middle
    rw [(hp.map _).nodup_iff, List.map_cons, List.nodup_cons]
    refine ⟨fun hm => ?_, hd⟩
    obtain ⟨y, hy, e⟩ := List.mem_map.1 hm
    exact hx y hy e
theorem RightL.set {L : List Tm} (h : RightL L) (id at' : Int) : RightL (setF L id at') := by
  unfold setF
  split
  · exact h.clr id
  · exact (h.clr id).ins (clr_has h.2.1) (by omega)
/-- Set, seen from the ID that is set -/
theorem set_same {L : List Tm} (h : RightL L) (id at' : Int) : hasF (setF L id at') id = setOk L id ∧ (setOk L id = true → atF (setF L id at') id = at') ∧ clrF (setF L id at') id = clrF L id := by
  have hc := clr_has (id := id) h.2.1
  unfold setF setOk
  by_cases hl : 64 ≤ (clrF L id).length
  · rw [if_pos hl, hc]
    refine ⟨by simp; omega, fun e => by simp at e; omega, clr_none hc⟩
  · rw [if_neg hl]
    exact ⟨by rw [hasF_ins]; simp; omega, fun _ => at_ins_same (x := (id, at')) hc, clr_ins (x := (id, at')) hc⟩
theorem set_other {L : List Tm} {id o at' : Int} (h : id ≠ o) : hasF (setF L id at') o = hasF L o ∧ atF (setF L id at') o = atF L o := by
  obtain ⟨h1, h2⟩ := clr_other (L := L) h
  unfold setF
  split
  · exact ⟨h1, h2⟩
  · rw [hasF_ins, at_ins_other (x := (id, at')) h, h1, h2]
    exact ⟨by simp [h], rfl⟩
theorem due_twice (L : List Tm) {now later : Int} (h : now ≤ later) : dueRest (dueRest L now) later = dueRest L later ∧ dueIds L now ++ dueIds (dueRest L now) later = dueIds L later := by
  induction L with
  | nil => exact ⟨rfl, rfl⟩
  | cons y L ih =>
    unfold dueRest dueIds at ih ⊢
    by_cases h1 : y.2 ≤ now
    · have h2 : y.2 ≤ later := by omega
      simp only [List.dropWhile_cons, List.takeWhile_cons, h1, h2, decide_true, if_true, List.map_cons, List.cons_append]
      exact ⟨ih.1, by rw [ih.2]⟩
    · simp [List.dropWhile_cons, List.takeWhile_cons, h1]
end Go.Proofs.Ytndpbciefijjcaa
