/- Roster: plain laws of rows (no walk in sight). -/
import Derived.Test.YtfehhenbdiageaaUh
namespace Go.Proofs.Ytfehhenbdiageaa
set_option linter.unusedVariables false
set_option linter.unusedSimpArgs false

def Mx (x z s : Int) : List Tm := if s = 0 then [] else [(x, z, s)]
def Aof (L : List Tm) (x z : Int) : List Tm := L.filter fun y => lessB y (x, z, 0)
def Bof (L : List Tm) (x z : Int) : List Tm := L.filter fun y => lessB (x, z, 0) y
theorem put_eq (L : List Tm) (x z s : Int) : putF L x z s = Aof L x z ++ (Mx x z s ++ Bof L x z) := rfl
theorem find_ex {L : List Tm} (hP : L.Pairwise Lt) (x z : Int) : ∃ k f, FindP L x z k f := by
  have hk : L.findIdx (fun y => !lessB y (x, z, 0)) ≤ L.length := List.findIdx_le_length
  refine ⟨L.findIdx (fun y => !lessB y (x, z, 0)), findP_of hP hk (fun j y hj hy => ?_) (fun y hy => ?_)⟩
  · obtain ⟨h1, rfl⟩ := List.getElem?_eq_some_iff.1 hy
    have := List.not_of_lt_findIdx hj
    simp only [Bool.not_eq_true, Bool.not_eq_false'] at this
    exact of_decide_eq_true this
  · obtain ⟨h1, rfl⟩ := List.getElem?_eq_some_iff.1 hy
    have := List.findIdx_getElem (w := h1)
    simp only [Bool.not_eq_true'] at this
    exact of_decide_eq_false this
/-- what is put as it was changes nothing -/
theorem put_id {L : List Tm} (hR : RightL L) (x z : Int) : putF L x z (stF L x z) = L := by
  obtain ⟨k, f, hF⟩ := find_ex hR.1 x z
  rw [← put_of hR.1 hF]
  have hs := had_state hR hF rfl
  cases f with
  | false => rw [if_pos (hs.2 rfl)]; simp
  | true =>
    obtain ⟨y, hy, he⟩ := hF.2.2.2.1 rfl
    rw [if_neg (hs.1 rfl), find_yes hF hy he]
    obtain ⟨h1, h2⟩ := List.getElem?_eq_some_iff.1 hy
    have : (x, z, y.2.2) = y := by rw [← he.1, ← he.2]
    rw [this, if_pos rfl, ← h2]
    simp
theorem dec_of {L : List Tm} (hR : RightL L) (x z : Int) : L = Aof L x z ++ (Mx x z (stF L x z) ++ Bof L x z) := by
  rw [← put_eq, put_id hR]
theorem A_lt {L : List Tm} {x z : Int} {y : Tm} (h : y ∈ Aof L x z) : Lt y (x, z, 0) := of_decide_eq_true (List.mem_filter.1 h).2
theorem B_lt {L : List Tm} {x z : Int} {y : Tm} (h : y ∈ Bof L x z) : Lt (x, z, 0) y := of_decide_eq_true (List.mem_filter.1 h).2
theorem A_ne {L : List Tm} {x z : Int} {y : Tm} (h : y ∈ Aof L x z) : ¬ (y.1 = x ∧ y.2.1 = z) := by
  have := A_lt h
  unfold Lt at this
  simp only at this
  omega
theorem B_ne {L : List Tm} {x z : Int} {y : Tm} (h : y ∈ Bof L x z) : ¬ (y.1 = x ∧ y.2.1 = z) := by
  have := B_lt h
  unfold Lt at this
  simp only at this
  omega
theorem find_A {L : List Tm} {x z : Int} : (Aof L x z).find? (keyB x z) = none := by
  rw [List.find?_eq_none]
  intro y hy
  simp only [keyB, decide_eq_true_eq]
  exact A_ne hy
theorem find_B {L : List Tm} {x z : Int} : (Bof L x z).find? (keyB x z) = none := by
  rw [List.find?_eq_none]
  intro y hy
  simp only [keyB, decide_eq_true_eq]
  exact B_ne hy
theorem find_M {x z u v s : Int} (h : ¬ (u = x ∧ v = z)) : (Mx x z s).find? (keyB u v) = none := by
  unfold Mx
  split
  · rfl
  · rw [List.find?_eq_none]
    intro y hy
    simp at hy
    subst hy
    simp only [keyB, decide_eq_true_eq]
    omega
theorem st_same (L : List Tm) (x z s : Int) : stF (putF L x z s) x z = s := by
  rw [put_eq]
  unfold stF
  rw [List.find?_append, List.find?_append, find_A, find_B]
  by_cases h : s = 0
  · simp [Mx, h]
  · simp [Mx, h, keyB]
theorem st_other {L : List Tm} (hR : RightL L) {x z u v : Int} (s : Int) (h : ¬ (u = x ∧ v = z)) : stF (putF L x z s) u v = stF L u v := by
  have e : stF L u v = stF (putF L x z (stF L x z)) u v := by rw [put_id hR]
  rw [e, put_eq, put_eq]
  unfold stF
  simp only [List.find?_append, find_M h]
theorem put_put (L : List Tm) (x z s t : Int) : putF (putF L x z s) x z t = putF L x z t := by
  have hA : Aof (putF L x z s) x z = Aof L x z := by
    rw [put_eq]
    unfold Aof
    rw [List.filter_append, List.filter_append, List.filter_filter]
    have e1 : (Mx x z s).filter (fun y => lessB y (x, z, 0)) = [] := by
      unfold Mx
      split
      · rfl
      · simp [lessB, Lt]
    have e2 : (Bof L x z).filter (fun y => lessB y (x, z, 0)) = [] := by
      rw [List.filter_eq_nil_iff]
      intro y hy
      have := B_lt hy
      simp only [lessB, decide_eq_true_eq]
      unfold Lt at this ⊢
      simp only at this ⊢
      omega
    rw [e1, e2]
    simp
  have hB : Bof (putF L x z s) x z = Bof L x z := by
    rw [put_eq]
    unfold Bof
    rw [List.filter_append, List.filter_append, List.filter_filter]
    have e1 : (Mx x z s).filter (fun y => lessB (x, z, 0) y) = [] := by
      unfold Mx
      split
      · rfl
      · simp [lessB, Lt]
    have e2 : (Aof L x z).filter (fun y => lessB (x, z, 0) y) = [] := by
      rw [List.filter_eq_nil_iff]
      intro y hy
      have := A_lt hy
      simp only [lessB, decide_eq_true_eq]
      unfold Lt at this ⊢
      simp only at this ⊢
      omega
    rw [e1, e2]
    simp
  rw [put_eq (putF L x z s) x z t, hA, hB]
  rfl
theorem fm_app (p : Tm → Bool) (q : Tm → Int) (L M : List Tm) : fmF p q (L ++ M) = fmF p q L ++ fmF p q M := by simp [fmF]
theorem fm_Mx {p : Tm → Bool} {q : Tm → Int} {x z s : Int} (h : s ≠ 0 → p (x, z, s) = false) : fmF p q (Mx x z s) = [] := by
  unfold Mx
  split
  · rfl
  · rename_i hs; simp [fmF, h hs]
theorem fm_Mx1 {p : Tm → Bool} {q : Tm → Int} {x z s : Int} (hs : s ≠ 0) (h : p (x, z, s) = true) : fmF p q (Mx x z s) = [q (x, z, s)] := by
  unfold Mx
  rw [if_neg hs]
  simp [fmF, h]
/-- third ones -/
theorem wat_other {L : List Tm} (hR : RightL L) {x z u : Int} (s : Int) (h : u ≠ z) : watF (putF L x z s) u = watF L u := by
  have e : watF L u = watF (putF L x z (stF L x z)) u := by rw [put_id hR]
  rw [e, put_eq, put_eq]
  unfold watF
  simp only [fm_app]
  rw [fm_Mx (fun _ => by simp [watP]; omega), fm_Mx (fun _ => by simp [watP]; omega)]
theorem tar_other {L : List Tm} (hR : RightL L) {x z u : Int} (s : Int) (h : u ≠ x) : tarF (putF L x z s) u = tarF L u := by
  have e : tarF L u = tarF (putF L x z (stF L x z)) u := by rw [put_id hR]
  rw [e, put_eq, put_eq]
  unfold tarF
  simp only [fm_app]
  rw [fm_Mx (fun _ => by simp [tarP]; omega), fm_Mx (fun _ => by simp [tarP]; omega)]
theorem many_app (L M : List Tm) (u : Int) : manyF (L ++ M) u = manyF L u + manyF M u := by simp [manyF]
theorem many_Mx (x z s u : Int) : manyF (Mx x z s) u = if s ≠ 0 ∧ x = u then 1 else 0 := by
  unfold Mx manyF
  by_cases h : s = 0
  · simp [h]
  · by_cases e : x = u
    · simp [h, e]
    · simp [h, e]
theorem len_Mx (x z s : Int) : (Mx x z s).length = if s ≠ 0 then 1 else 0 := by
  unfold Mx
  by_cases h : s = 0 <;> simp [h]
theorem many_put (L : List Tm) (x z s u : Int) : manyF (putF L x z s) u = manyF (Aof L x z) u + manyF (Bof L x z) u + if s ≠ 0 ∧ x = u then 1 else 0 := by
  rw [put_eq, many_app, many_app, many_Mx]
  omega
theorem len_put (L : List Tm) (x z s : Int) : (putF L x z s).length = (Aof L x z).length + (Bof L x z).length + if s ≠ 0 then 1 else 0 := by
  rw [put_eq, List.length_append, List.length_append, len_Mx]
  omega
theorem right_put {L : List Tm} (hR : RightL L) {x z s : Int} (hx : userB x = true) (hz : userB z = true) (hxz : x ≠ z) (h0 : 0 ≤ s) (h4 : s ≤ 4) (hf : stF L x z = 0 → s ≠ 0 → fullB L x = false) : RightL (putF L x z s) := by
  have eL := put_id hR x z
  refine ⟨?_, ?_, ?_, ?_⟩
  · rw [put_eq, List.pairwise_append, List.pairwise_append]
    refine ⟨hR.1.sublist List.filter_sublist, ⟨?_, hR.1.sublist List.filter_sublist, ?_⟩, ?_⟩
    · unfold Mx
      split <;> simp
    · intro a ha b hb
      have := B_lt hb
      unfold Mx at ha
      split at ha
      · cases ha
      · simp at ha; subst ha; exact this
    · intro a ha b hb
      rcases List.mem_append.1 hb with hb | hb
      · have := A_lt ha
        unfold Mx at hb
        split at hb
        · cases hb
        · simp at hb; subst hb; exact this
      · exact (A_lt ha).trans (B_lt hb)
  · intro y hy
    rw [put_eq] at hy
    rcases List.mem_append.1 hy with hy | hy
    · exact hR.2.1 y (List.mem_filter.1 hy).1
    · rcases List.mem_append.1 hy with hy | hy
      · unfold Mx at hy
        split at hy
        · cases hy
        · simp at hy; subst hy
          exact ok_t hx hz hxz (by show 0 < s; omega) h4
      · exact hR.2.1 y (List.mem_filter.1 hy).1
  · intro y hy
    have hall : ∀ u, manyF L u ≤ 8 := fun u => by
      by_cases e : ∃ y ∈ L, y.1 = u
      · obtain ⟨y, hy, rfl⟩ := e
        exact hR.2.2.1 y hy
      · have : manyF L u = 0 := by
          unfold manyF
          rw [List.countP_eq_zero]
          intro y hy
          simp only [decide_eq_true_eq]
          exact fun e2 => e ⟨y, hy, e2⟩
        omega
    have h1 := hall y.1
    rw [← eL, many_put] at h1
    rw [many_put]
    by_cases e : x = y.1
    · by_cases es : s = 0
      · simp [es]; omega
      · by_cases e0 : stF L x z = 0
        · have := hf e0 es
          unfold fullB at this
          have := of_decide_eq_false this
          have e8 : manyF L x < 8 := by omega
          rw [← eL, many_put, e0] at e8
          rw [if_pos ⟨es, e⟩, ← e]
          simp at e8
          omega
        · rw [if_pos ⟨e0, e⟩] at h1
          rw [if_pos ⟨es, e⟩]
          exact h1
    · rw [if_neg (by omega)]
      omega
  · have h1 := hR.2.2.2
    rw [← eL, len_put] at h1
    rw [len_put]
    by_cases es : s = 0
    · simp [es]; omega
    · by_cases e0 : stF L x z = 0
      · have := hf e0 es
        unfold fullB at this
        have := of_decide_eq_false this
        have e8 : L.length < 64 := by omega
        rw [← eL, len_put, e0] at e8
        rw [if_pos es]
        simp at e8
        omega
      · rw [if_pos e0] at h1
        rw [if_pos es]
        exact h1
theorem step_range {s op : Int} (h : (stepF s op).2 = 0) : 0 ≤ (stepF s op).1 ∧ (stepF s op).1 ≤ 4 := by
  unfold stepF at *
  split at h
  · simp at h
  · rename_i hb
    rw [if_neg hb]
    split at h
    · simp at h
    · rename_i ht
      rw [if_neg ht]
      simp only
      unfold toI at ht ⊢
      (repeat' split) <;> simp_all
theorem st_user {L : List Tm} (hR : RightL L) {x z : Int} (h : stF L x z ≠ 0) : userB x = true ∧ userB z = true ∧ x ≠ z := by
  unfold stF at h
  cases hf : L.find? (keyB x z) with
  | none => rw [hf] at h; exact absurd rfl h
  | some y =>
    have hk := List.find?_some hf
    have hm := List.mem_of_find?_eq_some hf
    have := hR.2.1 y hm
    unfold keyB at hk
    have hk := of_decide_eq_true hk
    unfold okB at this
    rw [hk.1, hk.2] at this
    simp at this
    exact ⟨this.1.1, this.1.2, this.2.1⟩
theorem st_range {L : List Tm} (hR : RightL L) (x z : Int) : 0 ≤ stF L x z ∧ stF L x z ≤ 4 := by
  unfold stF
  cases hf : L.find? (keyB x z) with
  | none => simp
  | some y =>
    have hm := List.mem_of_find?_eq_some hf
    have := hR.2.1 y hm
    unfold okB at this
    simp at this
    simp only
    omega
/-- what Do does -/
theorem do_cases {L : List Tm} (hR : RightL L) (op who peer : Int) :
    ((doF L op who peer).2 ≠ 0 ∧ (doF L op who peer).1 = L) ∨
    (¬ badP op who peer ∧ (stepF (stF L (wchF op who peer) (tgtF op who peer)) op).2 = 0 ∧ ¬ (stF L (wchF op who peer) (tgtF op who peer) = 0 ∧ fullB L (wchF op who peer) = true) ∧
      doF L op who peer = (putF L (wchF op who peer) (tgtF op who peer) (stepF (stF L (wchF op who peer) (tgtF op who peer)) op).1, 0)) := by
  unfold doF
  split
  · left; simp
  · rename_i hb
    unfold actF
    split
    · rename_i he; left; exact ⟨he, rfl⟩
    · rename_i he
      split
      · left; simp
      · rename_i hf
        right
        exact ⟨hb, by omega, hf, rfl⟩
theorem bad_user {op who peer : Int} (h : ¬ badP op who peer) : userB (wchF op who peer) = true ∧ userB (tgtF op who peer) = true ∧ wchF op who peer ≠ tgtF op who peer := by
  unfold badP at h
  unfold wchF tgtF
  have h1 : userB who = true := by cases hu : userB who <;> simp_all
  have h2 : userB peer = true := by cases hu : userB peer <;> simp_all
  split
  · exact ⟨h1, h2, by omega⟩
  · exact ⟨h2, h1, by omega⟩
theorem right_do {L : List Tm} (hR : RightL L) (op who peer : Int) : RightL (doF L op who peer).1 := by
  rcases do_cases hR op who peer with ⟨_, h⟩ | ⟨hb, hs, hf, h⟩
  · rw [h]; exact hR
  · rw [h]
    obtain ⟨u1, u2, u3⟩ := bad_user hb
    obtain ⟨r1, r2⟩ := step_range hs
    refine right_put hR u1 u2 u3 r1 r2 fun e _ => ?_
    cases hq : fullB L (wchF op who peer) with
    | false => rfl
    | true => exact absurd ⟨e, hq⟩ hf
end Go.Proofs.Ytfehhenbdiageaa
