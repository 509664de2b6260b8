import Derived.Test.YtpegfbdepgmbjaaPf
namespace Go.Proofs.Ytpegfbdepgmbjaa
open Go.RowKit

/-! A region that draws, walked by a tree: floats first; where two operations may come up, both ways. One operation, number z, may break S: all floats are to come ahead of it. -/
section
variable {P : Program} {ops : Array Oper} {Q : Exit → Act → World → Prop} {md : Region.Mode} {S : World → Prop} {z : Nat}
/-- whatever order is picked, and S holds behind each operation but number z -/
def wpAnyL (P : Program) (md : Region.Mode) (ops : Array Oper) (Q : Exit → Act → World → Prop) (S : World → Prop) (z : Nat) : Nat → Array Bool → Act → World → Prop
  | 0, L, a, w => Region.ready md ops L = [] ∧ Q .normal a w
  | n + 1, L, a, w => (Region.ready md ops L = [] → Q .normal a w) ∧
    ∀ i ∈ Region.ready md ops L, wpOp P ops Q i (fun a' w' => (i ≠ z → S w') ∧ wpAnyL P md ops Q S z n (L.setIfInBounds i true) a' w') a w
theorem wpAny_of_L : ∀ (n : Nat) (L : Array Bool) (a : Act) (w : World), wpAnyL P md ops Q S z n L a w → wpAny P md ops Q n L a w
  | 0, _, _, _, h => h
  | n + 1, _, _, _, h => ⟨h.1, fun i hi => wpOp_mono (fun a' w' h' => wpAny_of_L n _ a' w' h'.2) (h.2 i hi)⟩
/-- number k waits for number i, at once or through others -/
def waitsE (md : Region.Mode) (ops : Array Oper) : Nat → Nat → Nat → Bool
  | 0, _, _ => false
  | n + 1, k, i => match ops[k]? with
    | none => false
    | some ok => ok.after.any fun e => Region.binds md e && (e.on == i || waitsE md ops n e.on i)
def waitsB (md : Region.Mode) (ops : Array Oper) (z i : Nat) : Bool := decide (ops.size ≤ z) || waitsE md ops 6 z i
/-- what is listed has all listed that it waits for -/
def Closed (md : Region.Mode) (ops : Array Oper) (L : Array Bool) : Prop := ∀ j oj, ops[j]? = some oj → L.getD j false = true → ∀ e ∈ oj.after, Region.binds md e = true → L.getD e.on false = true
theorem unlisted_not {L : Array Bool} {i : Nat} (h0 : L.getD i true = false) (h1 : L.getD i false = true) : False := by
  rcases Nat.lt_or_ge i L.size with h' | h'
  · simp [h'] at h0 h1; rw [h0] at h1; cases h1
  · simp [Array.getElem?_eq_none h'] at h1
theorem closed_set {L : Array Bool} {j : Nat} (h : Closed md ops L) (hj : j ∈ Region.ready md ops L) : Closed md ops (L.setIfInBounds j true) := by
  intro k ok hk hl e he hb
  by_cases e1 : j = k
  · subst e1
    obtain ⟨_, o, ho, hall⟩ := mem_ready.1 hj
    rw [hk] at ho
    injection ho with ho
    subst ho
    exact getD_set_true (hall e he hb)
  · rw [getD_set_ne false e1] at hl
    exact getD_set_true (h k ok hk hl e he hb)
theorem waits_no {L : Array Bool} {i : Nat} (hc : Closed md ops L) (hi : L.getD i true = false) : ∀ (n k : Nat), waitsE md ops n k i = true → (∀ ok, ops[k]? = some ok → ∀ e ∈ ok.after, Region.binds md e = true → L.getD e.on false = true) → False
  | 0, k, h, _ => by simp [waitsE] at h
  | n + 1, k, h, hall => by
    unfold waitsE at h
    cases ho : ops[k]? with
    | none => rw [ho] at h; simp at h
    | some ok =>
      rw [ho] at h
      simp only [Array.any_eq_true', Bool.and_eq_true, Bool.or_eq_true, beq_iff_eq] at h
      obtain ⟨e, he, hb, hq⟩ := h
      have hl := hall ok ho e he hb
      rcases hq with hq | hq
      · rw [hq] at hl; exact unlisted_not hi hl
      · exact waits_no hc hi n e.on hq fun ok' ho' e' he' hb' => hc e.on ok' ho' hl e' he' hb'
theorem wpAnyL_first {i : Nat} {oi : Oper} {v : Value} (hi : ops[i]? = some oi) (hsel : ∀ (j : Nat) (o : Oper) cs b, ops[j]? = some o → o.op ≠ .select cs b)
    (hQ : ∀ c a w, Q (.panic c) (a.put oi.dst v) w → Q (.panic c) a w) (hz : waitsB md ops z i = true) :
    ∀ (n : Nat) (L : Array Bool) (a : Act) (w : World),
      (∀ j oj, ops[j]? = some oj → j ≠ i → L.getD j true = false → (∀ e ∈ oj.after, Region.binds md e = true → e.on ≠ i) → oi.apart ops oj = true) →
      i ∈ Region.ready md ops L → Closed md ops L → YieldsIf P ops S oi v a → S w →
      wpAnyL P md ops Q S z n (L.setIfInBounds i true) (a.put oi.dst v) w → wpAnyL P md ops Q S z (n + 1) L a w := by
  intro n
  induction n with
  | zero =>
    intro L a w _ hr hcl hy hS H
    refine ⟨fun h => (by rw [h] at hr; cases hr), fun j hj => ?_⟩
    by_cases hji : j = i
    · subst hji; exact hy.wpOp hi hS ⟨fun _ => hS, H⟩
    · have := ready_mono hj hji
      rw [H.1] at this
      cases this
  | succ n ih =>
    intro L a w hfree hr hcl hy hS H
    refine ⟨fun h => (by rw [h] at hr; cases hr), fun j hj => ?_⟩
    by_cases hji : j = i
    · subst hji; exact hy.wpOp hi hS ⟨fun _ => hS, H⟩
    · have h1 := H.2 j (ready_mono hj hji)
      obtain ⟨hjun, oj, hoj, hall⟩ := mem_ready.1 hj
      have hiun := (mem_ready.1 hr).1
      have hnot : ∀ e ∈ oj.after, Region.binds md e = true → e.on ≠ i := fun e he hb heq => by
        have h1 := hall e he hb
        rw [heq] at h1
        exact unlisted_not hiun h1
      have hjz : j ≠ z := by
        intro e
        subst e
        unfold waitsB at hz
        simp only [Bool.or_eq_true, decide_eq_true_eq] at hz
        rcases hz with hz | hz
        · have := (Array.getElem?_eq_some_iff.1 hoj).1; omega
        · refine waits_no hcl hiun 6 j hz fun ok ho e he hb => ?_
          rw [hoj] at ho
          injection ho with ho
          subst ho
          exact hall e he hb
      have h2 := wpOp_putIf hoj (hfree j oj hoj hji hjun hnot) (fun cs b => hsel i oi cs b hi) (fun cs b => hsel j oj cs b hoj) hQ hy h1
      have hfree' : ∀ k ok, ops[k]? = some ok → k ≠ i → (L.setIfInBounds j true).getD k true = false →
          (∀ e ∈ ok.after, Region.binds md e = true → e.on ≠ i) → oi.apart ops ok = true := fun k ok hk hki hun hno => by
        refine hfree k ok hk hki ?_ hno
        by_cases hjk : j = k
        · subst hjk; exact hjun
        · rw [getD_set_ne true hjk] at hun; exact hun
      refine wpOp_mono (fun a' w' h3 => ⟨h3.2.1, ih (L.setIfInBounds j true) a' w' hfree' (ready_mono hr (Ne.symm hji)) (closed_set hcl hj) h3.1 (h3.2.1 hjz) ?_⟩) h2
      rw [Array.setIfInBounds_comm _ _ hji]
      exact h3.2.2
end
inductive PT where
  | done
  | fl (i : Nat) (t : PT)
  | one (i : Nat) (t : PT)
  | two (i : Nat) (t : PT) (j : Nat) (u : PT)
def PT.len : PT → Nat
  | .done => 0
  | .fl _ t => t.len + 1
  | .one _ t => t.len + 1
  | .two _ t _ _ => t.len + 1
def PT.isDone : PT → Bool
  | .done => true
  | _ => false
def ptOk (ops : Array Oper) (z : Nat) : PT → Array Bool → Bool
  | .done, L => (Region.ready .any ops L).isEmpty
  | .fl i t, L => ((Region.ready .any ops L).contains i && Region.free .any ops L i && waitsB .any ops z i) && ptOk ops z t (L.setIfInBounds i true)
  | .one i t, L => Region.ready .any ops L == [i] && (i != z || t.isDone) && ptOk ops z t (L.setIfInBounds i true)
  | .two i t j u, L => Region.ready .any ops L == [i, j] && (t.len == u.len) && (i != z && j != z) && ptOk ops z t (L.setIfInBounds i true) && ptOk ops z u (L.setIfInBounds j true)
/-- one operation that is no float -/
def stepA (P : Program) (l : List Oper) (Q : Exit → Act → World → Prop) (i : Nat) (K : Act → World → Prop) (a : Act) (w : World) : Prop :=
  ∃ o, nthO l i = some o ∧ if Region.wanted o (yielded l.toArray a.tmps) = true then o.wp P a w K Q else K (a.put o.dst undef) w
def wpT (P : Program) (l : List Oper) (Q : Exit → Act → World → Prop) (S : World → Prop) (z : Nat) : PT → Act → World → Prop
  | .done, a, w => Q .normal a w
  | .fl i t, a, w => ∃ o, nthO l i = some o ∧
    if Region.wanted o (yielded l.toArray a.tmps) = true then ∃ v, (∀ w', S w' → (execOp a.eval o).run P w' = .ok (.value v) w') ∧ wpT P l Q S z t (a.put o.dst v) w
    else wpT P l Q S z t (a.put o.dst undef) w
  | .one i t, a, w => stepA P l Q i (fun a' w' => (i ≠ z → S w') ∧ wpT P l Q S z t a' w') a w
  | .two i t j u, a, w => stepA P l Q i (fun a' w' => (i ≠ z → S w') ∧ wpT P l Q S z t a' w') a w ∧ stepA P l Q j (fun a' w' => (j ≠ z → S w') ∧ wpT P l Q S z u a' w') a w

section
variable {P : Program} {l : List Oper} {Q : Exit → Act → World → Prop} {S : World → Prop} {a : Act} {w : World}
variable {z : Nat}
theorem stepA_op {i : Nat} {K K' : Act → World → Prop} (h : stepA P l Q i K a w) (hK : ∀ a w, K a w → K' a w) : wpOp P l.toArray Q i K' a w := by
  obtain ⟨o, ho, h⟩ := h
  have hi : l.toArray[i]? = some o := by rw [nthO_get] at ho; simpa using ho
  unfold wpOp
  simp only [hi]
  by_cases hw : Region.wanted o (yielded l.toArray a.tmps) = true
  · simp only [hw, if_true] at h ⊢
    exact .inl (Oper.wp_mono (fun a' w' h' => hK _ _ h') h)
  · have hw' : Region.wanted o (yielded l.toArray a.tmps) = false := by simpa using hw
    simp only [hw', Bool.false_eq_true, if_false] at h ⊢
    exact hK _ _ h
theorem wpAnyL_take {i : Nat} {oi : Oper} {v : Value} {n : Nat} {L : Array Bool} (hi : l.toArray[i]? = some oi) (hs : Region.noSelect l.toArray = true)
    (hf : Region.free .any l.toArray L i = true) (hr : (Region.ready .any l.toArray L).contains i = true) (hz : waitsB .any l.toArray z i = true) (hcl : Closed .any l.toArray L)
    (hQ : ∀ c a w, Q (.panic c) (a.put oi.dst v) w → Q (.panic c) a w) (hy : YieldsIf P l.toArray S oi v a) (hS : S w)
    (h : wpAnyL P .any l.toArray Q S z n (L.setIfInBounds i true) (a.put oi.dst v) w) : wpAnyL P .any l.toArray Q S z (n + 1) L a w :=
  wpAnyL_first hi (Region.noSelect_spec hs) hQ hz n L a w (Region.free_spec hi hf) (by simpa using hr) hcl hy hS h

theorem pt_sound (hsel : Region.noSelect l.toArray = true) (hQ : ∀ (c : _) (a : Act) (d : Option Tmp) (v : Value) (w : World), Q (.panic c) (a.put d v) w → Q (.panic c) a w) :
    ∀ (t : PT) (L : Array Bool) (a : Act) (w : World), ptOk l.toArray z t L = true → Closed .any l.toArray L → (t.isDone = false → S w) → wpT P l Q S z t a w → wpAnyL P .any l.toArray Q S z t.len L a w
  | .done, L, a, w, hB, _, _, h => by
    simp only [ptOk, List.isEmpty_iff] at hB
    exact ⟨hB, h⟩
  | .fl i t, L, a, w, hB, hcl, hS, h => by
    obtain ⟨o, ho, h⟩ := h
    have hi : l.toArray[i]? = some o := by rw [nthO_get] at ho; simpa using ho
    simp only [ptOk, Bool.and_eq_true] at hB
    obtain ⟨⟨⟨hB1, hB3⟩, hB4⟩, hB2⟩ := hB
    have hSw : S w := hS rfl
    have hcl' := closed_set hcl (j := i) (by simpa using hB1)
    by_cases hw : Region.wanted o (yielded l.toArray a.tmps) = true
    · simp only [hw, if_true] at h
      obtain ⟨v, hv, h⟩ := h
      exact wpAnyL_take hi hsel hB3 hB1 hB4 hcl (fun c a w => hQ c a _ _ w) (.inl ⟨hw, hv⟩) hSw (pt_sound hsel hQ t _ _ w hB2 hcl' (fun _ => hSw) h)
    · have hw' : Region.wanted o (yielded l.toArray a.tmps) = false := by simpa using hw
      simp only [hw', Bool.false_eq_true, if_false] at h
      exact wpAnyL_take hi hsel hB3 hB1 hB4 hcl (fun c a w => hQ c a _ _ w) (.inr ⟨hw', rfl⟩) hSw (pt_sound hsel hQ t _ _ w hB2 hcl' (fun _ => hSw) h)
  | .one i t, L, a, w, hB, hcl, hS, h => by
    simp only [ptOk, Bool.and_eq_true, beq_iff_eq, Bool.or_eq_true, bne_iff_ne] at hB
    obtain ⟨⟨hr, hd⟩, h2⟩ := hB
    refine ⟨(fun e => by rw [hr] at e; cases e), fun k hk => ?_⟩
    rw [hr] at hk
    obtain rfl : k = i := by simpa using hk
    exact stepA_op h fun a w h => ⟨h.1, pt_sound hsel hQ t _ a w h2 (closed_set hcl (by rw [hr]; simp)) (fun e => h.1 (hd.resolve_right (by rw [e]; simp))) h.2⟩
  | .two i t j u, L, a, w, hB, hcl, hS, h => by
    simp only [ptOk, Bool.and_eq_true, beq_iff_eq, bne_iff_ne] at hB
    obtain ⟨⟨⟨⟨hr, hl⟩, hd1, hd2⟩, h1⟩, h2⟩ := hB
    refine ⟨(fun e => by rw [hr] at e; cases e), fun k hk => ?_⟩
    rw [hr] at hk
    rcases List.mem_cons.1 hk with rfl | hk
    · exact stepA_op h.1 fun a w h => ⟨h.1, pt_sound hsel hQ t _ a w h1 (closed_set hcl (by rw [hr]; simp)) (fun e => h.1 hd1) h.2⟩
    · obtain rfl : k = j := by simpa using hk
      rw [hl]
      exact stepA_op h.2 fun a w h => ⟨h.1, pt_sound hsel hQ u _ a w h2 (closed_set hcl (by rw [hr]; simp)) (fun e => h.1 hd2) h.2⟩

theorem closed_none {ops : Array Oper} {n : Nat} : Closed .any ops (Array.replicate n false) := by
  intro j oj _ h
  rw [Array.getD_eq_getD_getElem?, Array.getElem?_replicate] at h
  split at h <;> simp at h
theorem region_tree {id : Nat} (S : World → Prop) (z : Nat) (t : PT) (hm : P.follows .mixedOrders = true) (hsel : Region.noSelect l.toArray = true) (hn : t.len = l.length)
    (hB : ptOk l.toArray z t (Array.replicate l.length false) = true) (hS : S w.drew) (h : wpT P l (NoPanic Q) S z t a w.drew) : (Code.region id l.toArray true).wp P Q a w := by
  refine wp_region_noPanic (wp_region_any hm ?_)
  have := wpAny_of_L _ _ _ _ (pt_sound (P := P) (l := l) (Q := NoPanic Q) (S := S) (z := z) hsel (fun c a d v w h => h) t (Array.replicate l.length false) a w.drew hB closed_none (fun _ => hS) h)
  rw [hn] at this
  simpa using this

theorem pt_done (h : Q .normal a w) : wpT P l Q S z .done a w := h
theorem pt_f0 {i : Nat} {t : PT} {d : Option Tmp} {op : Op} {tt : TypeId} {ps : String} {af : Array Edge} (v : Value) (ho : nthO l i = some ⟨d, op, tt, ps, af, none⟩)
    (hv : ∀ w', S w' → (execOp a.eval ⟨d, op, tt, ps, af, none⟩).run P w' = .ok (.value v) w') (h : wpT P l Q S z t (a.put d v) w) : wpT P l Q S z (.fl i t) a w :=
  ⟨_, ho, by rw [if_pos (wanted_none rfl)]; exact ⟨v, hv, h⟩⟩
theorem pt_f1 {i : Nat} {t : PT} {d : Option Tmp} {op : Op} {tt : TypeId} {ps : String} {af : Array Edge} {j : Nat} {b : Bool} {oj : Oper} {k : Tmp} (v : Value) (ho : nthO l i = some ⟨d, op, tt, ps, af, some (j, b)⟩)
    (hj : nthO l j = some oj) (hd : oj.dst = some k) (hb : a.tmps.getD k undef = .bool b)
    (hv : ∀ w', S w' → (execOp a.eval ⟨d, op, tt, ps, af, some (j, b)⟩).run P w' = .ok (.value v) w') (h : wpT P l Q S z t (a.put d v) w) : wpT P l Q S z (.fl i t) a w :=
  ⟨_, ho, by rw [if_pos (by rw [wanted_some rfl hj hd hb]; simp)]; exact ⟨v, hv, h⟩⟩
theorem pt_s1 {i : Nat} {t : PT} {d : Option Tmp} {op : Op} {tt : TypeId} {ps : String} {af : Array Edge} {j : Nat} {b : Bool} {oj : Oper} {k : Tmp} (ho : nthO l i = some ⟨d, op, tt, ps, af, some (j, b)⟩)
    (hj : nthO l j = some oj) (hd : oj.dst = some k) (hb : a.tmps.getD k undef = .bool (!b)) (h : wpT P l Q S z t (a.put d undef) w) : wpT P l Q S z (.fl i t) a w :=
  ⟨_, ho, by rw [if_neg (by rw [wanted_some rfl hj hd hb]; simp)]; exact h⟩
theorem st_a0 {i : Nat} {K : Act → World → Prop} {d : Option Tmp} {op : Op} {tt : TypeId} {ps : String} {af : Array Edge} (ho : nthO l i = some ⟨d, op, tt, ps, af, none⟩)
    (h : Oper.wp P ⟨d, op, tt, ps, af, none⟩ a w K Q) : stepA P l Q i K a w := ⟨_, ho, by rw [if_pos (wanted_none rfl)]; exact h⟩
theorem st_a1 {i : Nat} {K : Act → World → Prop} {d : Option Tmp} {op : Op} {tt : TypeId} {ps : String} {af : Array Edge} {j : Nat} {b : Bool} {oj : Oper} {k : Tmp} (ho : nthO l i = some ⟨d, op, tt, ps, af, some (j, b)⟩)
    (hj : nthO l j = some oj) (hd : oj.dst = some k) (hb : a.tmps.getD k undef = .bool b)
    (h : Oper.wp P ⟨d, op, tt, ps, af, some (j, b)⟩ a w K Q) : stepA P l Q i K a w := ⟨_, ho, by rw [if_pos (by rw [wanted_some rfl hj hd hb]; simp)]; exact h⟩
/-- the next goal's K is hidden -/
theorem pt_one {i : Nat} {t : PT} (h : ∀ K : Act → World → Prop, (∀ a w, (i ≠ z → S w) ∧ wpT P l Q S z t a w → K a w) → stepA P l Q i K a w) : wpT P l Q S z (.one i t) a w := h _ fun _ _ h => h
theorem pt_two {i j : Nat} {t u : PT} (h1 : ∀ K : Act → World → Prop, (∀ a w, (i ≠ z → S w) ∧ wpT P l Q S z t a w → K a w) → stepA P l Q i K a w)
    (h2 : ∀ K : Act → World → Prop, (∀ a w, (j ≠ z → S w) ∧ wpT P l Q S z u a w → K a w) → stepA P l Q j K a w) : wpT P l Q S z (.two i t j u) a w := ⟨h1 _ fun _ _ h => h, h2 _ fun _ _ h => h⟩
end
end Go.Proofs.Ytpegfbdepgmbjaa
