/- Client: part C of the proof. -/
import Derived.Test.YtbnmpoonkjlkjaaGreatXB
import Derived.Test.YtbnmpoonkjlkjaaGreatXA
namespace Go.Proofs.YtbnmpoonkjlkjaaGreat
open Go.RowKit
set_option linter.unusedVariables false
set_option linter.unusedSimpArgs false
section
namespace V2
section
variable {P : Program} {ops : Array Oper} {Q : Exit → Act → World → Prop} {md : Region.Mode} {S : World → Prop} {z : Nat}
/-- whatever order is picked, and S holds behind each operation but number z -/
def wpAnyL (P : Program) (md : Region.Mode) (ops : Array Oper) (Q : Exit → Act → World → Prop) (S : World → Prop) (z : Nat) : Nat → Array Bool → Act → World → Prop
 | 0, L, a, w => Region.ready md ops L = [] ∧ Q .normal a w
 | n + 1, L, a, w => (Region.ready md ops L = [] → Q .normal a w) ∧
  ∀ i ∈ Region.ready md ops L, wpOp P ops Q i (fun a' w' => (i < z → S w') ∧ wpAnyL P md ops Q S z n (L.setIfInBounds i true) a' w') a w
theorem wpAny_of_L : ∀ (n : Nat) (L : Array Bool) (a : Act) (w : World), wpAnyL P md ops Q S z n L a w → wpAny P md ops Q n L a w
 | 0, _, _, _, h => h
 | n + 1, _, _, _, h => ⟨h.1, fun i hi => wpOp_mono (fun a' w' h' => wpAny_of_L n _ a' w' h'.2) (h.2 i hi)⟩
/-- number k waits for number i, at once or through others -/
def waitsB (md : Region.Mode) (ops : Array Oper) (z i : Nat) : Bool := (List.range ops.size).all fun k => decide (k < z) || waitsE md ops 12 k i
theorem wpAnyL_first {i : Nat} {oi : Oper} {v : Value} (hi : ops[i]? = some oi) (hsel : ∀ (j : Nat) (o : Oper) cs b, ops[j]? = some o → o.op ≠ .select cs b)
  (hQ : ∀ c a w, Q (.panic c) (a.put oi.dst v) w → Q (.panic c) a w) (hz : waitsB md ops z i = true) :
  ∀ (n : Nat) (L : Array Bool) (a : Act) (w : World),
   (∀ j oj, ops[j]? = some oj → j ≠ i → L.getD j true = false → (∀ e ∈ oj.after, Region.binds md e = true → e.on ≠ i) → oi.apart ops oj = true) →
   i ∈ Region.ready md ops L → Closed md ops L → YieldsIf P ops S oi v a → S w →
   wpAnyL P md ops Q S z n (L.setIfInBounds i true) (a.put oi.dst v) w → wpAnyL P md ops Q S z (n + 1) L a w := by
 intro n
 induction n with
 | zero =>
  intro L a w _ hr hcl hy hS H
  refine ⟨fun h => (by rw [h] at hr; cases hr), fun j hj => ?_⟩
  by_cases hji : j = i
  · subst hji; exact hy.wpOp hi hS ⟨fun _ => hS, H⟩
  ·
   have := ready_mono hj hji
   rw [H.1] at this
   cases this
 | succ n ih =>
  intro L a w hfree hr hcl hy hS H
  refine ⟨fun h => (by rw [h] at hr; cases hr), fun j hj => ?_⟩
  by_cases hji : j = i
  · subst hji; exact hy.wpOp hi hS ⟨fun _ => hS, H⟩
  ·
   have h1 := H.2 j (ready_mono hj hji)
   obtain ⟨hjun, oj, hoj, hall⟩ := mem_ready.1 hj
   have hiun := (mem_ready.1 hr).1
   have hnot : ∀ e ∈ oj.after, Region.binds md e = true → e.on ≠ i := fun e he hb heq => by
    have h1 := hall e he hb
    rw [heq] at h1
    exact unlisted_not hiun h1
   have hjz : j < z := by
    unfold waitsB at hz
    have hz2 := List.all_eq_true.1 hz j (List.mem_range.2 (Array.getElem?_eq_some_iff.1 hoj).1)
    simp only [Bool.or_eq_true, decide_eq_true_eq] at hz2
    rcases hz2 with hz2 | hz2
    · exact hz2
    ·
     refine (waits_no hcl hiun 12 j hz2 fun ok ho e he hb => ?_).elim
     rw [hoj] at ho
     injection ho with ho
     subst ho
     exact hall e he hb
   have h2 := wpOp_putIf hoj (hfree j oj hoj hji hjun hnot) (fun cs b => hsel i oi cs b hi) (fun cs b => hsel j oj cs b hoj) hQ hy h1
   have hfree' : ∀ k ok, ops[k]? = some ok → k ≠ i → (L.setIfInBounds j true).getD k true = false →
     (∀ e ∈ ok.after, Region.binds md e = true → e.on ≠ i) → oi.apart ops ok = true := fun k ok hk hki hun hno => by
    refine hfree k ok hk hki ?_ hno
    by_cases hjk : j = k
    · subst hjk; exact hjun
    · rw [getD_set_ne true hjk] at hun; exact hun
   refine wpOp_mono (fun a' w' h3 => ⟨h3.2.1, ih (L.setIfInBounds j true) a' w' hfree' (ready_mono hr (Ne.symm hji)) (closed_set hcl hj) h3.1 (h3.2.1 hjz) ?_⟩) h2
   rw [Array.setIfInBounds_comm _ _ hji]
   exact h3.2.2
end
def noFl : PT → Bool
 | .done => true
 | .fl _ _ => false
 | .one _ t => noFl t
 | .two _ t _ u => noFl t && noFl u
def ptOk (ops : Array Oper) (z : Nat) : PT → Array Bool → Bool
 | .done, L => (Region.ready .any ops L).isEmpty
 | .fl i t, L => ((Region.ready .any ops L).contains i && Region.free .any ops L i && waitsB .any ops z i) && ptOk ops z t (L.setIfInBounds i true)
 | .one i t, L => Region.ready .any ops L == [i] && (Nat.blt i z || noFl t) && ptOk ops z t (L.setIfInBounds i true)
 | .two i t j u, L => Region.ready .any ops L == [i, j] && (t.len == u.len) && (Nat.blt i z && Nat.blt j z) && ptOk ops z t (L.setIfInBounds i true) && ptOk ops z u (L.setIfInBounds j true)
/-- one operation that is no float -/
def wpT (P : Program) (l : List Oper) (Q : Exit → Act → World → Prop) (S : World → Prop) (z : Nat) : PT → Act → World → Prop
 | .done, a, w => Q .normal a w
 | .fl i t, a, w => ∃ o, nthO l i = some o ∧
  if Region.wanted o (yielded l.toArray a.tmps) = true then ∃ v, (∀ w', S w' → (execOp a.eval o).run P w' = .ok (.value v) w') ∧ wpT P l Q S z t (a.put o.dst v) w
  else wpT P l Q S z t (a.put o.dst undef) w
 | .one i t, a, w => stepA P l Q i (fun a' w' => (i < z → S w') ∧ wpT P l Q S z t a' w') a w
 | .two i t j u, a, w => stepA P l Q i (fun a' w' => (i < z → S w') ∧ wpT P l Q S z t a' w') a w ∧ stepA P l Q j (fun a' w' => (j < z → S w') ∧ wpT P l Q S z u a' w') a w
section
variable {P : Program} {l : List Oper} {Q : Exit → Act → World → Prop} {S : World → Prop} {a : Act} {w : World}
variable {z : Nat}
theorem wpAnyL_take {i : Nat} {oi : Oper} {v : Value} {n : Nat} {L : Array Bool} (hi : l.toArray[i]? = some oi) (hs : Region.noSelect l.toArray = true)
  (hf : Region.free .any l.toArray L i = true) (hr : (Region.ready .any l.toArray L).contains i = true) (hz : waitsB .any l.toArray z i = true) (hcl : Closed .any l.toArray L)
  (hQ : ∀ c a w, Q (.panic c) (a.put oi.dst v) w → Q (.panic c) a w) (hy : YieldsIf P l.toArray S oi v a) (hS : S w)
  (h : wpAnyL P .any l.toArray Q S z n (L.setIfInBounds i true) (a.put oi.dst v) w) : wpAnyL P .any l.toArray Q S z (n + 1) L a w :=
 wpAnyL_first hi (Region.noSelect_spec hs) hQ hz n L a w (Region.free_spec hi hf) (by simpa using hr) hcl hy hS h
theorem pt_sound (hsel : Region.noSelect l.toArray = true) (hQ : ∀ (c : _) (a : Act) (d : Option Tmp) (v : Value) (w : World), Q (.panic c) (a.put d v) w → Q (.panic c) a w) :
  ∀ (t : PT) (L : Array Bool) (a : Act) (w : World), ptOk l.toArray z t L = true → Closed .any l.toArray L → (noFl t = false → S w) → wpT P l Q S z t a w → wpAnyL P .any l.toArray Q S z t.len L a w
 | .done, L, a, w, hB, _, _, h => by
  simp only [ptOk, List.isEmpty_iff] at hB
  exact ⟨hB, h⟩
 | .fl i t, L, a, w, hB, hcl, hS, h => by
  obtain ⟨o, ho, h⟩ := h
  have hi : l.toArray[i]? = some o := by rw [nthO_get] at ho; simpa using ho
  simp only [ptOk, Bool.and_eq_true] at hB
  obtain ⟨⟨⟨hB1, hB3⟩, hB4⟩, hB2⟩ := hB
  have hSw : S w := hS rfl
  have hcl' := closed_set hcl (j := i) (by simpa using hB1)
  by_cases hw : Region.wanted o (yielded l.toArray a.tmps) = true
  ·
   simp only [hw, if_true] at h
   obtain ⟨v, hv, h⟩ := h
   exact wpAnyL_take hi hsel hB3 hB1 hB4 hcl (fun c a w => hQ c a _ _ w) (.inl ⟨hw, hv⟩) hSw (pt_sound hsel hQ t _ _ w hB2 hcl' (fun _ => hSw) h)
  ·
   have hw' : Region.wanted o (yielded l.toArray a.tmps) = false := by simpa using hw
   simp only [hw', Bool.false_eq_true, if_false] at h
   exact wpAnyL_take hi hsel hB3 hB1 hB4 hcl (fun c a w => hQ c a _ _ w) (.inr ⟨hw', rfl⟩) hSw (pt_sound hsel hQ t _ _ w hB2 hcl' (fun _ => hSw) h)
 | .one i t, L, a, w, hB, hcl, hS, h => by
  simp only [ptOk, Bool.and_eq_true, beq_iff_eq, Bool.or_eq_true, Nat.blt_eq] at hB
  obtain ⟨⟨hr, hd⟩, h2⟩ := hB
  refine ⟨(fun e => by rw [hr] at e; cases e), fun k hk => ?_⟩
  rw [hr] at hk
  obtain rfl : k = i := by simpa using hk
  exact stepA_op h fun a w h => ⟨h.1, pt_sound hsel hQ t _ a w h2 (closed_set hcl (by rw [hr]; simp)) (fun e => h.1 (hd.resolve_right (by rw [e]; simp))) h.2⟩
 | .two i t j u, L, a, w, hB, hcl, hS, h => by
  simp only [ptOk, Bool.and_eq_true, beq_iff_eq, Nat.blt_eq] at hB
  obtain ⟨⟨⟨⟨hr, hl⟩, hd1, hd2⟩, h1⟩, h2⟩ := hB
  refine ⟨(fun e => by rw [hr] at e; cases e), fun k hk => ?_⟩
  rw [hr] at hk
  rcases List.mem_cons.1 hk with rfl | hk
  · exact stepA_op h.1 fun a w h => ⟨h.1, pt_sound hsel hQ t _ a w h1 (closed_set hcl (by rw [hr]; simp)) (fun e => h.1 hd1) h.2⟩
  ·
   obtain rfl : k = j := by simpa using hk
   rw [hl]
   exact stepA_op h.2 fun a w h => ⟨h.1, pt_sound hsel hQ u _ a w h2 (closed_set hcl (by rw [hr]; simp)) (fun e => h.1 hd2) h.2⟩
theorem region_tree {id : Nat} (S : World → Prop) (z : Nat) (t : PT) (hm : P.follows .mixedOrders = true) (hsel : Region.noSelect l.toArray = true) (hn : t.len = l.length)
  (hB : ptOk l.toArray z t (Array.replicate l.length false) = true) (hS : S w.drew) (h : wpT P l (NoPanic Q) S z t a w.drew) : (Code.region id l.toArray true).wp P Q a w := by
 refine wp_region_noPanic (wp_region_any hm ?_)
 have := wpAny_of_L _ _ _ _ (pt_sound (P := P) (l := l) (Q := NoPanic Q) (S := S) (z := z) hsel (fun c a d v w h => h) t (Array.replicate l.length false) a w.drew hB closed_none (fun _ => hS) h)
 rw [hn] at this
 simpa using this
theorem pt_done (h : Q .normal a w) : wpT P l Q S z .done a w := h
theorem pt_f0 {i : Nat} {t : PT} {d : Option Tmp} {op : Op} {tt : TypeId} {ps : String} {af : Array Edge} (v : Value) (ho : nthO l i = some ⟨d, op, tt, ps, af, none⟩)
  (hv : ∀ w', S w' → (execOp a.eval ⟨d, op, tt, ps, af, none⟩).run P w' = .ok (.value v) w') (h : wpT P l Q S z t (a.put d v) w) : wpT P l Q S z (.fl i t) a w :=
 ⟨_, ho, by rw [if_pos (wanted_none rfl)]; exact ⟨v, hv, h⟩⟩
theorem pt_f1 {i : Nat} {t : PT} {d : Option Tmp} {op : Op} {tt : TypeId} {ps : String} {af : Array Edge} {j : Nat} {b : Bool} {oj : Oper} {k : Tmp} (v : Value) (ho : nthO l i = some ⟨d, op, tt, ps, af, some (j, b)⟩)
  (hj : nthO l j = some oj) (hd : oj.dst = some k) (hb : a.tmps.getD k undef = .bool b)
  (hv : ∀ w', S w' → (execOp a.eval ⟨d, op, tt, ps, af, some (j, b)⟩).run P w' = .ok (.value v) w') (h : wpT P l Q S z t (a.put d v) w) : wpT P l Q S z (.fl i t) a w :=
 ⟨_, ho, by rw [if_pos (by rw [wanted_some rfl hj hd hb]; simp)]; exact ⟨v, hv, h⟩⟩
theorem pt_s1 {i : Nat} {t : PT} {d : Option Tmp} {op : Op} {tt : TypeId} {ps : String} {af : Array Edge} {j : Nat} {b : Bool} {oj : Oper} {k : Tmp} (ho : nthO l i = some ⟨d, op, tt, ps, af, some (j, b)⟩)
  (hj : nthO l j = some oj) (hd : oj.dst = some k) (hb : a.tmps.getD k undef = .bool (!b)) (h : wpT P l Q S z t (a.put d undef) w) : wpT P l Q S z (.fl i t) a w :=
 ⟨_, ho, by rw [if_neg (by rw [wanted_some rfl hj hd hb]; simp)]; exact h⟩
theorem pt_one {i : Nat} {t : PT} (h : ∀ K : Act → World → Prop, (∀ a w, (i < z → S w) ∧ wpT P l Q S z t a w → K a w) → stepA P l Q i K a w) : wpT P l Q S z (.one i t) a w := h _ fun _ _ h => h
theorem pt_two {i j : Nat} {t u : PT} (h1 : ∀ K : Act → World → Prop, (∀ a w, (i < z → S w) ∧ wpT P l Q S z t a w → K a w) → stepA P l Q i K a w)
  (h2 : ∀ K : Act → World → Prop, (∀ a w, (j < z → S w) ∧ wpT P l Q S z u a w → K a w) → stepA P l Q j K a w) : wpT P l Q S z (.two i t j u) a w := ⟨h1 _ fun _ _ h => h, h2 _ fun _ _ h => h⟩
theorem kt {n : Nat} {t : PT} {l' : List (Nat × Value)} (H : Kn a n l') {k : Nat} {v : Value} (hk : Nat.blt k n = true) (h : ∀ a', Kn a' n ((k, v) :: l') → wpT P l Q S z t a' w) : wpT P l Q S z t (a.put (some k) v) w := h _ (H.put k v hk)
end
end V2
end
section
namespace V2
section
variable {ops : Array Oper} {a : Act} {w : World} {Q : Exit → Act → World → Prop} {n : Nat} {l : List (Nat × Value)}
def runP (L : List Oper) (n : Nat) : Nat → List (Nat × Value) → PT → Option (List (Nat × Value) × PT)
 | 0, l, t => some (l, t)
 | i + 1, l, t => match t with
  | .fl j t => match nthO L j with
   | none => none
   | some o => match stepT L n l o with
    | none => none
    | some l' => runP L n i l' t
  | _ => none
theorem kF {L : List Oper} {S : World → Prop} {z i : Nat} {t : PT} {k : Nat} {op : Op} {tt : TypeId} {ps : String} {af : Array Edge} {v : Value} {g : Option (Nat × Bool)} (H : Kn a n l) (ho : nthO L i = some ⟨some k, op, tt, ps, af, g⟩) (hg : guardT L l g = some true)
  (hv : ∀ w', S w' → (execOp a.eval ⟨some k, op, tt, ps, af, g⟩).run Tryz.prog w' = .ok (.value v) w') (hk : Nat.blt k n = true) (h : ∀ a', Kn a' n ((k, v) :: l) → wpT Tryz.prog L Q S z t a' w) : wpT Tryz.prog L Q S z (.fl i t) a w :=
 ⟨_, ho, by
  have hw : Region.wanted ⟨some k, op, tt, ps, af, g⟩ (yielded L.toArray a.tmps) = true := guardT_wanted (ops := L.toArray) (o := ⟨some k, op, tt, ps, af, g⟩) H hg
  rw [if_pos hw]
  exact ⟨v, hv, kt H hk h⟩⟩
theorem stepP_run {L : List Oper} {S : World → Prop} {z i : Nat} {t : PT} {o : Oper} {l' : List (Nat × Value)} (H : Kn a n l) (ho : nthO L i = some o) (hs : stepT L n l o = some l') (h : ∀ a', Kn a' n l' → wpT Tryz.prog L Q S z t a' w) : wpT Tryz.prog L Q S z (.fl i t) a w := by
 refine ⟨o, ho, ?_⟩
 obtain ⟨d, op, tt, ps, af, g⟩ := o
 cases d with
 | none =>
  unfold stepT at hs
  simp only at hs
  split at hs
  ·
   rename_i hg
   obtain rfl := Option.some.inj hs
   have hw : Region.wanted ⟨none, op, tt, ps, af, g⟩ (yielded L.toArray a.tmps) = false := guardT_wanted (ops := L.toArray) (o := ⟨none, op, tt, ps, af, g⟩) H hg
   rw [if_neg (by rw [hw]; simp)]
   exact h _ H
  · cases hs
 | some k =>
  unfold stepT at hs
  simp only at hs
  split at hs
  · cases hs
  ·
   rename_i hk
   split at hs
   · cases hs
   ·
    rename_i hg
    obtain rfl := Option.some.inj hs
    have hw : Region.wanted ⟨some k, op, tt, ps, af, g⟩ (yielded L.toArray a.tmps) = false := guardT_wanted (ops := L.toArray) (o := ⟨some k, op, tt, ps, af, g⟩) H hg
    rw [if_neg (by rw [hw]; simp)]
    exact kt H hk h
   ·
    rename_i hg
    split at hs
    · cases hs
    ·
     rename_i v hv
     obtain rfl := Option.some.inj hs
     have hw : Region.wanted ⟨some k, op, tt, ps, af, g⟩ (yielded L.toArray a.tmps) = true := guardT_wanted (ops := L.toArray) (o := ⟨some k, op, tt, ps, af, g⟩) H hg
     rw [if_pos hw]
     exact ⟨v, fun w' _ => opT_run H hv, kt H hk h⟩
theorem kQ {L : List Oper} {S : World → Prop} {z : Nat} (i : Nat) : ∀ {a : Act} {l : List (Nat × Value)} {t t' : PT} {l' : List (Nat × Value)}, Kn a n l → runP L n i l t = some (l', t') → (∀ a', Kn a' n l' → wpT Tryz.prog L Q S z t' a' w) → wpT Tryz.prog L Q S z t a w := by
 induction i with
 | zero =>
  intro a l t t' l' H hr h
  obtain ⟨rfl, rfl⟩ := Prod.mk.inj (Option.some.inj hr)
  exact h a H
 | succ i ih =>
  intro a l t t' l' H hr h
  unfold runP at hr
  split at hr
  ·
   split at hr
   · cases hr
   ·
    rename_i o ho
    split at hr
    · cases hr
    ·
     rename_i l1 hs
     exact stepP_run H ho hs fun a' H' => ih H' hr h
  · cases hr
end
end V2
end
theorem i133 : (Tryz.prog.info? 133).map (fun i => (i.zero, i.size, i.bytes)) = some (some (.int .u32 0), 1, 4) := by kernel_rfl
theorem wown_app {w : World} {D i : Nat} {v : Value} {bs : List B8} {x : W32} (he : wl bs (i + 1) = wl bs i ++ [x]) (h : w.ownsRow D 133 1 v (i + 1) ((wl bs i).map u32v ++ [x].map u32v)) : w.ownsRow D 133 1 v (i + 1) ((wl bs (i + 1)).map u32v) := by
 rw [he, List.map_append]
 exact h
theorem wown_addr {w : World} {D n c : Nat} {A : Option Addr} {xs : List Value} (h : w.ownsRow D 133 1 (.slice A n c) n xs) (hn : 0 < n) : ∃ g, A = some ⟨g, 0, none⟩ := by
 obtain ⟨_, ⟨_, h1⟩ | ⟨g, cap, cur, e, _⟩⟩ := h
 · omega
 ·
  injection e with e1
  exact ⟨g, e1⟩
theorem wown_cell {w : World} {D g n c j : Nat} {bs : List B8} {x : W32} (h : w.ownsRow D 133 1 (.slice (some ⟨g, 0, none⟩) n c) n ((wl bs n).map u32v)) (hj : j < n) (hx : (wl bs n).getD j 0 = x) {q : Nat} (hq : q = 0 + j) : w.cell? ⟨g, q, none⟩ = some (u32v x) := by
 subst hq
 obtain ⟨A, c', e, hh, _⟩ := own_slice h
 injection e with e1 e2 e3
 obtain ⟨b, o, he, hc⟩ := hh j (by rw [List.length_map, wl_len]; exact hj)
 rw [← e1] at he
 injection he with he
 injection he with e4 e5
 subst e4 e5
 rw [hc, ← hx, List.getD_eq_getElem?_getD]
 have : j < (wl bs n).length := by rw [wl_len]; exact hj
 simp [List.getElem?_eq_getElem this]
theorem be_acc (a b c d : B8) : (((a.setWidth 32 <<< 24 ||| b.setWidth 32 <<< 16) ||| c.setWidth 32 <<< 8) ||| d.setWidth 32) = accB [a, b, c, d] := by
 unfold accB
 simp only [List.foldl_cons, List.foldl_nil]
 apply BitVec.eq_of_getLsbD_eq
 intro i hi
 simp only [BitVec.getLsbD_or, BitVec.getLsbD_shiftLeft, BitVec.getLsbD_setWidth, BitVec.getLsbD_zero]
 by_cases h1 : i < 8
 · simp [h1, show i < 16 by omega, show i < 24 by omega, hi]
 ·
  by_cases h2 : i < 16
  · simp [h1, h2, show i < 24 by omega, hi, show i - 8 < 8 by omega]
  ·
   by_cases h3 : i < 24
   · simp [h1, h2, h3, hi, show ¬ i - 8 < 8 by omega, show i - 8 - 8 < 8 by omega, show i - 16 = i - 8 - 8 by omega, show i - 8 < 32 by omega, show i - 8 - 8 < 32 by omega]
   · simp [h1, h2, h3, hi, show ¬ i - 8 < 8 by omega, show ¬ i - 8 - 8 < 8 by omega, show i - 24 = i - 8 - 8 - 8 by omega, show i - 8 - 8 - 8 < 8 by omega, show i - 16 = i - 8 - 8 by omega, show i - 8 < 32 by omega, show i - 8 - 8 < 32 by omega, show i - 8 - 8 - 8 < 32 by omega]
theorem rword {bs : List B8} {i : Nat} {y0 y1 y2 y3 : B8} (hi : i < 16) (h0 : bs[4 * i + 0]? = some y0) (h1 : bs[4 * i + 1]? = some y1) (h2 : bs[4 * i + 2]? = some y2) (h3 : bs[4 * i + 3]? = some y3) :
  wl bs (i + 1) = wl bs i ++ [((((y0.setWidth 32) <<< 24) ||| ((y1.setWidth 32) <<< 16)) ||| ((y2.setWidth 32) <<< 8)) ||| (y3.setWidth 32)] := by
 have e : (bs.drop (4 * i)).take 4 = [y0, y1, y2, y3] := by
  apply List.ext_getElem?
  intro j
  rw [List.getElem?_take]
  split
  ·
   rename_i hj
   rw [List.getElem?_drop]
   match j, hj with
   | 0, _ => exact h0
   | 1, _ => exact h1
   | 2, _ => exact h2
   | 3, _ => exact h3
  ·
   rw [List.getElem?_eq_none]
   simp; omega
 rw [be_acc, ← e]
 simp [wl, hi]
theorem add_rc (a b c : W32) : a + b + c = a + c + b := by rw [BitVec.add_assoc, BitVec.add_comm b c, ← BitVec.add_assoc]
theorem rnext {bs : List B8} {i : Nat} {x y z u : W32} (h0 : 16 ≤ i) (hi : i < 64) (hx : (wl bs i).getD (i - 15) 0 = x) (hy : (wl bs i).getD (i - 2) 0 = y) (hz : (wl bs i).getD (i - 16) 0 = z) (hu : (wl bs i).getD (i - 7) 0 = u) :
  wl bs (i + 1) = wl bs i ++ [((z + ((rotr x 7 ^^^ rotr x 18) ^^^ (x >>> 3))) + u) + ((rotr y 17 ^^^ rotr y 19) ^^^ (y >>> 10))] := by
 subst hx hy hz hu
 simp only [wl, if_neg (show ¬ i < 16 by omega), nxtW]
 rw [add_rc ((wl bs i).getD (i - 16) 0)]
theorem turn_lit (x : W32) (n : Nat) (q : Int) (w : World) (hq : q = (n : Int)) (h1 : 1 ≤ n) (h2 : n ≤ 31) :
  Calls Tryz.prog 134 #[u32v x, .int .i64 q] w fun e w' => e = .returned (u32v (rotr x n)) ∧ Below w.heap.size w w' := by
 subst hq
 have hall := Below.refl w.heap.size w
 refine K_enter 13 Tryz.func134 rfl rfl fun a H => ?_
 replace H := H.pick [0, 1]
 refine zC (zD ?_)
 refine kR 1 H rfl fun a H => ?_
 refine zA (zB (zC ?_))
 have hall1 := hall
 have hS : BelowOf (BelowTo hall1) _ := Below.drew (Below.refl _ (BelowTo hall1))
 refine region_tree (BelowOf (BelowTo hall1)) 9 (.fl 0 (.fl 1 (.fl 2 (.fl 3 (.fl 4 (.fl 5 (.fl 6 (.fl 7 (.fl 8 .done))))))))) (by kernel_rfl) (by kernel_rfl) rfl (by kernel_rfl) hS ?_
 refine kQ 2 H rfl fun a H => ?_
 refine kF H rfl rfl (fun w' hS' => r_shr32 (k := n) (by omega) U133 (H.ev rfl) (H.ev rfl)) rfl fun a H => ?_
 refine kQ 2 H rfl fun a H => ?_
 refine kF H rfl rfl (fun w' hS' => r_sub (q := ((32 - n : Nat) : Int)) U3 evc (H.ev rfl) (by omega) (by omega)) rfl fun a H => ?_
 refine kF H rfl rfl (fun w' hS' => r_shl32 (k := 32 - n) (by omega) U133 (H.ev rfl) (H.ev rfl)) rfl fun a H => ?_
 refine kF H rfl rfl (fun w' hS' => r_or32 U133 (H.ev rfl) (H.ev rfl)) rfl fun a H => ?_
 refine kQ 1 H rfl fun a H => ?_
 refine pt_done (NoPanic.normal ?_)
 replace hall := hall.trans (Below.mono hS hall.size)
 clear hS
 refine zB (zF ?_)
 exact k_ret1 H rfl rfl ⟨rfl, hall⟩
def rcv : Array (Nat × Value) := #[(0, .int .u32 1116352408), (1, .int .u32 1899447441), (2, .int .u32 3049323471), (3, .int .u32 3921009573), (4, .int .u32 961987163), (5, .int .u32 1508970993), (6, .int .u32 2453635748), (7, .int .u32 2870763221), (8, .int .u32 3624381080), (9, .int .u32 310598401), (10, .int .u32 607225278), (11, .int .u32 1426881987), (12, .int .u32 1925078388), (13, .int .u32 2162078206), (14, .int .u32 2614888103), (15, .int .u32 3248222580), (16, .int .u32 3835390401), (17, .int .u32 4022224774), (18, .int .u32 264347078), (19, .int .u32 604807628), (20, .int .u32 770255983), (21, .int .u32 1249150122), (22, .int .u32 1555081692), (23, .int .u32 1996064986), (24, .int .u32 2554220882), (25, .int .u32 2821834349), (26, .int .u32 2952996808), (27, .int .u32 3210313671), (28, .int .u32 3336571891), (29, .int .u32 3584528711), (30, .int .u32 113926993), (31, .int .u32 338241895), (32, .int .u32 666307205), (33, .int .u32 773529912), (34, .int .u32 1294757372), (35, .int .u32 1396182291), (36, .int .u32 1695183700), (37, .int .u32 1986661051), (38, .int .u32 2177026350), (39, .int .u32 2456956037), (40, .int .u32 2730485921), (41, .int .u32 2820302411), (42, .int .u32 3259730800), (43, .int .u32 3345764771), (44, .int .u32 3516065817), (45, .int .u32 3600352804), (46, .int .u32 4094571909), (47, .int .u32 275423344), (48, .int .u32 430227734), (49, .int .u32 506948616), (50, .int .u32 659060556), (51, .int .u32 883997877), (52, .int .u32 958139571), (53, .int .u32 1322822218), (54, .int .u32 1537002063), (55, .int .u32 1747873779), (56, .int .u32 1955562222), (57, .int .u32 2024104815), (58, .int .u32 2227730452), (59, .int .u32 2361852424), (60, .int .u32 2428436474), (61, .int .u32 2756734187), (62, .int .u32 3204031479), (63, .int .u32 3329325298)]
theorem rc_run (w : World) : (Instr.buildSlice 143 64 rcv).run Tryz.prog w = .ok (.slice (some ⟨w.heap.size, 0, none⟩) 64 64) (w.alloc (.cells (warr KC) 133)) := by kernel_rfl
theorem rconsts_any (w : World) : Calls Tryz.prog 132 #[] w fun e w' => (∃ g, e = .returned (.slice (some ⟨g, 0, none⟩) 64 64) ∧ w.heap.size ≤ g ∧ Block w' g 133 (warr KC)) ∧ Below w.heap.size w w' := by
 have hall := Below.refl w.heap.size w
 refine K_enter 2 Tryz.func132 rfl rfl fun a H => ?_
 replace H := H.pick []
 refine zC (zD ?_)
 refine kR 1 H rfl fun a H => ?_
 refine zA (zB (zC (zD ?_)))
 refine op_litv 143 64 rcv 133 (warr KC) (by kernel_rfl) rc_run fun w1 g hge hb kg => ?_; have gg := Nat.le_trans hall.size hge; replace hall := hall.tr hb; clear hb hge; refine kl H rfl fun a H => ?_
 refine kR 1 H rfl fun a H => ?_
 refine zA (zB (zF ?_))
 exact k_ret1 H rfl rfl ⟨⟨g, rfl, gg, kg⟩, hall⟩
def Wd1 (W : World) (x0 o c : Nat) (bs : List B8) (a : Act) (w : World) : Prop :=
 ∃ (i : Nat) (A1 : Option Addr) (c1 : Nat), Kn a 99 [(0, .slice (some ⟨x0, o, none⟩) 64 c), (3, .slice A1 i c1), (4, .int .i64 (i : Nat))] ∧ 0 ≤ i ∧ i ≤ 16 ∧ w.ownsRow W.heap.size 133 1 (.slice A1 i c1) i ((wl bs i).map u32v) ∧ Below W.heap.size W w
def Wd2 (W : World) (x0 o c : Nat) (bs : List B8) (a : Act) (w : World) : Prop :=
 ∃ (i : Nat) (A1 : Option Addr) (c1 : Nat), Kn a 99 [(0, .slice (some ⟨x0, o, none⟩) 64 c), (3, .slice A1 i c1), (5, .int .i64 (i : Nat))] ∧ 16 ≤ i ∧ i ≤ 64 ∧ w.ownsRow W.heap.size 133 1 (.slice A1 i c1) i ((wl bs i).map u32v) ∧ Below W.heap.size W w
set_option maxRecDepth 100000 in
set_option maxHeartbeats 8000000 in
theorem words_any (w : World) (x0 o c : Nat) (bs : List B8) (h : BRow w (.slice (some ⟨x0, o, none⟩) 64 c) bs) (hl : bs.length = 64) (hc : 64 ≤ c) :
  Calls Tryz.prog 133 #[.slice (some ⟨x0, o, none⟩) 64 c] w fun e w' => (∃ A1 c1, e = .returned (.slice A1 64 c1) ∧ w'.ownsRow w.heap.size 133 1 (.slice A1 64 c1) 64 ((wl bs 64).map u32v)) ∧ Below w.heap.size w w' := by
 replace h := Lib.hid h
 have hall := Below.refl w.heap.size w
 refine K_enter 99 Tryz.func133 rfl rfl fun a H => ?_
 replace H := H.pick [0]
 refine zC (zD ?_)
 refine kR 1 H rfl fun a H => ?_
 refine zA (zB (zC (zD ?_)))
 refine kR 1 H rfl fun a H => ?_
 refine zA (zB (zC (zC (zD ?_))))
 refine kR 1 H rfl fun a H => ?_
 refine zA (zB ?_)
 refine wp_block ?_
 refine wp_loop (Wd1 w x0 o c bs) (fun a _ => 16 - (intOf (a.eval (.tmp 4))).toNat) ⟨0, none, 0, H.pick [0, 3, 4], by omega, by omega, World.ownsRow_nil _ _ _ _, hall⟩ ?_
 clear H hall
 rintro a w' ⟨i, A1, c1, H, hi0, hi, hown, hall⟩
 have H0 := H
 by_cases hlt : i < 16
 ·
  have hDs := hall.size
  obtain ⟨y0, hy0⟩ : ∃ y, bs[4 * i + 0]? = some y := ⟨_, List.getElem?_eq_getElem (by omega)⟩
  have HY0 := Lib.hid hy0
  clear hy0
  obtain ⟨y1, hy1⟩ : ∃ y, bs[4 * i + 1]? = some y := ⟨_, List.getElem?_eq_getElem (by omega)⟩
  have HY1 := Lib.hid hy1
  clear hy1
  obtain ⟨y2, hy2⟩ : ∃ y, bs[4 * i + 2]? = some y := ⟨_, List.getElem?_eq_getElem (by omega)⟩
  have HY2 := Lib.hid hy2
  clear hy2
  obtain ⟨y3, hy3⟩ : ∃ y, bs[4 * i + 3]? = some y := ⟨_, List.getElem?_eq_getElem (by omega)⟩
  have HY3 := Lib.hid hy3
  clear hy3
  have H := H0
  refine zC (zC (zD ?_))
  refine kR 1 H rfl fun a H => ?_
  refine kV H (r_lt U3 (H.ev rfl) evc (dec_t (by omega))) rfl fun a H => ?_
  refine zA (zB (zH H rfl (zE (zB (zC ?_)))))
  refine wp_block ?_
  have hall5 := hall
  have hS : BelowOf w _ := Below.drew (hall)
  refine region_tree (BelowOf w) 37 (.fl 0 (.fl 1 (.fl 2 (.fl 3 (.fl 4 (.fl 5 (.fl 6 (.fl 7 (.fl 8 (.fl 9 (.fl 10 (.fl 11 (.fl 12 (.fl 13 (.fl 14 (.fl 15 (.fl 16 (.fl 17 (.fl 18 (.fl 19 (.fl 20 (.fl 21 (.fl 22 (.fl 23 (.fl 24 (.fl 25 (.fl 26 (.fl 27 (.fl 28 (.fl 29 (.fl 30 (.fl 31 (.fl 32 (.fl 33 (.one 34 (.one 35 (.fl 36 .done))))))))))))))))))))))))))))))))))))) (by kernel_rfl) (by kernel_rfl) rfl (by kernel_rfl) hS ?_
  replace hown := own_ups hown (Below.drew (Below.refl _ _))
  refine kQ 3 H rfl fun a H => ?_
  refine kF (v := .int .i64 (4 * i : Nat)) H rfl rfl (fun w' hS' => r_mul (r := ((4 * i : Nat) : Int)) U3 evc (H.ev rfl) (by omega) (by omega)) rfl fun a H => ?_
  refine kF H rfl rfl (fun w' hS' => r_idx (j := 4 * i) (q := o + 4 * i) U30 s5 (H.ev rfl) (H.ev rfl) (by omega) (by omega)) rfl fun a H => ?_
  refine kF H rfl rfl (fun w' hS' => r_ld U5 rfl (H.ev rfl) (brow_cell (BRow.up h.out hS') HY0.out (by omega))) rfl fun a H => ?_
  refine kF H rfl rfl (fun w' hS' => r_cv8_32 U5 U133 (H.ev rfl)) rfl fun a H => ?_
  refine kF H rfl rfl (fun w' hS' => r_shl32u (k := 24) (by omega) U133 (H.ev rfl) evc) rfl fun a H => ?_
  refine kQ 2 H rfl fun a H => ?_
  refine kF (v := .int .i64 (4 * i : Nat)) H rfl rfl (fun w' hS' => r_mul (r := ((4 * i : Nat) : Int)) U3 evc (H.ev rfl) (by omega) (by omega)) rfl fun a H => ?_
  refine kF H rfl rfl (fun w' hS' => r_add (q := ((4 * i + 1 : Nat) : Int)) U3 (H.ev rfl) evc (by omega) (by omega)) rfl fun a H => ?_
  refine kF H rfl rfl (fun w' hS' => r_idx (j := 4 * i + 1) (q := o + 4 * i + 1) U30 s5 (H.ev rfl) (H.ev rfl) (by omega) (by omega)) rfl fun a H => ?_
  refine kF H rfl rfl (fun w' hS' => r_ld U5 rfl (H.ev rfl) (brow_cell (BRow.up h.out hS') HY1.out (by omega))) rfl fun a H => ?_
  refine kF H rfl rfl (fun w' hS' => r_cv8_32 U5 U133 (H.ev rfl)) rfl fun a H => ?_
  refine kF H rfl rfl (fun w' hS' => r_shl32u (k := 16) (by omega) U133 (H.ev rfl) evc) rfl fun a H => ?_
  refine kF H rfl rfl (fun w' hS' => r_or32 U133 (H.ev rfl) (H.ev rfl)) rfl fun a H => ?_
  refine kQ 2 H rfl fun a H => ?_
  refine kF (v := .int .i64 (4 * i : Nat)) H rfl rfl (fun w' hS' => r_mul (r := ((4 * i : Nat) : Int)) U3 evc (H.ev rfl) (by omega) (by omega)) rfl fun a H => ?_
  refine kF H rfl rfl (fun w' hS' => r_add (q := ((4 * i + 2 : Nat) : Int)) U3 (H.ev rfl) evc (by omega) (by omega)) rfl fun a H => ?_
  refine kF H rfl rfl (fun w' hS' => r_idx (j := 4 * i + 2) (q := o + 4 * i + 2) U30 s5 (H.ev rfl) (H.ev rfl) (by omega) (by omega)) rfl fun a H => ?_
  refine kF H rfl rfl (fun w' hS' => r_ld U5 rfl (H.ev rfl) (brow_cell (BRow.up h.out hS') HY2.out (by omega))) rfl fun a H => ?_
  refine kF H rfl rfl (fun w' hS' => r_cv8_32 U5 U133 (H.ev rfl)) rfl fun a H => ?_
  refine kF H rfl rfl (fun w' hS' => r_shl32u (k := 8) (by omega) U133 (H.ev rfl) evc) rfl fun a H => ?_
  refine kF H rfl rfl (fun w' hS' => r_or32 U133 (H.ev rfl) (H.ev rfl)) rfl fun a H => ?_
  refine kQ 2 H rfl fun a H => ?_
  refine kF (v := .int .i64 (4 * i : Nat)) H rfl rfl (fun w' hS' => r_mul (r := ((4 * i : Nat) : Int)) U3 evc (H.ev rfl) (by omega) (by omega)) rfl fun a H => ?_
  refine kF H rfl rfl (fun w' hS' => r_add (q := ((4 * i + 3 : Nat) : Int)) U3 (H.ev rfl) evc (by omega) (by omega)) rfl fun a H => ?_
  refine kF H rfl rfl (fun w' hS' => r_idx (j := 4 * i + 3) (q := o + 4 * i + 3) U30 s5 (H.ev rfl) (H.ev rfl) (by omega) (by omega)) rfl fun a H => ?_
  refine kF H rfl rfl (fun w' hS' => r_ld U5 rfl (H.ev rfl) (brow_cell (BRow.up h.out hS') HY3.out (by omega))) rfl fun a H => ?_
  refine kF H rfl rfl (fun w' hS' => r_cv8_32 U5 U133 (H.ev rfl)) rfl fun a H => ?_
  refine kF H rfl rfl (fun w' hS' => r_or32 U133 (H.ev rfl) (H.ev rfl)) rfl fun a H => ?_
  refine pt_one (fun K hK => ?_)
  refine st_a0 rfl ?_; refine wpo_litv 143 1 #[(0, u32v (((((y0.setWidth 32) <<< 24) ||| ((y1.setWidth 32) <<< 16)) ||| ((y2.setWidth 32) <<< 8)) ||| (y3.setWidth 32)))] 133 #[u32v (((((y0.setWidth 32) <<< 24) ||| ((y1.setWidth 32) <<< 16)) ||| ((y2.setWidth 32) <<< 8)) ||| (y3.setWidth 32))] (by simp [H.ev (j := 47) rfl]) (fun w => by kernel_rfl) fun w10 b10 hge hb k10 => ?_; have hgeS := Nat.le_trans (Below.size hS) hge; replace hown := own_ups hown hb; replace hS := Below.trans hS (Below.mono hb (Below.size hS)); clear hb hge; refine hK _ _ ⟨(fun _ => hS), ?_⟩; clear hK; clear K; refine kt H rfl fun a H => ?_
  refine pt_one (fun K hK => ?_)
  refine st_a0 rfl ?_; have hDs2 := Below.size hS; refine wpo_append 143 133 (.tmp 14) (.tmp 48) w.heap.size (.int .u32 0) 1 4 _ _ _ (some ⟨b10, 0, none⟩) 1 1 ([((((y0.setWidth 32) <<< 24) ||| ((y1.setWidth 32) <<< 16)) ||| ((y2.setWidth 32) <<< 8)) ||| (y3.setWidth 32)].map u32v) (H.ev rfl) (H.ev rfl) U143 i133 rfl (by omega) hown rfl (Block.holds k10) (u32s_one _) (by unfold maxLen; omega) (by omega) hDs2 fun o2 w9 hown2 hg9 hv9 hb2 => ?_; have hown3 := wown_app (rword hlt HY0.out HY1.out HY2.out HY3.out) hown2; replace hS := Below.trans hS hb2; clear hown hown2 hg9 hv9 hb2 k10 hDs2; have hown := hown3; clear hown3; obtain ⟨A2, c2, hov⟩ := own_sliceB hown; subst hov; refine hK _ _ ⟨(fun _ => hS), ?_⟩; clear hK; clear K; refine kt H rfl fun a H => ?_
  refine kQ 1 H rfl fun a H => ?_
  refine pt_done (NoPanic.normal ?_)
  replace hall := hS
  clear hS
  refine n_block (zB (zD ?_))
  refine kR 1 H rfl fun a H => ?_
  refine kV H (r_add (q := ((i + 1 : Nat) : Int)) U3 (H.ev rfl) evc (by omega) (by omega)) rfl fun a H => ?_
  refine kR 1 H rfl fun a H => ?_
  refine zA ?_
  refine zI ⟨⟨i + 1, _, _, H.pick [0, 3, 4], by omega, by omega, hown, hall⟩, ?_⟩
  rw [H.ev (j := 4) rfl, H0.ev (j := 4) rfl]
  simp only [intOf]
  omega
 ·
  obtain rfl : i = 16 := by omega
  refine zC (zC (zD ?_))
  refine kR 1 H rfl fun a H => ?_
  refine kV H (r_lt U3 (H.ev rfl) evc (dec_f (by omega))) rfl fun a H => ?_
  refine zA (zB (zG H rfl (wp_exit (e_then (e_then ?_)))))
  refine e_here ?_
  refine zB (zC (zC (zD ?_)))
  refine kR 1 H rfl fun a H => ?_
  refine zA (zB ?_)
  refine wp_block ?_
  refine wp_loop (Wd2 w x0 o c bs) (fun a _ => 64 - (intOf (a.eval (.tmp 5))).toNat) ⟨16, A1, c1, H.pick [0, 3, 5], by omega, by omega, hown, hall⟩ ?_
  clear H hall hown
  rintro a w' ⟨i, A1, c1, H, hi0, hi, hown, hall⟩
  have H0 := H
  by_cases hlt : i < 64
  ·
   have hDs := hall.size
   obtain ⟨g, hA1⟩ := wown_addr hown (by omega)
   subst hA1
   obtain ⟨x, hx⟩ : ∃ v, (wl bs i).getD (i - 15) 0 = v := ⟨_, rfl⟩
   have HV15 := Lib.hid hx
   clear hx
   obtain ⟨y, hy⟩ : ∃ v, (wl bs i).getD (i - 2) 0 = v := ⟨_, rfl⟩
   have HV2 := Lib.hid hy
   clear hy
   obtain ⟨z, hz⟩ : ∃ v, (wl bs i).getD (i - 16) 0 = v := ⟨_, rfl⟩
   have HV16 := Lib.hid hz
   clear hz
   obtain ⟨u, hu⟩ : ∃ v, (wl bs i).getD (i - 7) 0 = v := ⟨_, rfl⟩
   have HV7 := Lib.hid hu
   clear hu
   have H := H0
   refine zC (zC (zD ?_))
   refine kR 1 H rfl fun a H => ?_
   refine kV H (r_lt U3 (H.ev rfl) evc (dec_t (by omega))) rfl fun a H => ?_
   refine zA (zB (zH H rfl (zE (zB (zC ?_)))))
   refine wp_block ?_
   refine zC (zD ?_)
   refine kR 2 H rfl fun a H => ?_
   refine kV H (r_sub (q := ((i - 15 : Nat) : Int)) U3 (H.ev rfl) evc (by omega) (by omega)) rfl fun a H => ?_
   refine kV H (r_idx (j := i - 15) (q := 0 + i - 15) U143 s133 (H.ev rfl) (H.ev rfl) (by omega) (by omega)) rfl fun a H => ?_
   refine kV H (r_ld U133 rfl (H.ev rfl) (wown_cell hown (by omega) HV15.out (by omega))) rfl fun a H => ?_
   refine kR 1 H rfl fun a H => ?_
   refine zA (zB (zC (zD ?_)))
   refine kR 2 H rfl fun a H => ?_
   refine kV H (r_sub (q := ((i - 2 : Nat) : Int)) U3 (H.ev rfl) evc (by omega) (by omega)) rfl fun a H => ?_
   refine kV H (r_idx (j := i - 2) (q := 0 + i - 2) U143 s133 (H.ev rfl) (H.ev rfl) (by omega) (by omega)) rfl fun a H => ?_
   refine kV H (r_ld U133 rfl (H.ev rfl) (wown_cell hown (by omega) HV2.out (by omega))) rfl fun a H => ?_
   refine kR 1 H rfl fun a H => ?_
   refine zA (zB (zC (zD ?_)))
   refine kR 1 H rfl fun a H => ?_
   refine wl_call _ _ _ (turn_lit x 7 7 _ rfl (by omega) (by omega)) (r_call2 cf134 (H.ev rfl) evc) ?_; rintro e w9 ⟨rfl, hb⟩; refine ⟨_, rfl, ?_⟩; replace hown := own_ups hown hb; replace hall := hall.tr hb; clear hb; refine kl H rfl fun a H => ?_
   refine kR 1 H rfl fun a H => ?_
   refine wl_call _ _ _ (turn_lit x 18 18 _ rfl (by omega) (by omega)) (r_call2 cf134 (H.ev rfl) evc) ?_; rintro e w9 ⟨rfl, hb⟩; refine ⟨_, rfl, ?_⟩; replace hown := own_ups hown hb; replace hall := hall.tr hb; clear hb; refine kl H rfl fun a H => ?_
   refine kV H (r_xor32 U133 (H.ev rfl) (H.ev rfl)) rfl fun a H => ?_
   refine kR 1 H rfl fun a H => ?_
   refine kV H (r_shr32u (k := 3) (by omega) U133 (H.ev rfl) evc) rfl fun a H => ?_
   refine kV H (r_xor32 U133 (H.ev rfl) (H.ev rfl)) rfl fun a H => ?_
   refine kR 1 H rfl fun a H => ?_
   refine zA (zB (zC (zD ?_)))
   refine kR 1 H rfl fun a H => ?_
   refine wl_call _ _ _ (turn_lit y 17 17 _ rfl (by omega) (by omega)) (r_call2 cf134 (H.ev rfl) evc) ?_; rintro e w9 ⟨rfl, hb⟩; refine ⟨_, rfl, ?_⟩; replace hown := own_ups hown hb; replace hall := hall.tr hb; clear hb; refine kl H rfl fun a H => ?_
   refine kR 1 H rfl fun a H => ?_
   refine wl_call _ _ _ (turn_lit y 19 19 _ rfl (by omega) (by omega)) (r_call2 cf134 (H.ev rfl) evc) ?_; rintro e w9 ⟨rfl, hb⟩; refine ⟨_, rfl, ?_⟩; replace hown := own_ups hown hb; replace hall := hall.tr hb; clear hb; refine kl H rfl fun a H => ?_
   refine kV H (r_xor32 U133 (H.ev rfl) (H.ev rfl)) rfl fun a H => ?_
   refine kR 1 H rfl fun a H => ?_
   refine kV H (r_shr32u (k := 10) (by omega) U133 (H.ev rfl) evc) rfl fun a H => ?_
   refine kV H (r_xor32 U133 (H.ev rfl) (H.ev rfl)) rfl fun a H => ?_
   refine kR 1 H rfl fun a H => ?_
   refine zA (zB ?_)
   have hall13 := hall
   have hS : BelowOf (BelowTo hall13) _ := Below.drew (Below.refl _ (BelowTo hall13))
   refine V2.region_tree (BelowOf (BelowTo hall13)) 17 (.fl 0 (.fl 1 (.fl 2 (.fl 3 (.fl 4 (.fl 5 (.fl 6 (.fl 7 (.fl 8 (.fl 9 (.fl 10 (.fl 11 (.fl 12 (.fl 13 (.fl 14 (.fl 15 (.one 16 (.one 17 (.one 18 .done))))))))))))))))))) (by kernel_rfl) (by kernel_rfl) rfl (by kernel_rfl) hS ?_
   refine V2.kQ 3 H rfl fun a H => ?_
   refine V2.kF H rfl rfl (fun w' hS' => r_sub (q := ((i - 16 : Nat) : Int)) U3 (H.ev rfl) evc (by omega) (by omega)) rfl fun a H => ?_
   refine V2.kF H rfl rfl (fun w' hS' => r_idx (j := i - 16) (q := 0 + i - 16) U143 s133 (H.ev rfl) (H.ev rfl) (by omega) (by omega)) rfl fun a H => ?_
   refine V2.kF H rfl rfl (fun w' hS' => r_ld U133 rfl (H.ev rfl) (wown_cell (own_ups hown hS') (by omega) HV16.out (by omega))) rfl fun a H => ?_
   refine V2.kQ 1 H rfl fun a H => ?_
   refine V2.kF H rfl rfl (fun w' hS' => r_add32 U133 (H.ev rfl) (H.ev rfl)) rfl fun a H => ?_
   refine V2.kQ 2 H rfl fun a H => ?_
   refine V2.kF H rfl rfl (fun w' hS' => r_sub (q := ((i - 7 : Nat) : Int)) U3 (H.ev rfl) evc (by omega) (by omega)) rfl fun a H => ?_
   refine V2.kF H rfl rfl (fun w' hS' => r_idx (j := i - 7) (q := 0 + i - 7) U143 s133 (H.ev rfl) (H.ev rfl) (by omega) (by omega)) rfl fun a H => ?_
   refine V2.kF H rfl rfl (fun w' hS' => r_ld U133 rfl (H.ev rfl) (wown_cell (own_ups hown hS') (by omega) HV7.out (by omega))) rfl fun a H => ?_
   refine V2.kF H rfl rfl (fun w' hS' => r_add32 U133 (H.ev rfl) (H.ev rfl)) rfl fun a H => ?_
   refine V2.kQ 1 H rfl fun a H => ?_
   refine V2.kF H rfl rfl (fun w' hS' => r_add32 U133 (H.ev rfl) (H.ev rfl)) rfl fun a H => ?_
   refine V2.pt_one (fun K hK => ?_)
   refine st_a0 rfl ?_; refine wpo_litv 143 1 #[(0, u32v (((z + (((rotr x 7) ^^^ (rotr x 18)) ^^^ (x >>> 3))) + u) + (((rotr y 17) ^^^ (rotr y 19)) ^^^ (y >>> 10))))] 133 #[u32v (((z + (((rotr x 7) ^^^ (rotr x 18)) ^^^ (x >>> 3))) + u) + (((rotr y 17) ^^^ (rotr y 19)) ^^^ (y >>> 10)))] (by simp [H.ev (j := 95) rfl]) (fun w => by kernel_rfl) fun w10 b10 hge hb k10 => ?_; have hgeS := Nat.le_trans (Below.size hS) hge; replace hS := Below.trans hS (Below.mono hb (Below.size hS)); clear hb hge; refine hK _ _ ⟨(fun _ => hS), ?_⟩; clear hK; clear K; refine V2.kt H rfl fun a H => ?_
   refine V2.pt_one (fun K hK => ?_)
   replace hown := own_ups hown hS
   replace hall := hall.trans (Below.mono hS hall.size)
   refine st_a0 rfl ?_; have hDs2 := Below.size hall; refine wpo_append 143 133 (.tmp 80) (.tmp 96) w.heap.size (.int .u32 0) 1 4 _ _ _ (some ⟨b10, 0, none⟩) 1 1 ([((z + (((rotr x 7) ^^^ (rotr x 18)) ^^^ (x >>> 3))) + u) + (((rotr y 17) ^^^ (rotr y 19)) ^^^ (y >>> 10))].map u32v) (H.ev rfl) (H.ev rfl) U143 i133 rfl (by omega) hown rfl (Block.holds k10) (u32s_one _) (by unfold maxLen; omega) (by omega) hDs2 fun o2 w9 hown2 hg9 hv9 hb2 => ?_; have hown3 := wown_app (rnext hi0 hlt HV15.out HV2.out HV16.out HV7.out) hown2; replace hall := Below.trans hall hb2; clear hown hown2 hg9 hv9 hb2 k10 hDs2; have hown := hown3; clear hown3; obtain ⟨A2, c2, hov⟩ := own_sliceB hown; subst hov; refine hK _ _ ⟨(fun h => absurd h (by omega)), ?_⟩; clear hK; clear K; clear hS; refine V2.kt H rfl fun a H => ?_
   refine V2.pt_one (fun K hK => ?_)
   refine st_a0 rfl ?_; unfold Oper.wp; rw [r_assign (H.ev rfl)]; refine hK _ _ ⟨(fun h => absurd h (by omega)), ?_⟩; clear hK; clear K; refine V2.kt H rfl fun a H => ?_
   refine V2.pt_done (NoPanic.normal ?_)
   refine n_block (zB (zD ?_))
   refine kR 1 H rfl fun a H => ?_
   refine kV H (r_add (q := ((i + 1 : Nat) : Int)) U3 (H.ev rfl) evc (by omega) (by omega)) rfl fun a H => ?_
   refine kR 1 H rfl fun a H => ?_
   refine zA ?_
   refine zI ⟨⟨i + 1, _, _, H.pick [0, 3, 5], by omega, by omega, hown, hall⟩, ?_⟩
   rw [H.ev (j := 5) rfl, H0.ev (j := 5) rfl]
   simp only [intOf]
   omega
  ·
   obtain rfl : i = 64 := by omega
   refine zC (zC (zD ?_))
   refine kR 1 H rfl fun a H => ?_
   refine kV H (r_lt U3 (H.ev rfl) evc (dec_f (by omega))) rfl fun a H => ?_
   refine zA (zB (zG H rfl (wp_exit (e_then (e_then ?_)))))
   refine e_here ?_
   refine zB (zC (zD ?_))
   refine kR 2 H rfl fun a H => ?_
   refine zA (zB (zF ?_))
   exact k_ret1 H rfl rfl ⟨⟨A1, c1, rfl, hown⟩, hall⟩
theorem z134 : (Tryz.prog.info? 134).map (·.zero) = some (some (.agg (warr (List.replicate 8 0)))) := by kernel_rfl
theorem s134 : (Tryz.prog.info? 134).map (·.size) = some 8 := by kernel_rfl
theorem s8r {S : List W32} (h : S.length = 8) : (Tryz.prog.info? 134).map (·.size) = some (warr S).size := by
 rw [warr_size, h]; exact s134
theorem s134l {a b c d e f g h : W32} : (Tryz.prog.info? 134).map (·.size) = some (warr [a, b, c, d, e, f, g, h]).size := s134
theorem own_ltW {w : World} {D n b : Nat} {e : TypeId} {v : Value} {xs : List Value} (h : w.ownsRow D e 1 v n xs) (hge : w.heap.size ≤ b) : ∀ q, v.ownBlock = some q → q < b := fun q hq => Nat.lt_of_lt_of_le (h.lt q hq).2 hge
theorem warr_cell0 {w : World} {b q : Nat} {t : TypeId} {l : List W32} {i : Nat} {x : W32} (h : Block w b t (warr l)) (hx : l[i]? = some x) (hq : q = 0 + i) : w.cell? ⟨b, q, none⟩ = some (u32v x) := by
 rw [Nat.zero_add] at hq
 subst hq
 exact warr_cell h hx
theorem getD_of {l : List W32} {i : Nat} {x : W32} (h : l[i]? = some x) : l.getD i 0 = x := by rw [List.getD_eq_getElem?_getD, h]; rfl
theorem ch_eq (e f g : W32) : (e &&& f) ^^^ (~~~e &&& g) = g ^^^ (e &&& (f ^^^ g)) := by
 apply BitVec.eq_of_getLsbD_eq
 intro i hi
 simp only [BitVec.getLsbD_xor, BitVec.getLsbD_and, BitVec.getLsbD_not, hi]
 cases e.getLsbD i <;> cases f.getLsbD i <;> cases g.getLsbD i <;> rfl
theorem maj_eq (a b c : W32) : ((a &&& b) ^^^ (a &&& c)) ^^^ (b &&& c) = (a &&& b) ||| (c &&& (a ||| b)) := by
 apply BitVec.eq_of_getLsbD_eq
 intro i hi
 simp only [BitVec.getLsbD_xor, BitVec.getLsbD_and, BitVec.getLsbD_or]
 cases a.getLsbD i <;> cases b.getLsbD i <;> cases c.getLsbD i <;> rfl
theorem rnd_nextD {S : List W32} {bs : List B8} {i : Nat} {va vb vc vd ve vf vg vh x kk tv uv : W32} (hr : rndN S bs i = [va, vb, vc, vd, ve, vf, vg, vh]) (hx : (wl bs 64)[i]? = some x) (hk : KC[i]? = some kk)
  (ht : (((vh + ((rotr ve 6 ^^^ rotr ve 11) ^^^ rotr ve 25)) + ((ve &&& vf) ^^^ (~~~ve &&& vg))) + kk) + x = tv) (hu : ((rotr va 2 ^^^ rotr va 13) ^^^ rotr va 22) + (((va &&& vb) ^^^ (va &&& vc)) ^^^ (vb &&& vc)) = uv) : rndN S bs (i + 1) = [tv + uv, va, vb, vc, vd + tv, ve, vf, vg] := by
 rw [ch_eq] at ht
 rw [maj_eq] at hu
 exact rnd_next hr hx hk ht hu
def Rk1 (W : World) (S : List W32) (bs : List B8) (D b0 b1 b2 g gw c1 : Nat) (a : Act) (w : World) : Prop :=
 ∃ i : Nat, Kn a 116 [(4, .pointer (some ⟨b1, 0, none⟩)), (5, .slice (some ⟨g, 0, none⟩) 64 64), (2, .pointer (some ⟨b0, 0, none⟩)), (6, .slice (some ⟨gw, 0, none⟩) 64 c1), (7, .pointer (some ⟨b2, 0, none⟩)), (8, .int .i64 (i : Nat))] ∧ i ≤ 64 ∧ Block w b0 134 (warr S) ∧ Block w b1 134 (warr (List.replicate 8 0)) ∧ Block w g 133 (warr KC) ∧ Block w b2 134 (warr (rndN S bs i)) ∧ w.ownsRow D 133 1 (.slice (some ⟨gw, 0, none⟩) 64 c1) 64 ((wl bs 64).map u32v) ∧ Below W.heap.size W w
def Rk2 (W : World) (S : List W32) (bs : List B8) (b0 b1 b2 : Nat) (a : Act) (w : World) : Prop :=
 ∃ i : Nat, Kn a 116 [(2, .pointer (some ⟨b0, 0, none⟩)), (4, .pointer (some ⟨b1, 0, none⟩)), (7, .pointer (some ⟨b2, 0, none⟩)), (13, .int .i64 (i : Nat))] ∧ i ≤ 8 ∧ Block w b0 134 (warr S) ∧ Block w b1 134 (warr (List.replicate 8 0)) ∧ Block w b2 134 (warr (add8 S (rndN S bs 64) i)) ∧ Below W.heap.size W w
set_option maxRecDepth 100000 in
set_option maxHeartbeats 8000000 in
theorem rblock_any (w : World) (x0 o c : Nat) (S : List W32) (bs : List B8) (hS8 : S.length = 8) (hbr : BRow w (.slice (some ⟨x0, o, none⟩) 64 c) bs) (hbl : bs.length = 64) (hc : 64 ≤ c) :
  Calls Tryz.prog 126 #[.agg (warr S), .slice (some ⟨x0, o, none⟩) 64 c] w fun e w' => e = .returned (.agg (warr (blockF S bs))) ∧ Below w.heap.size w w' := by
 have hall := Below.refl w.heap.size w
 refine K_enter 116 Tryz.func126 rfl rfl fun a H => ?_
 replace H := H.pick [0, 1]
 refine zC (zD ?_)
 refine op_box 134 (.tmp 0) (warr S) (H.ev rfl) fun w0 b0 hge hb k0 => ?_; have g0 := Nat.le_trans hall.size hge; replace hbr := BRow.up hbr hb; replace hall := hall.tr hb; clear hb; clear hge; refine kl H rfl fun a H => ?_
 refine op_alloc 134 (warr (List.replicate 8 0)) z134 fun w1 b1 hge hb k1 => ?_; have g1 := Nat.le_trans hall.size hge; have hd01 : b0 < b1 := Nat.lt_of_lt_of_le k0.lt hge; replace hbr := BRow.up hbr hb; replace k0 := Block.ups k0 hb; replace hall := hall.tr hb; clear hb; clear hge; refine kl H rfl fun a H => ?_
 refine zA (zB (zC (zD ?_)))
 refine wl_call _ _ _ (rconsts_any _) (r_call0 cf132) ?_; rintro e w9 ⟨⟨g, rfl, hg, kg⟩, hb⟩; refine ⟨_, rfl, ?_⟩; clear hg; replace hbr := BRow.up hbr hb; replace k0 := Block.ups k0 hb; replace k1 := Block.ups k1 hb; replace hall := hall.tr hb; clear hb; refine kl H rfl fun a H => ?_
 refine kR 1 H rfl fun a H => ?_
 refine zA (zB (zC (zD ?_)))
 refine kR 1 H rfl fun a H => ?_
 refine wl_call _ _ _ (words_any _ x0 o c bs hbr hbl hc) (r_call1 cf133 (H.ev rfl)) ?_; rintro e w9 ⟨⟨A1, c1, rfl, hown⟩, hb⟩; refine ⟨_, rfl, ?_⟩; clear hbr; replace k0 := Block.ups k0 hb; replace k1 := Block.ups k1 hb; replace kg := Block.ups kg hb; replace hall := hall.tr hb; clear hb; obtain ⟨gw, hA1⟩ := wown_addr hown (by omega); subst hA1; obtain ⟨D, hown⟩ : ∃ D, World.ownsRow _ D 133 1 (.slice (some ⟨gw, 0, none⟩) 64 c1) 64 ((wl bs 64).map u32v) := ⟨_, hown⟩; refine kl H rfl fun a H => ?_
 refine kR 1 H rfl fun a H => ?_
 refine zA (zB (zC (zD ?_)))
 refine op_load 134 (.tmp 2) b0 134 (warr S) _ (H.ev rfl) k0 U134 rfl (s8r hS8) ?_; refine kl H rfl fun a H => ?_
 refine op_alloc 134 (warr (List.replicate 8 0)) z134 fun w2 b2 hge hb k2 => ?_; have g2 := Nat.le_trans hall.size hge; have hd02 : b0 < b2 := Nat.lt_of_lt_of_le k0.lt hge; have hd12 : b1 < b2 := Nat.lt_of_lt_of_le k1.lt hge; have hgl2 : g < b2 := Nat.lt_of_lt_of_le kg.lt hge; have hqs2 := own_ltW hown hge; replace k0 := Block.ups k0 hb; replace k1 := Block.ups k1 hb; replace kg := Block.ups kg hb; replace hown := own_ups hown hb; replace hall := hall.tr hb; clear hb; clear hge; refine kl H rfl fun a H => ?_
 refine op_store 134 (.tmp 7) (.tmp 17) b2 134 (warr S) _ (H.ev rfl) (H.ev rfl) k2 (s8r hS8) (by rw [warr_size, warr_size, hS8]; rfl) (warr_one _) fun w' hb ho kq => ?_; clear k2; have k2 := kq; replace k0 := block_same k0 (ho _ (by omega)); replace k1 := block_same k1 (ho _ (by omega)); replace kg := block_same kg (ho _ (by omega)); replace hown := own_block hown (fun q hq => ho _ (fun e => by have := hqs2 q hq; omega)); replace hall := hall.trans (hb _ g2); clear hb ho kq; refine kl0 H fun a H => ?_
 refine zA (zB (zC (zC (zD ?_))))
 refine kR 1 H rfl fun a H => ?_
 refine zA (zB ?_)
 refine wp_block ?_
 refine wp_loop (Rk1 w S bs D b0 b1 b2 g gw c1) (fun a _ => 64 - (intOf (a.eval (.tmp 8))).toNat) ⟨0, H.pick [4, 5, 2, 6, 7, 8], by omega, k0, k1, kg, k2, hown, hall⟩ ?_
 clear H hall k0 k1 kg k2 hown
 rintro a w' ⟨i, H, hi, k0, k1, kg, k2, hown, hall⟩
 have H0 := H
 by_cases hlt : i < 64
 ·
  obtain ⟨va, vb, vc, vd, ve, vf, vg, vh, hrn⟩ := eight (rndN_len hS8 bs i)
  obtain ⟨x, hx⟩ : ∃ x, (wl bs 64)[i]? = some x := ⟨_, List.getElem?_eq_getElem (by rw [wl_len]; exact hlt)⟩
  obtain ⟨kk, hk⟩ : ∃ kk, KC[i]? = some kk := ⟨_, List.getElem?_eq_getElem hlt⟩
  rw [hrn] at k2
  have HRN := Lib.hid hrn
  have HX := Lib.hid hx
  have HK := Lib.hid hk
  clear hrn hx hk
  have H := H0
  refine zC (zC (zD ?_))
  refine kR 1 H rfl fun a H => ?_
  refine kV H (r_lt U3 (H.ev rfl) evc (dec_t (by omega))) rfl fun a H => ?_
  refine zA (zB (zH H rfl (zE (zB (zC ?_)))))
  refine wp_block ?_
  refine zC (zD ?_)
  refine kV H (r_ixa (j := 4) (q := 4) U134 s133 (H.ev rfl) evc (by omega) (by omega)) rfl fun a H => ?_
  refine kV H (r_ld U133 rfl (H.ev rfl) (warr_cell (k2) rfl)) rfl fun a H => ?_
  refine kR 1 H rfl fun a H => ?_
  refine zA (zB (zC (zD ?_)))
  refine kV H (r_ixa (j := 0) (q := 0) U134 s133 (H.ev rfl) evc (by omega) (by omega)) rfl fun a H => ?_
  refine kV H (r_ld U133 rfl (H.ev rfl) (warr_cell (k2) rfl)) rfl fun a H => ?_
  refine kR 1 H rfl fun a H => ?_
  refine zA (zB (zC ?_))
  have hall9 := hall
  have hS : BelowOf (BelowTo hall9) _ := Below.drew (Below.refl _ (BelowTo hall9))
  refine region_tree (BelowOf (BelowTo hall9)) 33 (.fl 0 (.fl 1 (.fl 2 (.fl 4 (.fl 7 (.fl 11 (.fl 12 (.fl 13 (.fl 14 (.fl 15 (.fl 16 (.fl 17 (.fl 18 (.fl 19 (.fl 20 (.fl 22 (.fl 23 (.fl 24 (.fl 25 (.fl 27 (.fl 28 (.fl 29 (.fl 30 (.one 3 (.one 5 (.fl 6 (.one 8 (.fl 9 (.fl 10 (.fl 21 (.fl 26 (.fl 31 (.fl 32 .done))))))))))))))))))))))))))))))))) (by kernel_rfl) (by kernel_rfl) rfl (by kernel_rfl) hS ?_
  refine kF H rfl rfl (fun w' hS' => r_ixa (j := 7) (q := 7) U134 s133 (H.ev rfl) evc (by omega) (by omega)) rfl fun a H => ?_
  refine kF H rfl rfl (fun w' hS' => r_ld U133 rfl (H.ev rfl) (warr_cell (Block.ups k2 hS') rfl)) rfl fun a H => ?_
  refine kQ 4 H rfl fun a H => ?_
  refine kF H rfl rfl (fun w' hS' => r_ixa (j := 5) (q := 5) U134 s133 (H.ev rfl) evc (by omega) (by omega)) rfl fun a H => ?_
  refine kF H rfl rfl (fun w' hS' => r_ld U133 rfl (H.ev rfl) (warr_cell (Block.ups k2 hS') rfl)) rfl fun a H => ?_
  refine kF H rfl rfl (fun w' hS' => r_and32 U133 (H.ev rfl) (H.ev rfl)) rfl fun a H => ?_
  refine kQ 1 H rfl fun a H => ?_
  refine kF H rfl rfl (fun w' hS' => r_not32 U133 (H.ev rfl)) rfl fun a H => ?_
  refine kF H rfl rfl (fun w' hS' => r_ixa (j := 6) (q := 6) U134 s133 (H.ev rfl) evc (by omega) (by omega)) rfl fun a H => ?_
  refine kF H rfl rfl (fun w' hS' => r_ld U133 rfl (H.ev rfl) (warr_cell (Block.ups k2 hS') rfl)) rfl fun a H => ?_
  refine kF H rfl rfl (fun w' hS' => r_and32 U133 (H.ev rfl) (H.ev rfl)) rfl fun a H => ?_
  refine kF H rfl rfl (fun w' hS' => r_xor32 U133 (H.ev rfl) (H.ev rfl)) rfl fun a H => ?_
  refine kQ 2 H rfl fun a H => ?_
  refine kF H rfl rfl (fun w' hS' => r_idx (j := i) (q := 0 + i) U143 s133 (H.ev rfl) (H.ev rfl) (by omega) (by omega)) rfl fun a H => ?_
  refine kF H rfl rfl (fun w' hS' => r_ld U133 rfl (H.ev rfl) (warr_cell0 (Block.ups kg hS') HK.out (by omega))) rfl fun a H => ?_
  refine kQ 2 H rfl fun a H => ?_
  refine kF H rfl rfl (fun w' hS' => r_idx (j := i) (q := 0 + i) U143 s133 (H.ev rfl) (H.ev rfl) (by omega) (by omega)) rfl fun a H => ?_
  refine kF H rfl rfl (fun w' hS' => r_ld U133 rfl (H.ev rfl) (wown_cell (own_ups hown hS') hlt (getD_of HX.out) (by omega))) rfl fun a H => ?_
  refine pt_one (fun K hK => ?_)
  refine st_a0 rfl ?_; refine wpo_call _ _ _ (turn_lit ve 6 6 _ rfl (by omega) (by omega)) (r_call2 cf134 (H.ev rfl) evc) ?_; rintro e w9 ⟨rfl, hb⟩; refine ⟨_, rfl, ?_⟩; replace hS := Below.trans hS (Below.mono hb (Below.size hS)); clear hb; refine hK _ _ ⟨(fun _ => hS), ?_⟩; clear hK; clear K; refine kt H rfl fun a H => ?_
  refine pt_one (fun K hK => ?_)
  refine st_a0 rfl ?_; refine wpo_call _ _ _ (turn_lit ve 11 11 _ rfl (by omega) (by omega)) (r_call2 cf134 (H.ev rfl) evc) ?_; rintro e w9 ⟨rfl, hb⟩; refine ⟨_, rfl, ?_⟩; replace hS := Below.trans hS (Below.mono hb (Below.size hS)); clear hb; refine hK _ _ ⟨(fun _ => hS), ?_⟩; clear hK; clear K; refine kt H rfl fun a H => ?_
  refine kF H rfl rfl (fun w' hS' => r_xor32 U133 (H.ev rfl) (H.ev rfl)) rfl fun a H => ?_
  refine pt_one (fun K hK => ?_)
  refine st_a0 rfl ?_; refine wpo_call _ _ _ (turn_lit ve 25 25 _ rfl (by omega) (by omega)) (r_call2 cf134 (H.ev rfl) evc) ?_; rintro e w9 ⟨rfl, hb⟩; refine ⟨_, rfl, ?_⟩; replace hS := Below.trans hS (Below.mono hb (Below.size hS)); clear hb; refine hK _ _ ⟨(fun _ => hS), ?_⟩; clear hK; clear K; refine kt H rfl fun a H => ?_
  refine kF H rfl rfl (fun w' hS' => r_xor32 U133 (H.ev rfl) (H.ev rfl)) rfl fun a H => ?_
  refine kF H rfl rfl (fun w' hS' => r_add32 U133 (H.ev rfl) (H.ev rfl)) rfl fun a H => ?_
  refine kF H rfl rfl (fun w' hS' => r_add32 U133 (H.ev rfl) (H.ev rfl)) rfl fun a H => ?_
  refine kF H rfl rfl (fun w' hS' => r_add32 U133 (H.ev rfl) (H.ev rfl)) rfl fun a H => ?_
  refine kF H rfl rfl (fun w' hS' => r_add32 U133 (H.ev rfl) (H.ev rfl)) rfl fun a H => ?_
  refine kQ 1 H rfl fun a H => ?_
  refine pt_done (NoPanic.normal ?_)
  replace k0 := Block.ups k0 hS
  replace k1 := Block.ups k1 hS
  replace kg := Block.ups kg hS
  replace k2 := Block.ups k2 hS
  replace hown := own_ups hown hS
  replace hall := hall.trans (Below.mono hS hall.size)
  clear hS
  refine zB (zC ?_)
  replace H : Kn _ 116 [(4, _), (5, _), (2, _), (6, _), (7, _), (8, _), (10, _), (11, _)] := H.pick [4, 5, 2, 6, 7, 8, 10, 11]
  obtain ⟨tv, htv⟩ : ∃ tv, (((vh + (((rotr ve 6) ^^^ (rotr ve 11)) ^^^ (rotr ve 25))) + ((ve &&& vf) ^^^ ((~~~ve) &&& vg))) + kk) + x = tv := ⟨_, rfl⟩
  have HTV := Lib.hid htv
  rw [htv] at H
  clear htv
  have hall10 := hall
  have hS : BelowOf (BelowTo hall10) _ := Below.drew (Below.refl _ (BelowTo hall10))
  refine region_tree (BelowOf (BelowTo hall10)) 25 (.fl 0 (.fl 2 (.fl 5 (.fl 8 (.fl 9 (.fl 10 (.fl 11 (.fl 12 (.fl 13 (.fl 14 (.fl 15 (.fl 16 (.fl 17 (.fl 18 (.fl 19 (.fl 20 (.fl 21 (.fl 22 (.one 1 (.one 3 (.fl 4 (.one 6 (.fl 7 (.fl 23 (.fl 24 .done))))))))))))))))))))))))) (by kernel_rfl) (by kernel_rfl) rfl (by kernel_rfl) hS ?_
  refine kQ 4 H rfl fun a H => ?_
  refine kF H rfl rfl (fun w' hS' => r_ixa (j := 1) (q := 1) U134 s133 (H.ev rfl) evc (by omega) (by omega)) rfl fun a H => ?_
  refine kF H rfl rfl (fun w' hS' => r_ld U133 rfl (H.ev rfl) (warr_cell (Block.ups k2 hS') rfl)) rfl fun a H => ?_
  refine kF H rfl rfl (fun w' hS' => r_and32 U133 (H.ev rfl) (H.ev rfl)) rfl fun a H => ?_
  refine kQ 1 H rfl fun a H => ?_
  refine kF H rfl rfl (fun w' hS' => r_ixa (j := 2) (q := 2) U134 s133 (H.ev rfl) evc (by omega) (by omega)) rfl fun a H => ?_
  refine kF H rfl rfl (fun w' hS' => r_ld U133 rfl (H.ev rfl) (warr_cell (Block.ups k2 hS') rfl)) rfl fun a H => ?_
  refine kF H rfl rfl (fun w' hS' => r_and32 U133 (H.ev rfl) (H.ev rfl)) rfl fun a H => ?_
  refine kF H rfl rfl (fun w' hS' => r_xor32 U133 (H.ev rfl) (H.ev rfl)) rfl fun a H => ?_
  refine kF H rfl rfl (fun w' hS' => r_ixa (j := 1) (q := 1) U134 s133 (H.ev rfl) evc (by omega) (by omega)) rfl fun a H => ?_
  refine kF H rfl rfl (fun w' hS' => r_ld U133 rfl (H.ev rfl) (warr_cell (Block.ups k2 hS') rfl)) rfl fun a H => ?_
  refine kF H rfl rfl (fun w' hS' => r_ixa (j := 2) (q := 2) U134 s133 (H.ev rfl) evc (by omega) (by omega)) rfl fun a H => ?_
  refine kF H rfl rfl (fun w' hS' => r_ld U133 rfl (H.ev rfl) (warr_cell (Block.ups k2 hS') rfl)) rfl fun a H => ?_
  refine kF H rfl rfl (fun w' hS' => r_and32 U133 (H.ev rfl) (H.ev rfl)) rfl fun a H => ?_
  refine kF H rfl rfl (fun w' hS' => r_xor32 U133 (H.ev rfl) (H.ev rfl)) rfl fun a H => ?_
  refine pt_one (fun K hK => ?_)
  refine st_a0 rfl ?_; refine wpo_call _ _ _ (turn_lit va 2 2 _ rfl (by omega) (by omega)) (r_call2 cf134 (H.ev rfl) evc) ?_; rintro e w9 ⟨rfl, hb⟩; refine ⟨_, rfl, ?_⟩; replace hS := Below.trans hS (Below.mono hb (Below.size hS)); clear hb; refine hK _ _ ⟨(fun _ => hS), ?_⟩; clear hK; clear K; refine kt H rfl fun a H => ?_
  refine pt_one (fun K hK => ?_)
  refine st_a0 rfl ?_; refine wpo_call _ _ _ (turn_lit va 13 13 _ rfl (by omega) (by omega)) (r_call2 cf134 (H.ev rfl) evc) ?_; rintro e w9 ⟨rfl, hb⟩; refine ⟨_, rfl, ?_⟩; replace hS := Below.trans hS (Below.mono hb (Below.size hS)); clear hb; refine hK _ _ ⟨(fun _ => hS), ?_⟩; clear hK; clear K; refine kt H rfl fun a H => ?_
  refine kF H rfl rfl (fun w' hS' => r_xor32 U133 (H.ev rfl) (H.ev rfl)) rfl fun a H => ?_
  refine pt_one (fun K hK => ?_)
  refine st_a0 rfl ?_; refine wpo_call _ _ _ (turn_lit va 22 22 _ rfl (by omega) (by omega)) (r_call2 cf134 (H.ev rfl) evc) ?_; rintro e w9 ⟨rfl, hb⟩; refine ⟨_, rfl, ?_⟩; replace hS := Below.trans hS (Below.mono hb (Below.size hS)); clear hb; refine hK _ _ ⟨(fun _ => hS), ?_⟩; clear hK; clear K; refine kt H rfl fun a H => ?_
  refine kF H rfl rfl (fun w' hS' => r_xor32 U133 (H.ev rfl) (H.ev rfl)) rfl fun a H => ?_
  refine kF H rfl rfl (fun w' hS' => r_add32 U133 (H.ev rfl) (H.ev rfl)) rfl fun a H => ?_
  refine kQ 1 H rfl fun a H => ?_
  refine pt_done (NoPanic.normal ?_)
  replace k0 := Block.ups k0 hS
  replace k1 := Block.ups k1 hS
  replace kg := Block.ups kg hS
  replace k2 := Block.ups k2 hS
  replace hown := own_ups hown hS
  replace hall := hall.trans (Below.mono hS hall.size)
  clear hS
  refine zB ?_
  replace H : Kn _ 116 [(4, _), (5, _), (2, _), (6, _), (7, _), (8, _), (11, _), (12, _)] := H.pick [4, 5, 2, 6, 7, 8, 11, 12]
  obtain ⟨uv, huv⟩ : ∃ uv, (((rotr va 2) ^^^ (rotr va 13)) ^^^ (rotr va 22)) + (((va &&& vb) ^^^ (va &&& vc)) ^^^ (vb &&& vc)) = uv := ⟨_, rfl⟩
  have HUV := Lib.hid huv
  rw [huv] at H
  clear huv
  refine zD ?_
  refine kR 2 H rfl fun a H => ?_
  refine kV H (r_add32 U133 (H.ev rfl) (H.ev rfl)) rfl fun a H => ?_
  refine kV H (r_ixa (j := 0) (q := 0) U134 s133 (H.ev rfl) evc (by omega) (by omega)) rfl fun a H => ?_
  refine kV H (r_ld U133 rfl (H.ev rfl) (warr_cell (k2) rfl)) rfl fun a H => ?_
  refine kV H (r_ixa (j := 1) (q := 1) U134 s133 (H.ev rfl) evc (by omega) (by omega)) rfl fun a H => ?_
  refine kV H (r_ld U133 rfl (H.ev rfl) (warr_cell (k2) rfl)) rfl fun a H => ?_
  refine kV H (r_ixa (j := 2) (q := 2) U134 s133 (H.ev rfl) evc (by omega) (by omega)) rfl fun a H => ?_
  refine kV H (r_ld U133 rfl (H.ev rfl) (warr_cell (k2) rfl)) rfl fun a H => ?_
  refine kV H (r_ixa (j := 3) (q := 3) U134 s133 (H.ev rfl) evc (by omega) (by omega)) rfl fun a H => ?_
  refine kV H (r_ld U133 rfl (H.ev rfl) (warr_cell (k2) rfl)) rfl fun a H => ?_
  refine kR 1 H rfl fun a H => ?_
  refine kV H (r_add32 U133 (H.ev rfl) (H.ev rfl)) rfl fun a H => ?_
  refine kV H (r_ixa (j := 4) (q := 4) U134 s133 (H.ev rfl) evc (by omega) (by omega)) rfl fun a H => ?_
  refine kV H (r_ld U133 rfl (H.ev rfl) (warr_cell (k2) rfl)) rfl fun a H => ?_
  refine kV H (r_ixa (j := 5) (q := 5) U134 s133 (H.ev rfl) evc (by omega) (by omega)) rfl fun a H => ?_
  refine kV H (r_ld U133 rfl (H.ev rfl) (warr_cell (k2) rfl)) rfl fun a H => ?_
  refine kV H (r_ixa (j := 6) (q := 6) U134 s133 (H.ev rfl) evc (by omega) (by omega)) rfl fun a H => ?_
  refine kV H (r_ld U133 rfl (H.ev rfl) (warr_cell (k2) rfl)) rfl fun a H => ?_
  refine kV (v := .agg (warr [tv + uv, va, vb, vc, vd + tv, ve, vf, vg])) H (r_build #[(0, u32v (tv + uv)), (1, u32v (va)), (2, u32v (vb)), (3, u32v (vc)), (4, u32v (vd + tv)), (5, u32v (ve)), (6, u32v (vf)), (7, u32v (vg))] (.agg (warr [tv + uv, va, vb, vc, vd + tv, ve, vf, vg])) (by simp [H.ev (j := 84) rfl, H.ev (j := 86) rfl, H.ev (j := 88) rfl, H.ev (j := 90) rfl, H.ev (j := 94) rfl, H.ev (j := 96) rfl, H.ev (j := 98) rfl, H.ev (j := 100) rfl]) (fun w => by kernel_rfl)) rfl fun a H => ?_
  refine op_store 134 (.tmp 7) (.tmp 101) b2 134 (warr [tv + uv, va, vb, vc, vd + tv, ve, vf, vg]) _ (H.ev rfl) (H.ev rfl) k2 s134l rfl (warr_one _) fun w' hb ho kq => ?_; clear k2; have k2 := kq; replace k0 := block_same k0 (ho _ (by omega)); replace k1 := block_same k1 (ho _ (by omega)); replace kg := block_same kg (ho _ (by omega)); replace hown := own_block hown (fun q hq => ho _ (fun e => by have := hqs2 q hq; omega)); replace hall := hall.trans (hb _ g2); clear hb ho kq; refine kl0 H fun a H => ?_
  refine zA (n_block (zB (zD ?_)))
  refine kR 1 H rfl fun a H => ?_
  refine kV H (r_add (q := ((i + 1 : Nat) : Int)) U3 (H.ev rfl) evc (by omega) (by omega)) rfl fun a H => ?_
  refine kR 1 H rfl fun a H => ?_
  refine zA ?_
  refine zI ⟨⟨i + 1, H.pick [4, 5, 2, 6, 7, 8], by omega, k0, k1, kg, by rw [rnd_nextD HRN.out HX.out HK.out HTV.out HUV.out]; exact k2, hown, hall⟩, ?_⟩
  rw [H.ev (j := 8) rfl, H0.ev (j := 8) rfl]
  simp only [intOf]
  omega
 ·
  obtain rfl : i = 64 := by omega
  clear kg hown
  refine zC (zC (zD ?_))
  refine kR 1 H rfl fun a H => ?_
  refine kV H (r_lt U3 (H.ev rfl) evc (dec_f (by omega))) rfl fun a H => ?_
  refine zA (zB (zG H rfl (wp_exit (e_then (e_then ?_)))))
  refine e_here ?_
  refine zB (zC (zC (zD ?_)))
  refine kR 1 H rfl fun a H => ?_
  refine zA (zB ?_)
  refine wp_block ?_
  rw [← add8_zero S (rndN S bs 64)] at k2
  refine wp_loop (Rk2 w S bs b0 b1 b2) (fun a _ => 8 - (intOf (a.eval (.tmp 13))).toNat) ⟨0, H.pick [2, 4, 7, 13], by omega, k0, k1, k2, hall⟩ ?_
  clear H hall k0 k1 k2
  rintro a w' ⟨i, H, hi, k0, k1, k2, hall⟩
  have H1 := H
  by_cases hlj : i < 8
  ·
   obtain ⟨x, hx⟩ : ∃ x, S[i]? = some x := ⟨_, List.getElem?_eq_getElem (by omega)⟩
   obtain ⟨r, hr⟩ : ∃ r, (rndN S bs 64)[i]? = some r := ⟨_, List.getElem?_eq_getElem (by rw [rndN_len hS8]; omega)⟩
   have HX := Lib.hid hx
   have HR := Lib.hid hr
   rw [add8_mid hr] at k2
   clear hx hr
   have H := H1
   refine zC (zC (zD ?_))
   refine kR 1 H rfl fun a H => ?_
   refine kV H (r_lt U3 (H.ev rfl) evc (dec_t (by omega))) rfl fun a H => ?_
   refine zA (zB (zH H rfl (zE (zB (zC ?_)))))
   refine wp_block ?_
   have hall15 := hall
   have hS : BelowOf (BelowTo hall15) _ := Below.drew (Below.refl _ (BelowTo hall15))
   refine region_tree (BelowOf (BelowTo hall15)) 9 (.fl 0 (.fl 1 (.fl 2 (.fl 3 (.fl 4 (.fl 5 (.fl 6 (.fl 7 (.fl 8 (.one 9 .done)))))))))) (by kernel_rfl) (by kernel_rfl) rfl (by kernel_rfl) hS ?_
   refine kQ 2 H rfl fun a H => ?_
   refine kF H rfl rfl (fun w' hS' => r_ixa (j := i) (q := i) U134 s133 (H.ev rfl) (H.ev rfl) (by omega) (by omega)) rfl fun a H => ?_
   refine kF H rfl rfl (fun w' hS' => r_ld U133 rfl (H.ev rfl) (warr_cell (Block.ups k2 hS') (mid_here (add8_len hS8 hi)))) rfl fun a H => ?_
   refine kQ 1 H rfl fun a H => ?_
   refine kF H rfl rfl (fun w' hS' => r_ixa (j := i) (q := i) U134 s133 (H.ev rfl) (H.ev rfl) (by omega) (by omega)) rfl fun a H => ?_
   refine kF H rfl rfl (fun w' hS' => r_ld U133 rfl (H.ev rfl) (warr_cell (Block.ups k0 hS') HX.out)) rfl fun a H => ?_
   refine kF H rfl rfl (fun w' hS' => r_add32 U133 (H.ev rfl) (H.ev rfl)) rfl fun a H => ?_
   refine kF H rfl rfl (fun w' hS' => r_ixa (j := i) (q := i) U134 s133 (H.ev rfl) (H.ev rfl) (by omega) (by omega)) rfl fun a H => ?_
   refine pt_one (fun K hK => ?_)
   replace k0 := Block.ups k0 hS
   replace k1 := Block.ups k1 hS
   replace k2 := Block.ups k2 hS
   replace hall := hall.trans (Below.mono hS hall.size)
   refine st_a0 rfl ?_; refine wpo_store1 133 (.tmp 114) (.tmp 113) b2 i 134 (u32v (r + x)) _ (H.ev rfl) (H.ev rfl) k2 s133 (add8_fit hS8 hi HR.out) (u32_one _) fun w7 hb7 ho7 kq => ?_; clear k2; have k2 := warr_set kq; rw [mid_set (add8_len hS8 hi), add8_next hS8 HX.out HR.out] at k2; replace k0 := block_same k0 (ho7 _ (by omega)); replace k1 := block_same k1 (ho7 _ (by omega)); replace hall := hall.trans (hb7 _ g2); clear hb7 ho7 kq; refine hK _ _ ⟨(fun h => absurd rfl h), ?_⟩; clear hK; clear K; clear hS; skip
   refine pt_done (NoPanic.normal ?_)
   refine n_block (zB (zD ?_))
   refine kR 1 H rfl fun a H => ?_
   refine kV H (r_add (q := ((i + 1 : Nat) : Int)) U3 (H.ev rfl) evc (by omega) (by omega)) rfl fun a H => ?_
   refine kR 1 H rfl fun a H => ?_
   refine zA ?_
   refine zI ⟨⟨i + 1, H.pick [2, 4, 7, 13], by omega, k0, k1, k2, hall⟩, ?_⟩
   rw [H.ev (j := 13) rfl, H1.ev (j := 13) rfl]
   simp only [intOf]
   omega
  ·
   obtain rfl : i = 8 := by omega
   rw [add8_full hS8] at k2
   refine zC (zC (zD ?_))
   refine kR 1 H rfl fun a H => ?_
   refine kV H (r_lt U3 (H.ev rfl) evc (dec_f (by omega))) rfl fun a H => ?_
   refine zA (zB (zG H rfl (wp_exit (e_then (e_then ?_)))))
   refine e_here ?_
   refine zB (zC (zD ?_))
   refine op_load 134 (.tmp 7) b2 134 (warr (blockF S bs)) _ (H.ev rfl) k2 U134 rfl (s8r (blockF_len hS8 bs)) ?_; refine kl H rfl fun a H => ?_
   refine op_store 134 (.tmp 4) (.tmp 115) b1 134 (warr (blockF S bs)) _ (H.ev rfl) (H.ev rfl) k1 (s8r (blockF_len hS8 bs)) (by rw [warr_size, warr_size, blockF_len hS8 bs]; rfl) (warr_one _) fun w' hb ho kq => ?_; clear k1; have k1 := kq; replace k0 := block_same k0 (ho _ (by omega)); replace k2 := block_same k2 (ho _ (by omega)); replace hall := hall.trans (hb _ g1); clear hb ho kq; refine kl0 H fun a H => ?_
   refine zA (zB (zF ?_))
   exact k_ret_cell H rfl rfl k1 U134 rfl (s8r (blockF_len hS8 bs)) ⟨rfl, hall⟩
def Rp1 (W : World) (A : Option Addr) (c : Nat) (bs : List B8) (a : Act) (w : World) : Prop :=
 ∃ (j : Nat) (A1 : Option Addr) (c1 : Nat), Kn a 36 [(0, .slice A bs.length c), (3, .slice A1 (pad0 bs j).length c1)] ∧ j ≤ zc bs.length ∧ BOwn w W.heap.size (.slice A1 (pad0 bs j).length c1) (pad0 bs j) ∧ Below W.heap.size W w
def Rp2 (W : World) (bs q : List B8) (a : Act) (w : World) : Prop :=
 ∃ (j : Nat) (A1 : Option Addr) (c1 : Nat), Kn a 36 [(3, .slice A1 (q ++ lenB (bs.length * 8) j).length c1), (4, .int .u64 (bs.length * 8 : Nat)), (5, .int .i64 (j : Nat))] ∧ j ≤ 8 ∧ BOwn w W.heap.size (.slice A1 (q ++ lenB (bs.length * 8) j).length c1) (q ++ lenB (bs.length * 8) j) ∧ Below W.heap.size W w
set_option maxHeartbeats 8000000 in
theorem rpad_any (w : World) (v : Value) (bs : List B8) (hr : BRow w v bs) (hn : bs.length ≤ 1000000) :
  Calls Tryz.prog 125 #[v] w fun e w' => (∃ A1 c1, e = .returned (.slice A1 (padF bs).length c1) ∧ BOwn w' w.heap.size (.slice A1 (padF bs).length c1) (padF bs)) ∧ Below w.heap.size w w' := by
 obtain ⟨A, c, rfl, h1, h2, h3, hh⟩ := hr
 replace hh := Lib.hid hh
 have hall := Below.refl w.heap.size w
 refine K_enter 36 Tryz.func125 rfl rfl fun a H => ?_
 replace H := H.pick [0]
 refine zC (zD ?_)
 refine kR 1 H rfl fun a H => ?_
 refine zA (zB (zC (zD ?_)))
 refine op_litv 30 0 #[] 5 #[] (by simp) (fun w => by kernel_rfl) fun w1 bl hge hb kk => ?_; have hown : BOwn _ w.heap.size (.slice (some ⟨bl, 0, none⟩) 0 0) [] := own_empty kk (Nat.le_trans hall.size hge); replace hall := hall.tr hb; clear hb hge kk; refine kl H rfl fun a H => ?_
 refine kR 1 H rfl fun a H => ?_
 have hDs2 := hall.size; refine op_append 30 5 (.tmp 6) (.tmp 7) w.heap.size (.int .u8 0) 1 1 _ _ _ A bs.length c (bs.map u8v) (H.ev rfl) (H.ev rfl) U30 i5 rfl (by omega) hown (by simp) (hh.out.up hall) (u8s_one _) (by unfold maxLen; simp; omega) (by simp; omega) hDs2 fun o2 w9 hown2 hg9 hv9 hb2 => ?_; have hown3 := bown_app hown2; rw [List.nil_append] at hown3; replace hall := hall.trans hb2; clear hDs2; clear hown hown2 hg9 hv9 hb2; have hown := hown3; clear hown3; obtain ⟨A2, c2, hov⟩ := own_sliceB hown; subst hov; refine kl H rfl fun a H => ?_
 refine op_litv 30 1 #[(0, u8v (128#8))] 5 #[u8v (128#8)] (by simp [evc]) (fun w => by kernel_rfl) fun w0 b0 hge hb k0 => ?_; have g0 := Nat.le_trans hall.size hge; replace hown := own_ups hown hb; replace hall := hall.tr hb; clear hb; clear hge; refine kl H rfl fun a H => ?_
 have hDs2 := hall.size; refine op_append 30 5 (.tmp 8) (.tmp 9) w.heap.size (.int .u8 0) 1 1 _ _ _ (some ⟨b0, 0, none⟩) 1 1 ([128#8].map u8v) (H.ev rfl) (H.ev rfl) U30 i5 rfl (by omega) hown rfl (Block.holds k0) (u8s_one _) (by unfold maxLen; omega) (by omega) hDs2 fun o2 w9 hown2 hg9 hv9 hb2 => ?_; have hown3 := bown_app hown2; replace hall := hall.trans hb2; clear k0 hDs2; clear hown hown2 hg9 hv9 hb2; have hown := hown3; clear hown3; obtain ⟨A2, c2, hov⟩ := own_sliceB hown; subst hov; refine kl H rfl fun a H => ?_
 refine kR 1 H rfl fun a H => ?_
 refine zA (zB (zC ?_))
 refine wp_block ?_
 rw [pad_zero] at hown H
 refine wp_loop (Rp1 w A c bs) (fun a _ => zc bs.length - (lenOf (a.eval (.tmp 3)) - (bs.length + 1))) ⟨0, A2, c2, H.pick [0, 3], by omega, hown, hall⟩ ?_
 clear H hall hown
 rintro a w' ⟨j, A1, c1, H, hj, hown, hall⟩
 have H0 := H
 have hpl := pad_len bs j
 have hql := zc_len bs.length
 by_cases hlt : j < zc bs.length
 ·
  have hzc := zc_more hlt
  rw [← hpl] at hzc
  refine zC (zC (zD ?_))
  refine kR 1 H rfl fun a H => ?_
  refine kV H (r_len U30 (H.ev rfl)) rfl fun a H => ?_
  refine kV H (r_rem (p := (pad0 bs j).length) (q := 64) U3 (H.ev rfl) evc (by omega)) rfl fun a H => ?_
  refine kV H (r_ne U3 (H.ev rfl) evc (dec_t (by omega))) rfl fun a H => ?_
  refine zA (zB (zH H rfl (zE (zB ?_))))
  refine wp_block ?_
  refine zD ?_
  refine kR 1 H rfl fun a H => ?_
  refine op_litv 30 1 #[(0, u8v (0#8))] 5 #[u8v (0#8)] (by simp [evc]) (fun w => by kernel_rfl) fun w1 b1 hge hb k1 => ?_; have g1 := Nat.le_trans hall.size hge; replace hown := own_ups hown hb; replace hall := hall.tr hb; clear hb; clear hge; refine kl H rfl fun a H => ?_
  have hDs2 := hall.size; refine op_append 30 5 (.tmp 15) (.tmp 16) w.heap.size (.int .u8 0) 1 1 _ _ _ (some ⟨b1, 0, none⟩) 1 1 ([0#8].map u8v) (H.ev rfl) (H.ev rfl) U30 i5 rfl (by omega) hown rfl (Block.holds k1) (u8s_one _) (by unfold maxLen; omega) (by omega) hDs2 fun o2 w9 hown2 hg9 hv9 hb2 => ?_; have hown3 := bown_app hown2; replace hall := hall.trans hb2; clear k1 hDs2; clear hown hown2 hg9 hv9 hb2; have hown := hown3; clear hown3; obtain ⟨A2, c2, hov⟩ := own_sliceB hown; subst hov; refine kl H rfl fun a H => ?_
  refine kR 1 H rfl fun a H => ?_
  refine zA (n_block ?_)
  rw [pad_next] at H hown
  replace H := H.pick [0, 3]
  have hpl2 := pad_len bs (j + 1)
  refine zI ⟨⟨j + 1, _, _, H, by omega, hown, hall⟩, ?_⟩
  rw [H.ev (j := 3) rfl, H0.ev (j := 3) rfl]
  simp only [lenOf]
  omega
 ·
  obtain rfl : j = zc bs.length := by omega
  have hzc := zc_end bs.length
  rw [← hpl] at hzc
  refine zC (zC (zD ?_))
  refine kR 1 H rfl fun a H => ?_
  refine kV H (r_len U30 (H.ev rfl)) rfl fun a H => ?_
  refine kV H (r_rem (p := (pad0 bs (zc bs.length)).length) (q := 64) U3 (H.ev rfl) evc (by omega)) rfl fun a H => ?_
  refine kV H (r_ne U3 (H.ev rfl) evc (dec_f (by omega))) rfl fun a H => ?_
  refine zA (zB (zG H rfl (wp_exit (e_then (e_then ?_)))))
  refine e_here ?_
  refine zB (zC (zD ?_))
  refine kR 1 H rfl fun a H => ?_
  refine kV H (r_len U30 (H.ev rfl)) rfl fun a H => ?_
  refine kV (v := .int .u64 (bs.length : Nat)) H (r_cvi_u64 U3 U140 (H.ev rfl) (by omega)) rfl fun a H => ?_
  refine kV (v := .int .u64 (bs.length * 8 : Nat)) H (r_mul_u64 U140 (H.ev rfl) evc (by omega)) rfl fun a H => ?_
  refine kR 1 H rfl fun a H => ?_
  refine zA (zB (zC (zC (zD ?_))))
  refine kR 1 H rfl fun a H => ?_
  refine zA (zB ?_)
  refine wp_block ?_
  obtain ⟨q, hq⟩ : ∃ q, pad0 bs (zc bs.length) = q := ⟨_, rfl⟩
  rw [hq] at H hown hpl hzc
  have HQ := Lib.hid hq
  rw [← List.append_nil q] at H hown
  refine wp_loop (Rp2 w bs q) (fun a _ => 8 - (intOf (a.eval (.tmp 5))).toNat) ⟨0, A1, c1, H.pick [3, 4, 5], by omega, hown, hall⟩ ?_
  clear H hall hown hlt
  rintro a w' ⟨j, A1, c1, H, hj, hown, hall⟩
  have H0 := H
  by_cases hlt : j < 8
  ·
   refine zC (zC (zD ?_))
   refine kR 1 H rfl fun a H => ?_
   refine kV H (r_lt U3 (H.ev rfl) evc (dec_t (by omega))) rfl fun a H => ?_
   refine zA (zB (zH H rfl (zE (zB (zC ?_)))))
   refine wp_block ?_
   refine zD ?_
   refine kR 3 H rfl fun a H => ?_
   refine kV H (r_mul (r := ((8 * j : Nat) : Int)) U3 evc (H.ev rfl) (by omega) (by omega)) rfl fun a H => ?_
   refine kV (v := .int .i64 (8 * (7 - j) : Nat)) H (r_sub (q := ((8 * (7 - j) : Nat) : Int)) U3 evc (H.ev rfl) (by omega) (by omega)) rfl fun a H => ?_
   refine kV (v := .int .u64 (bs.length * 8 / 2 ^ (8 * (7 - j)) : Nat)) H (r_shr_u64 U140 (H.ev rfl) (H.ev rfl) (by omega)) rfl fun a H => ?_
   refine kV (v := u8v (lenAt (bs.length * 8) j)) H (r_cvu64_8 U140 U5 (H.ev rfl)) rfl fun a H => ?_
   refine op_litv 30 1 #[(0, u8v (lenAt (bs.length * 8) j))] 5 #[u8v (lenAt (bs.length * 8) j)] (by simp [evc, H.ev (j := 32) rfl]) (fun w => by kernel_rfl) fun w2 b2 hge hb k2 => ?_; have g2 := Nat.le_trans hall.size hge; replace hown := own_ups hown hb; replace hall := hall.tr hb; clear hb; clear hge; refine kl H rfl fun a H => ?_
   have hDs2 := hall.size; refine op_append 30 5 (.tmp 26) (.tmp 33) w.heap.size (.int .u8 0) 1 1 _ _ _ (some ⟨b2, 0, none⟩) 1 1 ([lenAt (bs.length * 8) j].map u8v) (H.ev rfl) (H.ev rfl) U30 i5 rfl (by omega) hown rfl (Block.holds k2) (u8s_one _) (by unfold maxLen; (rw [List.length_append, lenB_len]; omega)) (by (rw [List.length_append, lenB_len]; omega)) hDs2 fun o2 w9 hown2 hg9 hv9 hb2 => ?_; have hown3 := bown_app hown2; replace hall := hall.trans hb2; clear k2 hDs2; clear hown hown2 hg9 hv9 hb2; have hown := hown3; clear hown3; obtain ⟨A2, c2, hov⟩ := own_sliceB hown; subst hov; refine kl H rfl fun a H => ?_
   refine kR 1 H rfl fun a H => ?_
   refine zA (n_block (zB (zD ?_)))
   refine kR 1 H rfl fun a H => ?_
   refine kV H (r_add (q := ((j + 1 : Nat) : Int)) U3 (H.ev rfl) evc (by omega) (by omega)) rfl fun a H => ?_
   refine kR 1 H rfl fun a H => ?_
   refine zA ?_
   rw [List.append_assoc, ← lenB_next] at H hown
   replace H := H.pick [3, 4, 5]
   refine zI ⟨⟨j + 1, _, _, H, by omega, hown, hall⟩, ?_⟩
   rw [H.ev (j := 5) rfl, H0.ev (j := 5) rfl]
   simp only [intOf]
   omega
  ·
   obtain rfl : j = 8 := by omega
   have HPD : q ++ lenB (bs.length * 8) 8 = padF bs := by rw [← HQ.out]; rfl
   rw [HPD] at H0 H hown
   refine zC (zC (zD ?_))
   refine kR 1 H rfl fun a H => ?_
   refine kV H (r_lt U3 (H.ev rfl) evc (dec_f (by omega))) rfl fun a H => ?_
   refine zA (zB (zG H rfl (wp_exit (e_then (e_then ?_)))))
   refine e_here ?_
   refine zB (zC (zD ?_))
   refine kR 2 H rfl fun a H => ?_
   refine zA (zB (zF ?_))
   exact k_ret1 H rfl rfl ⟨⟨A1, c1, rfl, hown⟩, hall⟩
section
section
variable {P : Program} {d : Option Tmp} {tt : TypeId} {ps : String} {af : Array Edge} {gd : Option (Nat × Bool)} {a : Act} {w : World}
theorem r_h0r : (execOp a.eval ⟨d, .build 134 #[(0, .const (.int .u32 1779033703)), (1, .const (.int .u32 3144134277)), (2, .const (.int .u32 1013904242)), (3, .const (.int .u32 2773480762)), (4, .const (.int .u32 1359893119)), (5, .const (.int .u32 2600822924)), (6, .const (.int .u32 528734635)), (7, .const (.int .u32 1541459225))], tt, ps, af, gd⟩).run Tryz.prog w = .ok (.value (.agg (warr SHA0))) w := by
 kernel_rfl
end
theorem slAt0 {g c lo : Nat} (h : lo ≠ c) : slAt (some ⟨g, 0, none⟩) c lo 1 = some ⟨g, lo, none⟩ := by
 rw [slAt_some h, Nat.mul_one, Nat.zero_add]
theorem bown_addr {w : World} {D c : Nat} {A : Option Addr} {bs : List B8} (h : BOwn w D (.slice A bs.length c) bs) (hn : 0 < bs.length) : ∃ g, A = some ⟨g, 0, none⟩ := by
 obtain ⟨_, ⟨_, h1⟩ | ⟨g, cap, cur, e, _⟩⟩ := h
 · omega
 ·
  injection e with e1
  exact ⟨g, e1⟩
theorem brow_part {w : World} {g lo n m c : Nat} {bs : List B8} (h : BRow w (.slice (some ⟨g, 0, none⟩) n c) bs) (hm : lo + m ≤ bs.length) (hp : 0 < m) : BRow w (.slice (some ⟨g, lo, none⟩) m (c - lo)) ((bs.drop lo).take m) := by
 obtain ⟨A', c', e, h1, h2, h3, hh⟩ := h
 injection e with e1 e2 e3
 subst e1 e3
 have hl : ((bs.drop lo).take m).length = m := by rw [List.length_take, List.length_drop]; omega
 refine ⟨_, _, by rw [hl], by rw [hl]; omega, by omega, (fun e => by cases e), fun j hj => ?_⟩
 have hj' : j < m := by rw [List.length_map, hl] at hj; exact hj
 obtain ⟨b, o, he, hc⟩ := hh (lo + j) (by rw [List.length_map]; omega)
 injection he with he
 injection he with e4 e5
 subst e4 e5
 refine ⟨g, lo, rfl, ?_⟩
 rw [show lo + j = 0 + (lo + j) by omega, hc, List.getElem?_map, List.getElem?_map, List.getElem?_take, if_pos hj', List.getElem?_drop]
def Rs1 (W : World) (D b0 b1 gp c1 : Nat) (pd : List B8) (a : Act) (w : World) : Prop :=
 ∃ k : Nat, Kn a 41 [(2, .pointer (some ⟨b0, 0, none⟩)), (3, .pointer (some ⟨b1, 0, none⟩)), (4, .slice (some ⟨gp, 0, none⟩) pd.length c1), (5, .int .i64 (64 * k : Nat))] ∧ 64 * k ≤ pd.length ∧ Block w b0 105 (barr (List.replicate 32 0)) ∧ Block w b1 134 (warr (runB SHA0 pd k)) ∧ BOwn w D (.slice (some ⟨gp, 0, none⟩) pd.length c1) pd ∧ Below W.heap.size W w
def Rs2 (W : World) (b0 b1 b2 : Nat) (S : List W32) (a : Act) (w : World) : Prop :=
 ∃ i : Nat, Kn a 41 [(2, .pointer (some ⟨b0, 0, none⟩)), (3, .pointer (some ⟨b1, 0, none⟩)), (6, .pointer (some ⟨b2, 0, none⟩)), (7, .int .i64 (i : Nat))] ∧ i ≤ 32 ∧ Block w b0 105 (barr (List.replicate 32 0)) ∧ Block w b1 134 (warr S) ∧ Block w b2 105 (barr ((outF S).take i ++ List.replicate (32 - i) 0)) ∧ Below W.heap.size W w
set_option maxRecDepth 100000 in
set_option maxHeartbeats 8000000 in
theorem rsum_any (w : World) (v : Value) (bs : List B8) (hr : BRow w v bs) (hn : bs.length ≤ 1000000) :
  Calls Tryz.prog 112 #[v] w fun e w' => e = .returned (.agg (barr (sumF bs))) ∧ Below w.heap.size w w' := by
 have hr0 := Lib.hid hr
 have hall := Below.refl w.heap.size w
 refine K_enter 41 Tryz.func112 rfl rfl fun a H => ?_
 replace H := H.pick [0]
 refine zC (zD ?_)
 refine op_alloc 105 (barr (List.replicate 32 0)) z105 fun w0 b0 hge hb k0 => ?_; have g0 := Nat.le_trans hall.size hge; replace hr := BRow.up hr hb; replace hall := hall.tr hb; clear hb; clear hge; refine kl H rfl fun a H => ?_
 refine zA (zB (zC (zD ?_)))
 refine wl_v (.agg (warr SHA0)) r_h0r ?_; refine kl H rfl fun a H => ?_
 refine op_alloc 134 (warr (List.replicate 8 0)) z134 fun w1 b1 hge hb k1 => ?_; have g1 := Nat.le_trans hall.size hge; have hd01 : b0 < b1 := Nat.lt_of_lt_of_le k0.lt hge; replace hr := BRow.up hr hb; replace k0 := Block.ups k0 hb; replace hall := hall.tr hb; clear hb; clear hge; refine kl H rfl fun a H => ?_
 refine op_store 134 (.tmp 3) (.tmp 8) b1 134 (warr SHA0) _ (H.ev rfl) (H.ev rfl) k1 s134 rfl (warr_one _) fun w' hb ho kq => ?_; clear k1; have k1 := kq; replace k0 := block_same k0 (ho _ (by omega)); replace hall := hall.trans (hb _ g1); replace hr := BRow.up hr0.out hall; clear hb ho kq; refine kl0 H fun a H => ?_
 refine zA (zB (zC (zD ?_)))
 refine kR 1 H rfl fun a H => ?_
 refine wl_call _ _ _ (rpad_any _ _ bs hr hn) (r_call1 cf125 (H.ev rfl)) ?_; rintro e w9 ⟨⟨A1, c1, rfl, hown⟩, hb⟩; refine ⟨_, rfl, ?_⟩; clear hr; have hD1 := k1.lt; replace k0 := Block.ups k0 hb; replace k1 := Block.ups k1 hb; replace hall := hall.tr hb; clear hb; obtain ⟨pd, hpd⟩ : ∃ pd, padF bs = pd := ⟨_, rfl⟩; have hpdl : pd.length = bs.length + 1 + zc bs.length + 8 := (by rw [← hpd, padF, List.length_append, lenB_len, pad_len]); obtain ⟨nb, hnb⟩ : ∃ nb, pd.length = 64 * nb := ⟨pd.length / 64, by unfold zc at hpdl; omega⟩; rw [hpd] at hown; have HPD := Lib.hid hpd; clear hpd; obtain ⟨gp, hA1⟩ := bown_addr hown (by omega); subst hA1; obtain ⟨D, hD1, hown⟩ : ∃ D, b1 < D ∧ BOwn _ D (.slice (some ⟨gp, 0, none⟩) pd.length c1) pd := ⟨_, hD1, hown⟩; rw [HPD.out]; refine kl H rfl fun a H => ?_
 refine kR 1 H rfl fun a H => ?_
 refine zA (zB (zC (zC (zD ?_))))
 refine kR 1 H rfl fun a H => ?_
 refine zA (zB ?_)
 refine wp_block ?_
 have hc1 := brow_cap (BOwn.row hown)
 have hpm : pd.length ≤ 1000200 := by have := zc_len bs.length; omega
 refine wp_loop (Rs1 w D b0 b1 gp c1 pd) (fun a _ => pd.length - (intOf (a.eval (.tmp 5))).toNat) ⟨0, H.pick [2, 3, 4, 5], by omega, k0, k1, hown, hall⟩ ?_
 clear H hall k0 k1 hown
 rintro a w' ⟨k, H, hk, k0, k1, hown, hall⟩
 have H0 := H
 by_cases hlt : k < nb
 ·
  refine zC (zC (zD ?_))
  refine kR 2 H rfl fun a H => ?_
  refine kV H (r_len U30 (H.ev rfl)) rfl fun a H => ?_
  refine kV H (r_lt U3 (H.ev rfl) (H.ev rfl) (dec_t (by omega))) rfl fun a H => ?_
  refine zA (zB (zH H rfl (zE (zB (zC ?_)))))
  refine wp_block ?_
  have hall6 := hall
  have hS : BelowOf (BelowTo hall6) _ := Below.drew (Below.refl _ (BelowTo hall6))
  refine region_tree (BelowOf (BelowTo hall6)) 7 (.fl 0 (.fl 1 (.fl 2 (.fl 3 (.fl 4 (.fl 5 (.one 6 (.one 7 .done)))))))) (by kernel_rfl) (by kernel_rfl) rfl (by kernel_rfl) hS ?_
  refine kF (v := .agg (warr (runB SHA0 pd k))) H rfl rfl (fun w' hS' => run_load_row b1 134 _ _ (H.ev rfl) (Block.ups k1 hS') U134 rfl (s8r (runB_len _ _))) rfl fun a H => ?_
  refine kQ 3 H rfl fun a H => ?_
  refine kF H rfl rfl (fun w' hS' => r_add (q := ((64 * k + 64 : Nat) : Int)) U3 (H.ev rfl) evc (by omega) (by omega)) rfl fun a H => ?_
  refine kF (v := .slice (some ⟨gp, 64 * k, none⟩) 64 (c1 - 64 * k)) H rfl rfl (fun w' hS' => run_op_slice U30 (.slice (some ⟨gp, 0, none⟩) pd.length c1) (some (.int .i64 (64 * k : Nat))) (some (.int .i64 (64 * k + 64 : Nat))) none (H.ev rfl) (congrArg some (H.ev rfl)) (congrArg some (H.ev rfl)) rfl (slice_any (64 * k) (64 * k + 64) U30 s5 _ _ (.inr rfl) (.inr rfl) (by omega) (by omega) (slAt0 (by omega)) (by omega) rfl)) rfl fun a H => ?_
  refine pt_one (fun K hK => ?_)
  refine st_a0 rfl ?_; refine wpo_call _ _ _ (rblock_any _ gp (64 * k) (c1 - 64 * k) (runB SHA0 pd k) ((pd.drop (64 * k)).take 64) (runB_len _ _) (brow_part (BOwn.row (own_ups hown hS)) (by omega) (by omega)) (by rw [List.length_take, List.length_drop]; omega) (by omega)) (r_call2 cf126 (H.ev rfl) (H.ev rfl)) ?_; rintro e w9 ⟨rfl, hb⟩; refine ⟨_, rfl, ?_⟩; replace hS := Below.trans hS (Below.mono hb (Below.size hS)); clear hb; refine hK _ _ ⟨(fun _ => hS), ?_⟩; clear hK; clear K; refine kt H rfl fun a H => ?_
  refine pt_one (fun K hK => ?_)
  replace k0 := Block.ups k0 hS
  replace k1 := Block.ups k1 hS
  replace hown := own_ups hown hS
  replace hall := hall.trans (Below.mono hS hall.size)
  refine st_a0 rfl ?_; refine wpo_store 134 (.tmp 3) (.tmp 23) b1 134 (warr (runB SHA0 pd (k + 1))) _ (H.ev rfl) (H.ev rfl) k1 (s8r (runB_len _ _)) (by rw [warr_size, warr_size, runB_len, runB_len]) (warr_one _) fun w7 hb7 ho7 kq => ?_; clear k1; have k1 := kq; replace k0 := block_same k0 (ho7 _ (by omega)); replace hown := own_block hown (fun q hq => ho7 _ (fun e => by have := (hown.lt q hq).1; omega)); replace hall := hall.trans (hb7 _ g1); clear hb7 ho7 kq; refine hK _ _ ⟨(fun h => absurd rfl h), ?_⟩; clear hK; clear K; clear hS; skip
  refine pt_done (NoPanic.normal ?_)
  refine n_block (zB (zD ?_))
  refine kR 1 H rfl fun a H => ?_
  refine kV H (r_add (q := ((64 * (k + 1) : Nat) : Int)) U3 (H.ev rfl) evc (by omega) (by omega)) rfl fun a H => ?_
  refine kR 1 H rfl fun a H => ?_
  refine zA ?_
  refine zI ⟨⟨k + 1, H.pick [2, 3, 4, 5], by omega, k0, k1, hown, hall⟩, ?_⟩
  rw [H.ev (j := 5) rfl, H0.ev (j := 5) rfl]
  simp only [intOf]
  omega
 ·
  obtain rfl : k = nb := by omega
  clear hown
  refine zC (zC (zD ?_))
  refine kR 2 H rfl fun a H => ?_
  refine kV H (r_len U30 (H.ev rfl)) rfl fun a H => ?_
  refine kV H (r_lt U3 (H.ev rfl) (H.ev rfl) (dec_f (by omega))) rfl fun a H => ?_
  refine zA (zB (zG H rfl (wp_exit (e_then (e_then ?_)))))
  refine e_here ?_
  refine zB (zC (zD ?_))
  refine op_alloc 105 (barr (List.replicate 32 0)) z105 fun w2 b2 hge hb k2 => ?_; have g2 := Nat.le_trans hall.size hge; have hd02 : b0 < b2 := Nat.lt_of_lt_of_le k0.lt hge; have hd12 : b1 < b2 := Nat.lt_of_lt_of_le k1.lt hge; replace k0 := Block.ups k0 hb; replace k1 := Block.ups k1 hb; replace hall := hall.tr hb; clear hb; clear hge; refine kl H rfl fun a H => ?_
  refine zA (zB (zC (zC (zD ?_))))
  refine kR 1 H rfl fun a H => ?_
  refine zA (zB ?_)
  refine wp_block ?_
  obtain ⟨S, hSe⟩ : ∃ S, runB SHA0 pd k = S := ⟨_, rfl⟩
  have hS8 : S.length = 8 := by rw [← hSe]; exact runB_len _ _
  rw [hSe] at k1
  have HS := Lib.hid hSe
  rw [← out_zero S] at k2
  refine wp_loop (Rs2 w b0 b1 b2 S) (fun a _ => 32 - (intOf (a.eval (.tmp 7))).toNat) ⟨0, H.pick [2, 3, 6, 7], by omega, k0, k1, k2, hall⟩ ?_
  clear H hall k0 k1 k2 hlt hSe
  rintro a w' ⟨i, H, hi, k0, k1, k2, hall⟩
  have H0 := H
  by_cases hlt : i < 32
  ·
   obtain ⟨x, hx⟩ : ∃ x, S[i / 4]? = some x := ⟨_, List.getElem?_eq_getElem (by omega)⟩
   have HX := Lib.hid hx
   clear hx
   have H := H0
   refine zC (zC (zD ?_))
   refine kR 1 H rfl fun a H => ?_
   refine kV H (r_lt U3 (H.ev rfl) evc (dec_t (by omega))) rfl fun a H => ?_
   refine zA (zB (zH H rfl (zE (zB (zC ?_)))))
   refine wp_block ?_
   refine zD ?_
   refine kR 2 H rfl fun a H => ?_
   refine kV H (r_quo (p := i) (q := 4) U3 (H.ev rfl) evc (by omega) (by omega)) rfl fun a H => ?_
   refine kV H (r_ixa (j := i / 4) (q := i / 4) U134 s133 (H.ev rfl) (H.ev rfl) (by omega) (by omega)) rfl fun a H => ?_
   refine kV H (r_ld U133 rfl (H.ev rfl) (warr_cell k1 HX.out)) rfl fun a H => ?_
   refine kR 1 H rfl fun a H => ?_
   refine kV H (r_rem (p := i) (q := 4) U3 (H.ev rfl) evc (by omega)) rfl fun a H => ?_
   refine kV H (r_mul (r := ((8 * (i % 4) : Nat) : Int)) U3 evc (H.ev rfl) (by omega) (by omega)) rfl fun a H => ?_
   refine kV H (r_sub (q := ((24 - (8 * (i % 4)) : Nat) : Int)) U3 evc (H.ev rfl) (by omega) (by omega)) rfl fun a H => ?_
   refine kV H (r_shr32 (k := 24 - (8 * (i % 4))) (by omega) U133 (H.ev rfl) (H.ev rfl)) rfl fun a H => ?_
   refine kV H (r_cv32_8 U133 U5 (H.ev rfl)) rfl fun a H => ?_
   refine kV H (r_ixa (j := i) (q := i) U105 s5 (H.ev rfl) (H.ev rfl) (by omega) (by omega)) rfl fun a H => ?_
   refine op_store1 5 (.tmp 39) (.tmp 38) b2 i 105 (u8v ((x >>> (24 - (8 * (i % 4)))).setWidth 8)) _ (H.ev rfl) (H.ev rfl) k2 s5 (out_fit hlt) (u8_one _) fun w' hb ho kq => ?_; clear k2; have k2 := barr_set kq; rw [out_set hlt HX.out] at k2; replace k0 := block_same k0 (ho _ (by omega)); replace k1 := block_same k1 (ho _ (by omega)); replace hall := hall.trans (hb _ g2); clear hb ho kq; refine kl0 H fun a H => ?_
   refine zA (n_block (zB (zD ?_)))
   refine kR 1 H rfl fun a H => ?_
   refine kV H (r_add (q := ((i + 1 : Nat) : Int)) U3 (H.ev rfl) evc (by omega) (by omega)) rfl fun a H => ?_
   refine kR 1 H rfl fun a H => ?_
   refine zA ?_
   refine zI ⟨⟨i + 1, H.pick [2, 3, 6, 7], by omega, k0, k1, k2, hall⟩, ?_⟩
   rw [H.ev (j := 7) rfl, H0.ev (j := 7) rfl]
   simp only [intOf]
   omega
  ·
   obtain rfl : i = 32 := by omega
   rw [out_full] at k2
   refine zC (zC (zD ?_))
   refine kR 1 H rfl fun a H => ?_
   refine kV H (r_lt U3 (H.ev rfl) evc (dec_f (by omega))) rfl fun a H => ?_
   refine zA (zB (zG H rfl (wp_exit (e_then (e_then ?_)))))
   refine e_here ?_
   refine zB (zC (zD ?_))
   refine op_load 105 (.tmp 6) b2 105 (barr (outF S)) _ (H.ev rfl) k2 U105 rfl s105' ?_; refine kl H rfl fun a H => ?_
   refine op_store 105 (.tmp 2) (.tmp 40) b0 105 (barr (outF S)) _ (H.ev rfl) (H.ev rfl) k0 s105' (by rw [barr_size, barr_size, outF_len]; rfl) (barr_one _) fun w' hb ho kq => ?_; clear k0; replace hall := hall.trans (hb _ g0); clear hb ho; refine kl0 H fun a H => ?_
   refine zA (zB (zF ?_))
   exact k_ret_cell H rfl rfl kq U105 rfl s105' ⟨by rw [← HS.out, ← HPD.out, sum_eq rfl (by rw [HPD.out]; exact hnb)], hall⟩
end
theorem own_baseB {w : World} {B B' e size n : Nat} {v : Value} {xs : List Value} (h : w.ownsRow B' e size v n xs) (hB : B ≤ B') : w.ownsRow B e size v n xs := by
 obtain ⟨h0, h1 | ⟨g, cap, cur, e, hb, hr⟩⟩ := h
 · exact ⟨h0, .inl h1⟩
 · exact ⟨h0, .inr ⟨g, cap, cur, e, Nat.le_trans hB hb, hr⟩⟩
theorem bown_of {w : World} {B n c : Nat} {A : Option Addr} {bs : List B8} (hl : bs.length = n) (h : w.ownsRow B 5 1 (.slice A n c) n (bs.map u8v)) : BOwn w B (.slice A bs.length c) bs := by
 subst hl
 exact h
theorem bown_appn {w : World} {B m : Nat} {v : Value} {bs cs : List B8} (hl : cs.length = m) (h : w.ownsRow B 5 1 v (bs.length + m) (bs.map u8v ++ cs.map u8v)) : BOwn w B v (bs ++ cs) := by
 subst hl
 exact bown_app h
theorem blk_app {w : World} {D i : Nat} {v : Value} {kb : List B8} {y x : B8} (he : (blkF kb y).take (i + 1) = (blkF kb y).take i ++ [x]) (h : w.ownsRow D 5 1 v (i + 1) (((blkF kb y).take i).map u8v ++ [x].map u8v)) : w.ownsRow D 5 1 v (i + 1) (((blkF kb y).take (i + 1)).map u8v) := by
 rw [he, List.map_append]
 exact h
theorem padK_in {kb : List B8} {i : Nat} {x : B8} (h : kb[i]? = some x) : (padK kb)[i]? = some x := by
 obtain ⟨hi, _⟩ := List.getElem?_eq_some_iff.1 h
 rw [padK, List.getElem?_append_left hi, h]
theorem padK_out {kb : List B8} {i : Nat} (h : kb.length ≤ i) (hi : i < 64) : (padK kb)[i]? = some 0#8 := by
 rw [padK, List.getElem?_append_right h, List.getElem?_replicate, if_pos (by omega)]
 rfl
theorem blk_next {kb : List B8} {i : Nat} {x y : B8} (hk : kb.length ≤ 64) (hi : i < 64) (hx : (padK kb)[i]? = some x) : (blkF kb y).take (i + 1) = (blkF kb y).take i ++ [x ^^^ y] := by
 rw [List.take_succ_eq_append_getElem (by rw [blkF_len hk]; exact hi)]
 congr 2
 obtain ⟨hj, rfl⟩ := List.getElem?_eq_some_iff.1 hx
 simp [blkF]
def Rm1 (W : World) (D : Nat) (A2 : Option Addr) (c2 : Nat) (kb : List B8) (y : B8) (a : Act) (w : World) : Prop :=
 ∃ (i : Nat) (A1 : Option Addr) (c1 : Nat), Kn a 40 [(1, u8v y), (5, .slice A2 kb.length c2), (7, .slice A1 i c1), (8, .int .i64 (i : Nat))] ∧ i ≤ 64 ∧ BRow w (.slice A2 kb.length c2) kb ∧ w.ownsRow D 5 1 (.slice A1 i c1) i (((blkF kb y).take i).map u8v) ∧ D ≤ w.heap.size ∧ Below W.heap.size W w
set_option maxHeartbeats 4000000 in
theorem rmblock_any (w : World) (v : Value) (kb : List B8) (y : B8) (hr : BRow w v kb) (hk : kb.length ≤ 64) :
  Calls Tryz.prog 113 #[v, u8v y] w fun e w' => (∃ D A c, D = w.heap.size ∧ e = .returned (.slice A (blkF kb y).length c) ∧ BOwn w' D (.slice A (blkF kb y).length c) (blkF kb y)) ∧ Below w.heap.size w w' := by
 obtain ⟨A, c, rfl, h1, h2, h3, hh⟩ := hr
 replace hh := Lib.hid hh
 have hall := Below.refl w.heap.size w
 refine K_enter 40 Tryz.func113 rfl rfl fun a H => ?_
 replace H := H.pick [0, 1]
 refine zC (zD ?_)
 refine kR 1 H rfl fun a H => ?_
 refine zA (zB (zC (zD ?_)))
 refine op_litv 30 0 #[] 5 #[] (by simp) (fun w => by kernel_rfl) fun w1 bl hge hb kk => ?_; have hown : BOwn _ w.heap.size (.slice (some ⟨bl, 0, none⟩) 0 0) [] := own_empty kk (Nat.le_trans hall.size hge); replace hall := hall.tr hb; clear hb hge kk; refine kl H rfl fun a H => ?_
 refine kR 1 H rfl fun a H => ?_
 have hDs2 := hall.size; refine op_append 30 5 (.tmp 10) (.tmp 11) w.heap.size (.int .u8 0) 1 1 _ _ _ A kb.length c (kb.map u8v) (H.ev rfl) (H.ev rfl) U30 i5 rfl (by omega) hown (by simp) (hh.out.up hall) (u8s_one _) (by unfold maxLen; simp; omega) (by simp; omega) hDs2 fun o2 w9 hown2 hg9 hv9 hb2 => ?_; have hown3 := bown_app hown2; rw [List.nil_append] at hown3; replace hall := hall.trans hb2; clear hDs2; clear hown hown2 hg9 hv9 hb2; have hown := hown3; clear hown3; obtain ⟨A2, c2, hov⟩ := own_sliceB hown; subst hov; have hkr := BOwn.row hown; have hkD : ∀ q o, A2 = some ⟨q, o, none⟩ → q < w9.heap.size := (fun q o e => by subst e; exact (World.ownsRow.lt hown q rfl).2); have hWD : w.heap.size ≤ w9.heap.size := hall.size; obtain ⟨D, hDe⟩ : ∃ D, D = w9.heap.size := ⟨_, rfl⟩; rw [← hDe] at hkD hWD; clear hown; refine kl H rfl fun a H => ?_
 refine kR 1 H rfl fun a H => ?_
 refine zA (zB (zC (zC (zD ?_))))
 refine kR 1 H rfl fun a H => ?_
 refine kV H (r_len U30 (H.ev rfl)) rfl fun a H => ?_
 refine kV H (r_gt U3 (H.ev rfl) evc (dec_f (by omega))) rfl fun a H => ?_
 refine zA (zB (zG H rfl (zE (zB (zC (zD ?_))))))
 refine kR 1 H rfl fun a H => ?_
 refine zA (zB (zC (zC (zD ?_))))
 refine kR 1 H rfl fun a H => ?_
 refine zA (zB ?_)
 refine wp_block ?_
 refine wp_loop (Rm1 w D A2 c2 kb y) (fun a _ => 64 - (intOf (a.eval (.tmp 8))).toNat) ⟨0, none, 0, H.pick [1, 5, 7, 8], by omega, hkr, World.ownsRow_nil _ _ _ _, Nat.le_of_eq hDe, hall⟩ ?_
 clear H hall hkr hDe
 rintro a w' ⟨i, A1, c1, H, hi, hkr, hown, hDs, hall⟩
 have H0 := H
 by_cases hlt : i < 64
 ·
  by_cases hik : i < kb.length
  ·
   obtain ⟨x0, o, hA2⟩ := brow_addr hkr (by omega)
   subst hA2
   obtain ⟨y0, hy⟩ : ∃ y, kb[i]? = some y := ⟨_, List.getElem?_eq_getElem hik⟩
   have HY := Lib.hid hy
   clear hy
   have H := H0
   refine zC (zC (zD ?_))
   refine kR 1 H rfl fun a H => ?_
   refine kV H (r_lt U3 (H.ev rfl) evc (dec_t (by omega))) rfl fun a H => ?_
   refine zA (zB (zH H rfl (zE (zB (zC ?_)))))
   refine wp_block ?_
   refine zC (zD ?_)
   refine kV (v := u8v (0#8)) H (r_assign (by rfl)) rfl fun a H => ?_
   refine zA (zB (zC (zC (zD ?_))))
   refine kR 2 H rfl fun a H => ?_
   refine kV H (r_len U30 (H.ev rfl)) rfl fun a H => ?_
   refine kV H (r_lt U3 (H.ev rfl) (H.ev rfl) (dec_t (by omega))) rfl fun a H => ?_
   refine zA (zB (zH H rfl (zD ?_)))
   refine kR 2 H rfl fun a H => ?_
   refine kV H (r_idx (j := i) (q := o + i) U30 s5 (H.ev rfl) (H.ev rfl) (by omega) (by omega)) rfl fun a H => ?_
   refine kV H (r_ld U5 rfl (H.ev rfl) (brow_cell hkr HY.out (by omega))) rfl fun a H => ?_
   refine kR 1 H rfl fun a H => ?_
   refine zA (zB (zD ?_))
   refine kR 3 H rfl fun a H => ?_
   refine kV H (r_xor8 U5 (H.ev rfl) (H.ev rfl)) rfl fun a H => ?_
   refine op_litv 30 1 #[(0, u8v (y0 ^^^ y))] 5 #[u8v (y0 ^^^ y)] (by simp [evc, H.ev (j := 36) rfl]) (fun w => by kernel_rfl) fun w0 b0 hge hb k0 => ?_; have g0 := Nat.le_trans hall.size hge; replace hkr := BRow.up hkr hb; replace hown := own_ups hown hb; replace hDs := le_upS hDs hb; replace hall := hall.tr hb; clear hb; clear hge; refine kl H rfl fun a H => ?_
   refine op_append 30 5 (.tmp 33) (.tmp 37) D (.int .u8 0) 1 1 _ _ _ (some ⟨b0, 0, none⟩) 1 1 ([y0 ^^^ y].map u8v) (H.ev rfl) (H.ev rfl) U30 i5 rfl (by omega) hown rfl (Block.holds k0) (u8s_one _) (by unfold maxLen; omega) (by omega) hDs fun o2 w9 hown2 hg9 hv9 hb2 => ?_; have hown3 := blk_app (blk_next hk hlt (padK_in HY.out)) hown2; replace hkr := BRow.far hkr hb2 hkD; replace hall := hall.trans (hb2.mono hWD); replace hDs := Nat.le_trans hDs hb2.size; clear hown hown2 hg9 hv9 hb2 k0; have hown := hown3; clear hown3; obtain ⟨A3, c3, hov⟩ := own_sliceB hown; subst hov; refine kl H rfl fun a H => ?_
   refine kR 1 H rfl fun a H => ?_
   refine zA (n_block (zB (zD ?_)))
   refine kR 1 H rfl fun a H => ?_
   refine kV H (r_add (q := ((i + 1 : Nat) : Int)) U3 (H.ev rfl) evc (by omega) (by omega)) rfl fun a H => ?_
   refine kR 1 H rfl fun a H => ?_
   refine zA ?_
   refine zI ⟨⟨i + 1, _, _, H.pick [1, 5, 7, 8], by omega, hkr, hown, hDs, hall⟩, ?_⟩
   rw [H.ev (j := 8) rfl, H0.ev (j := 8) rfl]
   simp only [intOf]
   omega
  ·
   refine zC (zC (zD ?_))
   refine kR 1 H rfl fun a H => ?_
   refine kV H (r_lt U3 (H.ev rfl) evc (dec_t (by omega))) rfl fun a H => ?_
   refine zA (zB (zH H rfl (zE (zB (zC ?_)))))
   refine wp_block ?_
   refine zC (zD ?_)
   refine kV (v := u8v (0#8)) H (r_assign (by rfl)) rfl fun a H => ?_
   refine zA (zB (zC (zC (zD ?_))))
   refine kR 2 H rfl fun a H => ?_
   refine kV H (r_len U30 (H.ev rfl)) rfl fun a H => ?_
   refine kV H (r_lt U3 (H.ev rfl) (H.ev rfl) (dec_f (by omega))) rfl fun a H => ?_
   refine zA (zB (zG H rfl (zE (zB (zD ?_)))))
   refine kR 3 H rfl fun a H => ?_
   refine kV H (r_xor8 U5 (H.ev rfl) (H.ev rfl)) rfl fun a H => ?_
   refine op_litv 30 1 #[(0, u8v (0#8 ^^^ y))] 5 #[u8v (0#8 ^^^ y)] (by simp [evc, H.ev (j := 36) rfl]) (fun w => by kernel_rfl) fun w1 b1 hge hb k1 => ?_; have g1 := Nat.le_trans hall.size hge; replace hkr := BRow.up hkr hb; replace hown := own_ups hown hb; replace hDs := le_upS hDs hb; replace hall := hall.tr hb; clear hb; clear hge; refine kl H rfl fun a H => ?_
   refine op_append 30 5 (.tmp 33) (.tmp 37) D (.int .u8 0) 1 1 _ _ _ (some ⟨b1, 0, none⟩) 1 1 ([0#8 ^^^ y].map u8v) (H.ev rfl) (H.ev rfl) U30 i5 rfl (by omega) hown rfl (Block.holds k1) (u8s_one _) (by unfold maxLen; omega) (by omega) hDs fun o2 w9 hown2 hg9 hv9 hb2 => ?_; have hown3 := blk_app (blk_next hk hlt (padK_out (by omega) hlt)) hown2; replace hkr := BRow.far hkr hb2 hkD; replace hall := hall.trans (hb2.mono hWD); replace hDs := Nat.le_trans hDs hb2.size; clear hown hown2 hg9 hv9 hb2 k1; have hown := hown3; clear hown3; obtain ⟨A3, c3, hov⟩ := own_sliceB hown; subst hov; refine kl H rfl fun a H => ?_
   refine kR 1 H rfl fun a H => ?_
   refine zA (n_block (zB (zD ?_)))
   refine kR 1 H rfl fun a H => ?_
   refine kV H (r_add (q := ((i + 1 : Nat) : Int)) U3 (H.ev rfl) evc (by omega) (by omega)) rfl fun a H => ?_
   refine kR 1 H rfl fun a H => ?_
   refine zA ?_
   refine zI ⟨⟨i + 1, _, _, H.pick [1, 5, 7, 8], by omega, hkr, hown, hDs, hall⟩, ?_⟩
   rw [H.ev (j := 8) rfl, H0.ev (j := 8) rfl]
   simp only [intOf]
   omega
 ·
  obtain rfl : i = 64 := by omega
  rw [List.take_of_length_le (by rw [blkF_len hk]; omega)] at hown
  refine zC (zC (zD ?_))
  refine kR 1 H rfl fun a H => ?_
  refine kV H (r_lt U3 (H.ev rfl) evc (dec_f (by omega))) rfl fun a H => ?_
  refine zA (zB (zG H rfl (wp_exit (e_then (e_then ?_)))))
  refine e_here ?_
  refine zB (zC (zD ?_))
  refine kR 2 H rfl fun a H => ?_
  refine zA (zB (zF ?_))
  exact k_ret1 H rfl rfl ⟨⟨w.heap.size, A1, c1, rfl, by rw [blkF_len hk], bown_of (blkF_len hk) (own_baseB hown hWD)⟩, hall⟩
set_option maxRecDepth 100000 in
set_option maxHeartbeats 4000000 in
theorem rmac_any (w : World) (v u : Value) (kb bs : List B8) (hr : BRow w v kb) (hu : BRow w u bs) (hk : kb.length ≤ 64) (hn : bs.length ≤ 900000) :
  Calls Tryz.prog 80 #[v, u] w fun e w' => e = .returned (.agg (barr (macF kb bs))) ∧ Below w.heap.size w w' := by
 obtain ⟨Au, cu, rfl, u1, u2, u3, hhu⟩ := hu
 replace hhu := Lib.hid hhu
 replace hr := Lib.hid hr
 have hall := Below.refl w.heap.size w
 refine K_enter 16 Tryz.func80 rfl rfl fun a H => ?_
 replace H := H.pick [0, 1]
 refine zC (zD ?_)
 refine op_alloc 105 (barr (List.replicate 32 0)) z105 fun w0 b0 hge hb k0 => ?_; have g0 := Nat.le_trans hall.size hge; replace hall := hall.tr hb; clear hb; clear hge; refine kl H rfl fun a H => ?_
 refine zA (zB (zC (zD ?_)))
 refine kR 1 H rfl fun a H => ?_
 refine wl_call _ _ _ (rmblock_any _ _ kb 54#8 (BRow.up hr.out hall) hk) (r_call2 cf113 (H.ev rfl) evc) ?_; rintro e w9 ⟨⟨D, A1, c1, hDe, rfl, hown⟩, hb⟩; refine ⟨_, rfl, ?_⟩; have hD0 := k0.lt; have hDW := hall.size; have hDs := hb.size; replace k0 := Block.ups k0 hb; replace hall := hall.tr hb; clear hb; rw [← hDe] at hD0 hDW hDs; clear hDe; refine kl H rfl fun a H => ?_
 refine kR 1 H rfl fun a H => ?_
 refine op_append 30 5 (.tmp 7) (.tmp 8) D (.int .u8 0) 1 1 _ _ _ Au bs.length cu (bs.map u8v) (H.ev rfl) (H.ev rfl) U30 i5 rfl (by omega) hown (by simp) (hhu.out.up hall) (u8s_one _) (by unfold maxLen; rw [blkF_len hk]; omega) (by rw [blkF_len hk]; omega) hDs fun o2 w9 hown2 hg9 hv9 hb2 => ?_; have hrow := BOwn.row (bown_app hown2); replace k0 := Block.up k0 hb2 hD0; replace hall := hall.trans (hb2.mono hDW); clear hown hown2 hg9 hv9 hb2 hD0 hDW hDs; refine kl H rfl fun a H => ?_
 refine wl_call _ _ _ (rsum_any _ _ (blkF kb 54#8 ++ bs) hrow (by rw [List.length_append, blkF_len hk]; omega)) (r_call1 cf112 (H.ev rfl)) ?_; rintro e w9 ⟨rfl, hb⟩; refine ⟨_, rfl, ?_⟩; clear hrow; replace k0 := Block.ups k0 hb; replace hall := hall.tr hb; clear hb; refine kl H rfl fun a H => ?_
 refine op_alloc 105 (barr (List.replicate 32 0)) z105 fun w1 b1 hge hb k1 => ?_; have g1 := Nat.le_trans hall.size hge; have hd01 : b0 < b1 := Nat.lt_of_lt_of_le k0.lt hge; replace k0 := Block.ups k0 hb; replace hall := hall.tr hb; clear hb; clear hge; refine kl H rfl fun a H => ?_
 refine op_store 105 (.tmp 5) (.tmp 10) b1 105 (barr (sumF (blkF kb 54#8 ++ bs))) _ (H.ev rfl) (H.ev rfl) k1 s105s (by rw [barr_size, barr_size, sumF_len]; rfl) (barr_one _) fun w' hb ho kq => ?_; clear k1; have k1 := kq; replace k0 := block_same k0 (ho _ (by omega)); replace hall := hall.trans (hb _ g1); clear hb ho kq; refine kl0 H fun a H => ?_
 refine zA (zB (zC ?_))
 have hall2 := hall
 have hS : BelowOf (BelowTo hall2) _ := Below.drew (Below.refl _ (BelowTo hall2))
 refine region_tree (BelowOf (BelowTo hall2)) 5 (.fl 0 (.fl 2 (.one 1 (.one 3 (.one 4 (.one 5 .done)))))) (by kernel_rfl) (by kernel_rfl) rfl (by kernel_rfl) hS ?_
 refine kQ 1 H rfl fun a H => ?_
 refine kF (v := .slice (some ⟨b1, 0, none⟩) 32 32) H rfl rfl (fun w' hS' => r_slice_all (b := b1) (o := 0) U105 s5 (H.ev rfl) (by omega)) rfl fun a H => ?_
 refine pt_one (fun K hK => ?_)
 refine st_a0 rfl ?_; refine wpo_call _ _ _ (rmblock_any _ _ kb 92#8 (BRow.up hr.out (hall2.trans (Below.mono hS hall2.size))) hk) (r_call2 cf113 (H.ev rfl) evc) ?_; rintro e w9 ⟨⟨D2, A2, c2, hDe, rfl, hown2⟩, hb⟩; refine ⟨_, rfl, ?_⟩; have hD2 : (BelowTo hall2).heap.size ≤ D2 := (by rw [hDe]; exact Below.size hS); have hDs2 : D2 ≤ w9.heap.size := (by rw [hDe]; exact Below.size hb); replace hS := Below.trans hS (Below.mono hb (Below.size hS)); clear hb hDe; refine hK _ _ ⟨(fun _ => hS), ?_⟩; clear hK; clear K; refine kt H rfl fun a H => ?_
 refine pt_one (fun K hK => ?_)
 refine st_a0 rfl ?_; refine wpo_append 30 5 (.tmp 12) (.tmp 13) D2 (.int .u8 0) 1 1 _ _ _ (some ⟨b1, 0, none⟩) 32 32 ((sumF (blkF kb 54#8 ++ bs)).map u8v) (H.ev rfl) (H.ev rfl) U30 i5 rfl (by omega) hown2 (by rw [List.length_map, sumF_len]) (Block.holds (Block.ups k1 hS)) (u8s_one _) (by unfold maxLen; rw [blkF_len hk]; omega) (by rw [blkF_len hk]; omega) hDs2 fun o2 w9 hown3 hg9 hv9 hb2 => ?_; have hrow := BOwn.row (bown_appn sumF_len hown3); replace hS := Below.trans hS (Below.mono hb2 hD2); clear hown2 hown3 hg9 hv9 hb2 hD2 hDs2; refine hK _ _ ⟨(fun _ => hS), ?_⟩; clear hK; clear K; refine kt H rfl fun a H => ?_
 refine pt_one (fun K hK => ?_)
 refine st_a0 rfl ?_; refine wpo_call _ _ _ (rsum_any _ _ (blkF kb 92#8 ++ sumF (blkF kb 54#8 ++ bs)) hrow (by rw [List.length_append, blkF_len hk, sumF_len]; omega)) (r_call1 cf112 (H.ev rfl)) ?_; rintro e w9 ⟨rfl, hb⟩; refine ⟨_, rfl, ?_⟩; replace hS := Below.trans hS (Below.mono hb (Below.size hS)); clear hb hrow; refine hK _ _ ⟨(fun _ => hS), ?_⟩; clear hK; clear K; refine kt H rfl fun a H => ?_
 refine pt_one (fun K hK => ?_)
 replace k0 := Block.ups k0 hS
 replace k1 := Block.ups k1 hS
 replace hall := hall.trans (Below.mono hS hall.size)
 refine st_a0 rfl ?_; refine wpo_store1 105 (.tmp 4) (.tmp 15) b0 0 105 (.agg (barr (macF kb bs))) _ (H.ev rfl) (H.ev rfl) k0 s105m (barr_fit sumF_len) (barr_one _) fun w' hb ho kq => ?_; clear k0; have k0 := barr_all (by show _ = (sumF _).length; rw [sumF_len]; rfl) kq; replace hall := hall.trans (hb _ g0); clear hb ho kq; refine hK _ _ ⟨(fun h => absurd rfl h), ?_⟩; clear hK; clear K; clear hS; skip
 refine pt_done (NoPanic.normal ?_)
 refine zB (zF ?_)
 exact k_ret_cell H rfl rfl k0 U105 rfl s105s ⟨rfl, hall⟩
end Go.Proofs.YtbnmpoonkjlkjaaGreat
