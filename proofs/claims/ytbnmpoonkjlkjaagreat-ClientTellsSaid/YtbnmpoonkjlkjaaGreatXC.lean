/- Client: part C of the proof. -/
import Derived.Test.YtbnmpoonkjlkjaaGreatXB
import Derived.Test.YtbnmpoonkjlkjaaGreatXA
namespace Go.Proofs.YtbnmpoonkjlkjaaGreat
open Go.RowKit
set_option linter.unusedVariables false
set_option linter.unusedSimpArgs false
set_option maxRecDepth 100000
set_option maxHeartbeats 8000000
section
namespace V2
section
variable {P : Program} {ops : Array Oper} {Q : Exit → Act → World → Prop} {md : Region.Mode} {S : World → Prop} {z : Nat}
/-- whatever order is picked, and S holds behind each operation but number z -/
def Fq (P : Program) (md : Region.Mode) (ops : Array Oper) (Q : Exit → Act → World → Prop) (S : World → Prop) (z : Nat) : Nat → Array Bool → Act → World → Prop
 | 0, L, a, w => Region.ready md ops L = [] ∧ Q .normal a w
 | n + 1, L, a, w => (Region.ready md ops L = [] → Q .normal a w) ∧
  ∀ i ∈ Region.ready md ops L, wpOp P ops Q i (fun a' w' => (i < z → S w') ∧ Fq P md ops Q S z n (L.setIfInBounds i true) a' w') a w
theorem G7 : ∀ (n : Nat) (L : Array Bool) (a : Act) (w : World), Fq P md ops Q S z n L a w → wpAny P md ops Q n L a w
 | 0, _, _, _, h => h
 | n + 1, _, _, _, h => ⟨h.1, fun i hi => wpOp_mono (fun a' w' h' => G7 n _ a' w' h'.2) (h.2 i hi)⟩
/-- number k waits for number i, at once or through others -/
def Ik (md : Region.Mode) (ops : Array Oper) (z i : Nat) : Bool := (List.range ops.size).all fun k => decide (k < z) || KS md ops 12 k i
theorem Ij {i : Nat} {oi : Oper} {v : Value} (hi : ops[i]? = some oi) (El : ∀ (j : Nat) (o : Oper) cs b, ops[j]? = some o → o.op ≠ .select cs b)
  (hQ : ∀ c a w, Q (.panic c) (a.put oi.dst v) w → Q (.panic c) a w) (hz : Ik md ops z i = true) :
  ∀ (n : Nat) (L : Array Bool) (a : Act) (w : World),
   (∀ j oj, ops[j]? = some oj → j ≠ i → L.getD j true = false → (∀ e ∈ oj.after, Region.binds md e = true → e.on ≠ i) → oi.apart ops oj = true) →
   i ∈ Region.ready md ops L → Hq md ops L → YieldsIf P ops S oi v a → S w →
   Fq P md ops Q S z n (L.setIfInBounds i true) (a.put oi.dst v) w → Fq P md ops Q S z (n + 1) L a w := by
 intro n
 induction n with
 | zero =>
  intro L a w _ hr Be hy hS H
  refine ⟨fun h => (by rw [h] at hr; cases hr), fun j hj => ?_⟩
  by_cases QZ : j = i
  · subst QZ; exact hy.wpOp hi hS ⟨fun _ => hS, H⟩
  ·
   have := ready_mono hj QZ
   rw [H.1] at this
   cases this
 | succ n ih =>
  intro L a w Rc hr Be hy hS H
  refine ⟨fun h => (by rw [h] at hr; cases hr), fun j hj => ?_⟩
  by_cases QZ : j = i
  · subst QZ; exact hy.wpOp hi hS ⟨fun _ => hS, H⟩
  ·
   have h1 := H.2 j (ready_mono hj QZ)
   obtain ⟨Xp, oj, Xh, Aa⟩ := mem_ready.1 hj
   have Xq := (mem_ready.1 hr).1
   have dD : ∀ e ∈ oj.after, Region.binds md e = true → e.on ≠ i := fun e he hb fC => by
    have h1 := Aa e he hb
    rw [fC] at h1
    exact Im Xq h1
   have qH : j < z := by
    unfold Ik at hz
    have hz2 := List.all_eq_true.1 hz j (List.mem_range.2 (Array.getElem?_eq_some_iff.1 Xh).1)
    simp only [Bool.or_eq_true, decide_eq_true_eq] at hz2
    rcases hz2 with hz2 | hz2
    · exact hz2
    ·
     refine (Mp Be Xq 12 j hz2 fun ok ho e he hb => ?_).elim
     rw [Xh] at ho
     injection ho with ho
     subst ho
     exact Aa e he hb
   have h2 := wpOp_putIf Xh (Rc j oj Xh QZ Xp dD) (fun cs b => El i oi cs b hi) (fun cs b => El j oj cs b Xh) hQ hy h1
   have hfree' : ∀ k ok, ops[k]? = some ok → k ≠ i → (L.setIfInBounds j true).getD k true = false →
     (∀ e ∈ ok.after, Region.binds md e = true → e.on ≠ i) → oi.apart ops ok = true := fun k ok hk qF gP Cm => by
    refine Rc k ok hk qF ?_ Cm
    by_cases hH : j = k
    · subst hH; exact Xp
    · rw [getD_set_ne true hH] at gP; exact gP
   refine wpOp_mono (fun a' w' h3 => ⟨h3.2.1, ih (L.setIfInBounds j true) a' w' hfree' (ready_mono hr (Ne.symm QZ)) (Ei Be hj) h3.1 (h3.2.1 qH) ?_⟩) h2
   rw [Array.setIfInBounds_comm _ _ QZ]
   exact h3.2.2
end
def WW : PT → Bool
 | .done => true
 | .fl _ _ => false
 | .one _ t => WW t
 | .two _ t _ u => WW t && WW u
def Gj (ops : Array Oper) (z : Nat) : PT → Array Bool → Bool
 | .done, L => (Region.ready .any ops L).isEmpty
 | .fl i t, L => ((Region.ready .any ops L).contains i && Region.free .any ops L i && Ik .any ops z i) && Gj ops z t (L.setIfInBounds i true)
 | .one i t, L => Region.ready .any ops L == [i] && (Nat.blt i z || WW t) && Gj ops z t (L.setIfInBounds i true)
 | .two i t j u, L => Region.ready .any ops L == [i, j] && (t.len == u.len) && (Nat.blt i z && Nat.blt j z) && Gj ops z t (L.setIfInBounds i true) && Gj ops z u (L.setIfInBounds j true)
/-- one operation that is no float -/
def Ez (P : Program) (l : List Oper) (Q : Exit → Act → World → Prop) (S : World → Prop) (z : Nat) : PT → Act → World → Prop
 | .done, a, w => Q .normal a w
 | .fl i t, a, w => ∃ o, DP l i = some o ∧
  if Region.wanted o (yielded l.toArray a.tmps) = true then ∃ v, (∀ w', S w' → (execOp a.eval o).run P w' = .ok (.value v) w') ∧ Ez P l Q S z t (a.put o.dst v) w
  else Ez P l Q S z t (a.put o.dst undef) w
 | .one i t, a, w => Gn P l Q i (fun a' w' => (i < z → S w') ∧ Ez P l Q S z t a' w') a w
 | .two i t j u, a, w => Gn P l Q i (fun a' w' => (i < z → S w') ∧ Ez P l Q S z t a' w') a w ∧ Gn P l Q j (fun a' w' => (j < z → S w') ∧ Ez P l Q S z u a' w') a w
section
variable {P : Program} {l : List Oper} {Q : Exit → Act → World → Prop} {S : World → Prop} {a : Act} {w : World}
variable {z : Nat}
theorem FU {i : Nat} {oi : Oper} {v : Value} {n : Nat} {L : Array Bool} (hi : l.toArray[i]? = some oi) (hs : Region.noSelect l.toArray = true)
  (hf : Region.free .any l.toArray L i = true) (hr : (Region.ready .any l.toArray L).contains i = true) (hz : Ik .any l.toArray z i = true) (Be : Hq .any l.toArray L)
  (hQ : ∀ c a w, Q (.panic c) (a.put oi.dst v) w → Q (.panic c) a w) (hy : YieldsIf P l.toArray S oi v a) (hS : S w)
  (h : Fq P .any l.toArray Q S z n (L.setIfInBounds i true) (a.put oi.dst v) w) : Fq P .any l.toArray Q S z (n + 1) L a w :=
 Ij hi (Region.noSelect_spec hs) hQ hz n L a w (Region.free_spec hi hf) (by simpa using hr) Be hy hS h
theorem Er (El : Region.noSelect l.toArray = true) (hQ : ∀ (c : _) (a : Act) (d : Option Tmp) (v : Value) (w : World), Q (.panic c) (a.put d v) w → Q (.panic c) a w) :
  ∀ (t : PT) (L : Array Bool) (a : Act) (w : World), Gj l.toArray z t L = true → Hq .any l.toArray L → (WW t = false → S w) → Ez P l Q S z t a w → Fq P .any l.toArray Q S z t.len L a w
 | .done, L, a, w, hB, _, _, h => by
  simp only [Gj, List.isEmpty_iff] at hB
  exact ⟨hB, h⟩
 | .fl i t, L, a, w, hB, Be, hS, h => by
  obtain ⟨o, ho, h⟩ := h
  have hi : l.toArray[i]? = some o := by rw [GI] at ho; simpa using ho
  simp only [Gj, Bool.and_eq_true] at hB
  obtain ⟨⟨⟨Nb, dZ⟩, aS⟩, RE⟩ := hB
  have Zc : S w := hS rfl
  have hcl' := Ei Be (j := i) (by simpa using Nb)
  by_cases hw : Region.wanted o (yielded l.toArray a.tmps) = true
  ·
   simp only [hw, if_true] at h
   obtain ⟨v, hv, h⟩ := h
   exact FU hi El dZ Nb aS Be (fun c a w => hQ c a _ _ w) (.inl ⟨hw, hv⟩) Zc (Er El hQ t _ _ w RE hcl' (fun _ => Zc) h)
  ·
   have hw' : Region.wanted o (yielded l.toArray a.tmps) = false := by simpa using hw
   simp only [hw', Bool.false_eq_true, if_false] at h
   exact FU hi El dZ Nb aS Be (fun c a w => hQ c a _ _ w) (.inr ⟨hw', rfl⟩) Zc (Er El hQ t _ _ w RE hcl' (fun _ => Zc) h)
 | .one i t, L, a, w, hB, Be, hS, h => by
  simp only [Gj, Bool.and_eq_true, beq_iff_eq, Bool.or_eq_true, Nat.blt_eq] at hB
  obtain ⟨⟨hr, hd⟩, h2⟩ := hB
  refine ⟨(fun e => by rw [hr] at e; cases e), fun k hk => ?_⟩
  rw [hr] at hk
  obtain rfl : k = i := by simpa using hk
  exact Hz h fun a w h => ⟨h.1, Er El hQ t _ a w h2 (Ei Be (by rw [hr]; simp)) (fun e => h.1 (hd.resolve_right (by rw [e]; simp))) h.2⟩
 | .two i t j u, L, a, w, hB, Be, hS, h => by
  simp only [Gj, Bool.and_eq_true, beq_iff_eq, Nat.blt_eq] at hB
  obtain ⟨⟨⟨⟨hr, hl⟩, qU, qS⟩, h1⟩, h2⟩ := hB
  refine ⟨(fun e => by rw [hr] at e; cases e), fun k hk => ?_⟩
  rw [hr] at hk
  rcases List.mem_cons.1 hk with rfl | hk
  · exact Hz h.1 fun a w h => ⟨h.1, Er El hQ t _ a w h1 (Ei Be (by rw [hr]; simp)) (fun e => h.1 qU) h.2⟩
  ·
   obtain rfl : k = j := by simpa using hk
   rw [hl]
   exact Hz h.2 fun a w h => ⟨h.1, Er El hQ u _ a w h2 (Ei Be (by rw [hr]; simp)) (fun e => h.1 qS) h.2⟩
theorem Ha {id : Nat} (S : World → Prop) (z : Nat) (t : PT) (hm : P.follows .mixedOrders = true) (El : Region.noSelect l.toArray = true) (hn : t.len = l.length)
  (hB : Gj l.toArray z t (Array.replicate l.length false) = true) (hS : S w.drew) (h : Ez P l (NoPanic Q) S z t a w.drew) : (Code.region id l.toArray true).wp P Q a w := by
 refine wp_region_noPanic (wp_region_any hm ?_)
 have := G7 _ _ _ _ (Er (P := P) (l := l) (Q := NoPanic Q) (S := S) (z := z) El (fun c a d v w h => h) t (Array.replicate l.length false) a w.drew hB LK (fun _ => hS) h)
 rw [hn] at this
 simpa using this
theorem Aw (h : Q .normal a w) : Ez P l Q S z .done a w := h
theorem fX {i : Nat} {t : PT} {d : Option Tmp} {op : Op} {tt : TypeId} {ps : String} {af : Array Edge} (v : Value) (ho : DP l i = some ⟨d, op, tt, ps, af, none⟩)
  (hv : ∀ w', S w' → (execOp a.eval ⟨d, op, tt, ps, af, none⟩).run P w' = .ok (.value v) w') (h : Ez P l Q S z t (a.put d v) w) : Ez P l Q S z (.fl i t) a w :=
 ⟨_, ho, by rw [if_pos (FW rfl)]; exact ⟨v, hv, h⟩⟩
theorem fW {i : Nat} {t : PT} {d : Option Tmp} {op : Op} {tt : TypeId} {ps : String} {af : Array Edge} {j : Nat} {b : Bool} {oj : Oper} {k : Tmp} (v : Value) (ho : DP l i = some ⟨d, op, tt, ps, af, some (j, b)⟩)
  (hj : DP l j = some oj) (hd : oj.dst = some k) (hb : a.tmps.getD k undef = .bool b)
  (hv : ∀ w', S w' → (execOp a.eval ⟨d, op, tt, ps, af, some (j, b)⟩).run P w' = .ok (.value v) w') (h : Ez P l Q S z t (a.put d v) w) : Ez P l Q S z (.fl i t) a w :=
 ⟨_, ho, by rw [if_pos (by rw [D0 rfl hj hd hb]; simp)]; exact ⟨v, hv, h⟩⟩
theorem fV {i : Nat} {t : PT} {d : Option Tmp} {op : Op} {tt : TypeId} {ps : String} {af : Array Edge} {j : Nat} {b : Bool} {oj : Oper} {k : Tmp} (ho : DP l i = some ⟨d, op, tt, ps, af, some (j, b)⟩)
  (hj : DP l j = some oj) (hd : oj.dst = some k) (hb : a.tmps.getD k undef = .bool (!b)) (h : Ez P l Q S z t (a.put d undef) w) : Ez P l Q S z (.fl i t) a w :=
 ⟨_, ho, by rw [if_neg (by rw [D0 rfl hj hd hb]; simp)]; exact h⟩
theorem Al {i : Nat} {t : PT} (h : ∀ K : Act → World → Prop, (∀ a w, (i < z → S w) ∧ Ez P l Q S z t a w → K a w) → Gn P l Q i K a w) : Ez P l Q S z (.one i t) a w := h _ fun _ _ h => h
theorem FB {i j : Nat} {t u : PT} (h1 : ∀ K : Act → World → Prop, (∀ a w, (i < z → S w) ∧ Ez P l Q S z t a w → K a w) → Gn P l Q i K a w)
  (h2 : ∀ K : Act → World → Prop, (∀ a w, (j < z → S w) ∧ Ez P l Q S z u a w → K a w) → Gn P l Q j K a w) : Ez P l Q S z (.two i t j u) a w := ⟨h1 _ fun _ _ h => h, h2 _ fun _ _ h => h⟩
theorem kt {n : Nat} {t : PT} {l' : List (Nat × Value)} (H : Kn a n l') {k : Nat} {v : Value} (hk : Nat.blt k n = true) (h : ∀ a', Kn a' n ((k, v) :: l') → Ez P l Q S z t a' w) : Ez P l Q S z t (a.put (some k) v) w := h _ (H.put k v hk)
end
end V2
end
section
namespace V2
section
variable {ops : Array Oper} {a : Act} {w : World} {Q : Exit → Act → World → Prop} {n : Nat} {l : List (Nat × Value)}
def M9 (L : List Oper) (n : Nat) : Nat → List (Nat × Value) → PT → Option (List (Nat × Value) × PT)
 | 0, l, t => some (l, t)
 | i + 1, l, t => match t with
  | .fl j t => match DP L j with
   | none => none
   | some o => match I2 L n l o with
    | none => none
    | some l' => M9 L n i l' t
  | _ => none
theorem kF {L : List Oper} {S : World → Prop} {z i : Nat} {t : PT} {k : Nat} {op : Op} {tt : TypeId} {ps : String} {af : Array Edge} {v : Value} {g : Option (Nat × Bool)} (H : Kn a n l) (ho : DP L i = some ⟨some k, op, tt, ps, af, g⟩) (hg : GO L l g = some true)
  (hv : ∀ w', S w' → (execOp a.eval ⟨some k, op, tt, ps, af, g⟩).run Tryz.prog w' = .ok (.value v) w') (hk : Nat.blt k n = true) (h : ∀ a', Kn a' n ((k, v) :: l) → Ez Tryz.prog L Q S z t a' w) : Ez Tryz.prog L Q S z (.fl i t) a w :=
 ⟨_, ho, by
  have hw : Region.wanted ⟨some k, op, tt, ps, af, g⟩ (yielded L.toArray a.tmps) = true := CJ (ops := L.toArray) (o := ⟨some k, op, tt, ps, af, g⟩) H hg
  rw [if_pos hw]
  exact ⟨v, hv, kt H hk h⟩⟩
theorem KX {L : List Oper} {S : World → Prop} {z i : Nat} {t : PT} {o : Oper} {l' : List (Nat × Value)} (H : Kn a n l) (ho : DP L i = some o) (hs : I2 L n l o = some l') (h : ∀ a', Kn a' n l' → Ez Tryz.prog L Q S z t a' w) : Ez Tryz.prog L Q S z (.fl i t) a w := by
 refine ⟨o, ho, ?_⟩
 obtain ⟨d, op, tt, ps, af, g⟩ := o
 cases d with
 | none =>
  unfold I2 at hs
  simp only at hs
  split at hs
  ·
   rename_i hg
   obtain rfl := Option.some.inj hs
   have hw : Region.wanted ⟨none, op, tt, ps, af, g⟩ (yielded L.toArray a.tmps) = false := CJ (ops := L.toArray) (o := ⟨none, op, tt, ps, af, g⟩) H hg
   rw [if_neg (by rw [hw]; simp)]
   exact h _ H
  · cases hs
 | some k =>
  unfold I2 at hs
  simp only at hs
  split at hs
  · cases hs
  ·
   rename_i hk
   split at hs
   · cases hs
   ·
    rename_i hg
    obtain rfl := Option.some.inj hs
    have hw : Region.wanted ⟨some k, op, tt, ps, af, g⟩ (yielded L.toArray a.tmps) = false := CJ (ops := L.toArray) (o := ⟨some k, op, tt, ps, af, g⟩) H hg
    rw [if_neg (by rw [hw]; simp)]
    exact kt H hk h
   ·
    rename_i hg
    split at hs
    · cases hs
    ·
     rename_i v hv
     obtain rfl := Option.some.inj hs
     have hw : Region.wanted ⟨some k, op, tt, ps, af, g⟩ (yielded L.toArray a.tmps) = true := CJ (ops := L.toArray) (o := ⟨some k, op, tt, ps, af, g⟩) H hg
     rw [if_pos hw]
     exact ⟨v, fun w' _ => Ph H hv, kt H hk h⟩
theorem kQ {L : List Oper} {S : World → Prop} {z : Nat} (i : Nat) : ∀ {a : Act} {l : List (Nat × Value)} {t t' : PT} {l' : List (Nat × Value)}, Kn a n l → M9 L n i l t = some (l', t') → (∀ a', Kn a' n l' → Ez Tryz.prog L Q S z t' a' w) → Ez Tryz.prog L Q S z t a w := by
 induction i with
 | zero =>
  intro a l t t' l' H hr h
  obtain ⟨rfl, rfl⟩ := Prod.mk.inj (Option.some.inj hr)
  exact h a H
 | succ i ih =>
  intro a l t t' l' H hr h
  unfold M9 at hr
  split at hr
  ·
   split at hr
   · cases hr
   ·
    rename_i o ho
    split at hr
    · cases hr
    ·
     rename_i l1 hs
     exact KX H ho hs fun a' H' => ih H' hr h
  · cases hr
end
def IO (L : List Oper) (n k : Nat) (v : Value) (i : Nat) (l : List (Nat × Value)) (t : PT) : Option (List (Nat × Value) × PT) := match Nat.blt k n with
 | true => M9 L n i ((k, v) :: l) t
 | false => none
section
variable {a : Act} {w : World} {Q : Exit → Act → World → Prop} {n : Nat} {l l' : List (Nat × Value)} {op : Op} {tt : TypeId} {ps : String} {af : Array Edge} {k : Nat} {v : Value} {L : List Oper} {S : World → Prop} {z : Nat} {t t' : PT} {K : Act → World → Prop}
theorem kT (i : Nat) (H : Kn a n l) (hr : IO L n k v i l t = some (l', t')) (h : ∀ a', Kn a' n l' → Ez Tryz.prog L Q S z t' a' w) : Ez Tryz.prog L Q S z t (a.put (some k) v) w := by
 unfold IO at hr
 split at hr
 ·
  rename_i hk
  exact kt H hk fun a' H' => kQ i H' hr h
 · cases hr
theorem kE (i : Nat) {j : Nat} {g : Option (Nat × Bool)} (H : Kn a n l) (ho : DP L j = some ⟨some k, op, tt, ps, af, g⟩) (hg : GO L l g = some true)
  (hv : ∀ w', S w' → (execOp a.eval ⟨some k, op, tt, ps, af, g⟩).run Tryz.prog w' = .ok (.value v) w') (hr : IO L n k v i l t = some (l', t')) (h : ∀ a', Kn a' n l' → Ez Tryz.prog L Q S z t' a' w) : Ez Tryz.prog L Q S z (.fl j t) a w := by
 unfold IO at hr
 split at hr
 ·
  rename_i hk
  exact kF H ho hg hv hk fun a' H' => kQ i H' hr h
 · cases hr
theorem kS (i : Nat) {j : Nat} (hK : ∀ a w, (j < z → S w) ∧ Ez Tryz.prog L Q S z t a w → K a w) (hS : S w) (H : Kn a n l) (hr : IO L n k v i l t = some (l', t')) (h : ∀ a', Kn a' n l' → Ez Tryz.prog L Q S z t' a' w) : K (a.put (some k) v) w := hK _ _ ⟨fun _ => hS, kT i H hr h⟩
theorem kU (i : Nat) {j : Nat} (hK : ∀ a w, (j < z → S w) ∧ Ez Tryz.prog L Q S z t a w → K a w) (hS : S w) (H : Kn a n l) (hr : M9 L n i l t = some (l', t')) (h : ∀ a', Kn a' n l' → Ez Tryz.prog L Q S z t' a' w) : K (a.put none v) w := hK _ _ ⟨fun _ => hS, kQ i H hr h⟩
theorem pO {j : Nat} {d : Option Tmp} (ho : DP L j = some ⟨d, op, tt, ps, af, none⟩) (h : ∀ K : Act → World → Prop, (∀ a w, (j < z → S w) ∧ Ez Tryz.prog L Q S z t a w → K a w) → Oper.wp Tryz.prog ⟨d, op, tt, ps, af, none⟩ a w K Q) : Ez Tryz.prog L Q S z (.one j t) a w := Al fun K hK => A7 ho (h K hK)
end
section
variable {L : List Oper} {a : Act} {w : World} {Q : Exit → Act → World → Prop} {id : Nat}
theorem rT (S : World → Prop) (z : Nat) (t : PT) (hS : S w.drew) (h : Ez Tryz.prog L (NoPanic Q) S z t a w.drew) (hm : Tryz.prog.follows .mixedOrders = true := by kernel_rfl) (El : Region.noSelect L.toArray = true := by kernel_rfl) (hn : t.len = L.length := by rfl)
  (hB : Gj L.toArray z t (Array.replicate L.length false) = true := by kernel_rfl) : (Code.region id L.toArray true).wp Tryz.prog Q a w := Ha S z t hm El hn hB hS h
theorem rB (z : Nat) (t : PT) (h : AV w w.drew → Ez Tryz.prog L (NoPanic Q) (AV w) z t a w.drew) (hm : Tryz.prog.follows .mixedOrders = true := by kernel_rfl) (El : Region.noSelect L.toArray = true := by kernel_rfl) (hn : t.len = L.length := by rfl)
  (hB : Gj L.toArray z t (Array.replicate L.length false) = true := by kernel_rfl) : (Code.region id L.toArray true).wp Tryz.prog Q a w := rT (AV w) z t (Below.drew (Below.refl _ w)) (h (Below.drew (Below.refl _ w))) hm El hn hB
end
end V2
end
theorem i133 : (Tryz.prog.info? 133).map (fun i => (i.zero, i.size, i.bytes)) = some (some (.int .u32 0), 1, 4) := by kernel_rfl
theorem PI {w : World} {D i : Nat} {v : Value} {bs : List B8} {x : D6} (he : wl bs (i + 1) = wl bs i ++ [x]) (h : w.ownsRow D 133 1 v (i + 1) ((wl bs i).map u32v ++ [x].map u32v)) : w.ownsRow D 133 1 v (i + 1) ((wl bs (i + 1)).map u32v) := by
 rw [he, List.map_append]
 exact h
theorem NE {w : World} {D n c : Nat} {A : Option Addr} {xs : List Value} (h : w.ownsRow D 133 1 (.slice A n c) n xs) (hn : 0 < n) : ∃ g, A = some ⟨g, 0, none⟩ := by
 obtain ⟨_, ⟨_, h1⟩ | ⟨g, cap, cur, e, _⟩⟩ := h
 · omega
 ·
  injection e with e1
  exact ⟨g, e1⟩
theorem Ht {w : World} {D g n c j : Nat} {bs : List B8} {x : D6} (h : w.ownsRow D 133 1 (.slice (some ⟨g, 0, none⟩) n c) n ((wl bs n).map u32v)) (hj : j < n) (hx : (wl bs n).getD j 0 = x) {q : Nat} (hq : q = 0 + j) : w.cell? ⟨g, q, none⟩ = some (u32v x) := by
 subst hq
 obtain ⟨A, c', e, hh, _⟩ := Et h
 injection e with e1 e2 e3
 obtain ⟨b, o, he, hc⟩ := hh j (by rw [List.length_map, wl_len]; exact hj)
 rw [← e1] at he
 injection he with he
 injection he with e4 e5
 subst e4 e5
 rw [hc, ← hx, List.getD_eq_getElem?_getD]
 have : j < (wl bs n).length := by rw [wl_len]; exact hj
 simp [List.getElem?_eq_getElem this]
theorem eU (a b c d : B8) : (((a.setWidth 32 <<< 24 ||| b.setWidth 32 <<< 16) ||| c.setWidth 32 <<< 8) ||| d.setWidth 32) = NC [a, b, c, d] := by
 unfold NC
 simp only [List.foldl_cons, List.foldl_nil]
 apply BitVec.eq_of_getLsbD_eq
 intro i hi
 simp only [BitVec.getLsbD_or, BitVec.getLsbD_shiftLeft, BitVec.getLsbD_setWidth, BitVec.getLsbD_zero]
 by_cases h1 : i < 8
 · simp [h1, show i < 16 by omega, show i < 24 by omega, hi]
 ·
  by_cases h2 : i < 16
  · simp [h1, h2, show i < 24 by omega, hi, show i - 8 < 8 by omega]
  ·
   by_cases h3 : i < 24
   · simp [h1, h2, h3, hi, show ¬ i - 8 < 8 by omega, show i - 8 - 8 < 8 by omega, show i - 16 = i - 8 - 8 by omega, show i - 8 < 32 by omega, show i - 8 - 8 < 32 by omega]
   · simp [h1, h2, h3, hi, show ¬ i - 8 < 8 by omega, show ¬ i - 8 - 8 < 8 by omega, show i - 24 = i - 8 - 8 - 8 by omega, show i - 8 - 8 - 8 < 8 by omega, show i - 16 = i - 8 - 8 by omega, show i - 8 < 32 by omega, show i - 8 - 8 < 32 by omega, show i - 8 - 8 - 8 < 32 by omega]
theorem fP {bs : List B8} {i : Nat} {y0 y1 y2 y3 : B8} (hi : i < 16) (h0 : bs[4 * i + 0]? = some y0) (h1 : bs[4 * i + 1]? = some y1) (h2 : bs[4 * i + 2]? = some y2) (h3 : bs[4 * i + 3]? = some y3) :
  wl bs (i + 1) = wl bs i ++ [((((y0.setWidth 32) <<< 24) ||| ((y1.setWidth 32) <<< 16)) ||| ((y2.setWidth 32) <<< 8)) ||| (y3.setWidth 32)] := by
 have e : (bs.drop (4 * i)).take 4 = [y0, y1, y2, y3] := by
  apply List.ext_getElem?
  intro j
  rw [List.getElem?_take]
  split
  ·
   rename_i hj
   rw [List.getElem?_drop]
   match j, hj with
   | 0, _ => exact h0
   | 1, _ => exact h1
   | 2, _ => exact h2
   | 3, _ => exact h3
  ·
   rw [List.getElem?_eq_none]
   simp; omega
 rw [eU, ← e]
 simp [wl, hi]
theorem eW (a b c : D6) : a + b + c = a + c + b := by rw [BitVec.add_assoc, BitVec.add_comm b c, ← BitVec.add_assoc]
theorem fQ {bs : List B8} {i : Nat} {x y z u : D6} (h0 : 16 ≤ i) (hi : i < 64) (hx : (wl bs i).getD (i - 15) 0 = x) (hy : (wl bs i).getD (i - 2) 0 = y) (hz : (wl bs i).getD (i - 16) 0 = z) (hu : (wl bs i).getD (i - 7) 0 = u) :
  wl bs (i + 1) = wl bs i ++ [((z + ((Dd x 7 ^^^ Dd x 18) ^^^ (x >>> 3))) + u) + ((Dd y 17 ^^^ Dd y 19) ^^^ (y >>> 10))] := by
 subst hx hy hz hu
 simp only [wl, if_neg (show ¬ i < 16 by omega), cK]
 rw [eW ((wl bs i).getD (i - 16) 0)]
theorem Fi (x : D6) (n : Nat) (q : Int) (w : World) (hq : q = (n : Int)) (h1 : 1 ≤ n) (h2 : n ≤ 31) :
  Calls Tryz.prog 134 #[u32v x, J q] w fun e w' => e = .returned (u32v (Dd x n)) ∧ Below w.heap.size w w' := by
 subst hq
 have Aa := Below.refl w.heap.size w
 refine Az 13 Tryz.func134 R R λ a H => zC (zD (kR 1 H R λ a H => zA (zB (zC (rB 9 (Dn [0, 1, 2, 3, 4, 5, 6, 7, 8] .done) fun hS => kQ 2 H R λ a H => kE 2 H R R (fun w' Aj => Mc (k := n) (by omega) BC (H.e R) (H.e R)) R λ a H => kF H R R (fun w' Aj => Dl (q := ((32 - n : Nat) : Int)) U3 Am (H.e R) (by omega) (by omega)) R λ a H => kF H R R (fun w' Aj => Tp (k := 32 - n) (by omega) BC (H.e R) (H.e R)) R λ a H => kE 1 H R R (fun w' Aj => IR BC (H.e R) (H.e R)) R λ a H => Aw (NoPanic.normal ?_))))))
 replace Aa := Aa.trans (Below.mono hS Aa.size)
 clear hS
 exact zB (zF (Ag H R R ⟨R, Aa⟩))
def uS : Array (Nat × Value) := #[(0, .int .u32 1116352408), (1, .int .u32 1899447441), (2, .int .u32 3049323471), (3, .int .u32 3921009573), (4, .int .u32 961987163), (5, .int .u32 1508970993), (6, .int .u32 2453635748), (7, .int .u32 2870763221), (8, .int .u32 3624381080), (9, .int .u32 310598401), (10, .int .u32 607225278), (11, .int .u32 1426881987), (12, .int .u32 1925078388), (13, .int .u32 2162078206), (14, .int .u32 2614888103), (15, .int .u32 3248222580), (16, .int .u32 3835390401), (17, .int .u32 4022224774), (18, .int .u32 264347078), (19, .int .u32 604807628), (20, .int .u32 770255983), (21, .int .u32 1249150122), (22, .int .u32 1555081692), (23, .int .u32 1996064986), (24, .int .u32 2554220882), (25, .int .u32 2821834349), (26, .int .u32 2952996808), (27, .int .u32 3210313671), (28, .int .u32 3336571891), (29, .int .u32 3584528711), (30, .int .u32 113926993), (31, .int .u32 338241895), (32, .int .u32 666307205), (33, .int .u32 773529912), (34, .int .u32 1294757372), (35, .int .u32 1396182291), (36, .int .u32 1695183700), (37, .int .u32 1986661051), (38, .int .u32 2177026350), (39, .int .u32 2456956037), (40, .int .u32 2730485921), (41, .int .u32 2820302411), (42, .int .u32 3259730800), (43, .int .u32 3345764771), (44, .int .u32 3516065817), (45, .int .u32 3600352804), (46, .int .u32 4094571909), (47, .int .u32 275423344), (48, .int .u32 430227734), (49, .int .u32 506948616), (50, .int .u32 659060556), (51, .int .u32 883997877), (52, .int .u32 958139571), (53, .int .u32 1322822218), (54, .int .u32 1537002063), (55, .int .u32 1747873779), (56, .int .u32 1955562222), (57, .int .u32 2024104815), (58, .int .u32 2227730452), (59, .int .u32 2361852424), (60, .int .u32 2428436474), (61, .int .u32 2756734187), (62, .int .u32 3204031479), (63, .int .u32 3329325298)]
theorem bW (w : World) : (Instr.buildSlice 143 64 uS).run Tryz.prog w = .ok (.slice (some ⟨w.heap.size, 0, none⟩) 64 64) (w.alloc (.cells (Ci KC) 133)) := by kernel_rfl
theorem Qw (w : World) : Calls Tryz.prog 132 #[] w fun e w' => (∃ g, e = .returned (.slice (some ⟨g, 0, none⟩) 64 64) ∧ w.heap.size ≤ g ∧ Ad w' g 133 (Ci KC)) ∧ Below w.heap.size w w' := by
 have Aa := Below.refl w.heap.size w
 refine Az 2 Tryz.func132 R R λ a H => zC (zD (kR 1 H R λ a H => zA (zB (zC (zD (BP 143 64 uS 133 (Ci KC) (by kernel_rfl) bW fun w1 g Ak hb kg => ?_))))))
 have gg := Nat.le_trans Aa.size Ak; replace Aa := Aa.tr hb; clear hb Ak; exact kL 1 H rfl λ a H => zA (zB (zF (Ag H rfl rfl ⟨⟨g, rfl, gg, kg⟩, Aa⟩)))
def Wd1 (W : World) (x0 o c : Nat) (bs : List B8) (a : Act) (w : World) : Prop :=
 ∃ (i : Nat) (A1 : Option Addr) (c1 : Nat), Kn a 99 [(0, .slice (some ⟨x0, o, none⟩) 64 c), (3, .slice A1 i c1), (4, J (i : Nat))] ∧ 0 ≤ i ∧ i ≤ 16 ∧ w.ownsRow W.heap.size 133 1 (.slice A1 i c1) i ((wl bs i).map u32v) ∧ Below W.heap.size W w
def Wd2 (W : World) (x0 o c : Nat) (bs : List B8) (a : Act) (w : World) : Prop :=
 ∃ (i : Nat) (A1 : Option Addr) (c1 : Nat), Kn a 99 [(0, .slice (some ⟨x0, o, none⟩) 64 c), (3, .slice A1 i c1), (5, J (i : Nat))] ∧ 16 ≤ i ∧ i ≤ 64 ∧ w.ownsRow W.heap.size 133 1 (.slice A1 i c1) i ((wl bs i).map u32v) ∧ Below W.heap.size W w
theorem Up (w : World) (x0 o c : Nat) (bs : List B8) (h : B9 w (.slice (some ⟨x0, o, none⟩) 64 c) bs) (hl : bs.length = 64) (hc : 64 ≤ c) :
  Calls Tryz.prog 133 #[.slice (some ⟨x0, o, none⟩) 64 c] w fun e w' => (∃ A1 c1, e = .returned (.slice A1 64 c1) ∧ w'.ownsRow w.heap.size 133 1 (.slice A1 64 c1) 64 ((wl bs 64).map u32v)) ∧ Below w.heap.size w w' := by
 replace h := Lib.hid h
 have Aa := Below.refl w.heap.size w
 refine Az 99 Tryz.func133 R R λ a H => zC (zD (kR 1 H R λ a H => zA (zB (zC (zD (kR 1 H R λ a H => zA (zB (zC (zC (zD (kR 1 H R λ a H => zA (zB (wp_block (wp_loop (Wd1 w x0 o c bs) (fun a _ => 16 - (intOf (a.eval (.tmp 4))).toNat) ⟨0, none, 0, H.pick [0, 3, 4], by omega, by omega, World.ownsRow_nil _ _ _ _, Aa⟩ ?_))))))))))))))
 clear H Aa
 rintro a w' ⟨i, A1, c1, H, mP, hi, Ah, Aa⟩
 have H0 := H
 by_cases CM : i < 16
 ·
  have Gl := Aa.size
  obtain ⟨y0, gK⟩ : ∃ y, bs[4 * i + 0]? = some y := ⟨_, List.getElem?_eq_getElem (by omega)⟩
  have HY0 := Lib.hid gK
  clear gK
  obtain ⟨y1, XY⟩ : ∃ y, bs[4 * i + 1]? = some y := ⟨_, List.getElem?_eq_getElem (by omega)⟩
  have HY1 := Lib.hid XY
  clear XY
  obtain ⟨y2, UT⟩ : ∃ y, bs[4 * i + 2]? = some y := ⟨_, List.getElem?_eq_getElem (by omega)⟩
  have HY2 := Lib.hid UT
  clear UT
  obtain ⟨y3, uX⟩ : ∃ y, bs[4 * i + 3]? = some y := ⟨_, List.getElem?_eq_getElem (by omega)⟩
  have HY3 := Lib.hid uX
  clear uX
  have H := H0
  refine zC (zC (zD (kR 1 H R λ a H => kV H (By U3 (H.e R) Am dT) R λ a H => zA (zB (zH H R (zE (zB (zC (wp_block ?_)))))))))
  have EK := Aa
  have hS : AV w _ := Below.drew (Aa)
  refine rT (AV w) 37 (Dn [0, 1, 2, 3, 4, 5, 6, 7, 8, 9, 10, 11, 12, 13, 14, 15, 16, 17, 18, 19, 20, 21, 22, 23, 24, 25, 26, 27, 28, 29, 30, 31, 32, 33] (.one 34 (.one 35 (.fl 36 .done)))) hS ?_
  replace Ah := Bh Ah (Below.drew (Below.refl _ _))
  refine kQ 3 H R λ a H => kF (v := J (4 * i : Nat)) H R R (fun w' Aj => H8 (r := ((4 * i : Nat) : Int)) U3 Am (H.e R) (by omega) (by omega)) R λ a H => kF H R R (fun w' Aj => Bq (j := 4 * i) (q := o + 4 * i) CO s5 (H.e R) (H.e R) (by omega) (by omega)) R λ a H => kF H R R (fun w' Aj => Ai U5 R (H.e R) (Ew (B9.up h.out Aj) HY0.out (by omega))) R λ a H => kF H R R (fun w' Aj => IU U5 BC (H.e R)) R λ a H => kE 2 H R R (fun w' Aj => Kp (k := 24) (by omega) BC (H.e R) Am) R λ a H => kF (v := J (4 * i : Nat)) H R R (fun w' Aj => H8 (r := ((4 * i : Nat) : Int)) U3 Am (H.e R) (by omega) (by omega)) R λ a H => kF H R R (fun w' Aj => Bm (q := ((4 * i + 1 : Nat) : Int)) U3 (H.e R) Am (by omega) (by omega)) R λ a H => kF H R R (fun w' Aj => Bq (j := 4 * i + 1) (q := o + 4 * i + 1) CO s5 (H.e R) (H.e R) (by omega) (by omega)) R λ a H => kF H R R (fun w' Aj => Ai U5 R (H.e R) (Ew (B9.up h.out Aj) HY1.out (by omega))) R λ a H => kF H R R (fun w' Aj => IU U5 BC (H.e R)) R λ a H => kF H R R (fun w' Aj => Kp (k := 16) (by omega) BC (H.e R) Am) R λ a H => kE 2 H R R (fun w' Aj => IR BC (H.e R) (H.e R)) R λ a H => kF (v := J (4 * i : Nat)) H R R (fun w' Aj => H8 (r := ((4 * i : Nat) : Int)) U3 Am (H.e R) (by omega) (by omega)) R λ a H => ?_
  refine kF H R R (fun w' Aj => Bm (q := ((4 * i + 2 : Nat) : Int)) U3 (H.e R) Am (by omega) (by omega)) R λ a H => kF H R R (fun w' Aj => Bq (j := 4 * i + 2) (q := o + 4 * i + 2) CO s5 (H.e R) (H.e R) (by omega) (by omega)) R λ a H => kF H R R (fun w' Aj => Ai U5 R (H.e R) (Ew (B9.up h.out Aj) HY2.out (by omega))) R λ a H => kF H R R (fun w' Aj => IU U5 BC (H.e R)) R λ a H => kF H R R (fun w' Aj => Kp (k := 8) (by omega) BC (H.e R) Am) R λ a H => kE 2 H R R (fun w' Aj => IR BC (H.e R) (H.e R)) R λ a H => kF (v := J (4 * i : Nat)) H R R (fun w' Aj => H8 (r := ((4 * i : Nat) : Int)) U3 Am (H.e R) (by omega) (by omega)) R λ a H => kF H R R (fun w' Aj => Bm (q := ((4 * i + 3 : Nat) : Int)) U3 (H.e R) Am (by omega) (by omega)) R λ a H => kF H R R (fun w' Aj => Bq (j := 4 * i + 3) (q := o + 4 * i + 3) CO s5 (H.e R) (H.e R) (by omega) (by omega)) R λ a H => kF H R R (fun w' Aj => Ai U5 R (H.e R) (Ew (B9.up h.out Aj) HY3.out (by omega))) R λ a H => kF H R R (fun w' Aj => IU U5 BC (H.e R)) R λ a H => kF H R R (fun w' Aj => IR BC (H.e R) (H.e R)) R λ a H => Al (fun K hK => A7 R (Co 143 1 #[(0, u32v (((((y0.setWidth 32) <<< 24) ||| ((y1.setWidth 32) <<< 16)) ||| ((y2.setWidth 32) <<< 8)) ||| (y3.setWidth 32)))] 133 #[u32v (((((y0.setWidth 32) <<< 24) ||| ((y1.setWidth 32) <<< 16)) ||| ((y2.setWidth 32) <<< 8)) ||| (y3.setWidth 32))] (by simp [H.ev (j := 47) R]) (fun w => by kernel_rfl) fun w10 b10 Ak hb FH => ?_))
  have qO := Nat.le_trans (Below.size hS) Ak; replace Ah := Bh Ah hb; replace hS := Below.trans hS (Below.mono hb (Below.size hS)); clear hb Ak; refine kS 0 hK hS H rfl λ a H => ?_; clear hK K
  refine Al (fun K hK => A7 R ?_)
  have D3 := Below.size hS; refine BA 143 133 (.tmp 14) (.tmp 48) w.heap.size (.int .u32 0) 1 4 _ _ _ (some ⟨b10, 0, none⟩) 1 1 ([((((y0.setWidth 32) <<< 24) ||| ((y1.setWidth 32) <<< 16)) ||| ((y2.setWidth 32) <<< 8)) ||| (y3.setWidth 32)].map u32v) (H.ev rfl) (H.ev rfl) U143 i133 rfl (by omega) Ah rfl (Ad.holds FH) (u32s_one _) (by unfold maxLen; omega) (by omega) D3 fun o2 w9 AU F0 Fz Cb => ?_; have Bv := PI (fP CM HY0.out HY1.out HY2.out HY3.out) AU; replace hS := Below.trans hS Cb; clear Ah AU F0 Fz Cb FH D3; have Ah := Bv; clear Bv; obtain ⟨A2, c2, GK⟩ := BZ Ah; subst GK; refine kS 1 hK hS H rfl λ a H => ?_; clear hK K
  refine Aw (NoPanic.normal ?_)
  replace Aa := hS
  clear hS
  refine AC (zB (zD (kR 1 H R λ a H => kX 1 H (Bm (q := ((i + 1 : Nat) : Int)) U3 (H.e R) Am) R λ a H => zA (zI ⟨⟨i + 1, _, _, H.pick [0, 3, 4], by omega, by omega, Ah, Aa⟩, ?_⟩))))
  rw [H.ev (j := 4) rfl, H0.ev (j := 4) rfl]
  simp only [intOf]
  omega
 ·
  obtain rfl : i = 16 := by omega
  refine zC (zC (zD (kR 1 H R λ a H => kV H (By U3 (H.e R) Am dF) R λ a H => zA (zB (zG H R (wp_exit (AJ (AJ (BD (zB (zC (zC (zD (kR 1 H R λ a H => zA (zB (wp_block (wp_loop (Wd2 w x0 o c bs) (fun a _ => 64 - (intOf (a.eval (.tmp 5))).toNat) ⟨16, A1, c1, H.pick [0, 3, 5], by omega, by omega, Ah, Aa⟩ ?_)))))))))))))))))
  clear H Aa Ah
  rintro a w' ⟨i, A1, c1, H, mP, hi, Ah, Aa⟩
  have H0 := H
  by_cases CM : i < 64
  ·
   have Gl := Aa.size
   obtain ⟨g, SH⟩ := NE Ah (by omega)
   subst SH
   obtain ⟨x, hx⟩ : ∃ v, (wl bs i).getD (i - 15) 0 = v := ⟨_, rfl⟩
   have HV15 := Lib.hid hx
   clear hx
   obtain ⟨y, hy⟩ : ∃ v, (wl bs i).getD (i - 2) 0 = v := ⟨_, rfl⟩
   have HV2 := Lib.hid hy
   clear hy
   obtain ⟨z, hz⟩ : ∃ v, (wl bs i).getD (i - 16) 0 = v := ⟨_, rfl⟩
   have HV16 := Lib.hid hz
   clear hz
   obtain ⟨u, hu⟩ : ∃ v, (wl bs i).getD (i - 7) 0 = v := ⟨_, rfl⟩
   have HV7 := Lib.hid hu
   clear hu
   have H := H0
   refine zC (zC (zD (kR 1 H R λ a H => kV H (By U3 (H.e R) Am dT) R λ a H => zA (zB (zH H R (zE (zB (zC (wp_block (zC (zD (kR 2 H R λ a H => kV H (Dl (q := ((i - 15 : Nat) : Int)) U3 (H.e R) Am) R λ a H => kV H (Bq (j := i - 15) (q := 0 + i - 15) U143 s133 (H.e R) (H.e R) (by omega) (by omega)) R λ a H => kX 1 H (Ai BC R (H.e R) (Ht Ah (by omega) HV15.out (by omega))) R λ a H => zA (zB (zC (zD (kR 2 H R λ a H => kV H (Dl (q := ((i - 2 : Nat) : Int)) U3 (H.e R) Am) R λ a H => kV H (Bq (j := i - 2) (q := 0 + i - 2) U143 s133 (H.e R) (H.e R) (by omega) (by omega)) R λ a H => kX 1 H (Ai BC R (H.e R) (Ht Ah (by omega) HV2.out (by omega))) R λ a H => zA (zB (zC (zD (kR 1 H R λ a H => kC 0 (Fi x 7 7 _ R (by omega) (by omega)) (AA JG (H.e R) Am) H R fun w9 a hb H => ?_))))))))))))))))))))
   replace Ah := Bh Ah hb; replace Aa := Aa.tr hb; clear hb
   refine kR 1 H R λ a H => kC 0 (Fi x 18 18 _ R (by omega) (by omega)) (AA JG (H.e R) Am) H R fun w9 a hb H => ?_
   replace Ah := Bh Ah hb; replace Aa := Aa.tr hb; clear hb
   refine kX 1 H (Dx BC (H.e R) (H.e R)) R λ a H => kV H (Ko (k := 3) (by omega) BC (H.e R) Am) R λ a H => kX 1 H (Dx BC (H.e R) (H.e R)) R λ a H => zA (zB (zC (zD (kR 1 H R λ a H => kC 0 (Fi y 17 17 _ R (by omega) (by omega)) (AA JG (H.e R) Am) H R fun w9 a hb H => ?_))))
   replace Ah := Bh Ah hb; replace Aa := Aa.tr hb; clear hb
   refine kR 1 H R λ a H => kC 0 (Fi y 19 19 _ R (by omega) (by omega)) (AA JG (H.e R) Am) H R fun w9 a hb H => ?_
   replace Ah := Bh Ah hb; replace Aa := Aa.tr hb; clear hb
   refine kX 1 H (Dx BC (H.e R) (H.e R)) R λ a H => kV H (Ko (k := 10) (by omega) BC (H.e R) Am) R λ a H => kX 1 H (Dx BC (H.e R) (H.e R)) R λ a H => zA (zB (V2.rB 17 (Dn [0, 1, 2, 3, 4, 5, 6, 7, 8, 9, 10, 11, 12, 13, 14, 15] (.one 16 (.one 17 (.one 18 .done)))) fun hS => V2.kQ 3 H R λ a H => V2.kF H R R (fun w' Aj => Dl (q := ((i - 16 : Nat) : Int)) U3 (H.e R) Am (by omega) (by omega)) R λ a H => V2.kF H R R (fun w' Aj => Bq (j := i - 16) (q := 0 + i - 16) U143 s133 (H.e R) (H.e R) (by omega) (by omega)) R λ a H => V2.kE 1 H R R (fun w' Aj => Ai BC R (H.e R) (Ht (Bh Ah Aj) (by omega) HV16.out (by omega))) R λ a H => V2.kE 2 H R R (fun w' Aj => Do BC (H.e R) (H.e R)) R λ a H => V2.kF H R R (fun w' Aj => Dl (q := ((i - 7 : Nat) : Int)) U3 (H.e R) Am (by omega) (by omega)) R λ a H => V2.kF H R R (fun w' Aj => Bq (j := i - 7) (q := 0 + i - 7) U143 s133 (H.e R) (H.e R) (by omega) (by omega)) R λ a H => V2.kF H R R (fun w' Aj => Ai BC R (H.e R) (Ht (Bh Ah Aj) (by omega) HV7.out (by omega))) R λ a H => V2.kE 1 H R R (fun w' Aj => Do BC (H.e R) (H.e R)) R λ a H => V2.kF H R R (fun w' Aj => Do BC (H.e R) (H.e R)) R λ a H => V2.Al (fun K hK => A7 R (Co 143 1 #[(0, u32v (((z + (((Dd x 7) ^^^ (Dd x 18)) ^^^ (x >>> 3))) + u) + (((Dd y 17) ^^^ (Dd y 19)) ^^^ (y >>> 10))))] 133 #[u32v (((z + (((Dd x 7) ^^^ (Dd x 18)) ^^^ (x >>> 3))) + u) + (((Dd y 17) ^^^ (Dd y 19)) ^^^ (y >>> 10)))] (by simp [H.ev (j := 95) R]) (fun w => by kernel_rfl) fun w10 b10 Ak hb FH => ?_))))
   have qO := Nat.le_trans (Below.size hS) Ak; replace hS := Below.trans hS (Below.mono hb (Below.size hS)); clear hb Ak; refine V2.kS 0 hK hS H rfl λ a H => ?_; clear hK K
   refine V2.Al (fun K hK => ?_)
   replace Ah := Bh Ah hS
   replace Aa := Aa.trans (Below.mono hS Aa.size)
   refine A7 R ?_; have D3 := Below.size Aa; refine BA 143 133 (.tmp 80) (.tmp 96) w.heap.size (.int .u32 0) 1 4 _ _ _ (some ⟨b10, 0, none⟩) 1 1 ([((z + (((Dd x 7) ^^^ (Dd x 18)) ^^^ (x >>> 3))) + u) + (((Dd y 17) ^^^ (Dd y 19)) ^^^ (y >>> 10))].map u32v) (H.e R) (H.e R) U143 i133 R (by omega) Ah R (Ad.holds FH) (u32s_one _) (by unfold maxLen; omega) (by omega) D3 fun o2 w9 AU F0 Fz Cb => ?_; have Bv := PI (fQ mP CM HV15.out HV2.out HV16.out HV7.out) AU; replace Aa := Below.trans Aa Cb; clear Ah AU F0 Fz Cb FH D3; have Ah := Bv; clear Bv; obtain ⟨A2, c2, GK⟩ := BZ Ah; subst GK; refine hK _ _ ⟨(fun h => absurd h (by omega)), ?_⟩; clear hK K hS; refine V2.kt H R λ a H => V2.Al (fun K hK => A7 R ?_)
   unfold Oper.wp; rw [GE (H.ev rfl)]; refine hK _ _ ⟨(fun h => absurd h (by omega)), ?_⟩; clear hK K; refine V2.kt H rfl λ a H => V2.Aw (NoPanic.normal (AC (zB (zD (kR 1 H rfl λ a H => kX 1 H (Bm (q := ((i + 1 : Nat) : Int)) U3 (H.ev rfl) Am) rfl λ a H => zA (zI ⟨⟨i + 1, _, _, H.pick [0, 3, 5], by omega, by omega, Ah, Aa⟩, ?_⟩))))))
   rw [H.ev (j := 5) rfl, H0.ev (j := 5) rfl]
   simp only [intOf]
   omega
  ·
   obtain rfl : i = 64 := by omega
   exact zC (zC (zD (kR 1 H R λ a H => kV H (By U3 (H.e R) Am dF) R λ a H => zA (zB (zG H R (wp_exit (AJ (AJ (BD (zB (zC (zD (kR 2 H R λ a H => zA (zB (zF (Ag H R R ⟨⟨A1, c1, R, Ah⟩, Aa⟩))))))))))))))))
theorem bI : (Tryz.prog.info? 134).map (·.zero) = some (some (.agg (Ci (List.replicate 8 0)))) := by kernel_rfl
theorem bT : (Tryz.prog.info? 134).map (·.size) = some 8 := by kernel_rfl
theorem bS {S : List D6} (h : S.length = 8) : (Tryz.prog.info? 134).map (·.size) = some (Ci S).size := by
 rw [CX, h]; exact bT
theorem fO {a b c d e f g h : D6} : (Tryz.prog.info? 134).map (·.size) = some (Ci [a, b, c, d, e, f, g, h]).size := bT
theorem YD {w : World} {D n b : Nat} {e : TypeId} {v : Value} {xs : List Value} (h : w.ownsRow D e 1 v n xs) (Ak : w.heap.size ≤ b) : ∀ q, v.ownBlock = some q → q < b := fun q hq => Nat.lt_of_lt_of_le (h.lt q hq).2 Ak
theorem RJ {w : World} {b q : Nat} {t : TypeId} {l : List D6} {i : Nat} {x : D6} (h : Ad w b t (Ci l)) (hx : l[i]? = some x) (hq : q = 0 + i) : w.cell? ⟨b, q, none⟩ = some (u32v x) := by
 rw [Nat.zero_add] at hq
 subst hq
 exact Bt h hx
theorem Zf {l : List D6} {i : Nat} {x : D6} (h : l[i]? = some x) : l.getD i 0 = x := by rw [List.getD_eq_getElem?_getD, h]; rfl
theorem jK (e f g : D6) : (e &&& f) ^^^ (~~~e &&& g) = g ^^^ (e &&& (f ^^^ g)) := by
 apply BitVec.eq_of_getLsbD_eq
 intro i hi
 simp only [BitVec.getLsbD_xor, BitVec.getLsbD_and, BitVec.getLsbD_not, hi]
 cases e.getLsbD i <;> cases f.getLsbD i <;> cases g.getLsbD i <;> rfl
theorem cR (a b c : D6) : ((a &&& b) ^^^ (a &&& c)) ^^^ (b &&& c) = (a &&& b) ||| (c &&& (a ||| b)) := by
 apply BitVec.eq_of_getLsbD_eq
 intro i hi
 simp only [BitVec.getLsbD_xor, BitVec.getLsbD_and, BitVec.getLsbD_or]
 cases a.getLsbD i <;> cases b.getLsbD i <;> cases c.getLsbD i <;> rfl
theorem UA {S : List D6} {bs : List B8} {i : Nat} {va vb vc vd ve vf vg vh x kk tv uv : D6} (hr : Gi S bs i = [va, vb, vc, vd, ve, vf, vg, vh]) (hx : (wl bs 64)[i]? = some x) (hk : KC[i]? = some kk)
  (ht : (((vh + ((Dd ve 6 ^^^ Dd ve 11) ^^^ Dd ve 25)) + ((ve &&& vf) ^^^ (~~~ve &&& vg))) + kk) + x = tv) (hu : ((Dd va 2 ^^^ Dd va 13) ^^^ Dd va 22) + (((va &&& vb) ^^^ (va &&& vc)) ^^^ (vb &&& vc)) = uv) : Gi S bs (i + 1) = [tv + uv, va, vb, vc, vd + tv, ve, vf, vg] := by
 rw [jK] at ht
 rw [cR] at hu
 exact Ql hr hx hk ht hu
def Rk1 (W : World) (S : List D6) (bs : List B8) (D b0 b1 b2 g gw c1 : Nat) (a : Act) (w : World) : Prop :=
 ∃ i : Nat, Kn a 116 [(4, .pointer (some ⟨b1, 0, none⟩)), (5, .slice (some ⟨g, 0, none⟩) 64 64), (2, .pointer (some ⟨b0, 0, none⟩)), (6, .slice (some ⟨gw, 0, none⟩) 64 c1), (7, .pointer (some ⟨b2, 0, none⟩)), (8, J (i : Nat))] ∧ i ≤ 64 ∧ Ad w b0 134 (Ci S) ∧ Ad w b1 134 (Ci (List.replicate 8 0)) ∧ Ad w g 133 (Ci KC) ∧ Ad w b2 134 (Ci (Gi S bs i)) ∧ w.ownsRow D 133 1 (.slice (some ⟨gw, 0, none⟩) 64 c1) 64 ((wl bs 64).map u32v) ∧ Below W.heap.size W w
def Rk2 (W : World) (S : List D6) (bs : List B8) (b0 b1 b2 : Nat) (a : Act) (w : World) : Prop :=
 ∃ i : Nat, Kn a 116 [(2, .pointer (some ⟨b0, 0, none⟩)), (4, .pointer (some ⟨b1, 0, none⟩)), (7, .pointer (some ⟨b2, 0, none⟩)), (13, J (i : Nat))] ∧ i ≤ 8 ∧ Ad w b0 134 (Ci S) ∧ Ad w b1 134 (Ci (List.replicate 8 0)) ∧ Ad w b2 134 (Ci (NA S (Gi S bs 64) i)) ∧ Below W.heap.size W w
theorem Sf (w : World) (x0 o c : Nat) (S : List D6) (bs : List B8) (KR : S.length = 8) (LU : B9 w (.slice (some ⟨x0, o, none⟩) 64 c) bs) (mS : bs.length = 64) (hc : 64 ≤ c) :
  Calls Tryz.prog 126 #[.agg (Ci S), .slice (some ⟨x0, o, none⟩) 64 c] w fun e w' => e = .returned (.agg (Ci (Iz S bs))) ∧ Below w.heap.size w w' := by
 have Aa := Below.refl w.heap.size w
 refine Az 116 Tryz.func126 R R λ a H => zC (zD (B7 134 (.tmp 0) (Ci S) (H.e R) fun w0 b0 Ak hb k0 => ?_))
 have g0 := Nat.le_trans Aa.size Ak; replace LU := B9.up LU hb; replace Aa := Aa.tr hb; clear hb; clear Ak; refine kl H rfl λ a H => Bj 134 (Ci (List.replicate 8 0)) bI fun w1 b1 Ak hb k1 => ?_
 have g1 := Nat.le_trans Aa.size Ak; have Zb : b0 < b1 := Nat.lt_of_lt_of_le k0.lt Ak; replace LU := B9.up LU hb; replace k0 := k0.ups hb; replace Aa := Aa.tr hb; clear hb; clear Ak; refine kl H rfl λ a H => zA (zB (zC (zD (A8 _ _ _ (Qw _) (Kt lG) ?_))))
 rintro e w9 ⟨⟨g, rfl, hg, kg⟩, hb⟩; refine ⟨_, rfl, ?_⟩; clear hg; replace LU := B9.up LU hb; replace k0 := k0.ups hb; replace k1 := k1.ups hb; replace Aa := Aa.tr hb; clear hb; refine kL 1 H rfl λ a H => zA (zB (zC (zD (kR 1 H rfl λ a H => A8 _ _ _ (Up _ x0 o c bs LU mS hc) (Av lF (H.ev rfl)) ?_))))
 rintro e w9 ⟨⟨A1, c1, rfl, Ah⟩, hb⟩; refine ⟨_, rfl, ?_⟩; clear LU; replace k0 := k0.ups hb; replace k1 := k1.ups hb; replace kg := kg.ups hb; replace Aa := Aa.tr hb; clear hb; obtain ⟨gw, SH⟩ := NE Ah (by omega); subst SH; obtain ⟨D, Ah⟩ : ∃ D, World.ownsRow _ D 133 1 (.slice (some ⟨gw, 0, none⟩) 64 c1) 64 ((wl bs 64).map u32v) := ⟨_, Ah⟩; refine kL 1 H rfl λ a H => zA (zB (zC (zD (Hc 134 (.tmp 2) b0 134 (Ci S) _ (H.ev rfl) k0 Gy rfl (bS KR) (kl H rfl λ a H => Bj 134 (Ci (List.replicate 8 0)) bI fun w2 b2 Ak hb k2 => ?_)))))
 have g2 := Nat.le_trans Aa.size Ak; have hO : b0 < b2 := Nat.lt_of_lt_of_le k0.lt Ak; have qT : b1 < b2 := Nat.lt_of_lt_of_le k1.lt Ak; have qah : g < b2 := Nat.lt_of_lt_of_le kg.lt Ak; have gV := YD Ah Ak; replace k0 := k0.ups hb; replace k1 := k1.ups hb; replace kg := kg.ups hb; replace Ah := Bh Ah hb; replace Aa := Aa.tr hb; clear hb; clear Ak; refine kl H rfl λ a H => AT 134 (.tmp 7) (.tmp 17) b2 134 (Ci S) _ (H.ev rfl) (H.ev rfl) k2 (bS KR) (by rw [CX, CX, KR]; rfl) (EO _) fun w' hb ho kq => ?_
 clear k2; have k2 := kq; replace k0 := Ae k0 (ho _ (by omega)); replace k1 := Ae k1 (ho _ (by omega)); replace kg := Ae kg (ho _ (by omega)); replace Ah := D9 Ah (fun q hq => ho _ (fun e => by have := gV q hq; omega)); replace Aa := Aa.trans (hb _ g2); clear hb ho kq; refine Dz H λ a H => zA (zB (zC (zC (zD (kR 1 H rfl λ a H => zA (zB (wp_block (wp_loop (Rk1 w S bs D b0 b1 b2 g gw c1) (fun a _ => 64 - (intOf (a.eval (.tmp 8))).toNat) ⟨0, H.pick [4, 5, 2, 6, 7, 8], by omega, k0, k1, kg, k2, Ah, Aa⟩ ?_))))))))
 clear H Aa k0 k1 kg k2 Ah
 rintro a w' ⟨i, H, hi, k0, k1, kg, k2, Ah, Aa⟩
 have H0 := H
 by_cases CM : i < 64
 ·
  obtain ⟨va, vb, vc, vd, ve, vf, vg, vh, DK⟩ := X5 (F8 KR bs i)
  obtain ⟨x, hx⟩ : ∃ x, (wl bs 64)[i]? = some x := ⟨_, List.getElem?_eq_getElem (by rw [wl_len]; exact CM)⟩
  obtain ⟨kk, hk⟩ : ∃ kk, KC[i]? = some kk := ⟨_, List.getElem?_eq_getElem CM⟩
  rw [DK] at k2
  have HRN := Lib.hid DK
  have HX := Lib.hid hx
  have HK := Lib.hid hk
  clear DK hx hk
  have H := H0
  refine zC (zC (zD (kR 1 H R λ a H => kV H (By U3 (H.e R) Am dT) R λ a H => zA (zB (zH H R (zE (zB (zC (wp_block (zC (zD (kV H (C2 (j := 4) (q := 4) Gy s133 (H.e R) Am (by omega) (by omega)) R λ a H => kX 1 H (Ai BC R (H.e R) (Bt (k2) R)) R λ a H => zA (zB (zC (zD (kV H (C2 (j := 0) (q := 0) Gy s133 (H.e R) Am (by omega) (by omega)) R λ a H => kX 1 H (Ai BC R (H.e R) (Bt (k2) R)) R λ a H => zA (zB (zC (rB 33 (Dn [0, 1, 2, 4, 7, 11, 12, 13, 14, 15, 16, 17, 18, 19, 20, 22, 23, 24, 25, 27, 28, 29, 30] (.one 3 (.one 5 (.fl 6 (.one 8 (Dn [9, 10, 21, 26, 31, 32] .done)))))) fun hS => kF H R R (fun w' Aj => C2 (j := 7) (q := 7) Gy s133 (H.e R) Am (by omega) (by omega)) R λ a H => kE 4 H R R (fun w' Aj => Ai BC R (H.e R) (Bt (Ad.ups k2 Aj) R)) R λ a H => kF H R R (fun w' Aj => C2 (j := 5) (q := 5) Gy s133 (H.e R) Am (by omega) (by omega)) R λ a H => kF H R R (fun w' Aj => Ai BC R (H.e R) (Bt (Ad.ups k2 Aj) R)) R λ a H => kE 1 H R R (fun w' Aj => Hb BC (H.e R) (H.e R)) R λ a H => kF H R R (fun w' Aj => Yy BC (H.e R)) R λ a H => kF H R R (fun w' Aj => C2 (j := 6) (q := 6) Gy s133 (H.e R) Am (by omega) (by omega)) R λ a H => kF H R R (fun w' Aj => Ai BC R (H.e R) (Bt (Ad.ups k2 Aj) R)) R λ a H => ?_)))))))))))))))))))
  refine kF H R R (fun w' Aj => Hb BC (H.e R) (H.e R)) R λ a H => kE 2 H R R (fun w' Aj => Dx BC (H.e R) (H.e R)) R λ a H => kF H R R (fun w' Aj => Bq (j := i) (q := 0 + i) U143 s133 (H.e R) (H.e R) (by omega) (by omega)) R λ a H => kE 2 H R R (fun w' Aj => Ai BC R (H.e R) (RJ (Ad.ups kg Aj) HK.out (by omega))) R λ a H => kF H R R (fun w' Aj => Bq (j := i) (q := 0 + i) U143 s133 (H.e R) (H.e R) (by omega) (by omega)) R λ a H => kF H R R (fun w' Aj => Ai BC R (H.e R) (Ht (Bh Ah Aj) CM (Zf HX.out) (by omega))) R λ a H => Al (fun K hK => A7 R (kD (Fi ve 6 6 _ R (by omega) (by omega)) (AA JG (H.e R) Am) fun w9 hb => ?_))
  replace hS := Below.trans hS (Below.mono hb (Below.size hS)); clear hb; refine kS 0 hK hS H rfl λ a H => ?_; clear hK K
  refine Al (fun K hK => A7 R (kD (Fi ve 11 11 _ R (by omega) (by omega)) (AA JG (H.e R) Am) fun w9 hb => ?_))
  replace hS := Below.trans hS (Below.mono hb (Below.size hS)); clear hb; refine kS 0 hK hS H rfl λ a H => ?_; clear hK K
  refine kF H R R (fun w' Aj => Dx BC (H.e R) (H.e R)) R λ a H => Al (fun K hK => A7 R (kD (Fi ve 25 25 _ R (by omega) (by omega)) (AA JG (H.e R) Am) fun w9 hb => ?_))
  replace hS := Below.trans hS (Below.mono hb (Below.size hS)); clear hb; refine kS 0 hK hS H rfl λ a H => ?_; clear hK K
  refine kF H R R (fun w' Aj => Dx BC (H.e R) (H.e R)) R λ a H => kF H R R (fun w' Aj => Do BC (H.e R) (H.e R)) R λ a H => kF H R R (fun w' Aj => Do BC (H.e R) (H.e R)) R λ a H => kF H R R (fun w' Aj => Do BC (H.e R) (H.e R)) R λ a H => kE 1 H R R (fun w' Aj => Do BC (H.e R) (H.e R)) R λ a H => Aw (NoPanic.normal ?_)
  replace k0 := Ad.ups k0 hS
  replace k1 := Ad.ups k1 hS
  replace kg := Ad.ups kg hS
  replace k2 := Ad.ups k2 hS
  replace Ah := Bh Ah hS
  replace Aa := Aa.trans (Below.mono hS Aa.size)
  clear hS
  refine zB (zC ?_)
  replace H : Kn _ 116 [(4, _), (5, _), (2, _), (6, _), (7, _), (8, _), (10, _), (11, _)] := H.pick [4, 5, 2, 6, 7, 8, 10, 11]
  obtain ⟨tv, cX⟩ : ∃ tv, (((vh + (((Dd ve 6) ^^^ (Dd ve 11)) ^^^ (Dd ve 25))) + ((ve &&& vf) ^^^ ((~~~ve) &&& vg))) + kk) + x = tv := ⟨_, rfl⟩
  have HTV := Lib.hid cX
  rw [cX] at H
  clear cX
  refine rB 25 (Dn [0, 2, 5, 8, 9, 10, 11, 12, 13, 14, 15, 16, 17, 18, 19, 20, 21, 22] (.one 1 (.one 3 (.fl 4 (.one 6 (Dn [7, 23, 24] .done)))))) fun hS => kQ 4 H R λ a H => kF H R R (fun w' Aj => C2 (j := 1) (q := 1) Gy s133 (H.e R) Am (by omega) (by omega)) R λ a H => kF H R R (fun w' Aj => Ai BC R (H.e R) (Bt (Ad.ups k2 Aj) R)) R λ a H => kE 1 H R R (fun w' Aj => Hb BC (H.e R) (H.e R)) R λ a H => kF H R R (fun w' Aj => C2 (j := 2) (q := 2) Gy s133 (H.e R) Am (by omega) (by omega)) R λ a H => kF H R R (fun w' Aj => Ai BC R (H.e R) (Bt (Ad.ups k2 Aj) R)) R λ a H => kF H R R (fun w' Aj => Hb BC (H.e R) (H.e R)) R λ a H => kF H R R (fun w' Aj => Dx BC (H.e R) (H.e R)) R λ a H => kF H R R (fun w' Aj => C2 (j := 1) (q := 1) Gy s133 (H.e R) Am (by omega) (by omega)) R λ a H => kF H R R (fun w' Aj => Ai BC R (H.e R) (Bt (Ad.ups k2 Aj) R)) R λ a H => kF H R R (fun w' Aj => C2 (j := 2) (q := 2) Gy s133 (H.e R) Am (by omega) (by omega)) R λ a H => kF H R R (fun w' Aj => Ai BC R (H.e R) (Bt (Ad.ups k2 Aj) R)) R λ a H => kF H R R (fun w' Aj => Hb BC (H.e R) (H.e R)) R λ a H => kF H R R (fun w' Aj => Dx BC (H.e R) (H.e R)) R λ a H => Al (fun K hK => A7 R (kD (Fi va 2 2 _ R (by omega) (by omega)) (AA JG (H.e R) Am) fun w9 hb => ?_))
  replace hS := Below.trans hS (Below.mono hb (Below.size hS)); clear hb; refine kS 0 hK hS H rfl λ a H => ?_; clear hK K
  refine Al (fun K hK => A7 R (kD (Fi va 13 13 _ R (by omega) (by omega)) (AA JG (H.e R) Am) fun w9 hb => ?_))
  replace hS := Below.trans hS (Below.mono hb (Below.size hS)); clear hb; refine kS 0 hK hS H rfl λ a H => ?_; clear hK K
  refine kF H R R (fun w' Aj => Dx BC (H.e R) (H.e R)) R λ a H => Al (fun K hK => A7 R (kD (Fi va 22 22 _ R (by omega) (by omega)) (AA JG (H.e R) Am) fun w9 hb => ?_))
  replace hS := Below.trans hS (Below.mono hb (Below.size hS)); clear hb; refine kS 0 hK hS H rfl λ a H => ?_; clear hK K
  refine kF H R R (fun w' Aj => Dx BC (H.e R) (H.e R)) R λ a H => kE 1 H R R (fun w' Aj => Do BC (H.e R) (H.e R)) R λ a H => Aw (NoPanic.normal ?_)
  replace k0 := Ad.ups k0 hS
  replace k1 := Ad.ups k1 hS
  replace kg := Ad.ups kg hS
  replace k2 := Ad.ups k2 hS
  replace Ah := Bh Ah hS
  replace Aa := Aa.trans (Below.mono hS Aa.size)
  clear hS
  refine zB ?_
  replace H : Kn _ 116 [(4, _), (5, _), (2, _), (6, _), (7, _), (8, _), (11, _), (12, _)] := H.pick [4, 5, 2, 6, 7, 8, 11, 12]
  obtain ⟨uv, cW⟩ : ∃ uv, (((Dd va 2) ^^^ (Dd va 13)) ^^^ (Dd va 22)) + (((va &&& vb) ^^^ (va &&& vc)) ^^^ (vb &&& vc)) = uv := ⟨_, rfl⟩
  have HUV := Lib.hid cW
  rw [cW] at H
  clear cW
  refine zD (kR 2 H R λ a H => kV H (Do BC (H.e R) (H.e R)) R λ a H => kV H (C2 (j := 0) (q := 0) Gy s133 (H.e R) Am (by omega) (by omega)) R λ a H => kV H (Ai BC R (H.e R) (Bt (k2) R)) R λ a H => kV H (C2 (j := 1) (q := 1) Gy s133 (H.e R) Am (by omega) (by omega)) R λ a H => kV H (Ai BC R (H.e R) (Bt (k2) R)) R λ a H => kV H (C2 (j := 2) (q := 2) Gy s133 (H.e R) Am (by omega) (by omega)) R λ a H => kV H (Ai BC R (H.e R) (Bt (k2) R)) R λ a H => kV H (C2 (j := 3) (q := 3) Gy s133 (H.e R) Am (by omega) (by omega)) R λ a H => kX 1 H (Ai BC R (H.e R) (Bt (k2) R)) R λ a H => kV H (Do BC (H.e R) (H.e R)) R λ a H => kV H (C2 (j := 4) (q := 4) Gy s133 (H.e R) Am (by omega) (by omega)) R λ a H => kV H (Ai BC R (H.e R) (Bt (k2) R)) R λ a H => kV H (C2 (j := 5) (q := 5) Gy s133 (H.e R) Am (by omega) (by omega)) R λ a H => kV H (Ai BC R (H.e R) (Bt (k2) R)) R λ a H => kV H (C2 (j := 6) (q := 6) Gy s133 (H.e R) Am (by omega) (by omega)) R λ a H => kV H (Ai BC R (H.e R) (Bt (k2) R)) R λ a H => kV (v := .agg (Ci [tv + uv, va, vb, vc, vd + tv, ve, vf, vg])) H (Bl #[(0, u32v (tv + uv)), (1, u32v (va)), (2, u32v (vb)), (3, u32v (vc)), (4, u32v (vd + tv)), (5, u32v (ve)), (6, u32v (vf)), (7, u32v (vg))] (.agg (Ci [tv + uv, va, vb, vc, vd + tv, ve, vf, vg])) (by simp [H.ev (j := 84) R, H.ev (j := 86) R, H.ev (j := 88) R, H.ev (j := 90) R, H.ev (j := 94) R, H.ev (j := 96) R, H.ev (j := 98) R, H.ev (j := 100) R]) (fun w => by kernel_rfl)) R λ a H => ?_)
  refine AT 134 (.tmp 7) (.tmp 101) b2 134 (Ci [tv + uv, va, vb, vc, vd + tv, ve, vf, vg]) _ (H.e R) (H.e R) k2 fO R (EO _) fun w' hb ho kq => ?_; clear k2; have k2 := kq; replace k0 := Ae k0 (ho _ (by omega)); replace k1 := Ae k1 (ho _ (by omega)); replace kg := Ae kg (ho _ (by omega)); replace Ah := D9 Ah (fun q hq => ho _ (fun e => by have := gV q hq; omega)); replace Aa := Aa.trans (hb _ g2); clear hb ho kq; refine Dz H λ a H => zA (AC (zB (zD (kR 1 H R λ a H => kX 1 H (Bm (q := ((i + 1 : Nat) : Int)) U3 (H.e R) Am) R λ a H => zA (zI ⟨⟨i + 1, H.pick [4, 5, 2, 6, 7, 8], by omega, k0, k1, kg, by rw [UA HRN.out HX.out HK.out HTV.out HUV.out]; exact k2, Ah, Aa⟩, ?_⟩)))))
  rw [H.ev (j := 8) rfl, H0.ev (j := 8) rfl]
  simp only [intOf]
  omega
 ·
  obtain rfl : i = 64 := by omega
  clear kg Ah
  refine zC (zC (zD (kR 1 H R λ a H => kV H (By U3 (H.e R) Am dF) R λ a H => zA (zB (zG H R (wp_exit (AJ (AJ (BD (zB (zC (zC (zD (kR 1 H R λ a H => zA (zB (wp_block ?_))))))))))))))))
  rw [← O4 S (Gi S bs 64)] at k2
  refine wp_loop (Rk2 w S bs b0 b1 b2) (fun a _ => 8 - (intOf (a.eval (.tmp 13))).toNat) ⟨0, H.pick [2, 4, 7, 13], by omega, k0, k1, k2, Aa⟩ ?_
  clear H Aa k0 k1 k2
  rintro a w' ⟨i, H, hi, k0, k1, k2, Aa⟩
  have H1 := H
  by_cases qD : i < 8
  ·
   obtain ⟨x, hx⟩ : ∃ x, S[i]? = some x := ⟨_, List.getElem?_eq_getElem (by omega)⟩
   obtain ⟨r, hr⟩ : ∃ r, (Gi S bs 64)[i]? = some r := ⟨_, List.getElem?_eq_getElem (by rw [F8 KR]; omega)⟩
   have HX := Lib.hid hx
   have HR := Lib.hid hr
   rw [R4 hr] at k2
   clear hx hr
   have H := H1
   refine zC (zC (zD (kR 1 H R λ a H => kV H (By U3 (H.e R) Am dT) R λ a H => zA (zB (zH H R (zE (zB (zC (wp_block (rB 9 (Dn [0, 1, 2, 3, 4, 5, 6, 7, 8] (.one 9 .done)) fun hS => kQ 2 H R λ a H => kF H R R (fun w' Aj => C2 (j := i) (q := i) Gy s133 (H.e R) (H.e R) (by omega) (by omega)) R λ a H => kE 1 H R R (fun w' Aj => Ai BC R (H.e R) (Bt (Ad.ups k2 Aj) (K2 (Jk KR hi)))) R λ a H => kF H R R (fun w' Aj => C2 (j := i) (q := i) Gy s133 (H.e R) (H.e R) (by omega) (by omega)) R λ a H => kF H R R (fun w' Aj => Ai BC R (H.e R) (Bt (Ad.ups k0 Aj) HX.out)) R λ a H => kF H R R (fun w' Aj => Do BC (H.e R) (H.e R)) R λ a H => kF H R R (fun w' Aj => C2 (j := i) (q := i) Gy s133 (H.e R) (H.e R) (by omega) (by omega)) R λ a H => Al (fun K hK => ?_)))))))))))
   replace k0 := Ad.ups k0 hS
   replace k1 := Ad.ups k1 hS
   replace k2 := Ad.ups k2 hS
   replace Aa := Aa.trans (Below.mono hS Aa.size)
   refine A7 R (AX 133 (.tmp 114) (.tmp 113) b2 i 134 (u32v (r + x)) _ (H.e R) (H.e R) k2 s133 (R5 KR hi HR.out) (u32_one _) fun w7 HI GV kq => ?_); clear k2; have k2 := Hu kq; rw [Jx (Jk KR hi), O5 KR HX.out HR.out] at k2; replace k0 := Ae k0 (GV _ (by omega)); replace k1 := Ae k1 (GV _ (by omega)); replace Aa := Aa.trans (HI _ g2); clear HI GV kq; refine hK _ _ ⟨(fun h => absurd R h), ?_⟩; clear hK K hS
   refine Aw (NoPanic.normal (AC (zB (zD (kR 1 H R λ a H => kX 1 H (Bm (q := ((i + 1 : Nat) : Int)) U3 (H.e R) Am) R λ a H => zA (zI ⟨⟨i + 1, H.pick [2, 4, 7, 13], by omega, k0, k1, k2, Aa⟩, ?_⟩))))))
   rw [H.ev (j := 13) rfl, H1.ev (j := 13) rfl]
   simp only [intOf]
   omega
  ·
   obtain rfl : i = 8 := by omega
   rw [O6 KR] at k2
   refine zC (zC (zD (kR 1 H R λ a H => kV H (By U3 (H.e R) Am dF) R λ a H => zA (zB (zG H R (wp_exit (AJ (AJ (BD (zB (zC (zD (Hc 134 (.tmp 7) b2 134 (Ci (Iz S bs)) _ (H.e R) k2 Gy R (bS (GU KR bs)) (kl H R λ a H => AT 134 (.tmp 4) (.tmp 115) b1 134 (Ci (Iz S bs)) _ (H.e R) (H.e R) k1 (bS (GU KR bs)) (by rw [CX, CX, GU KR bs]; rfl) (EO _) fun w' hb ho kq => ?_))))))))))))))
   clear k1; have k1 := kq; replace k0 := Ae k0 (ho _ (by omega)); replace k2 := Ae k2 (ho _ (by omega)); replace Aa := Aa.trans (hb _ g1); clear hb ho kq; exact Dz H λ a H => zA (zB (zF (Cw H rfl rfl k1 Gy rfl (bS (GU KR bs)) ⟨rfl, Aa⟩)))
def Rp1 (W : World) (A : Option Addr) (c : Nat) (bs : List B8) (a : Act) (w : World) : Prop :=
 ∃ (j : Nat) (A1 : Option Addr) (c1 : Nat), Kn a 36 [(0, .slice A bs.length c), (3, .slice A1 (HA bs j).length c1)] ∧ j ≤ zc bs.length ∧ Dg w W.heap.size (.slice A1 (HA bs j).length c1) (HA bs j) ∧ Below W.heap.size W w
def Rp2 (W : World) (bs q : List B8) (a : Act) (w : World) : Prop :=
 ∃ (j : Nat) (A1 : Option Addr) (c1 : Nat), Kn a 36 [(3, .slice A1 (q ++ K4 (bs.length * 8) j).length c1), (4, .int .u64 (bs.length * 8 : Nat)), (5, J (j : Nat))] ∧ j ≤ 8 ∧ Dg w W.heap.size (.slice A1 (q ++ K4 (bs.length * 8) j).length c1) (q ++ K4 (bs.length * 8) j) ∧ Below W.heap.size W w
theorem Ww (w : World) (v : Value) (bs : List B8) (hr : B9 w v bs) (hn : bs.length ≤ 1000000) :
  Calls Tryz.prog 125 #[v] w fun e w' => (∃ A1 c1, e = .returned (.slice A1 (MN bs).length c1) ∧ Dg w' w.heap.size (.slice A1 (MN bs).length c1) (MN bs)) ∧ Below w.heap.size w w' := by
 obtain ⟨A, c, rfl, h1, h2, h3, hh⟩ := hr
 replace hh := Lib.hid hh
 have Aa := Below.refl w.heap.size w
 refine Az 36 Tryz.func125 R R λ a H => zC (zD (kR 1 H R λ a H => zA (zB (zC (zD (BP 30 0 #[] 5 #[] (by simp) (fun w => by kernel_rfl) fun w1 bl Ak hb kk => ?_))))))
 have Ah : Dg _ w.heap.size (.slice (some ⟨bl, 0, none⟩) 0 0) [] := Dk kk (Nat.le_trans Aa.size Ak); replace Aa := Aa.tr hb; clear hb Ak kk; refine kL 1 H rfl λ a H => ?_
 have D3 := Aa.size; refine BX 30 5 (.tmp 6) (.tmp 7) w.heap.size (.int .u8 0) 1 1 _ _ _ A bs.length c (bs.map u8v) (H.ev rfl) (H.ev rfl) CO i5 rfl (by omega) Ah (by simp) (hh.out.up Aa) (CC _) (by unfold maxLen; simp; omega) (by simp; omega) D3 fun o2 w9 AU F0 Fz Cb => ?_; have Bv := DF AU; rw [List.nil_append] at Bv; replace Aa := Aa.trans Cb; clear D3; clear Ah AU F0 Fz Cb; have Ah := Bv; clear Bv; obtain ⟨A2, c2, GK⟩ := BZ Ah; subst GK; refine kl H rfl λ a H => ?_
 refine BP 30 1 #[(0, u8v (128#8))] 5 #[u8v (128#8)] (by simp [Am]) (fun w => by kernel_rfl) fun w0 b0 Ak hb k0 => ?_; have g0 := Nat.le_trans Aa.size Ak; replace Ah := Bh Ah hb; replace Aa := Aa.tr hb; clear hb; clear Ak; refine kl H R λ a H => ?_
 have D3 := Aa.size; refine BX 30 5 (.tmp 8) (.tmp 9) w.heap.size (.int .u8 0) 1 1 _ _ _ (some ⟨b0, 0, none⟩) 1 1 ([128#8].map u8v) (H.ev rfl) (H.ev rfl) CO i5 rfl (by omega) Ah rfl (Ad.holds k0) (CC _) (by unfold maxLen; omega) (by omega) D3 fun o2 w9 AU F0 Fz Cb => ?_; have Bv := DF AU; replace Aa := Aa.trans Cb; clear k0 D3; clear Ah AU F0 Fz Cb; have Ah := Bv; clear Bv; obtain ⟨A2, c2, GK⟩ := BZ Ah; subst GK; refine kl H rfl λ a H => ?_
 refine kR 1 H R λ a H => zA (zB (zC (wp_block ?_)))
 rw [Q9] at Ah H
 refine wp_loop (Rp1 w A c bs) (fun a _ => zc bs.length - (Of (a.eval (.tmp 3)) - (bs.length + 1))) ⟨0, A2, c2, H.pick [0, 3], by omega, Ah, Aa⟩ ?_
 clear H Aa Ah
 rintro a w' ⟨j, A1, c1, H, hj, Ah, Aa⟩
 have H0 := H
 have YV := Kx bs j
 have zT := RH bs.length
 by_cases CM : j < zc bs.length
 ·
  have YS := SV CM
  rw [← YV] at YS
  refine zC (zC (zD (kR 1 H R λ a H => kV H (Ba CO (H.e R)) R λ a H => kV H (MI (p := (HA bs j).length) (q := 64) U3 (H.e R) Am (by omega)) R λ a H => kV H (E6 U3 (H.e R) Am dT) R λ a H => zA (zB (zH H R (zE (zB (wp_block (zD (kR 1 H R λ a H => BP 30 1 #[(0, u8v (0#8))] 5 #[u8v (0#8)] (by simp [Am]) (fun w => by kernel_rfl) fun w1 b1 Ak hb k1 => ?_))))))))))
  have g1 := Nat.le_trans Aa.size Ak; replace Ah := Bh Ah hb; replace Aa := Aa.tr hb; clear hb; clear Ak; refine kl H rfl λ a H => ?_
  have D3 := Aa.size; refine BX 30 5 (.tmp 15) (.tmp 16) w.heap.size (.int .u8 0) 1 1 _ _ _ (some ⟨b1, 0, none⟩) 1 1 ([0#8].map u8v) (H.ev rfl) (H.ev rfl) CO i5 rfl (by omega) Ah rfl (Ad.holds k1) (CC _) (by unfold maxLen; omega) (by omega) D3 fun o2 w9 AU F0 Fz Cb => ?_; have Bv := DF AU; replace Aa := Aa.trans Cb; clear k1 D3; clear Ah AU F0 Fz Cb; have Ah := Bv; clear Bv; obtain ⟨A2, c2, GK⟩ := BZ Ah; subst GK; refine kl H rfl λ a H => ?_
  refine kR 1 H R λ a H => zA (AC ?_)
  rw [QA] at H Ah
  replace H := H.pick [0, 3]
  have pR := Kx bs (j + 1)
  refine zI ⟨⟨j + 1, _, _, H, by omega, Ah, Aa⟩, ?_⟩
  rw [H.ev (j := 3) rfl, H0.ev (j := 3) rfl]
  simp only [Of]
  omega
 ·
  obtain rfl : j = zc bs.length := by omega
  have YS := VF bs.length
  rw [← YV] at YS
  refine zC (zC (zD (kR 1 H R λ a H => kV H (Ba CO (H.e R)) R λ a H => kV H (MI (p := (HA bs (zc bs.length)).length) (q := 64) U3 (H.e R) Am (by omega)) R λ a H => kV H (E6 U3 (H.e R) Am dF) R λ a H => zA (zB (zG H R (wp_exit (AJ (AJ (BD (zB (zC (zD (kR 1 H R λ a H => kV H (Ba CO (H.e R)) R λ a H => kV (v := .int .u64 (bs.length : Nat)) H (NT U3 R7 (H.e R) (by omega)) R λ a H => kX 1 (v := .int .u64 (bs.length * 8 : Nat)) H (NQ R7 (H.e R) Am (by omega)) R λ a H => zA (zB (zC (zC (zD (kR 1 H R λ a H => zA (zB (wp_block ?_))))))))))))))))))))
  obtain ⟨q, hq⟩ : ∃ q, HA bs (zc bs.length) = q := ⟨_, rfl⟩
  rw [hq] at H Ah YV YS
  have HQ := Lib.hid hq
  rw [← List.append_nil q] at H Ah
  refine wp_loop (Rp2 w bs q) (fun a _ => 8 - (intOf (a.eval (.tmp 5))).toNat) ⟨0, A1, c1, H.pick [3, 4, 5], by omega, Ah, Aa⟩ ?_
  clear H Aa Ah CM
  rintro a w' ⟨j, A1, c1, H, hj, Ah, Aa⟩
  have H0 := H
  by_cases CM : j < 8
  ·
   refine zC (zC (zD (kR 1 H R λ a H => kV H (By U3 (H.e R) Am dT) R λ a H => zA (zB (zH H R (zE (zB (zC (wp_block (zD (kR 3 H R λ a H => kV H (H8 (r := ((8 * j : Nat) : Int)) U3 Am (H.e R) (by omega) (by omega)) R λ a H => kV (v := J (8 * (7 - j) : Nat)) H (Dl (q := ((8 * (7 - j) : Nat) : Int)) U3 Am (H.e R)) R λ a H => kV (v := .int .u64 (bs.length * 8 / 2 ^ (8 * (7 - j)) : Nat)) H (NP R7 (H.e R) (H.e R) (by omega)) R λ a H => kV (v := u8v (Hd (bs.length * 8) j)) H (NR R7 U5 (H.e R)) R λ a H => BP 30 1 #[(0, u8v (Hd (bs.length * 8) j))] 5 #[u8v (Hd (bs.length * 8) j)] (by simp [Am, H.ev (j := 32) R]) (fun w => by kernel_rfl) fun w2 b2 Ak hb k2 => ?_)))))))))))
   have g2 := Nat.le_trans Aa.size Ak; replace Ah := Bh Ah hb; replace Aa := Aa.tr hb; clear hb; clear Ak; refine kl H rfl λ a H => ?_
   have D3 := Aa.size; refine BX 30 5 (.tmp 26) (.tmp 33) w.heap.size (.int .u8 0) 1 1 _ _ _ (some ⟨b2, 0, none⟩) 1 1 ([Hd (bs.length * 8) j].map u8v) (H.ev rfl) (H.ev rfl) CO i5 rfl (by omega) Ah rfl (Ad.holds k2) (CC _) (by unfold maxLen; (rw [List.length_append, HC]; omega)) (by (rw [List.length_append, HC]; omega)) D3 fun o2 w9 AU F0 Fz Cb => ?_; have Bv := DF AU; replace Aa := Aa.trans Cb; clear k2 D3; clear Ah AU F0 Fz Cb; have Ah := Bv; clear Bv; obtain ⟨A2, c2, GK⟩ := BZ Ah; subst GK; refine kl H rfl λ a H => ?_
   refine kR 1 H R λ a H => zA (AC (zB (zD (kR 1 H R λ a H => kX 1 H (Bm (q := ((j + 1 : Nat) : Int)) U3 (H.e R) Am) R λ a H => zA ?_))))
   rw [List.append_assoc, ← Og] at H Ah
   replace H := H.pick [3, 4, 5]
   refine zI ⟨⟨j + 1, _, _, H, by omega, Ah, Aa⟩, ?_⟩
   rw [H.ev (j := 5) rfl, H0.ev (j := 5) rfl]
   simp only [intOf]
   omega
  ·
   obtain rfl : j = 8 := by omega
   have HPD : q ++ K4 (bs.length * 8) 8 = MN bs := by rw [← HQ.out]; rfl
   rw [HPD] at H0 H Ah
   exact zC (zC (zD (kR 1 H R λ a H => kV H (By U3 (H.e R) Am dF) R λ a H => zA (zB (zG H R (wp_exit (AJ (AJ (BD (zB (zC (zD (kR 2 H R λ a H => zA (zB (zF (Ag H R R ⟨⟨A1, c1, R, Ah⟩, Aa⟩))))))))))))))))
section
section
variable {P : Program} {d : Option Tmp} {tt : TypeId} {ps : String} {af : Array Edge} {gd : Option (Nat × Bool)} {a : Act} {w : World}
theorem fT : (execOp a.eval ⟨d, .build 134 #[(0, .const (.int .u32 1779033703)), (1, .const (.int .u32 3144134277)), (2, .const (.int .u32 1013904242)), (3, .const (.int .u32 2773480762)), (4, .const (.int .u32 1359893119)), (5, .const (.int .u32 2600822924)), (6, .const (.int .u32 528734635)), (7, .const (.int .u32 1541459225))], tt, ps, af, gd⟩).run Tryz.prog w = .ok (.value (.agg (Ci Jm))) w := by
 kernel_rfl
end
theorem fK {g c lo : Nat} (h : lo ≠ c) : C6 (some ⟨g, 0, none⟩) c lo 1 = some ⟨g, lo, none⟩ := by
 rw [Jq h, Nat.mul_one, Nat.zero_add]
theorem Vo {w : World} {D c : Nat} {A : Option Addr} {bs : List B8} (h : Dg w D (.slice A bs.length c) bs) (hn : 0 < bs.length) : ∃ g, A = some ⟨g, 0, none⟩ := by
 obtain ⟨_, ⟨_, h1⟩ | ⟨g, cap, cur, e, _⟩⟩ := h
 · omega
 ·
  injection e with e1
  exact ⟨g, e1⟩
theorem Vn {w : World} {g lo n m c : Nat} {bs : List B8} (h : B9 w (.slice (some ⟨g, 0, none⟩) n c) bs) (hm : lo + m ≤ bs.length) (hp : 0 < m) : B9 w (.slice (some ⟨g, lo, none⟩) m (c - lo)) ((bs.drop lo).take m) := by
 obtain ⟨A', c', e, h1, h2, h3, hh⟩ := h
 injection e with e1 e2 e3
 subst e1 e3
 have hl : ((bs.drop lo).take m).length = m := by rw [List.length_take, List.length_drop]; omega
 refine ⟨_, _, by rw [hl], by rw [hl]; omega, by omega, (fun e => by cases e), fun j hj => ?_⟩
 have LS : j < m := by rw [List.length_map, hl] at hj; exact hj
 obtain ⟨b, o, he, hc⟩ := hh (lo + j) (by rw [List.length_map]; omega)
 injection he with he
 injection he with e4 e5
 subst e4 e5
 refine ⟨g, lo, R, ?_⟩
 rw [show lo + j = 0 + (lo + j) by omega, hc, List.getElem?_map, List.getElem?_map, List.getElem?_take, if_pos LS, List.getElem?_drop]
def Rs1 (W : World) (D b0 b1 gp c1 : Nat) (pd : List B8) (a : Act) (w : World) : Prop :=
 ∃ k : Nat, Kn a 41 [(2, .pointer (some ⟨b0, 0, none⟩)), (3, .pointer (some ⟨b1, 0, none⟩)), (4, .slice (some ⟨gp, 0, none⟩) pd.length c1), (5, J (64 * k : Nat))] ∧ 64 * k ≤ pd.length ∧ Ad w b0 105 (BL (List.replicate 32 0)) ∧ Ad w b1 134 (Ci (LO Jm pd k)) ∧ Dg w D (.slice (some ⟨gp, 0, none⟩) pd.length c1) pd ∧ Below W.heap.size W w
def Rs2 (W : World) (b0 b1 b2 : Nat) (S : List D6) (a : Act) (w : World) : Prop :=
 ∃ i : Nat, Kn a 41 [(2, .pointer (some ⟨b0, 0, none⟩)), (3, .pointer (some ⟨b1, 0, none⟩)), (6, .pointer (some ⟨b2, 0, none⟩)), (7, J (i : Nat))] ∧ i ≤ 32 ∧ Ad w b0 105 (BL (List.replicate 32 0)) ∧ Ad w b1 134 (Ci S) ∧ Ad w b2 105 (BL ((IA S).take i ++ List.replicate (32 - i) 0)) ∧ Below W.heap.size W w
theorem Qg (w : World) (v : Value) (bs : List B8) (hr : B9 w v bs) (hn : bs.length ≤ 1000000) :
  Calls Tryz.prog 112 #[v] w fun e w' => e = .returned (.agg (BL (I7 bs))) ∧ Below w.heap.size w w' := by
 have eZ := Lib.hid hr
 have Aa := Below.refl w.heap.size w
 refine Az 41 Tryz.func112 R R λ a H => zC (zD (Bj 105 (BL (List.replicate 32 0)) OA fun w0 b0 Ak hb k0 => ?_))
 have g0 := Nat.le_trans Aa.size Ak; replace hr := B9.up hr hb; replace Aa := Aa.tr hb; clear hb; clear Ak; refine kl H rfl λ a H => zA (zB (zC (zD (Fr (.agg (Ci Jm)) fT (kl H rfl λ a H => Bj 134 (Ci (List.replicate 8 0)) bI fun w1 b1 Ak hb k1 => ?_)))))
 have g1 := Nat.le_trans Aa.size Ak; have Zb : b0 < b1 := Nat.lt_of_lt_of_le k0.lt Ak; replace hr := B9.up hr hb; replace k0 := k0.ups hb; replace Aa := Aa.tr hb; clear hb; clear Ak; refine kl H rfl λ a H => AT 134 (.tmp 3) (.tmp 8) b1 134 (Ci Jm) _ (H.ev rfl) (H.ev rfl) k1 bT rfl (EO _) fun w' hb ho kq => ?_
 clear k1; have k1 := kq; replace k0 := Ae k0 (ho _ (by omega)); replace Aa := Aa.trans (hb _ g1); replace hr := B9.up eZ.out Aa; clear hb ho kq; refine Dz H λ a H => zA (zB (zC (zD (kR 1 H rfl λ a H => A8 _ _ _ (Ww _ _ bs hr hn) (Av lO (H.ev rfl)) ?_))))
 rintro e w9 ⟨⟨A1, c1, rfl, Ah⟩, hb⟩; refine ⟨_, rfl, ?_⟩; clear hr; have vO := k1.lt; replace k0 := k0.ups hb; replace k1 := k1.ups hb; replace Aa := Aa.tr hb; clear hb; obtain ⟨pd, YW⟩ : ∃ pd, MN bs = pd := ⟨_, rfl⟩; have gW : pd.length = bs.length + 1 + zc bs.length + 8 := (by rw [← YW, MN, List.length_append, HC, Kx]); obtain ⟨nb, pX⟩ : ∃ nb, pd.length = 64 * nb := ⟨pd.length / 64, by unfold zc at gW; omega⟩; rw [YW] at Ah; have HPD := Lib.hid YW; clear YW; obtain ⟨gp, SH⟩ := Vo Ah (by omega); subst SH; obtain ⟨D, vO, Ah⟩ : ∃ D, b1 < D ∧ Dg _ D (.slice (some ⟨gp, 0, none⟩) pd.length c1) pd := ⟨_, vO, Ah⟩; rw [HPD.out]; refine kL 1 H rfl λ a H => zA (zB (zC (zC (zD (kR 1 H rfl λ a H => zA (zB (wp_block ?_)))))))
 have AM := KH (Dg.row Ah)
 have hpm : pd.length ≤ 1000200 := by have := RH bs.length; omega
 refine wp_loop (Rs1 w D b0 b1 gp c1 pd) (fun a _ => pd.length - (intOf (a.eval (.tmp 5))).toNat) ⟨0, H.pick [2, 3, 4, 5], by omega, k0, k1, Ah, Aa⟩ ?_
 clear H Aa k0 k1 Ah
 rintro a w' ⟨k, H, hk, k0, k1, Ah, Aa⟩
 have H0 := H
 by_cases CM : k < nb
 ·
  refine zC (zC (zD (kR 2 H R λ a H => kV H (Ba CO (H.e R)) R λ a H => kV H (By U3 (H.e R) (H.e R) dT) R λ a H => zA (zB (zH H R (zE (zB (zC (wp_block (rB 7 (Dn [0, 1, 2, 3, 4, 5] (.one 6 (.one 7 .done))) fun hS => kE 3 (v := .agg (Ci (LO Jm pd k))) H R R (fun w' Aj => Af b1 134 _ _ (H.e R) (Ad.ups k1 Aj) Gy R (bS (F7 _ _))) R λ a H => kF H R R (fun w' Aj => Bm (q := ((64 * k + 64 : Nat) : Int)) U3 (H.e R) Am (by omega) (by omega)) R λ a H => kF (v := .slice (some ⟨gp, 64 * k, none⟩) 64 (c1 - 64 * k)) H R R (fun w' Aj => BS CO (.slice (some ⟨gp, 0, none⟩) pd.length c1) (some (J (64 * k : Nat))) (some (J (64 * k + 64 : Nat))) none (H.e R) (congrArg some (H.e R)) (congrArg some (H.e R)) R (CF (64 * k) (64 * k + 64) CO s5 _ _ (.inr R) (.inr R) (by omega) (by omega) (fK (by omega)) (by omega) R)) R λ a H => Al (fun K hK => A7 R (kD (Sf _ gp (64 * k) (c1 - 64 * k) (LO Jm pd k) ((pd.drop (64 * k)).take 64) (F7 _ _) (Vn (Dg.row (Bh Ah hS)) (by omega) (by omega)) (by rw [List.length_take, List.length_drop]; omega) (by omega)) (AA lN (H.e R) (H.e R)) fun w9 hb => ?_))))))))))))
  replace hS := Below.trans hS (Below.mono hb (Below.size hS)); clear hb; refine kS 0 hK hS H rfl λ a H => ?_; clear hK K
  refine Al (fun K hK => ?_)
  replace k0 := Ad.ups k0 hS
  replace k1 := Ad.ups k1 hS
  replace Ah := Bh Ah hS
  replace Aa := Aa.trans (Below.mono hS Aa.size)
  refine A7 R (CW 134 (.tmp 3) (.tmp 23) b1 134 (Ci (LO Jm pd (k + 1))) _ (H.e R) (H.e R) k1 (bS (F7 _ _)) (by rw [CX, CX, F7, F7]) (EO _) fun w7 HI GV kq => ?_); clear k1; have k1 := kq; replace k0 := Ae k0 (GV _ (by omega)); replace Ah := D9 Ah (fun q hq => GV _ (fun e => by have := (Ah.lt q hq).1; omega)); replace Aa := Aa.trans (HI _ g1); clear HI GV kq; refine hK _ _ ⟨(fun h => absurd R h), ?_⟩; clear hK K hS
  refine Aw (NoPanic.normal (AC (zB (zD (kR 1 H R λ a H => kX 1 H (Bm (q := ((64 * (k + 1) : Nat) : Int)) U3 (H.e R) Am) R λ a H => zA (zI ⟨⟨k + 1, H.pick [2, 3, 4, 5], by omega, k0, k1, Ah, Aa⟩, ?_⟩))))))
  rw [H.ev (j := 5) rfl, H0.ev (j := 5) rfl]
  simp only [intOf]
  omega
 ·
  obtain rfl : k = nb := by omega
  clear Ah
  refine zC (zC (zD (kR 2 H R λ a H => kV H (Ba CO (H.e R)) R λ a H => kV H (By U3 (H.e R) (H.e R) dF) R λ a H => zA (zB (zG H R (wp_exit (AJ (AJ (BD (zB (zC (zD (Bj 105 (BL (List.replicate 32 0)) OA fun w2 b2 Ak hb k2 => ?_)))))))))))))
  have g2 := Nat.le_trans Aa.size Ak; have hO : b0 < b2 := Nat.lt_of_lt_of_le k0.lt Ak; have qT : b1 < b2 := Nat.lt_of_lt_of_le k1.lt Ak; replace k0 := k0.ups hb; replace k1 := k1.ups hb; replace Aa := Aa.tr hb; clear hb; clear Ak; refine kl H rfl λ a H => zA (zB (zC (zC (zD (kR 1 H rfl λ a H => zA (zB (wp_block ?_)))))))
  obtain ⟨S, Zd⟩ : ∃ S, LO Jm pd k = S := ⟨_, rfl⟩
  have KR : S.length = 8 := by rw [← Zd]; exact F7 _ _
  rw [Zd] at k1
  have HS := Lib.hid Zd
  rw [← QE S] at k2
  refine wp_loop (Rs2 w b0 b1 b2 S) (fun a _ => 32 - (intOf (a.eval (.tmp 7))).toNat) ⟨0, H.pick [2, 3, 6, 7], by omega, k0, k1, k2, Aa⟩ ?_
  clear H Aa k0 k1 k2 CM Zd
  rintro a w' ⟨i, H, hi, k0, k1, k2, Aa⟩
  have H0 := H
  by_cases CM : i < 32
  ·
   obtain ⟨x, hx⟩ : ∃ x, S[i / 4]? = some x := ⟨_, List.getElem?_eq_getElem (by omega)⟩
   have HX := Lib.hid hx
   clear hx
   have H := H0
   refine zC (zC (zD (kR 1 H R λ a H => kV H (By U3 (H.e R) Am dT) R λ a H => zA (zB (zH H R (zE (zB (zC (wp_block (zD (kR 2 H R λ a H => kV H (ZQ (p := i) (q := 4) U3 (H.e R) Am (by omega) (by omega)) R λ a H => kV H (C2 (j := i / 4) (q := i / 4) Gy s133 (H.e R) (H.e R) (by omega) (by omega)) R λ a H => kX 1 H (Ai BC R (H.e R) (Bt k1 HX.out)) R λ a H => kV H (MI (p := i) (q := 4) U3 (H.e R) Am (by omega)) R λ a H => kV H (H8 (r := ((8 * (i % 4) : Nat) : Int)) U3 Am (H.e R) (by omega) (by omega)) R λ a H => kV H (Dl (q := ((24 - (8 * (i % 4)) : Nat) : Int)) U3 Am (H.e R)) R λ a H => kV H (Mc (k := 24 - (8 * (i % 4))) (by omega) BC (H.e R) (H.e R)) R λ a H => kV H (Q2 BC U5 (H.e R)) R λ a H => kV H (C2 (j := i) (q := i) LY s5 (H.e R) (H.e R) (by omega) (by omega)) R λ a H => AP 5 (.tmp 39) (.tmp 38) b2 i 105 (u8v ((x >>> (24 - (8 * (i % 4)))).setWidth 8)) _ (H.e R) (H.e R) k2 s5 (Tz CM) (KT _) fun w' hb ho kq => ?_)))))))))))
   clear k2; have k2 := Nn kq; rw [Ty CM HX.out] at k2; replace k0 := Ae k0 (ho _ (by omega)); replace k1 := Ae k1 (ho _ (by omega)); replace Aa := Aa.trans (hb _ g2); clear hb ho kq; refine Dz H λ a H => zA (AC (zB (zD (kR 1 H rfl λ a H => kX 1 H (Bm (q := ((i + 1 : Nat) : Int)) U3 (H.ev rfl) Am) rfl λ a H => zA (zI ⟨⟨i + 1, H.pick [2, 3, 6, 7], by omega, k0, k1, k2, Aa⟩, ?_⟩)))))
   rw [H.ev (j := 7) rfl, H0.ev (j := 7) rfl]
   simp only [intOf]
   omega
  ·
   obtain rfl : i = 32 := by omega
   rw [QF] at k2
   refine zC (zC (zD (kR 1 H R λ a H => kV H (By U3 (H.e R) Am dF) R λ a H => zA (zB (zG H R (wp_exit (AJ (AJ (BD (zB (zC (zD (Hc 105 (.tmp 6) b2 105 (BL (IA S)) _ (H.e R) k2 LY R NJ (kl H R λ a H => AT 105 (.tmp 2) (.tmp 40) b0 105 (BL (IA S)) _ (H.e R) (H.e R) k0 NJ (by rw [Bk, Bk, GH]; rfl) (D5 _) fun w' hb ho kq => ?_))))))))))))))
   clear k0; replace Aa := Aa.trans (hb _ g0); clear hb ho; exact Dz H λ a H => zA (zB (zF (Cw H rfl rfl kq LY rfl NJ ⟨by rw [← HS.out, ← HPD.out, VR rfl (by rw [HPD.out]; exact pX)], Aa⟩)))
end
theorem DA {w : World} {B B' e size n : Nat} {v : Value} {xs : List Value} (h : w.ownsRow B' e size v n xs) (hB : B ≤ B') : w.ownsRow B e size v n xs := by
 obtain ⟨h0, h1 | ⟨g, cap, cur, e, hb, hr⟩⟩ := h
 · exact ⟨h0, .inl h1⟩
 · exact ⟨h0, .inr ⟨g, cap, cur, e, Nat.le_trans hB hb, hr⟩⟩
theorem Z7 {w : World} {B n c : Nat} {A : Option Addr} {bs : List B8} (hl : bs.length = n) (h : w.ownsRow B 5 1 (.slice A n c) n (bs.map u8v)) : Dg w B (.slice A bs.length c) bs := by
 subst hl
 exact h
theorem G5 {w : World} {B m : Nat} {v : Value} {bs cs : List B8} (hl : cs.length = m) (h : w.ownsRow B 5 1 v (bs.length + m) (bs.map u8v ++ cs.map u8v)) : Dg w B v (bs ++ cs) := by
 subst hl
 exact DF h
theorem Uf {w : World} {D i : Nat} {v : Value} {kb : List B8} {y x : B8} (he : (Gw kb y).take (i + 1) = (Gw kb y).take i ++ [x]) (h : w.ownsRow D 5 1 v (i + 1) (((Gw kb y).take i).map u8v ++ [x].map u8v)) : w.ownsRow D 5 1 v (i + 1) (((Gw kb y).take (i + 1)).map u8v) := by
 rw [he, List.map_append]
 exact h
theorem YB {kb : List B8} {i : Nat} {x : B8} (h : kb[i]? = some x) : (Hj kb)[i]? = some x := by
 obtain ⟨hi, _⟩ := List.getElem?_eq_some_iff.1 h
 rw [Hj, List.getElem?_append_left hi, h]
theorem WQ {kb : List B8} {i : Nat} (h : kb.length ≤ i) (hi : i < 64) : (Hj kb)[i]? = some 0#8 := by
 rw [Hj, List.getElem?_append_right h, List.getElem?_replicate, if_pos (by omega)]
 rfl
theorem Rv {kb : List B8} {i : Nat} {x y : B8} (hk : kb.length ≤ 64) (hi : i < 64) (hx : (Hj kb)[i]? = some x) : (Gw kb y).take (i + 1) = (Gw kb y).take i ++ [x ^^^ y] := by
 rw [List.take_succ_eq_append_getElem (by rw [Ef hk]; exact hi)]
 congr 2
 obtain ⟨hj, rfl⟩ := List.getElem?_eq_some_iff.1 hx
 simp [Gw]
def Rm1 (W : World) (D : Nat) (A2 : Option Addr) (c2 : Nat) (kb : List B8) (y : B8) (a : Act) (w : World) : Prop :=
 ∃ (i : Nat) (A1 : Option Addr) (c1 : Nat), Kn a 40 [(1, u8v y), (5, .slice A2 kb.length c2), (7, .slice A1 i c1), (8, J (i : Nat))] ∧ i ≤ 64 ∧ B9 w (.slice A2 kb.length c2) kb ∧ w.ownsRow D 5 1 (.slice A1 i c1) i (((Gw kb y).take i).map u8v) ∧ D ≤ w.heap.size ∧ Below W.heap.size W w
theorem L7 (w : World) (v : Value) (kb : List B8) (y : B8) (hr : B9 w v kb) (hk : kb.length ≤ 64) :
  Calls Tryz.prog 113 #[v, u8v y] w fun e w' => (∃ D A c, D = w.heap.size ∧ e = .returned (.slice A (Gw kb y).length c) ∧ Dg w' D (.slice A (Gw kb y).length c) (Gw kb y)) ∧ Below w.heap.size w w' := by
 obtain ⟨A, c, rfl, h1, h2, h3, hh⟩ := hr
 replace hh := Lib.hid hh
 have Aa := Below.refl w.heap.size w
 refine Az 40 Tryz.func113 R R λ a H => zC (zD (kR 1 H R λ a H => zA (zB (zC (zD (BP 30 0 #[] 5 #[] (by simp) (fun w => by kernel_rfl) fun w1 bl Ak hb kk => ?_))))))
 have Ah : Dg _ w.heap.size (.slice (some ⟨bl, 0, none⟩) 0 0) [] := Dk kk (Nat.le_trans Aa.size Ak); replace Aa := Aa.tr hb; clear hb Ak kk; refine kL 1 H rfl λ a H => ?_
 have D3 := Aa.size; refine BX 30 5 (.tmp 10) (.tmp 11) w.heap.size (.int .u8 0) 1 1 _ _ _ A kb.length c (kb.map u8v) (H.ev rfl) (H.ev rfl) CO i5 rfl (by omega) Ah (by simp) (hh.out.up Aa) (CC _) (by unfold maxLen; simp; omega) (by simp; omega) D3 fun o2 w9 AU F0 Fz Cb => ?_; have Bv := DF AU; rw [List.nil_append] at Bv; replace Aa := Aa.trans Cb; clear D3; clear Ah AU F0 Fz Cb; have Ah := Bv; clear Bv; obtain ⟨A2, c2, GK⟩ := BZ Ah; subst GK; have RD := Dg.row Ah; have qG : ∀ q o, A2 = some ⟨q, o, none⟩ → q < w9.heap.size := (fun q o e => by subst e; exact (World.ownsRow.lt Ah q rfl).2); have mT : w.heap.size ≤ w9.heap.size := Aa.size; obtain ⟨D, I5⟩ : ∃ D, D = w9.heap.size := ⟨_, rfl⟩; rw [← I5] at qG mT; clear Ah; refine kl H rfl λ a H => ?_
 refine kR 1 H R λ a H => zA (zB (zC (zC (zD (kR 1 H R λ a H => kV H (Ba CO (H.e R)) R λ a H => kV H (CU U3 (H.e R) Am dF) R λ a H => zA (zB (zG H R (zE (zB (zC (zD (kR 1 H R λ a H => zA (zB (zC (zC (zD (kR 1 H R λ a H => zA (zB (wp_block (wp_loop (Rm1 w D A2 c2 kb y) (fun a _ => 64 - (intOf (a.eval (.tmp 8))).toNat) ⟨0, none, 0, H.pick [1, 5, 7, 8], by omega, RD, World.ownsRow_nil _ _ _ _, Nat.le_of_eq I5, Aa⟩ ?_))))))))))))))))))))
 clear H Aa RD I5
 rintro a w' ⟨i, A1, c1, H, hi, RD, Ah, Gl, Aa⟩
 have H0 := H
 by_cases CM : i < 64
 ·
  by_cases hik : i < kb.length
  ·
   obtain ⟨x0, o, Iw⟩ := G4 RD (by omega)
   subst Iw
   obtain ⟨y0, hy⟩ : ∃ y, kb[i]? = some y := ⟨_, List.getElem?_eq_getElem hik⟩
   have HY := Lib.hid hy
   clear hy
   have H := H0
   refine zC (zC (zD (kR 1 H R λ a H => kV H (By U3 (H.e R) Am dT) R λ a H => zA (zB (zH H R (zE (zB (zC (wp_block (zC (zD (kV (v := u8v (0#8)) H (GE (by rfl)) R λ a H => zA (zB (zC (zC (zD (kR 2 H R λ a H => kV H (Ba CO (H.e R)) R λ a H => kV H (By U3 (H.e R) (H.e R) dT) R λ a H => zA (zB (zH H R (zD (kR 2 H R λ a H => kV H (Bq (j := i) (q := o + i) CO s5 (H.e R) (H.e R) (by omega) (by omega)) R λ a H => kX 1 H (Ai U5 R (H.e R) (Ew RD HY.out (by omega))) R λ a H => zA (zB (zD (kR 3 H R λ a H => kV H (Sg U5 (H.e R) (H.e R)) R λ a H => BP 30 1 #[(0, u8v (y0 ^^^ y))] 5 #[u8v (y0 ^^^ y)] (by simp [Am, H.ev (j := 36) R]) (fun w => by kernel_rfl) fun w0 b0 Ak hb k0 => ?_))))))))))))))))))))))))
   have g0 := Nat.le_trans Aa.size Ak; replace RD := B9.up RD hb; replace Ah := Bh Ah hb; replace Gl := MS Gl hb; replace Aa := Aa.tr hb; clear hb; clear Ak; refine kl H rfl λ a H => BX 30 5 (.tmp 33) (.tmp 37) D (.int .u8 0) 1 1 _ _ _ (some ⟨b0, 0, none⟩) 1 1 ([y0 ^^^ y].map u8v) (H.ev rfl) (H.ev rfl) CO i5 rfl (by omega) Ah rfl (Ad.holds k0) (CC _) (by unfold maxLen; omega) (by omega) Gl fun o2 w9 AU F0 Fz Cb => ?_
   have Bv := Uf (Rv hk CM (YB HY.out)) AU; replace RD := B9.far RD Cb qG; replace Aa := Aa.trans (Cb.mono mT); replace Gl := Nat.le_trans Gl Cb.size; clear Ah AU F0 Fz Cb k0; have Ah := Bv; clear Bv; obtain ⟨A3, c3, GK⟩ := BZ Ah; subst GK; refine kL 1 H rfl λ a H => zA (AC (zB (zD (kR 1 H rfl λ a H => kX 1 H (Bm (q := ((i + 1 : Nat) : Int)) U3 (H.ev rfl) Am) rfl λ a H => zA (zI ⟨⟨i + 1, _, _, H.pick [1, 5, 7, 8], by omega, RD, Ah, Gl, Aa⟩, ?_⟩)))))
   rw [H.ev (j := 8) rfl, H0.ev (j := 8) rfl]
   simp only [intOf]
   omega
  ·
   refine zC (zC (zD (kR 1 H R λ a H => kV H (By U3 (H.e R) Am dT) R λ a H => zA (zB (zH H R (zE (zB (zC (wp_block (zC (zD (kV (v := u8v (0#8)) H (GE (by rfl)) R λ a H => zA (zB (zC (zC (zD (kR 2 H R λ a H => kV H (Ba CO (H.e R)) R λ a H => kV H (By U3 (H.e R) (H.e R) dF) R λ a H => zA (zB (zG H R (zE (zB (zD (kR 3 H R λ a H => kV H (Sg U5 (H.e R) (H.e R)) R λ a H => BP 30 1 #[(0, u8v (0#8 ^^^ y))] 5 #[u8v (0#8 ^^^ y)] (by simp [Am, H.ev (j := 36) R]) (fun w => by kernel_rfl) fun w1 b1 Ak hb k1 => ?_)))))))))))))))))))))))
   have g1 := Nat.le_trans Aa.size Ak; replace RD := B9.up RD hb; replace Ah := Bh Ah hb; replace Gl := MS Gl hb; replace Aa := Aa.tr hb; clear hb; clear Ak; refine kl H rfl λ a H => BX 30 5 (.tmp 33) (.tmp 37) D (.int .u8 0) 1 1 _ _ _ (some ⟨b1, 0, none⟩) 1 1 ([0#8 ^^^ y].map u8v) (H.ev rfl) (H.ev rfl) CO i5 rfl (by omega) Ah rfl (Ad.holds k1) (CC _) (by unfold maxLen; omega) (by omega) Gl fun o2 w9 AU F0 Fz Cb => ?_
   have Bv := Uf (Rv hk CM (WQ (by omega) CM)) AU; replace RD := B9.far RD Cb qG; replace Aa := Aa.trans (Cb.mono mT); replace Gl := Nat.le_trans Gl Cb.size; clear Ah AU F0 Fz Cb k1; have Ah := Bv; clear Bv; obtain ⟨A3, c3, GK⟩ := BZ Ah; subst GK; refine kL 1 H rfl λ a H => zA (AC (zB (zD (kR 1 H rfl λ a H => kX 1 H (Bm (q := ((i + 1 : Nat) : Int)) U3 (H.ev rfl) Am) rfl λ a H => zA (zI ⟨⟨i + 1, _, _, H.pick [1, 5, 7, 8], by omega, RD, Ah, Gl, Aa⟩, ?_⟩)))))
   rw [H.ev (j := 8) rfl, H0.ev (j := 8) rfl]
   simp only [intOf]
   omega
 ·
  obtain rfl : i = 64 := by omega
  rw [List.take_of_length_le (by rw [Ef hk]; omega)] at Ah
  exact zC (zC (zD (kR 1 H R λ a H => kV H (By U3 (H.e R) Am dF) R λ a H => zA (zB (zG H R (wp_exit (AJ (AJ (BD (zB (zC (zD (kR 2 H R λ a H => zA (zB (zF (Ag H R R ⟨⟨w.heap.size, A1, c1, R, by rw [Ef hk], Z7 (Ef hk) (DA Ah mT)⟩, Aa⟩))))))))))))))))
theorem Wy (w : World) (v u : Value) (kb bs : List B8) (hr : B9 w v kb) (hu : B9 w u bs) (hk : kb.length ≤ 64) (hn : bs.length ≤ 900000) :
  Calls Tryz.prog 80 #[v, u] w fun e w' => e = .returned (.agg (BL (Pn kb bs))) ∧ Below w.heap.size w w' := by
 obtain ⟨Au, cu, rfl, u1, u2, u3, qI⟩ := hu
 replace qI := Lib.hid qI
 replace hr := Lib.hid hr
 have Aa := Below.refl w.heap.size w
 refine Az 16 Tryz.func80 R R λ a H => zC (zD (Bj 105 (BL (List.replicate 32 0)) OA fun w0 b0 Ak hb k0 => ?_))
 have g0 := Nat.le_trans Aa.size Ak; replace Aa := Aa.tr hb; clear hb; clear Ak; refine kl H rfl λ a H => zA (zB (zC (zD (kR 1 H rfl λ a H => A8 _ _ _ (L7 _ _ kb 54#8 (B9.up hr.out Aa) hk) (AA bD (H.ev rfl) Am) ?_))))
 rintro e w9 ⟨⟨D, A1, c1, I5, rfl, Ah⟩, hb⟩; refine ⟨_, rfl, ?_⟩; have aR := k0.lt; have aQ := Aa.size; have Gl := hb.size; replace k0 := k0.ups hb; replace Aa := Aa.tr hb; clear hb; rw [← I5] at aR aQ Gl; clear I5; refine kL 1 H rfl λ a H => BX 30 5 (.tmp 7) (.tmp 8) D (.int .u8 0) 1 1 _ _ _ Au bs.length cu (bs.map u8v) (H.ev rfl) (H.ev rfl) CO i5 rfl (by omega) Ah (by simp) (qI.out.up Aa) (CC _) (by unfold maxLen; rw [Ef hk]; omega) (by rw [Ef hk]; omega) Gl fun o2 w9 AU F0 Fz Cb => ?_
 have AY := Dg.row (DF AU); replace k0 := Ad.up k0 Cb aR; replace Aa := Aa.trans (Cb.mono aQ); clear Ah AU F0 Fz Cb aR aQ Gl; refine kl H rfl λ a H => kC 0 (Qg _ _ (Gw kb 54#8 ++ bs) AY (by rw [List.length_append, Ef hk]; omega)) (Av bE (H.ev rfl)) H rfl fun w9 a hb H => ?_
 clear AY; replace k0 := k0.ups hb; replace Aa := Aa.tr hb; clear hb
 refine Bj 105 (BL (List.replicate 32 0)) OA fun w1 b1 Ak hb k1 => ?_; have g1 := Nat.le_trans Aa.size Ak; have Zb : b0 < b1 := Nat.lt_of_lt_of_le k0.lt Ak; replace k0 := k0.ups hb; replace Aa := Aa.tr hb; clear hb; clear Ak; refine kl H R λ a H => AT 105 (.tmp 5) (.tmp 10) b1 105 (BL (I7 (Gw kb 54#8 ++ bs))) _ (H.e R) (H.e R) k1 Ti (by rw [Bk, Bk, DE]; rfl) (D5 _) fun w' hb ho kq => ?_
 clear k1; have k1 := kq; replace k0 := Ae k0 (ho _ (by omega)); replace Aa := Aa.trans (hb _ g1); clear hb ho kq; refine Dz H λ a H => zA (zB (zC ?_))
 have Gf := Aa
 refine rB 5 (.fl 0 (.fl 2 (.one 1 (.one 3 (.one 4 (.one 5 .done)))))) fun hS => kQ 1 H R λ a H => kF (v := .slice (some ⟨b1, 0, none⟩) 32 32) H R R (fun w' Aj => CN (b := b1) (o := 0) LY s5 (H.e R) (by omega)) R λ a H => Al (fun K hK => A7 R (CQ _ _ _ (L7 _ _ kb 92#8 (B9.up hr.out (Gf.trans (Below.mono hS Gf.size))) hk) (AA bD (H.e R) Am) ?_))
 rintro e w9 ⟨⟨D2, A2, c2, I5, rfl, AU⟩, hb⟩; refine ⟨_, rfl, ?_⟩; have vN : (E4 Gf).heap.size ≤ D2 := (by rw [I5]; exact Below.size hS); have D3 : D2 ≤ w9.heap.size := (by rw [I5]; exact Below.size hb); replace hS := Below.trans hS (Below.mono hb (Below.size hS)); clear hb I5; refine kS 0 hK hS H rfl λ a H => ?_; clear hK K
 refine Al (fun K hK => A7 R (BA 30 5 (.tmp 12) (.tmp 13) D2 (.int .u8 0) 1 1 _ _ _ (some ⟨b1, 0, none⟩) 32 32 ((I7 (Gw kb 54#8 ++ bs)).map u8v) (H.e R) (H.e R) CO i5 R (by omega) AU (by rw [List.length_map, DE]) (Ad.holds (Ad.ups k1 hS)) (CC _) (by unfold maxLen; rw [Ef hk]; omega) (by rw [Ef hk]; omega) D3 fun o2 w9 Bv F0 Fz Cb => ?_))
 have AY := Dg.row (G5 DE Bv); replace hS := Below.trans hS (Below.mono Cb vN); clear AU Bv F0 Fz Cb vN D3; refine kS 0 hK hS H rfl λ a H => ?_; clear hK K
 refine Al (fun K hK => A7 R (kD (Qg _ _ (Gw kb 92#8 ++ I7 (Gw kb 54#8 ++ bs)) AY (by rw [List.length_append, Ef hk, DE]; omega)) (Av bE (H.e R)) fun w9 hb => ?_))
 replace hS := Below.trans hS (Below.mono hb (Below.size hS)); clear hb AY; refine kS 0 hK hS H rfl λ a H => ?_; clear hK K
 refine Al (fun K hK => ?_)
 replace k0 := Ad.ups k0 hS
 replace k1 := Ad.ups k1 hS
 replace Aa := Aa.trans (Below.mono hS Aa.size)
 refine A7 R (AX 105 (.tmp 4) (.tmp 15) b0 0 105 (.agg (BL (Pn kb bs))) _ (H.e R) (H.e R) k0 ZL (Rx DE) (D5 _) fun w' hb ho kq => ?_); clear k0; have k0 := Ry (by show _ = (I7 _).length; rw [DE]; rfl) kq; replace Aa := Aa.trans (hb _ g0); clear hb ho kq; refine hK _ _ ⟨(fun h => absurd R h), ?_⟩; clear hK K hS
 exact Aw (NoPanic.normal (zB (zF (Cw H R R k0 LY R Ti ⟨R, Aa⟩))))
end Go.Proofs.YtbnmpoonkjlkjaaGreat
