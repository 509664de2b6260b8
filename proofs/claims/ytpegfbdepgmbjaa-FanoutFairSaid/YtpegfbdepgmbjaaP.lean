import Derived.Test.YtpegfbdepgmbjaaL
import Derived.Deep.RegionHeld3
namespace Go.Proofs.Ytpegfbdepgmbjaa
open Go.RowKit

/-! A region that draws its order, walked once in an order of one's own choice: floats (operations that yield one value in every world that meets S) are taken first, the others come up one by one. -/
def nthO : List Oper → Nat → Option Oper
  | [], _ => none
  | o :: _, 0 => some o
  | _ :: l, n + 1 => nthO l n
theorem nthO_get : ∀ (l : List Oper) (i : Nat), nthO l i = l[i]?
  | [], _ => rfl
  | _ :: _, 0 => rfl
  | _ :: l, n + 1 => nthO_get l n

/-- is the order one that the edges bear: each float may come up and is free, each other one alone may come up -/
def piOk (ops : Array Oper) : List (Nat × Bool) → Array Bool → Bool
  | [], listed => (Region.ready .any ops listed).isEmpty
  | (i, fl) :: π, listed =>
    (if fl then (Region.ready .any ops listed).contains i && Region.free .any ops listed i else Region.ready .any ops listed == [i]) && piOk ops π (listed.setIfInBounds i true)

def wpPi (P : Program) (l : List Oper) (Q : Exit → Act → World → Prop) (S : World → Prop) : List (Nat × Bool) → Act → World → Prop
  | [], a, w => Q .normal a w
  | (i, fl) :: π, a, w => ∃ o, nthO l i = some o ∧
    if Region.wanted o (yielded l.toArray a.tmps) = true then
      if fl = true then ∃ v, (∀ w', S w' → (execOp a.eval o).run P w' = .ok (.value v) w') ∧ wpPi P l Q S π (a.put o.dst v) w
      else o.wp P a w (fun a' w' => S w' ∧ wpPi P l Q S π a' w') Q
    else wpPi P l Q S π (a.put o.dst undef) w

section
variable {P : Program} {l : List Oper} {Q : Exit → Act → World → Prop} {S : World → Prop} {a : Act} {w : World}

theorem pi_sound (hsel : Region.noSelect l.toArray = true) (hQ : ∀ (c : _) (a : Act) (d : Option Tmp) (v : Value) (w : World), Q (.panic c) (a.put d v) w → Q (.panic c) a w) :
    ∀ (π : List (Nat × Bool)) (listed : Array Bool) (a : Act) (w : World), piOk l.toArray π listed = true → S w → wpPi P l Q S π a w → wpAnyH P .any l.toArray Q S π.length listed a w
  | [], listed, a, w, hB, _, h => by
    simp only [piOk, List.isEmpty_iff] at hB
    exact wpAnyH_done hB h _
  | (i, fl) :: π, listed, a, w, hB, hS, h => by
    obtain ⟨o, ho, h⟩ := h
    have hi : l.toArray[i]? = some o := by rw [nthO_get] at ho; simpa using ho
    simp only [piOk, Bool.and_eq_true] at hB
    obtain ⟨hB1, hB2⟩ := hB
    cases fl with
    | true =>
      simp only [if_true, Bool.and_eq_true] at hB1
      by_cases hw : Region.wanted o (yielded l.toArray a.tmps) = true
      · simp only [hw, if_true] at h
        obtain ⟨v, hv, h⟩ := h
        exact wpAnyH_take hi hsel hB1.2 hB1.1 (fun c a w => hQ c a _ _ w) (.inl ⟨hw, hv⟩) hS (pi_sound hsel hQ π _ _ w hB2 hS h)
      · have hw' : Region.wanted o (yielded l.toArray a.tmps) = false := by simpa using hw
        simp only [hw', Bool.false_eq_true, if_false] at h
        exact wpAnyH_take hi hsel hB1.2 hB1.1 (fun c a w => hQ c a _ _ w) (.inr ⟨hw', rfl⟩) hS (pi_sound hsel hQ π _ _ w hB2 hS h)
    | false =>
      simp only [Bool.false_eq_true, if_false, beq_iff_eq] at hB1
      refine wpAnyH_all hB1 (by simp) fun j hj => ?_
      have : j = i := by simpa using hj
      subst this
      unfold wpOp
      simp only [hi]
      by_cases hw : Region.wanted o (yielded l.toArray a.tmps) = true
      · simp only [hw, if_true, Bool.false_eq_true, if_false] at h
        simp only [hw, if_true]
        exact .inl (Oper.wp_mono (fun a' w' h' => ⟨h'.1, pi_sound hsel hQ π _ a' w' hB2 h'.1 h'.2⟩) h)
      · have hw' : Region.wanted o (yielded l.toArray a.tmps) = false := by simpa using hw
        simp only [hw', Bool.false_eq_true, if_false] at h ⊢
        exact ⟨hS, pi_sound hsel hQ π _ _ w hB2 hS h⟩

theorem region_pi {id : Nat} (S : World → Prop) (π : List (Nat × Bool)) (hm : P.follows .mixedOrders = true) (hsel : Region.noSelect l.toArray = true) (hn : π.length = l.length)
    (hB : piOk l.toArray π (Array.replicate l.length false) = true) (hS : S w.drew) (h : wpPi P l (NoPanic Q) S π a w.drew) : (Code.region id l.toArray true).wp P Q a w := by
  refine wp_region_noPanic (wp_region_held (S := S) hm ?_)
  have := pi_sound (P := P) (l := l) (Q := NoPanic Q) (S := S) hsel (fun c a d v w h => h) π (Array.replicate l.length false) a w.drew hB hS h
  rw [hn] at this
  simpa using this

theorem pi_nil (h : Q .normal a w) : wpPi P l Q S [] a w := h
theorem pi_float {i : Nat} {π : List (Nat × Bool)} (o : Oper) (v : Value) (ho : nthO l i = some o) (hw : Region.wanted o (yielded l.toArray a.tmps) = true)
    (hv : ∀ w', S w' → (execOp a.eval o).run P w' = .ok (.value v) w') (h : wpPi P l Q S π (a.put o.dst v) w) : wpPi P l Q S ((i, true) :: π) a w :=
  ⟨o, ho, by rw [if_pos hw, if_pos rfl]; exact ⟨v, hv, h⟩⟩
theorem pi_skip {i : Nat} {fl : Bool} {π : List (Nat × Bool)} (o : Oper) (ho : nthO l i = some o) (hw : Region.wanted o (yielded l.toArray a.tmps) = false)
    (h : wpPi P l Q S π (a.put o.dst undef) w) : wpPi P l Q S ((i, fl) :: π) a w :=
  ⟨o, ho, by rw [if_neg (by rw [hw]; simp)]; exact h⟩
theorem pi_anchor {i : Nat} {π : List (Nat × Bool)} (o : Oper) (ho : nthO l i = some o) (hw : Region.wanted o (yielded l.toArray a.tmps) = true)
    (h : ∀ K : Act → World → Prop, (∀ a w, S w ∧ wpPi P l Q S π a w → K a w) → o.wp P a w K Q) : wpPi P l Q S ((i, false) :: π) a w :=
  ⟨o, ho, by rw [if_pos hw, if_neg (by simp)]; exact h _ fun _ _ h => h⟩
theorem wanted_none {o : Oper} {y : Nat → Option Bool} (hg : o.guard = none) : Region.wanted o y = true := by simp [Region.wanted, hg]
theorem wanted_some {o oj : Oper} {j : Nat} {b b' : Bool} {k : Tmp} (hg : o.guard = some (j, b)) (hj : nthO l j = some oj) (hd : oj.dst = some k) (hv : a.tmps.getD k undef = .bool b') :
    Region.wanted o (yielded l.toArray a.tmps) = (b' == b) := by
  have hi : l.toArray[j]? = some oj := by rw [nthO_get] at hj; simpa using hj
  simp only [Region.wanted, hg, yielded, hi, Option.bind_some, hd]
  rw [Array.getD_eq_getD_getElem?] at hv
  cases h : a.tmps[k]? with
  | none => rw [h] at hv; cases hv
  | some v =>
    rw [h] at hv
    simp only [Option.getD_some] at hv
    subst hv
    cases b' <;> cases b <;> rfl
/-- floats and anchors by their guards -/
theorem pi_f0 {i : Nat} {π : List (Nat × Bool)} {d : Option Tmp} {op : Op} {tt : TypeId} {ps : String} {af : Array Edge} (v : Value) (ho : nthO l i = some ⟨d, op, tt, ps, af, none⟩)
    (hv : ∀ w', S w' → (execOp a.eval ⟨d, op, tt, ps, af, none⟩).run P w' = .ok (.value v) w') (h : wpPi P l Q S π (a.put d v) w) : wpPi P l Q S ((i, true) :: π) a w :=
  pi_float _ v ho (wanted_none rfl) hv h
theorem pi_f1 {i : Nat} {π : List (Nat × Bool)} {d : Option Tmp} {op : Op} {tt : TypeId} {ps : String} {af : Array Edge} {j : Nat} {b : Bool} {oj : Oper} {k : Tmp} (v : Value) (ho : nthO l i = some ⟨d, op, tt, ps, af, some (j, b)⟩)
    (hj : nthO l j = some oj) (hd : oj.dst = some k) (hb : a.tmps.getD k undef = .bool b)
    (hv : ∀ w', S w' → (execOp a.eval ⟨d, op, tt, ps, af, some (j, b)⟩).run P w' = .ok (.value v) w') (h : wpPi P l Q S π (a.put d v) w) : wpPi P l Q S ((i, true) :: π) a w :=
  pi_float _ v ho (by rw [wanted_some rfl hj hd hb]; simp) hv h
theorem pi_s1 {i : Nat} {fl : Bool} {π : List (Nat × Bool)} {d : Option Tmp} {op : Op} {tt : TypeId} {ps : String} {af : Array Edge} {j : Nat} {b : Bool} {oj : Oper} {k : Tmp} (ho : nthO l i = some ⟨d, op, tt, ps, af, some (j, b)⟩)
    (hj : nthO l j = some oj) (hd : oj.dst = some k) (hb : a.tmps.getD k undef = .bool (!b))
    (h : wpPi P l Q S π (a.put d undef) w) : wpPi P l Q S ((i, fl) :: π) a w :=
  pi_skip _ ho (by rw [wanted_some rfl hj hd hb]; simp) h
theorem pi_s2 {i : Nat} {fl : Bool} {π : List (Nat × Bool)} {d : Option Tmp} {op : Op} {tt : TypeId} {ps : String} {af : Array Edge} {j : Nat} {b : Bool} {oj : Oper} {k : Tmp} (ho : nthO l i = some ⟨d, op, tt, ps, af, some (j, b)⟩)
    (hj : nthO l j = some oj) (hd : oj.dst = some k) (hb : a.tmps.getD k undef = undef)
    (h : wpPi P l Q S π (a.put d undef) w) : wpPi P l Q S ((i, fl) :: π) a w := by
  refine pi_skip _ ho ?_ h
  have hi : l.toArray[j]? = some oj := by rw [nthO_get] at hj; simpa using hj
  simp only [Region.wanted, yielded, hi, Option.bind_some, hd]
  rw [Array.getD_eq_getD_getElem?] at hb
  cases hh : a.tmps[k]? with
  | none => rfl
  | some v =>
    rw [hh] at hb
    simp only [Option.getD_some] at hb
    subst hb
    rfl
theorem pi_a0 {i : Nat} {π : List (Nat × Bool)} {d : Option Tmp} {op : Op} {tt : TypeId} {ps : String} {af : Array Edge} (ho : nthO l i = some ⟨d, op, tt, ps, af, none⟩)
    (h : ∀ K : Act → World → Prop, (∀ a w, S w ∧ wpPi P l Q S π a w → K a w) → Oper.wp P ⟨d, op, tt, ps, af, none⟩ a w K Q) : wpPi P l Q S ((i, false) :: π) a w :=
  pi_anchor _ ho (wanted_none rfl) h
theorem pi_a1 {i : Nat} {π : List (Nat × Bool)} {d : Option Tmp} {op : Op} {tt : TypeId} {ps : String} {af : Array Edge} {j : Nat} {b : Bool} {oj : Oper} {k : Tmp} (ho : nthO l i = some ⟨d, op, tt, ps, af, some (j, b)⟩)
    (hj : nthO l j = some oj) (hd : oj.dst = some k) (hb : a.tmps.getD k undef = .bool b)
    (h : ∀ K : Act → World → Prop, (∀ a w, S w ∧ wpPi P l Q S π a w → K a w) → Oper.wp P ⟨d, op, tt, ps, af, none⟩ a w K Q) : wpPi P l Q S ((i, false) :: π) a w :=
  pi_anchor _ ho (by rw [wanted_some rfl hj hd hb]; simp) h
theorem pi_here {π : List (Nat × Bool)} (h : wpPi P l Q S π a w) : wpPi P l Q S π a w := h
theorem pi_and {π : List (Nat × Bool)} (hS : S w) (h : wpPi P l Q S π a w) : S w ∧ wpPi P l Q S π a w := ⟨hS, h⟩
theorem run_load_row {ty : TypeId} {x : Operand} {d : Option Tmp} {tt : TypeId} {ps : String} {af : Array Edge} {gd : Option (Nat × Bool)} (g : Nat) (t : TypeId) (C : Array Value) (ds : TypeDesc)
    (hx : a.eval x = .pointer (some ⟨g, 0, none⟩)) (hg : Block w g t C) (hu : P.underlying ty = some ds) (hd : (match ds with | .struct _ | .array _ _ => true | _ => false) = true) (hi : (P.info? ty).map (·.size) = some C.size) :
    (execOp a.eval ⟨d, .load ty x, tt, ps, af, gd⟩).run P w = .ok (.value (.agg C)) w := by
  unfold execOp
  simp only [hx, Instr.loadAt, Instr.sureAddr, Sem.run_bind, Sem.run_pure, Result.andThen_ok, run_loadVar_row w g t ty C (0, 0) ds hg hu hd hi]
/-- a whole row read, the same in every world that meets S -/
theorem pi_load_row {i : Nat} {π : List (Nat × Bool)} (ty : TypeId) (x : Operand) (d : Option Tmp) (tt : TypeId) (ps : String) (af : Array Edge) (gd : Option (Nat × Bool)) (g : Nat) (t : TypeId) (C : Array Value) (ds : TypeDesc)
    (ho : nthO l i = some ⟨d, .load ty x, tt, ps, af, gd⟩) (hw : Region.wanted ⟨d, .load ty x, tt, ps, af, gd⟩ (yielded l.toArray a.tmps) = true) (hx : a.eval x = .pointer (some ⟨g, 0, none⟩))
    (hg : ∀ w', S w' → Block w' g t C) (hu : P.underlying ty = some ds) (hd : (match ds with | .struct _ | .array _ _ => true | _ => false) = true) (hi : (P.info? ty).map (·.size) = some C.size)
    (h : wpPi P l Q S π (a.put d (.agg C)) w) : wpPi P l Q S ((i, true) :: π) a w := by
  refine pi_float _ (.agg C) ho hw (fun w' hS => ?_) h
  unfold execOp
  simp only [hx, Instr.loadAt, Instr.sureAddr, Sem.run_bind, Sem.run_pure, Result.andThen_ok, run_loadVar_row w' g t ty C (0, 0) ds (hg w' hS) hu hd hi]
end
end Go.Proofs.Ytpegfbdepgmbjaa
