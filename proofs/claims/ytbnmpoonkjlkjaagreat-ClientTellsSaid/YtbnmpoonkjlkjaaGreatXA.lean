/- Client: part A of the proof. -/
import Derived.Test.YtbnmpoonkjlkjaaGreatRows
import Derived.WalkKit
import Derived.Lib.Hide
import Derived.Deep.QuietTactic
import Derived.BigQuiet
import Derived.StillTailTactics
import Derived.Deep.MidRow
import Derived.Deep.RegionHeld3
import Derived.Maps.AppendAt
import Derived.ProofKit
import Derived.OpenShut
import Derived.Deep.Slices
import Derived.Deep.Cut
import Derived.Deep.CutRange
import Derived.IntWalk
import Derived.Outline
import Derived.Laws.CopyRow
import Derived.WalkSpells
namespace Go.Proofs.YtbnmpoonkjlkjaaGreat
open Go.RowKit
set_option linter.unusedVariables false
set_option linter.unusedSimpArgs false
set_option maxRecDepth 100000
set_option maxHeartbeats 8000000
section
/-- cells known from an address on -/
def BJ (w : World) (A : Option Addr) (xs : List Value) : Prop :=
 ∀ j, j < xs.length → ∃ b o, A = some ⟨b, o, none⟩ ∧ w.cell? ⟨b, o + j, none⟩ = xs[j]?
theorem BJ.lt {w : World} {A : Option Addr} {xs : List Value} (h : BJ w A xs) {b o : Nat} (e : A = some ⟨b, o, none⟩) (hx : 0 < xs.length) : b < w.heap.size := by
 obtain ⟨b', o', he, hc⟩ := h 0 hx
 rw [he] at e
 injection e with e
 injection e with e1 e2
 subst e1; subst e2
 rw [List.getElem?_eq_getElem hx] at hc
 exact World.block_lt_of_cell? w _ hc
theorem BJ.up {w w' : World} {A : Option Addr} {xs : List Value} (h : BJ w A xs) (hb : Below w.heap.size w w') : BJ w' A xs := by
 intro j hj
 obtain ⟨b, o, he, hc⟩ := h j hj
 refine ⟨b, o, he, ?_⟩
 rw [← hc]
 rw [List.getElem?_eq_getElem hj] at hc
 exact hb.cell (p := ⟨b, o + j, none⟩) (World.block_lt_of_cell? w _ hc)
/-- block g is just the cells C of type t, none of them frozen -/
def Ad (w : World) (g : Nat) (t : TypeId) (C : Array Value) : Prop := w.heap[g]? = some (.cells C t (0, 0))
section
variable {w w' : World} {g : Nat} {t : TypeId} {C : Array Value}
theorem Ad.lt (h : Ad w g t C) : g < w.heap.size := by
 unfold Ad at h
 exact (Array.getElem?_eq_some_iff.1 h).1
theorem Ad.cell (h : Ad w g t C) (i : Nat) : w.cell? ⟨g, i, none⟩ = C[i]? := cell_of_row w g i C t (0, 0) h
theorem Ad.frozen (h : Ad w g t C) (i : Nat) : w.frozen? ⟨g, i, none⟩ = false := frozen_of_row w g i C t h
theorem Ad.up {B : Nat} (h : Ad w g t C) (hb : Below B w w') (hg : g < B) : Ad w' g t C := (hb.block g hg).trans h
theorem Ad.ups (h : Ad w g t C) (hb : Below w.heap.size w w') : Ad w' g t C := h.up hb h.lt
theorem Ad.set (h : Ad w g t C) (i : Nat) (u : Value) : Ad (w.setCell ⟨g, i, none⟩ u) g t (C.setIfInBounds i u) := heap_setCell_same w g i C t u h
theorem Ad.far (h : Ad w g t C) {p : Addr} (hp : g ≠ p.block) (u : Value) : Ad (w.setCell p u) g t C := (heap_setCell_other w p g u hp).trans h
end
section
variable {P : Program} {ops : Array Oper} {rest : List Oper} {o : Oper} {a : Act} {w : World} {Q : Exit → Act → World → Prop}
theorem ZA (Za : o.guard = none) (e : TypeId) (x : Operand) (ho : o.op = .box e x) (C : Array Value) (hx : a.eval x = .agg C)
  (h : ∀ w' g, w.heap.size ≤ g → Below w.heap.size w w' → Ad w' g e C → wpList P ops Q rest (a.put o.dst (.pointer (some ⟨g, 0, none⟩))) w') : wpList P ops Q (o :: rest) a w :=
 wpList_plain Za fun _ hK => by
  unfold Oper.wp execOp
  simp only [ho, hx, Instr.box, newVar, newRow, newObj, Value.cells, Sem.run, Sem.run_bind, Sem.run_pure, Result.andThen_ok]
  exact hK _ _ (h (w.alloc (.cells C e)) w.heap.size (Nat.le_refl _) ((Below.refl _ _).alloc (Nat.le_refl _) _) (heap_alloc_new w _))
theorem V4 (Za : o.guard = none) (e : TypeId) (ho : o.op = .alloc e) (Z : Array Value) (hz : (P.info? e).map (·.zero) = some (some (.agg Z)))
  (h : ∀ w' g, w.heap.size ≤ g → Below w.heap.size w w' → Ad w' g e Z → wpList P ops Q rest (a.put o.dst (.pointer (some ⟨g, 0, none⟩))) w') : wpList P ops Q (o :: rest) a w :=
 wpList_plain Za fun _ hK => by
  unfold Oper.wp execOp
  cases hq : P.info? e with
  | none => simp [hq] at hz
  | some i =>
   have hz' : i.zero = some (.agg Z) := by simpa [hq] using hz
   simp only [ho, Instr.alloc, zeroValue, typeInfo, program, newVar, newRow, newObj, Value.cells, Sem.run, Sem.run_bind, Sem.run_pure, Result.andThen_ok, hq, hz']
   exact hK _ _ (h (w.alloc (.cells Z e)) w.heap.size (Nat.le_refl _) ((Below.refl _ _).alloc (Nat.le_refl _) _) (heap_alloc_new w _))
theorem XR (Za : o.guard = none) (ty : TypeId) (x : Operand) (ho : o.op = .load ty x) (g : Nat) (hx : a.eval x = .pointer (some ⟨g, 0, none⟩))
  (t : TypeId) (C : Array Value) (d : TypeDesc) (hg : Ad w g t C) (hu : P.underlying ty = some d)
  (hd : (match d with | .struct _ | .array _ _ => true | _ => false) = true) (hi : (P.info? ty).map (·.size) = some C.size)
  (h : wpList P ops Q rest (a.put o.dst (.agg C)) w) : wpList P ops Q (o :: rest) a w :=
 wpList_load_row Za ty x ho g hx t C (0, 0) d hg hu hd hi h
theorem V3 (Za : o.guard = none) (ty : TypeId) (x y : Operand) (ho : o.op = .store ty x y)
  (g : Nat) (cells : Array Value) (hx : a.eval x = .pointer (some ⟨g, 0, none⟩)) (hy : a.eval y = .agg cells)
  (t : TypeId) (old : Array Value) (hg : Ad w g t old) (hi : (P.info? ty).map (·.size) = some cells.size)
  (K8 : old.size = cells.size) (h1 : cells.all (·.oneCell') = true)
  (h : ∀ w', (∀ B, B ≤ g → Below B w w') → (∀ g', g' ≠ g → w'.heap[g']? = w.heap[g']?) → Ad w' g t cells → wpList P ops Q rest (a.put o.dst undef) w') : wpList P ops Q (o :: rest) a w :=
 wpList_plain Za fun _ hK => wp_store_row ty x y ho g cells hx hy t old hg hi K8 h1
  (hK _ _ (h _ (fun B hB => ⟨rfl, rfl, rfl, by simp, fun k hk => setRow_other w g k _ (by omega)⟩) (fun g' dH => setRow_other w g g' _ (by omega)) (setRow_heap w g old cells t (0, 0) hg)))
def C3 (C : Array Value) (o : Nat) : List Value → Array Value
 | [] => C
 | v :: vs => C3 (C.setIfInBounds o v) (o + 1) vs
theorem Ad.setCells {g : Nat} {t : TypeId} : ∀ (vs : List Value) (w : World) (C : Array Value) (o : Nat), Ad w g t C → Ad (w.setCells g o vs) g t (C3 C o vs)
 | [], _, _, _, h => h
 | v :: vs, _, _, o, h => Ad.setCells vs _ _ (o + 1) (h.set o v)
theorem FE {B g : Nat} {w0 : World} (hB : B ≤ g) : ∀ (vs : List Value) (w : World) (o : Nat), Below B w0 w → Below B w0 (w.setCells g o vs)
 | [], _, _, h => h
 | v :: vs, _, o, h => FE hB vs _ (o + 1) (h.setCell (p := ⟨g, o, none⟩) hB v)
theorem FC {g g' : Nat} (hg : g' ≠ g) : ∀ (vs : List Value) (w : World) (o : Nat), (w.setCells g o vs).heap[g']? = w.heap[g']?
 | [], _, _ => rfl
 | v :: vs, w, o => (FC hg vs _ (o + 1)).trans (heap_setCell_other w ⟨g, o, none⟩ g' v hg)
theorem N9 (Za : o.guard = none) (ty : TypeId) (x y : Operand) (ho : o.op = .store ty x y)
  (g off : Nat) (cells : Array Value) (hx : a.eval x = .pointer (some ⟨g, off, none⟩)) (hy : a.eval y = .agg cells)
  (t : TypeId) (old : Array Value) (hg : Ad w g t old) (hi : (P.info? ty).map (·.size) = some cells.size)
  (K8 : off + cells.size ≤ old.size) (h1 : cells.all (·.oneCell') = true)
  (h : ∀ w', (∀ B, B ≤ g → Below B w w') → (∀ g', g' ≠ g → w'.heap[g']? = w.heap[g']?) → Ad w' g t (C3 old off cells.toList) → wpList P ops Q rest (a.put o.dst undef) w') : wpList P ops Q (o :: rest) a w :=
 wpList_plain Za fun _ hK => wp_store_mid ty x y ho g off cells hx hy (fun j hj => ⟨by rw [hg.cell, Array.getElem?_eq_getElem (by omega)]; rfl, hg.frozen _⟩) hi h1
  (hK _ _ (h _ (fun B hB => FE hB _ _ _ (Below.refl _ _)) (fun g' dH => FC dH _ _ _) (Ad.setCells _ _ _ _ hg)))
theorem L9 {fn : Func} {p u : Tmp} {ty : TypeId} (h : fn.results = #[.cell p ty, .tmp u]) (tmps : Array Value) (w : World) (g : Nat) (t : TypeId) (C : Array Value) (d : TypeDesc)
  (hp : tmps.getD p undef = .pointer (some ⟨g, 0, none⟩)) (hg : Ad w g t C)
  (hu : P.underlying ty = some d) (hd : (match d with | .struct _ | .array _ _ => true | _ => false) = true) (hi : (P.info? ty).map (·.size) = some C.size) :
  (results fn tmps).run P w = .ok (.tuple #[.agg C, tmps.getD u undef]) w := by
 rw [results_cell_tmp h, hp]
 simp only [asAddr, Sem.run_pure, Result.andThen_ok, run_loadVar_row w g t ty C (0, 0) d hg hu hd hi]
theorem Tm {fn : Func} {p : Tmp} {ty : TypeId} (h : fn.results = #[.cell p ty]) (tmps : Array Value) (w : World) (g : Nat) (t : TypeId) (C : Array Value) (d : TypeDesc)
  (hp : tmps.getD p undef = .pointer (some ⟨g, 0, none⟩)) (hg : Ad w g t C)
  (hu : P.underlying ty = some d) (hd : (match d with | .struct _ | .array _ _ => true | _ => false) = true) (hi : (P.info? ty).map (·.size) = some C.size) :
  (results fn tmps).run P w = .ok (.agg C) w := results_cell_row h tmps w g t C (0, 0) d hp hg hu hd hi
end
section
variable {P : Program} {ops : Array Oper} {rest : List Oper} {d : Option Tmp} {tt : TypeId} {ps : String} {af : Array Edge} {a : Act} {w : World} {Q : Exit → Act → World → Prop}
theorem B7 (e : TypeId) (x : Operand) (C : Array Value) (hx : a.eval x = .agg C)
  (h : ∀ w' g, w.heap.size ≤ g → Below w.heap.size w w' → Ad w' g e C → wpList P ops Q rest (a.put d (.pointer (some ⟨g, 0, none⟩))) w') :
  wpList P ops Q (⟨d, .box e x, tt, ps, af, none⟩ :: rest) a w := ZA rfl e x rfl C hx h
theorem Bj (e : TypeId) (Z : Array Value) (hz : (P.info? e).map (·.zero) = some (some (.agg Z)))
  (h : ∀ w' g, w.heap.size ≤ g → Below w.heap.size w w' → Ad w' g e Z → wpList P ops Q rest (a.put d (.pointer (some ⟨g, 0, none⟩))) w') :
  wpList P ops Q (⟨d, .alloc e, tt, ps, af, none⟩ :: rest) a w := V4 rfl e rfl Z hz h
theorem Hc (ty : TypeId) (x : Operand) (g : Nat) (t : TypeId) (C : Array Value) (ds : TypeDesc) (hx : a.eval x = .pointer (some ⟨g, 0, none⟩))
  (hg : Ad w g t C) (hu : P.underlying ty = some ds)
  (hd : (match ds with | .struct _ | .array _ _ => true | _ => false) = true) (hi : (P.info? ty).map (·.size) = some C.size)
  (h : wpList P ops Q rest (a.put d (.agg C)) w) : wpList P ops Q (⟨d, .load ty x, tt, ps, af, none⟩ :: rest) a w :=
 XR rfl ty x rfl g hx t C ds hg hu hd hi h
theorem AT (ty : TypeId) (x y : Operand) (g : Nat) (t : TypeId) (cells old : Array Value) (hx : a.eval x = .pointer (some ⟨g, 0, none⟩)) (hy : a.eval y = .agg cells)
  (hg : Ad w g t old) (hi : (P.info? ty).map (·.size) = some cells.size) (K8 : old.size = cells.size) (h1 : cells.all (·.oneCell') = true)
  (h : ∀ w', (∀ B, B ≤ g → Below B w w') → (∀ g', g' ≠ g → w'.heap[g']? = w.heap[g']?) → Ad w' g t cells → wpList P ops Q rest (a.put d undef) w') :
  wpList P ops Q (⟨d, .store ty x y, tt, ps, af, none⟩ :: rest) a w := V3 rfl ty x y rfl g cells hx hy t old hg hi K8 h1 h
theorem Cp (ty : TypeId) (x y : Operand) (g off : Nat) (t : TypeId) (cells old : Array Value) (hx : a.eval x = .pointer (some ⟨g, off, none⟩)) (hy : a.eval y = .agg cells)
  (hg : Ad w g t old) (hi : (P.info? ty).map (·.size) = some cells.size) (K8 : off + cells.size ≤ old.size) (h1 : cells.all (·.oneCell') = true)
  (h : ∀ w', (∀ B, B ≤ g → Below B w w') → (∀ g', g' ≠ g → w'.heap[g']? = w.heap[g']?) → Ad w' g t (C3 old off cells.toList) → wpList P ops Q rest (a.put d undef) w') :
  wpList P ops Q (⟨d, .store ty x y, tt, ps, af, none⟩ :: rest) a w := N9 rfl ty x y rfl g off cells hx hy t old hg hi K8 h1 h
theorem cI (t : TypeId) (n : Nat) (parts : Array (Nat × Operand)) (e : TypeId) (C : Array Value)
  (hr : ∀ w : World, (Instr.buildSlice t n (parts.map fun (i, x) => (i, a.eval x))).run P w = .ok (.slice (some ⟨w.heap.size, 0, none⟩) n n) (w.alloc (.cells C e)))
  (h : ∀ w' b, w.heap.size ≤ b → Below w.heap.size w w' → Ad w' b e C → wpList P ops Q rest (a.put d (.slice (some ⟨b, 0, none⟩) n n)) w') :
  wpList P ops Q (⟨d, .buildSlice t n parts, tt, ps, af, none⟩ :: rest) a w :=
 wpList_plain rfl fun _ hK => by
  unfold Oper.wp execOp
  simp only [hr, Sem.run_bind, Sem.run_pure, Result.andThen_ok]
  exact hK _ _ (h (w.alloc (.cells C e)) w.heap.size (Nat.le_refl _) ((Below.refl _ _).alloc (Nat.le_refl _) _) (heap_alloc_new w _))
theorem Sp (op : Op) (g : Nat × Bool) (hw : Region.wanted ⟨d, op, tt, ps, af, some g⟩ (yielded ops a.tmps) = true) (h : wpList P ops Q (⟨d, op, tt, ps, af, none⟩ :: rest) a w) :
  wpList P ops Q (⟨d, op, tt, ps, af, some g⟩ :: rest) a w := by
 unfold wpList at h ⊢
 rw [if_pos (by rfl)] at h
 rw [if_pos hw]
 exact h
theorem De (e : TypeId) (k : Tmp) (y : Operand) (cells Z : Array Value) {t1 t2 : TypeId} {p1 p2 : String} {a1 a2 : Array Edge} (hz : (P.info? e).map (·.zero) = some (some (.agg Z)))
  (hi : (P.info? e).map (·.size) = some cells.size) (hZ : Z.size = cells.size) (h1 : cells.all (·.oneCell') = true)
  (hx : ∀ p, (a.put (some k) p).eval (.tmp k) = p) (hy : ∀ p, (a.put (some k) p).eval y = .agg cells)
  (h : ∀ w' g, w.heap.size ≤ g → Below w.heap.size w w' → Ad w' g e cells → wpList P ops Q rest (a.put (some k) (.pointer (some ⟨g, 0, none⟩))) w') :
  wpList P ops Q (⟨some k, .alloc e, t1, p1, a1, none⟩ :: ⟨none, .store e (.tmp k) y, t2, p2, a2, none⟩ :: rest) a w := by
 refine Bj e Z hz fun w1 g hg hb hk => ?_
 refine AT e (.tmp k) y g e cells Z (hx _) (hy _) hk hi hZ h1 fun w2 Cb FJ UZ => ?_
 exact h w2 g hg (hb.trans (Cb _ hg)) UZ
end
theorem Ad.holds {w : World} {b : Nat} {t : TypeId} {L : List Value} (h : Ad w b t L.toArray) : BJ w (some ⟨b, 0, none⟩) L := fun j hj => ⟨b, 0, rfl, by rw [Nat.zero_add, h.cell]; simp⟩
/-- a row of YR -/
def YR (B : List Int) : Array Value := (B.map (Value.int .i64)).toArray
theorem Di (B : List Int) : (YR B).all (·.oneCell') = true := by
 rw [Array.all_eq_true_iff_forall_mem]
 intro x hx
 simp [YR] at hx
 obtain ⟨a, _, rfl⟩ := hx
 rfl
end
section
/-! A region that draws its order, walked once in an order of one's eY choice: floats (operations that yield one value in every world that meets S) are taken first, the others come up one by one. -/
def DP : List Oper → Nat → Option Oper
 | [], _ => none
 | o :: _, 0 => some o
 | _ :: l, n + 1 => DP l n
theorem GI : ∀ (l : List Oper) (i : Nat), DP l i = l[i]?
 | [], _ => rfl
 | _ :: _, 0 => rfl
 | _ :: l, n + 1 => GI l n
/-- is the order one that the edges bear: each float may come up and is free, each other one alone may come up -/
def WO (ops : Array Oper) : List (Nat × Bool) → Array Bool → Bool
 | [], listed => (Region.ready .any ops listed).isEmpty
 | (i, fl) :: π, listed =>
  (if fl then (Region.ready .any ops listed).contains i && Region.free .any ops listed i else Region.ready .any ops listed == [i]) && WO ops π (listed.setIfInBounds i true)
def GW (P : Program) (l : List Oper) (Q : Exit → Act → World → Prop) (S : World → Prop) : List (Nat × Bool) → Act → World → Prop
 | [], a, w => Q .normal a w
 | (i, fl) :: π, a, w => ∃ o, DP l i = some o ∧
  if Region.wanted o (yielded l.toArray a.tmps) = true then
   if fl = true then ∃ v, (∀ w', S w' → (execOp a.eval o).run P w' = .ok (.value v) w') ∧ GW P l Q S π (a.put o.dst v) w
   else o.wp P a w (fun a' w' => S w' ∧ GW P l Q S π a' w') Q
  else GW P l Q S π (a.put o.dst undef) w
section
variable {P : Program} {l : List Oper} {Q : Exit → Act → World → Prop} {S : World → Prop} {a : Act} {w : World}
theorem Ja (El : Region.noSelect l.toArray = true) (hQ : ∀ (c : _) (a : Act) (d : Option Tmp) (v : Value) (w : World), Q (.panic c) (a.put d v) w → Q (.panic c) a w) :
  ∀ (π : List (Nat × Bool)) (listed : Array Bool) (a : Act) (w : World), WO l.toArray π listed = true → S w → GW P l Q S π a w → wpAnyH P .any l.toArray Q S π.length listed a w
 | [], listed, a, w, hB, _, h => by
  simp only [WO, List.isEmpty_iff] at hB
  exact wpAnyH_done hB h _
 | (i, fl) :: π, listed, a, w, hB, hS, h => by
  obtain ⟨o, ho, h⟩ := h
  have hi : l.toArray[i]? = some o := by rw [GI] at ho; simpa using ho
  simp only [WO, Bool.and_eq_true] at hB
  obtain ⟨Nb, RE⟩ := hB
  cases fl with
  | true =>
   simp only [if_true, Bool.and_eq_true] at Nb
   by_cases hw : Region.wanted o (yielded l.toArray a.tmps) = true
   ·
    simp only [hw, if_true] at h
    obtain ⟨v, hv, h⟩ := h
    exact wpAnyH_take hi El Nb.2 Nb.1 (fun c a w => hQ c a _ _ w) (.inl ⟨hw, hv⟩) hS (Ja El hQ π _ _ w RE hS h)
   ·
    have hw' : Region.wanted o (yielded l.toArray a.tmps) = false := by simpa using hw
    simp only [hw', Bool.false_eq_true, if_false] at h
    exact wpAnyH_take hi El Nb.2 Nb.1 (fun c a w => hQ c a _ _ w) (.inr ⟨hw', rfl⟩) hS (Ja El hQ π _ _ w RE hS h)
  | false =>
   simp only [Bool.false_eq_true, if_false, beq_iff_eq] at Nb
   refine wpAnyH_all Nb (by simp) fun j hj => ?_
   have : j = i := by simpa using hj
   subst this
   unfold wpOp
   simp only [hi]
   by_cases hw : Region.wanted o (yielded l.toArray a.tmps) = true
   ·
    simp only [hw, if_true, Bool.false_eq_true, if_false] at h
    simp only [hw, if_true]
    exact .inl (Oper.wp_mono (fun a' w' h' => ⟨h'.1, Ja El hQ π _ a' w' RE h'.1 h'.2⟩) h)
   ·
    have hw' : Region.wanted o (yielded l.toArray a.tmps) = false := by simpa using hw
    simp only [hw', Bool.false_eq_true, if_false] at h ⊢
    exact ⟨hS, Ja El hQ π _ _ w RE hS h⟩
theorem CZ {id : Nat} (S : World → Prop) (π : List (Nat × Bool)) (hm : P.follows .mixedOrders = true) (El : Region.noSelect l.toArray = true) (hn : π.length = l.length)
  (hB : WO l.toArray π (Array.replicate l.length false) = true) (hS : S w.drew) (h : GW P l (NoPanic Q) S π a w.drew) : (Code.region id l.toArray true).wp P Q a w := by
 refine wp_region_noPanic (wp_region_held (S := S) hm ?_)
 have := Ja (P := P) (l := l) (Q := NoPanic Q) (S := S) El (fun c a d v w h => h) π (Array.replicate l.length false) a w.drew hB hS h
 rw [hn] at this
 simpa using this
theorem Es (h : Q .normal a w) : GW P l Q S [] a w := h
theorem Q8 {i : Nat} {π : List (Nat × Bool)} (o : Oper) (v : Value) (ho : DP l i = some o) (hw : Region.wanted o (yielded l.toArray a.tmps) = true)
  (hv : ∀ w', S w' → (execOp a.eval o).run P w' = .ok (.value v) w') (h : GW P l Q S π (a.put o.dst v) w) : GW P l Q S ((i, true) :: π) a w :=
 ⟨o, ho, by rw [if_pos hw, if_pos rfl]; exact ⟨v, hv, h⟩⟩
theorem Y8 {i : Nat} {fl : Bool} {π : List (Nat × Bool)} (o : Oper) (ho : DP l i = some o) (hw : Region.wanted o (yielded l.toArray a.tmps) = false)
  (h : GW P l Q S π (a.put o.dst undef) w) : GW P l Q S ((i, fl) :: π) a w :=
 ⟨o, ho, by rw [if_neg (by rw [hw]; simp)]; exact h⟩
theorem UJ {i : Nat} {π : List (Nat × Bool)} (o : Oper) (ho : DP l i = some o) (hw : Region.wanted o (yielded l.toArray a.tmps) = true)
  (h : ∀ K : Act → World → Prop, (∀ a w, S w ∧ GW P l Q S π a w → K a w) → o.wp P a w K Q) : GW P l Q S ((i, false) :: π) a w :=
 ⟨o, ho, by rw [if_pos hw, if_neg (by simp)]; exact h _ fun _ _ h => h⟩
theorem FW {o : Oper} {y : Nat → Option Bool} (hg : o.guard = none) : Region.wanted o y = true := by simp [Region.wanted, hg]
theorem D0 {o oj : Oper} {j : Nat} {b b' : Bool} {k : Tmp} (hg : o.guard = some (j, b)) (hj : DP l j = some oj) (hd : oj.dst = some k) (hv : a.tmps.getD k undef = .bool b') :
  Region.wanted o (yielded l.toArray a.tmps) = (b' == b) := by
 have hi : l.toArray[j]? = some oj := by rw [GI] at hj; simpa using hj
 simp only [Region.wanted, hg, yielded, hi, Option.bind_some, hd]
 rw [Array.getD_eq_getD_getElem?] at hv
 cases h : a.tmps[k]? with
 | none => rw [h] at hv; cases hv
 | some v =>
  rw [h] at hv
  simp only [Option.getD_some] at hv
  subst hv
  cases b' <;> cases b <;> rfl
theorem Bf {i : Nat} {π : List (Nat × Bool)} {d : Option Tmp} {op : Op} {tt : TypeId} {ps : String} {af : Array Edge} (v : Value) (ho : DP l i = some ⟨d, op, tt, ps, af, none⟩)
  (hv : ∀ w', S w' → (execOp a.eval ⟨d, op, tt, ps, af, none⟩).run P w' = .ok (.value v) w') (h : GW P l Q S π (a.put d v) w) : GW P l Q S ((i, true) :: π) a w :=
 Q8 _ v ho (FW rfl) hv h
theorem Bx {i : Nat} {π : List (Nat × Bool)} {d : Option Tmp} {op : Op} {tt : TypeId} {ps : String} {af : Array Edge} {j : Nat} {b : Bool} {oj : Oper} {k : Tmp} (v : Value) (ho : DP l i = some ⟨d, op, tt, ps, af, some (j, b)⟩)
  (hj : DP l j = some oj) (hd : oj.dst = some k) (hb : a.tmps.getD k undef = .bool b)
  (hv : ∀ w', S w' → (execOp a.eval ⟨d, op, tt, ps, af, some (j, b)⟩).run P w' = .ok (.value v) w') (h : GW P l Q S π (a.put d v) w) : GW P l Q S ((i, true) :: π) a w :=
 Q8 _ v ho (by rw [D0 rfl hj hd hb]; simp) hv h
theorem C7 {i : Nat} {fl : Bool} {π : List (Nat × Bool)} {d : Option Tmp} {op : Op} {tt : TypeId} {ps : String} {af : Array Edge} {j : Nat} {b : Bool} {oj : Oper} {k : Tmp} (ho : DP l i = some ⟨d, op, tt, ps, af, some (j, b)⟩)
  (hj : DP l j = some oj) (hd : oj.dst = some k) (hb : a.tmps.getD k undef = .bool (!b))
  (h : GW P l Q S π (a.put d undef) w) : GW P l Q S ((i, fl) :: π) a w :=
 Y8 _ ho (by rw [D0 rfl hj hd hb]; simp) h
theorem ZS {i : Nat} {π : List (Nat × Bool)} {d : Option Tmp} {op : Op} {tt : TypeId} {ps : String} {af : Array Edge} {j : Nat} {b : Bool} {oj : Oper} {k : Tmp} (ho : DP l i = some ⟨d, op, tt, ps, af, some (j, b)⟩)
  (hj : DP l j = some oj) (hd : oj.dst = some k) (hb : a.tmps.getD k undef = .bool b)
  (h : ∀ K : Act → World → Prop, (∀ a w, S w ∧ GW P l Q S π a w → K a w) → Oper.wp P ⟨d, op, tt, ps, af, none⟩ a w K Q) : GW P l Q S ((i, false) :: π) a w :=
 UJ _ ho (by rw [D0 rfl hj hd hb]; simp) h
theorem Af {ty : TypeId} {x : Operand} {d : Option Tmp} {tt : TypeId} {ps : String} {af : Array Edge} {gd : Option (Nat × Bool)} (g : Nat) (t : TypeId) (C : Array Value) (ds : TypeDesc)
  (hx : a.eval x = .pointer (some ⟨g, 0, none⟩)) (hg : Ad w g t C) (hu : P.underlying ty = some ds) (hd : (match ds with | .struct _ | .array _ _ => true | _ => false) = true) (hi : (P.info? ty).map (·.size) = some C.size) :
  (execOp a.eval ⟨d, .load ty x, tt, ps, af, gd⟩).run P w = .ok (.value (.agg C)) w := by
 unfold execOp
 simp only [hx, Instr.loadAt, Instr.sureAddr, Sem.run_bind, Sem.run_pure, Result.andThen_ok, run_loadVar_row w g t ty C (0, 0) ds hg hu hd hi]
end
end
section
/-! A region that draws, at one place of which two operations may come up: floats first, then either way. -/
section
variable {P : Program} {l : List Oper} {Q : Exit → Act → World → Prop} {S : World → Prop} {a : Act} {w : World}
end
end
section
/-! A region that draws, walked by a tree: floats first; where two operations may come up, both ways. One operation, number z, may break S: all floats are to come ahead of it. -/
section
variable {P : Program} {ops : Array Oper} {Q : Exit → Act → World → Prop} {md : Region.Mode} {S : World → Prop} {z : Nat}
/-- whatever order is picked, and S holds behind each operation but number z -/
def Fq (P : Program) (md : Region.Mode) (ops : Array Oper) (Q : Exit → Act → World → Prop) (S : World → Prop) (z : Nat) : Nat → Array Bool → Act → World → Prop
 | 0, L, a, w => Region.ready md ops L = [] ∧ Q .normal a w
 | n + 1, L, a, w => (Region.ready md ops L = [] → Q .normal a w) ∧
  ∀ i ∈ Region.ready md ops L, wpOp P ops Q i (fun a' w' => (i ≠ z → S w') ∧ Fq P md ops Q S z n (L.setIfInBounds i true) a' w') a w
theorem G7 : ∀ (n : Nat) (L : Array Bool) (a : Act) (w : World), Fq P md ops Q S z n L a w → wpAny P md ops Q n L a w
 | 0, _, _, _, h => h
 | n + 1, _, _, _, h => ⟨h.1, fun i hi => wpOp_mono (fun a' w' h' => G7 n _ a' w' h'.2) (h.2 i hi)⟩
/-- number k waits for number i, at once or through others -/
def KS (md : Region.Mode) (ops : Array Oper) : Nat → Nat → Nat → Bool
 | 0, _, _ => false
 | n + 1, k, i => match ops[k]? with
  | none => false
  | some ok => ok.after.any fun e => Region.binds md e && (e.on == i || KS md ops n e.on i)
def Ik (md : Region.Mode) (ops : Array Oper) (z i : Nat) : Bool := decide (ops.size ≤ z) || KS md ops 6 z i
/-- what is listed has all listed that it waits for -/
def Hq (md : Region.Mode) (ops : Array Oper) (L : Array Bool) : Prop := ∀ j oj, ops[j]? = some oj → L.getD j false = true → ∀ e ∈ oj.after, Region.binds md e = true → L.getD e.on false = true
theorem Im {L : Array Bool} {i : Nat} (h0 : L.getD i true = false) (h1 : L.getD i false = true) : False := by
 rcases Nat.lt_or_ge i L.size with h' | h'
 · simp [h'] at h0 h1; rw [h0] at h1; cases h1
 · simp [Array.getElem?_eq_none h'] at h1
theorem Ei {L : Array Bool} {j : Nat} (h : Hq md ops L) (hj : j ∈ Region.ready md ops L) : Hq md ops (L.setIfInBounds j true) := by
 intro k ok hk hl e he hb
 by_cases e1 : j = k
 ·
  subst e1
  obtain ⟨_, o, ho, Aa⟩ := mem_ready.1 hj
  rw [hk] at ho
  injection ho with ho
  subst ho
  exact getD_set_true (Aa e he hb)
 ·
  rw [getD_set_ne false e1] at hl
  exact getD_set_true (h k ok hk hl e he hb)
theorem Mp {L : Array Bool} {i : Nat} (hc : Hq md ops L) (hi : L.getD i true = false) : ∀ (n k : Nat), KS md ops n k i = true → (∀ ok, ops[k]? = some ok → ∀ e ∈ ok.after, Region.binds md e = true → L.getD e.on false = true) → False
 | 0, k, h, _ => by simp [KS] at h
 | n + 1, k, h, Aa => by
  unfold KS at h
  cases ho : ops[k]? with
  | none => rw [ho] at h; simp at h
  | some ok =>
   rw [ho] at h
   simp only [Array.any_eq_true', Bool.and_eq_true, Bool.or_eq_true, beq_iff_eq] at h
   obtain ⟨e, he, hb, hq⟩ := h
   have hl := Aa ok ho e he hb
   rcases hq with hq | hq
   · rw [hq] at hl; exact Im hi hl
   · exact Mp hc hi n e.on hq fun ok' gX e' he' hb' => hc e.on ok' gX hl e' he' hb'
theorem Ij {i : Nat} {oi : Oper} {v : Value} (hi : ops[i]? = some oi) (El : ∀ (j : Nat) (o : Oper) cs b, ops[j]? = some o → o.op ≠ .select cs b)
  (hQ : ∀ c a w, Q (.panic c) (a.put oi.dst v) w → Q (.panic c) a w) (hz : Ik md ops z i = true) :
  ∀ (n : Nat) (L : Array Bool) (a : Act) (w : World),
   (∀ j oj, ops[j]? = some oj → j ≠ i → L.getD j true = false → (∀ e ∈ oj.after, Region.binds md e = true → e.on ≠ i) → oi.apart ops oj = true) →
   i ∈ Region.ready md ops L → Hq md ops L → YieldsIf P ops S oi v a → S w →
   Fq P md ops Q S z n (L.setIfInBounds i true) (a.put oi.dst v) w → Fq P md ops Q S z (n + 1) L a w := by
 intro n
 induction n with
 | zero =>
  intro L a w _ hr Be hy hS H
  refine ⟨fun h => (by rw [h] at hr; cases hr), fun j hj => ?_⟩
  by_cases QZ : j = i
  · subst QZ; exact hy.wpOp hi hS ⟨fun _ => hS, H⟩
  ·
   have := ready_mono hj QZ
   rw [H.1] at this
   cases this
 | succ n ih =>
  intro L a w Rc hr Be hy hS H
  refine ⟨fun h => (by rw [h] at hr; cases hr), fun j hj => ?_⟩
  by_cases QZ : j = i
  · subst QZ; exact hy.wpOp hi hS ⟨fun _ => hS, H⟩
  ·
   have h1 := H.2 j (ready_mono hj QZ)
   obtain ⟨Xp, oj, Xh, Aa⟩ := mem_ready.1 hj
   have Xq := (mem_ready.1 hr).1
   have dD : ∀ e ∈ oj.after, Region.binds md e = true → e.on ≠ i := fun e he hb fC => by
    have h1 := Aa e he hb
    rw [fC] at h1
    exact Im Xq h1
   have qH : j ≠ z := by
    intro e
    subst e
    unfold Ik at hz
    simp only [Bool.or_eq_true, decide_eq_true_eq] at hz
    rcases hz with hz | hz
    · have := (Array.getElem?_eq_some_iff.1 Xh).1; omega
    ·
     refine Mp Be Xq 6 j hz fun ok ho e he hb => ?_
     rw [Xh] at ho
     injection ho with ho
     subst ho
     exact Aa e he hb
   have h2 := wpOp_putIf Xh (Rc j oj Xh QZ Xp dD) (fun cs b => El i oi cs b hi) (fun cs b => El j oj cs b Xh) hQ hy h1
   have hfree' : ∀ k ok, ops[k]? = some ok → k ≠ i → (L.setIfInBounds j true).getD k true = false →
     (∀ e ∈ ok.after, Region.binds md e = true → e.on ≠ i) → oi.apart ops ok = true := fun k ok hk qF gP Cm => by
    refine Rc k ok hk qF ?_ Cm
    by_cases hH : j = k
    · subst hH; exact Xp
    · rw [getD_set_ne true hH] at gP; exact gP
   refine wpOp_mono (fun a' w' h3 => ⟨h3.2.1, ih (L.setIfInBounds j true) a' w' hfree' (ready_mono hr (Ne.symm QZ)) (Ei Be hj) h3.1 (h3.2.1 qH) ?_⟩) h2
   rw [Array.setIfInBounds_comm _ _ QZ]
   exact h3.2.2
end
inductive PT where
 | done
 | fl (i : Nat) (t : PT)
 | one (i : Nat) (t : PT)
 | two (i : Nat) (t : PT) (j : Nat) (u : PT)
def PT.len : PT → Nat
 | .done => 0
 | .fl _ t => t.len + 1
 | .one _ t => t.len + 1
 | .two _ t _ _ => t.len + 1
def PT.isDone : PT → Bool
 | .done => true
 | _ => false
def Gj (ops : Array Oper) (z : Nat) : PT → Array Bool → Bool
 | .done, L => (Region.ready .any ops L).isEmpty
 | .fl i t, L => ((Region.ready .any ops L).contains i && Region.free .any ops L i && Ik .any ops z i) && Gj ops z t (L.setIfInBounds i true)
 | .one i t, L => Region.ready .any ops L == [i] && (i != z || t.isDone) && Gj ops z t (L.setIfInBounds i true)
 | .two i t j u, L => Region.ready .any ops L == [i, j] && (t.len == u.len) && (i != z && j != z) && Gj ops z t (L.setIfInBounds i true) && Gj ops z u (L.setIfInBounds j true)
/-- one operation that is no float -/
def Gn (P : Program) (l : List Oper) (Q : Exit → Act → World → Prop) (i : Nat) (K : Act → World → Prop) (a : Act) (w : World) : Prop :=
 ∃ o, DP l i = some o ∧ if Region.wanted o (yielded l.toArray a.tmps) = true then o.wp P a w K Q else K (a.put o.dst undef) w
def Ez (P : Program) (l : List Oper) (Q : Exit → Act → World → Prop) (S : World → Prop) (z : Nat) : PT → Act → World → Prop
 | .done, a, w => Q .normal a w
 | .fl i t, a, w => ∃ o, DP l i = some o ∧
  if Region.wanted o (yielded l.toArray a.tmps) = true then ∃ v, (∀ w', S w' → (execOp a.eval o).run P w' = .ok (.value v) w') ∧ Ez P l Q S z t (a.put o.dst v) w
  else Ez P l Q S z t (a.put o.dst undef) w
 | .one i t, a, w => Gn P l Q i (fun a' w' => (i ≠ z → S w') ∧ Ez P l Q S z t a' w') a w
 | .two i t j u, a, w => Gn P l Q i (fun a' w' => (i ≠ z → S w') ∧ Ez P l Q S z t a' w') a w ∧ Gn P l Q j (fun a' w' => (j ≠ z → S w') ∧ Ez P l Q S z u a' w') a w
section
variable {P : Program} {l : List Oper} {Q : Exit → Act → World → Prop} {S : World → Prop} {a : Act} {w : World}
variable {z : Nat}
theorem Hz {i : Nat} {K K' : Act → World → Prop} (h : Gn P l Q i K a w) (hK : ∀ a w, K a w → K' a w) : wpOp P l.toArray Q i K' a w := by
 obtain ⟨o, ho, h⟩ := h
 have hi : l.toArray[i]? = some o := by rw [GI] at ho; simpa using ho
 unfold wpOp
 simp only [hi]
 by_cases hw : Region.wanted o (yielded l.toArray a.tmps) = true
 ·
  simp only [hw, if_true] at h ⊢
  exact .inl (Oper.wp_mono (fun a' w' h' => hK _ _ h') h)
 ·
  have hw' : Region.wanted o (yielded l.toArray a.tmps) = false := by simpa using hw
  simp only [hw', Bool.false_eq_true, if_false] at h ⊢
  exact hK _ _ h
theorem FU {i : Nat} {oi : Oper} {v : Value} {n : Nat} {L : Array Bool} (hi : l.toArray[i]? = some oi) (hs : Region.noSelect l.toArray = true)
  (hf : Region.free .any l.toArray L i = true) (hr : (Region.ready .any l.toArray L).contains i = true) (hz : Ik .any l.toArray z i = true) (Be : Hq .any l.toArray L)
  (hQ : ∀ c a w, Q (.panic c) (a.put oi.dst v) w → Q (.panic c) a w) (hy : YieldsIf P l.toArray S oi v a) (hS : S w)
  (h : Fq P .any l.toArray Q S z n (L.setIfInBounds i true) (a.put oi.dst v) w) : Fq P .any l.toArray Q S z (n + 1) L a w :=
 Ij hi (Region.noSelect_spec hs) hQ hz n L a w (Region.free_spec hi hf) (by simpa using hr) Be hy hS h
theorem Er (El : Region.noSelect l.toArray = true) (hQ : ∀ (c : _) (a : Act) (d : Option Tmp) (v : Value) (w : World), Q (.panic c) (a.put d v) w → Q (.panic c) a w) :
  ∀ (t : PT) (L : Array Bool) (a : Act) (w : World), Gj l.toArray z t L = true → Hq .any l.toArray L → (t.isDone = false → S w) → Ez P l Q S z t a w → Fq P .any l.toArray Q S z t.len L a w
 | .done, L, a, w, hB, _, _, h => by
  simp only [Gj, List.isEmpty_iff] at hB
  exact ⟨hB, h⟩
 | .fl i t, L, a, w, hB, Be, hS, h => by
  obtain ⟨o, ho, h⟩ := h
  have hi : l.toArray[i]? = some o := by rw [GI] at ho; simpa using ho
  simp only [Gj, Bool.and_eq_true] at hB
  obtain ⟨⟨⟨Nb, dZ⟩, aS⟩, RE⟩ := hB
  have Zc : S w := hS rfl
  have hcl' := Ei Be (j := i) (by simpa using Nb)
  by_cases hw : Region.wanted o (yielded l.toArray a.tmps) = true
  ·
   simp only [hw, if_true] at h
   obtain ⟨v, hv, h⟩ := h
   exact FU hi El dZ Nb aS Be (fun c a w => hQ c a _ _ w) (.inl ⟨hw, hv⟩) Zc (Er El hQ t _ _ w RE hcl' (fun _ => Zc) h)
  ·
   have hw' : Region.wanted o (yielded l.toArray a.tmps) = false := by simpa using hw
   simp only [hw', Bool.false_eq_true, if_false] at h
   exact FU hi El dZ Nb aS Be (fun c a w => hQ c a _ _ w) (.inr ⟨hw', rfl⟩) Zc (Er El hQ t _ _ w RE hcl' (fun _ => Zc) h)
 | .one i t, L, a, w, hB, Be, hS, h => by
  simp only [Gj, Bool.and_eq_true, beq_iff_eq, Bool.or_eq_true, bne_iff_ne] at hB
  obtain ⟨⟨hr, hd⟩, h2⟩ := hB
  refine ⟨(fun e => by rw [hr] at e; cases e), fun k hk => ?_⟩
  rw [hr] at hk
  obtain rfl : k = i := by simpa using hk
  exact Hz h fun a w h => ⟨h.1, Er El hQ t _ a w h2 (Ei Be (by rw [hr]; simp)) (fun e => h.1 (hd.resolve_right (by rw [e]; simp))) h.2⟩
 | .two i t j u, L, a, w, hB, Be, hS, h => by
  simp only [Gj, Bool.and_eq_true, beq_iff_eq, bne_iff_ne] at hB
  obtain ⟨⟨⟨⟨hr, hl⟩, qU, qS⟩, h1⟩, h2⟩ := hB
  refine ⟨(fun e => by rw [hr] at e; cases e), fun k hk => ?_⟩
  rw [hr] at hk
  rcases List.mem_cons.1 hk with rfl | hk
  · exact Hz h.1 fun a w h => ⟨h.1, Er El hQ t _ a w h1 (Ei Be (by rw [hr]; simp)) (fun e => h.1 qU) h.2⟩
  ·
   obtain rfl : k = j := by simpa using hk
   rw [hl]
   exact Hz h.2 fun a w h => ⟨h.1, Er El hQ u _ a w h2 (Ei Be (by rw [hr]; simp)) (fun e => h.1 qS) h.2⟩
theorem LK {ops : Array Oper} {n : Nat} : Hq .any ops (Array.replicate n false) := by
 intro j oj _ h
 rw [Array.getD_eq_getD_getElem?, Array.getElem?_replicate] at h
 split at h <;> simp at h
theorem Ha {id : Nat} (S : World → Prop) (z : Nat) (t : PT) (hm : P.follows .mixedOrders = true) (El : Region.noSelect l.toArray = true) (hn : t.len = l.length)
  (hB : Gj l.toArray z t (Array.replicate l.length false) = true) (hS : S w.drew) (h : Ez P l (NoPanic Q) S z t a w.drew) : (Code.region id l.toArray true).wp P Q a w := by
 refine wp_region_noPanic (wp_region_any hm ?_)
 have := G7 _ _ _ _ (Er (P := P) (l := l) (Q := NoPanic Q) (S := S) (z := z) El (fun c a d v w h => h) t (Array.replicate l.length false) a w.drew hB LK (fun _ => hS) h)
 rw [hn] at this
 simpa using this
theorem Aw (h : Q .normal a w) : Ez P l Q S z .done a w := h
theorem fX {i : Nat} {t : PT} {d : Option Tmp} {op : Op} {tt : TypeId} {ps : String} {af : Array Edge} (v : Value) (ho : DP l i = some ⟨d, op, tt, ps, af, none⟩)
  (hv : ∀ w', S w' → (execOp a.eval ⟨d, op, tt, ps, af, none⟩).run P w' = .ok (.value v) w') (h : Ez P l Q S z t (a.put d v) w) : Ez P l Q S z (.fl i t) a w :=
 ⟨_, ho, by rw [if_pos (FW rfl)]; exact ⟨v, hv, h⟩⟩
theorem fW {i : Nat} {t : PT} {d : Option Tmp} {op : Op} {tt : TypeId} {ps : String} {af : Array Edge} {j : Nat} {b : Bool} {oj : Oper} {k : Tmp} (v : Value) (ho : DP l i = some ⟨d, op, tt, ps, af, some (j, b)⟩)
  (hj : DP l j = some oj) (hd : oj.dst = some k) (hb : a.tmps.getD k undef = .bool b)
  (hv : ∀ w', S w' → (execOp a.eval ⟨d, op, tt, ps, af, some (j, b)⟩).run P w' = .ok (.value v) w') (h : Ez P l Q S z t (a.put d v) w) : Ez P l Q S z (.fl i t) a w :=
 ⟨_, ho, by rw [if_pos (by rw [D0 rfl hj hd hb]; simp)]; exact ⟨v, hv, h⟩⟩
theorem fV {i : Nat} {t : PT} {d : Option Tmp} {op : Op} {tt : TypeId} {ps : String} {af : Array Edge} {j : Nat} {b : Bool} {oj : Oper} {k : Tmp} (ho : DP l i = some ⟨d, op, tt, ps, af, some (j, b)⟩)
  (hj : DP l j = some oj) (hd : oj.dst = some k) (hb : a.tmps.getD k undef = .bool (!b)) (h : Ez P l Q S z t (a.put d undef) w) : Ez P l Q S z (.fl i t) a w :=
 ⟨_, ho, by rw [if_neg (by rw [D0 rfl hj hd hb]; simp)]; exact h⟩
theorem A7 {i : Nat} {K : Act → World → Prop} {d : Option Tmp} {op : Op} {tt : TypeId} {ps : String} {af : Array Edge} (ho : DP l i = some ⟨d, op, tt, ps, af, none⟩)
  (h : Oper.wp P ⟨d, op, tt, ps, af, none⟩ a w K Q) : Gn P l Q i K a w := ⟨_, ho, by rw [if_pos (FW rfl)]; exact h⟩
theorem Wb {i : Nat} {K : Act → World → Prop} {d : Option Tmp} {op : Op} {tt : TypeId} {ps : String} {af : Array Edge} {j : Nat} {b : Bool} {oj : Oper} {k : Tmp} (ho : DP l i = some ⟨d, op, tt, ps, af, some (j, b)⟩)
  (hj : DP l j = some oj) (hd : oj.dst = some k) (hb : a.tmps.getD k undef = .bool b)
  (h : Oper.wp P ⟨d, op, tt, ps, af, some (j, b)⟩ a w K Q) : Gn P l Q i K a w := ⟨_, ho, by rw [if_pos (by rw [D0 rfl hj hd hb]; simp)]; exact h⟩
theorem Al {i : Nat} {t : PT} (h : ∀ K : Act → World → Prop, (∀ a w, (i ≠ z → S w) ∧ Ez P l Q S z t a w → K a w) → Gn P l Q i K a w) : Ez P l Q S z (.one i t) a w := h _ fun _ _ h => h
theorem FB {i j : Nat} {t u : PT} (h1 : ∀ K : Act → World → Prop, (∀ a w, (i ≠ z → S w) ∧ Ez P l Q S z t a w → K a w) → Gn P l Q i K a w)
  (h2 : ∀ K : Act → World → Prop, (∀ a w, (j ≠ z → S w) ∧ Ez P l Q S z u a w → K a w) → Gn P l Q j K a w) : Ez P l Q S z (.two i t j u) a w := ⟨h1 _ fun _ _ h => h, h2 _ fun _ _ h => h⟩
end
end
section
theorem CT (b o j : Nat) : (⟨b, o, none⟩ : Addr).add j = ⟨b, o + j, none⟩ := by unfold Addr.add; split <;> simp_all
section
variable {P : Program} {ops : Array Oper} {rest : List Oper} {d : Option Tmp} {tt : TypeId} {ps : String} {af : Array Edge} {a : Act} {w : World} {Q : Exit → Act → World → Prop}
theorem H5 (w : World) (base : Nat) (t ty e : TypeId) (z : Value) (size bytes : Nat) (ht : P.underlying t = some (.slice e)) (hi : (P.info? e).map (fun i => (i.zero, i.size, i.bytes)) = some (some z, size, bytes))
  (ZV : z.cells.size = size) (If : 0 < size)
  (v : Value) (n : Nat) (xs : List Value) (Ah : w.ownsRow base e size v n xs)
  (A : Option Addr) (m c : Nat) (news : List Value) (hl : news.length = m * size) (hr : BJ w A news) (h1 : ∀ u ∈ news, u.oneCell' = true)
  (aT : n + m ≤ maxLen) (Jg : (n + m) * bytes ≤ 140737488355328) (Na : base ≤ w.heap.size) :
  ∃ v' w', (Builtin.append_ #[t, t] ty #[v, .slice A m c]).run P w = .ok v' w' ∧ w'.ownsRow base e size v' (n + m) (xs ++ news) ∧ w.grownBy w' v.ownBlock ∧
   (v'.ownBlock = v.ownBlock ∨ v'.ownBlock = some w.heap.size) := by
 cases hq : P.info? e with
 | none => simp [hq] at hi
 | some i =>
  have Pp : i.zero = some z ∧ i.size = size ∧ i.bytes = bytes := by simpa [hq] using hi
  obtain ⟨hz, TF, aO⟩ := Pp
  cases A with
  | none =>
   have hn : news = [] := by
    cases news with
    | nil => rfl
    | cons x l =>
     obtain ⟨b, o, hc, _⟩ := hr 0 (by simp)
     cases hc
   subst hn
   have hm : m = 0 := by
    rcases Nat.eq_zero_or_pos m with h0 | h0
    · exact h0
    ·
     have := Nat.mul_pos h0 If
     simp at hl
     omega
   subst hm
   have Df : (Builtin.append_ #[t, t] ty #[v, .slice none 0 c]).run P w = .ok v w := by
    rcases Ah.2 with ⟨rfl, rfl⟩ | ⟨g, cap, cur, rfl, _, _, pW, _⟩
    · simp [Builtin.append_, run_underlying ht, sizeOf, typeInfo, hq, Builtin.lenOf, Builtin.firstCells]
    · simp [Builtin.append_, run_underlying ht, sizeOf, typeInfo, hq, Builtin.lenOf, Builtin.firstCells, pW, storeCells]
   exact ⟨v, w, Df, by simpa using Ah, ⟨rfl, rfl, rfl, Nat.le_refl _, fun _ _ _ => rfl⟩, .inl rfl⟩
  | some ad =>
   have dK : ∀ j u, news[j]? = some u → w.cell? (ad.add j) = some u := by
    intro j u hu
    have hj : j < news.length := by
     rw [List.getElem?_eq_some_iff] at hu
     exact hu.1
    obtain ⟨b, o, he, hc⟩ := hr j hj
    injection he with he
    subst he
    rw [CT, hc, hu]
   obtain ⟨v', w', Df, h2, h3, _, h5⟩ := run_append_own_at (P := P) w base t ty e i z size bytes ht hq hz TF aO ZV If v n xs Ah ad m c news hl dK h1 aT Jg Na
   exact ⟨v', w', Df, h2, h3, h5⟩
theorem BX (t e : TypeId) (s x : Operand) (base : Nat) (z : Value) (size bytes : Nat) (v : Value) (n : Nat) (xs : List Value) (A : Option Addr) (m c : Nat) (news : List Value)
  (hs : a.eval s = v) (hx : a.eval x = .slice A m c)
  (ht : P.underlying t = some (.slice e)) (hi : (P.info? e).map (fun i => (i.zero, i.size, i.bytes)) = some (some z, size, bytes))
  (ZV : z.cells.size = size) (If : 0 < size)
  (Ah : w.ownsRow base e size v n xs) (hl : news.length = m * size) (hr : BJ w A news) (h1 : ∀ u ∈ news, u.oneCell' = true)
  (aT : n + m ≤ maxLen) (Jg : (n + m) * bytes ≤ 140737488355328) (Na : base ≤ w.heap.size)
  (h : ∀ v' w', w'.ownsRow base e size v' (n + m) (xs ++ news) → w.grownBy w' v.ownBlock → (v'.ownBlock = v.ownBlock ∨ v'.ownBlock = some w.heap.size) → Below base w w' → wpList P ops Q rest (a.put d v') w') :
  wpList P ops Q (⟨d, .call { callee := .builtin .append, args := #[s, x], argTypes := #[t, t] }, tt, ps, af, none⟩ :: rest) a w :=
 wpList_plain rfl fun _ hK => by
  obtain ⟨v', w', Df, h2, h3, h4⟩ := H5 (P := P) w base t tt e z size bytes ht hi ZV If v n xs Ah A m c news hl hr h1 aT Jg Na
  unfold Oper.wp execOp
  simp only [resolve, invoke, builtin, Sem.run_bind, Sem.run_pure, Result.andThen_ok, List.map_toArray, List.map_cons, List.map_nil, hs, hx, Df]
  exact hK _ _ (h v' w' h2 h3 h4 ((Below.refl base w).grown h3 Na fun k hk => (Ah.lt k hk).1))
end
theorem Et {w : World} {base e size n : Nat} {v : Value} {xs : List Value} (h : w.ownsRow base e size v n xs) : ∃ A c, v = .slice A n c ∧ BJ w A xs ∧ n ≤ c ∧ c ≤ maxLen := by
 have h' := h
 rcases h.2 with ⟨rfl, rfl⟩ | ⟨g, cap, cur, rfl, hb, hg, pW, aL, _⟩
 ·
  refine ⟨none, 0, rfl, fun j hj => ?_, Nat.le_refl _, by simp [maxLen]⟩
  have := h.1
  omega
 ·
  refine ⟨some ⟨g, 0, none⟩, cap, rfl, fun j hj => ⟨g, 0, rfl, ?_⟩, pW, aL⟩
  have := h'.cells (g := g) rfl j _ (List.getElem?_eq_getElem hj)
  rw [CT] at this
  rw [this, List.getElem?_eq_getElem hj]
theorem Bh {w w' : World} {base e size n : Nat} {v : Value} {xs : List Value} (h : w.ownsRow base e size v n xs) (hb : Below w.heap.size w w') : w'.ownsRow base e size v n xs :=
 h.kept (row := none) ⟨hb.os, hb.tape, hb.output, hb.size, fun k hk _ => hb.block k hk⟩ (by
  cases v.ownBlock with
  | none => exact .inl rfl
  | some k => exact .inr (by simp))
end
section
open Go.ChangeShapes Go.WideShapes Go.ChangeAt Go.Deep
def mF (u : Value) : Prop := ∃ n, u = .int .i64 n ∧ (Lit.int .i64 n).wf = true
section
variable {H : Type} {enc : TypeId × Value → H} {P : Program} {w : World} {base : Nat} {spare : Nat → Bool} {held : Bool}
end
end
section
section
variable {P : Program} {ops : Array Oper} {rest : List Oper} {d : Option Tmp} {tt : TypeId} {ps : String} {af : Array Edge} {a : Act} {w : World} {Q : Exit → Act → World → Prop}
end
section
variable {P : Program} {ops : Array Oper} {rest : List Oper} {d : Option Tmp} {tt : TypeId} {ps : String} {af : Array Edge} {a : Act} {w : World} {Q : Exit → Act → World → Prop}
def Tj (P : Program) (ty : TypeId) : Bool := match P.underlying ty with | some (.struct _) => true | some (.array _ _) => true | _ => false
theorem Fr {op : Op} (v : Value) (hv : (execOp a.eval ⟨d, op, tt, ps, af, none⟩).run P w = .ok (.value v) w) (h : wpList P ops Q rest (a.put d v) w) : wpList P ops Q (⟨d, op, tt, ps, af, none⟩ :: rest) a w :=
 wpList_plain rfl fun _ hK => by
  unfold Oper.wp
  rw [hv]
  exact hK _ _ h
theorem fH {o : Oper} (hw : Region.wanted o (yielded ops a.tmps) = false) (h : wpList P ops Q rest (a.put o.dst undef) w) : wpList P ops Q (o :: rest) a w := by
 unfold wpList
 rw [if_neg (by rw [hw]; simp)]
 exact h
theorem A8 {c : Call} (f : FuncId) (args : Array Value) (R : Ending → World → Prop) (hR : Calls P f args w R) (hc : (execOp a.eval ⟨d, .call c, tt, ps, af, none⟩).run P w = .ok (.enter f args) w)
  (h : ∀ e w', R e w' → ∃ v, e = .returned v ∧ wpList P ops Q rest (a.put d v) w') : wpList P ops Q (⟨d, .call c, tt, ps, af, none⟩ :: rest) a w :=
 wpList_plain rfl fun _ hK => by
  unfold Oper.wp
  rw [hc]
  refine hR.mono fun e w' he => ?_
  obtain ⟨v, rfl, h'⟩ := h e w' he
  exact hK _ _ h'
theorem AP (ty : TypeId) (x y : Operand) (g off : Nat) (t : TypeId) (v : Value) (old : Array Value) (hx : a.eval x = .pointer (some ⟨g, off, none⟩)) (hy : a.eval y = v)
  (hg : Ad w g t old) (hi : (P.info? ty).map (·.size) = some v.cells.size) (K8 : off + v.cells.size ≤ old.size) (h1 : v.cells.all (·.oneCell') = true)
  (h : ∀ w', (∀ B, B ≤ g → Below B w w') → (∀ g', g' ≠ g → w'.heap[g']? = w.heap[g']?) → Ad w' g t (C3 old off v.cells.toList) → wpList P ops Q rest (a.put d undef) w') :
  wpList P ops Q (⟨d, .store ty x y, tt, ps, af, none⟩ :: rest) a w :=
 wpList_plain rfl fun _ hK => by
  have ht : w.there g off v.cells.size := fun j hj => ⟨by rw [hg.cell, Array.getElem?_eq_getElem (by omega)]; rfl, hg.frozen _⟩
  have Df : (storeVar ty ⟨g, off, none⟩ v).run P w = .ok () (w.setCells g off v.cells.toList) := run_storeVar_mid w g off ty v.cells ht hi h1
  unfold Oper.wp execOp
  simp only [hx, hy, Instr.storeAt, Instr.sureAddr, Sem.run_bind, Sem.run_pure, Result.andThen_ok, Df]
  exact hK _ _ (h _ (fun B hB => FE hB _ _ _ (Below.refl _ _)) (fun g' dH => FC dH _ _ _) (Ad.setCells _ _ _ _ hg))
end
def O9 (v u : Value) : Prop := v.ownBlock = none ∨ v.ownBlock ≠ u.ownBlock
section
variable {w w' : World} {base e size n : Nat} {v : Value} {xs : List Value}
theorem D9 (h : w.ownsRow base e size v n xs) (hk : ∀ k, v.ownBlock = some k → w'.heap[k]? = w.heap[k]?) : w'.ownsRow base e size v n xs := by
 refine ⟨h.1, ?_⟩
 rcases h.2 with h2 | ⟨g, cap, cur, rfl, hb, hg, gR⟩
 · exact .inl h2
 · exact .inr ⟨g, cap, cur, rfl, hb, (hk g rfl).trans hg, gR⟩
theorem O9.next {u u' : Value} (ha : O9 v u) (h : w.ownsRow base e size v n xs) (hu : u'.ownBlock = u.ownBlock ∨ u'.ownBlock = some w.heap.size) : O9 v u' := by
 rcases hu with hu | hu
 · unfold O9; rw [hu]; exact ha
 ·
  cases hv : v.ownBlock with
  | none => exact .inl hv
  | some k => exact .inr (by have := (h.lt k hv).2; rw [hu, hv]; intro e; injection e with e; omega)
theorem O9.nil (v : Value) : O9 (.slice none 0 0) v := .inl rfl
end
section
variable {w : World} {P : Program} {ops : Array Oper} {rest : List Oper} {d : Option Tmp} {tt : TypeId} {ps : String} {af : Array Edge} {a : Act} {Q : Exit → Act → World → Prop}
theorem BJ.range {A : Option Addr} {xs : List Value} (h : BJ w A xs) {b o : Nat} (e : A = some ⟨b, o, none⟩) (j k : Nat) (hj : j + k ≤ xs.length) : w.rangeAt b (o + j) ((xs.drop j).take k) := by
 intro i v hv
 have hi : i < k := by
  have := (List.getElem?_eq_some_iff.1 hv).1
  simp at this; omega
 rw [List.getElem?_take, if_pos hi, List.getElem?_drop] at hv
 obtain ⟨b', o', e', hc⟩ := h (j + i) (by omega)
 rw [e] at e'
 injection e' with e'
 injection e' with e1 e2
 subst e1 e2
 rw [Nat.add_assoc, hc, hv]
theorem BJ.ints_range {A : Option Addr} {L : List Int} (h : BJ w A (L.map (Value.int .i64))) {b o : Nat} (e : A = some ⟨b, o, none⟩) (j k : Nat) (hj : j + k ≤ L.length) : w.rangeAt b (o + j) (((L.drop j).take k).map (Value.int .i64)) := by
 have := h.range e j k (by simpa using hj)
 rwa [← List.map_drop, ← List.map_take] at this
end
abbrev IV (L : List Int) : List Value := L.map (Value.int .i64)
theorem Uz {a : Act} {w : World} (ty : TypeId) (x : Operand) (b o : Nat) (cs : List Value) {d : Option Tmp} {tt : TypeId} {ps : String} {af : Array Edge} {gd : Option (Nat × Bool)} {P : Program} (hx : a.eval x = .pointer (some ⟨b, o, none⟩)) (hr : w.rangeAt b o cs) (hu : Tj P ty = true) (hi : (P.info? ty).map (·.size) = some cs.length) :
  (execOp a.eval ⟨d, .load ty x, tt, ps, af, gd⟩).run P w = .ok (.value (.agg cs.toArray)) w := by
 unfold execOp
 cases hq : P.underlying ty with
 | none => simp [Tj, hq] at hu
 | some ds =>
  have hd : ds.isRow = true := by cases ds <;> simp [Tj, hq, TypeDesc.isRow] at hu ⊢
  simp only [hx, Instr.loadAt, Instr.sureAddr, Sem.run_bind, Sem.run_pure, Result.andThen_ok, run_loadVar_mid w b o ty cs ds hr hq hd hi]
theorem BQ {w w' : World} {b o : Nat} {cs : List Value} (h : w.rangeAt b o cs) (hb : Below w.heap.size w w') : w'.rangeAt b o cs := fun j v hv => (hb.cell (p := ⟨b, o + j, none⟩) (World.block_lt_of_cell? w _ (h j v hv))).trans (h j v hv)
def AV (W w : World) : Prop := Below W.heap.size W w
section
variable {P : Program} {d : Option Tmp} {tt : TypeId} {ps : String} {af : Array Edge} {a : Act} {w : World} {K : Act → World → Prop} {Q : Exit → Act → World → Prop}
theorem BA (t e : TypeId) (s x : Operand) (base : Nat) (z : Value) (size bytes : Nat) (v : Value) (n : Nat) (xs : List Value) (A : Option Addr) (m c : Nat) (news : List Value)
  (hs : a.eval s = v) (hx : a.eval x = .slice A m c)
  (ht : P.underlying t = some (.slice e)) (hi : (P.info? e).map (fun i => (i.zero, i.size, i.bytes)) = some (some z, size, bytes))
  (ZV : z.cells.size = size) (If : 0 < size)
  (Ah : w.ownsRow base e size v n xs) (hl : news.length = m * size) (hr : BJ w A news) (h1 : ∀ u ∈ news, u.oneCell' = true)
  (aT : n + m ≤ maxLen) (Jg : (n + m) * bytes ≤ 140737488355328) (Na : base ≤ w.heap.size)
  (h : ∀ v' w', w'.ownsRow base e size v' (n + m) (xs ++ news) → w.grownBy w' v.ownBlock → (v'.ownBlock = v.ownBlock ∨ v'.ownBlock = some w.heap.size) → Below base w w' → K (a.put d v') w') :
  Oper.wp P ⟨d, .call { callee := .builtin .append, args := #[s, x], argTypes := #[t, t] }, tt, ps, af, none⟩ a w K Q := by
 obtain ⟨v', w', Df, h2, h3, h4⟩ := H5 (P := P) w base t tt e z size bytes ht hi ZV If v n xs Ah A m c news hl hr h1 aT Jg Na
 unfold Oper.wp execOp
 simp only [resolve, invoke, builtin, Sem.run_bind, Sem.run_pure, Result.andThen_ok, List.map_toArray, List.map_cons, List.map_nil, hs, hx, Df]
 exact h v' w' h2 h3 h4 ((Below.refl base w).grown h3 Na fun k hk => (Ah.lt k hk).1)
theorem AX (ty : TypeId) (x y : Operand) (g off : Nat) (t : TypeId) (v : Value) (old : Array Value) (hx : a.eval x = .pointer (some ⟨g, off, none⟩)) (hy : a.eval y = v)
  (hg : Ad w g t old) (hi : (P.info? ty).map (·.size) = some v.cells.size) (K8 : off + v.cells.size ≤ old.size) (h1 : v.cells.all (·.oneCell') = true)
  (h : ∀ w', (∀ B, B ≤ g → Below B w w') → (∀ g', g' ≠ g → w'.heap[g']? = w.heap[g']?) → Ad w' g t (C3 old off v.cells.toList) → K (a.put d undef) w') :
  Oper.wp P ⟨d, .store ty x y, tt, ps, af, none⟩ a w K Q := by
 have ht : w.there g off v.cells.size := fun j hj => ⟨by rw [hg.cell, Array.getElem?_eq_getElem (by omega)]; rfl, hg.frozen _⟩
 have Df : (storeVar ty ⟨g, off, none⟩ v).run P w = .ok () (w.setCells g off v.cells.toList) := run_storeVar_mid w g off ty v.cells ht hi h1
 unfold Oper.wp execOp
 simp only [hx, hy, Instr.storeAt, Instr.sureAddr, Sem.run_bind, Sem.run_pure, Result.andThen_ok, Df]
 exact h _ (fun B hB => FE hB _ _ _ (Below.refl _ _)) (fun g' dH => FC dH _ _ _) (Ad.setCells _ _ _ _ hg)
end
section
variable {P : Program} {d : Option Tmp} {tt : TypeId} {ps : String} {af : Array Edge} {a : Act} {w : World} {K : Act → World → Prop} {Q : Exit → Act → World → Prop}
theorem D8 (e : TypeId) (Z : Array Value) (hz : (P.info? e).map (·.zero) = some (some (.agg Z)))
  (h : ∀ w' g, w.heap.size ≤ g → Below w.heap.size w w' → Ad w' g e Z → K (a.put d (.pointer (some ⟨g, 0, none⟩))) w') :
  Oper.wp P ⟨d, .alloc e, tt, ps, af, none⟩ a w K Q := by
 unfold Oper.wp execOp
 cases hq : P.info? e with
 | none => simp [hq] at hz
 | some i =>
  have hz' : i.zero = some (.agg Z) := by simpa [hq] using hz
  simp only [Instr.alloc, zeroValue, typeInfo, program, newVar, newRow, newObj, Value.cells, Sem.run, Sem.run_bind, Sem.run_pure, Result.andThen_ok, hq, hz']
  exact h (w.alloc (.cells Z e)) w.heap.size (Nat.le_refl _) ((Below.refl _ _).alloc (Nat.le_refl _) _) (heap_alloc_new w _)
end
section
variable {P : Program} {d : Option Tmp} {tt : TypeId} {ps : String} {af : Array Edge} {a : Act} {w : World} {K : Act → World → Prop} {Q : Exit → Act → World → Prop}
theorem CW (ty : TypeId) (x y : Operand) (g : Nat) (t : TypeId) (cells old : Array Value) (hx : a.eval x = .pointer (some ⟨g, 0, none⟩)) (hy : a.eval y = .agg cells)
  (hg : Ad w g t old) (hi : (P.info? ty).map (·.size) = some cells.size) (K8 : old.size = cells.size) (h1 : cells.all (·.oneCell') = true)
  (h : ∀ w', (∀ B, B ≤ g → Below B w w') → (∀ g', g' ≠ g → w'.heap[g']? = w.heap[g']?) → Ad w' g t cells → K (a.put d undef) w') :
  Oper.wp P ⟨d, .store ty x y, tt, ps, af, none⟩ a w K Q :=
 wp_store_row ty x y rfl g cells hx hy t old hg hi K8 h1
  (h _ (fun B hB => ⟨rfl, rfl, rfl, by simp, fun k hk => setRow_other w g k _ (by omega)⟩) (fun g' dH => setRow_other w g g' _ (by omega)) (setRow_heap w g old cells t (0, 0) hg))
end
section
variable {P : Program} {d : Option Tmp} {tt : TypeId} {ps : String} {af : Array Edge} {a : Act} {w : World} {K : Act → World → Prop} {Q : Exit → Act → World → Prop}
end
end
section
section
variable {P : Program} {a : Act} {w : World} {d : Option Tmp} {tt : TypeId} {ps : String} {af : Array Edge} {gd : Option (Nat × Bool)}
theorem C4 {x : Operand} {v : Value} (hx : a.eval x = v) : (execOp a.eval ⟨d, .move x, tt, ps, af, gd⟩).run P w = .ok (.value v) w := by subst hx; rfl
theorem GE {x : Operand} {v : Value} (hx : a.eval x = v) : (execOp a.eval ⟨d, .assign x, tt, ps, af, gd⟩).run P w = .ok (.value v) w := by subst hx; rfl
theorem WB {c x y : Operand} {b : Bool} {v : Value} (hc : a.eval c = .bool b) (hv : (if b then a.eval x else a.eval y) = v) : (execOp a.eval ⟨d, .pick c x y, tt, ps, af, gd⟩).run P w = .ok (.value v) w := by
 subst hv
 unfold execOp
 simp only [hc]
 cases b <;> rfl
theorem Am {v : Value} : a.eval (.const v) = v := rfl
theorem Ea {c x y : Operand} {v : Value} (hc : a.eval c = .bool true) (hv : a.eval x = v) : (execOp a.eval ⟨d, .pick c x y, tt, ps, af, gd⟩).run P w = .ok (.value v) w := WB hc (by simpa using hv)
theorem GD {c x y : Operand} {v : Value} (hc : a.eval c = .bool false) (hv : a.eval y = v) : (execOp a.eval ⟨d, .pick c x y, tt, ps, af, gd⟩).run P w = .ok (.value v) w := WB hc (by simpa using hv)
theorem Bs {t : TypeId} {x : Operand} {b c : Bool} (hx : a.eval x = .bool b) (hc : (!b) = c) : (execOp a.eval ⟨d, .unOp .not t x, tt, ps, af, gd⟩).run P w = .ok (.value (.bool c)) w := by
 subst hc
 unfold execOp
 simp only [hx]
 cases b <;> rfl
theorem UF {x : Operand} {i : Nat} {vs : Array Value} {v : Value} (hx : a.eval x = .tuple vs) (hv : vs[i]? = some v) : (execOp a.eval ⟨d, .extract x i, tt, ps, af, gd⟩).run P w = .ok (.value v) w := by
 unfold execOp
 simp only [hx]
 simp [Instr.extract, hv]
section
variable {x y : Operand} {m n : Int} {t t2 : TypeId}
theorem By (ht : P.underlying t = some (.int .i64)) (hx : a.eval x = .int .i64 m) (hy : a.eval y = .int .i64 n) {b : Bool} (hb : decide (m < n) = b) : (execOp a.eval ⟨d, .binOp .lss t x y t2, tt, ps, af, gd⟩).run P w = .ok (.value (.bool b)) w := by
 subst hb
 unfold execOp
 simp only [hx, hy]
 go_simp
theorem Fv (ht : P.underlying t = some (.int .i64)) (hx : a.eval x = .int .i64 m) (hy : a.eval y = .int .i64 n) {b : Bool} (hb : decide (m ≤ n) = b) : (execOp a.eval ⟨d, .binOp .leq t x y t2, tt, ps, af, gd⟩).run P w = .ok (.value (.bool b)) w := by
 subst hb
 unfold execOp
 simp only [hx, hy]
 go_simp
theorem CU (ht : P.underlying t = some (.int .i64)) (hx : a.eval x = .int .i64 m) (hy : a.eval y = .int .i64 n) {b : Bool} (hb : decide (n < m) = b) : (execOp a.eval ⟨d, .binOp .gtr t x y t2, tt, ps, af, gd⟩).run P w = .ok (.value (.bool b)) w := by
 subst hb
 unfold execOp
 simp only [hx, hy]
 go_simp
theorem CV (ht : P.underlying t = some (.int .i64)) (hx : a.eval x = .int .i64 m) (hy : a.eval y = .int .i64 n) {b : Bool} (hb : decide (n ≤ m) = b) : (execOp a.eval ⟨d, .binOp .geq t x y t2, tt, ps, af, gd⟩).run P w = .ok (.value (.bool b)) w := by
 subst hb
 unfold execOp
 simp only [hx, hy]
 go_simp
theorem A9 (ht : P.underlying t = some (.int .i64)) (hx : a.eval x = .int .i64 m) (hy : a.eval y = .int .i64 n) {b : Bool} (hb : decide (m = n) = b) : (execOp a.eval ⟨d, .binOp .eql t x y t2, tt, ps, af, gd⟩).run P w = .ok (.value (.bool b)) w := by
 subst hb
 unfold execOp
 simp only [hx, hy]
 go_simp
 by_cases e : m = n <;> simp [e]
theorem E6 (ht : P.underlying t = some (.int .i64)) (hx : a.eval x = .int .i64 m) (hy : a.eval y = .int .i64 n) {b : Bool} (hb : decide (m ≠ n) = b) : (execOp a.eval ⟨d, .binOp .neq t x y t2, tt, ps, af, gd⟩).run P w = .ok (.value (.bool b)) w := by
 subst hb
 unfold execOp
 simp only [hx, hy]
 go_simp
 by_cases e : m = n <;> simp [e]
theorem Bm (ht : P.underlying t = some (.int .i64)) (hx : a.eval x = .int .i64 m) (hy : a.eval y = .int .i64 n) {q : Int} (hq : m + n = q := by omega) (h1 : -9223372036854775808 ≤ q ∧ q ≤ 9223372036854775807 := by omega) : (execOp a.eval ⟨d, .binOp .add t x y t2, tt, ps, af, gd⟩).run P w = .ok (.value (.int .i64 q)) w := by
 subst hq
 have := IntWalk.i64_in _ h1
 unfold execOp
 simp only [hx, hy]
 go_simp
theorem Dl (ht : P.underlying t = some (.int .i64)) (hx : a.eval x = .int .i64 m) (hy : a.eval y = .int .i64 n) {q : Int} (hq : m - n = q := by omega) (h1 : -9223372036854775808 ≤ q ∧ q ≤ 9223372036854775807 := by omega) : (execOp a.eval ⟨d, .binOp .sub t x y t2, tt, ps, af, gd⟩).run P w = .ok (.value (.int .i64 q)) w := by
 subst hq
 have := IntWalk.i64_in _ h1
 unfold execOp
 simp only [hx, hy]
 go_simp
end
section
variable {x y : Operand} {m n : Bool} {t t2 : TypeId} (ht : P.underlying t = some .bool) (hx : a.eval x = .bool m) (hy : a.eval y = .bool n)
include ht hx hy
end
theorem Ba {T E : TypeId} (hT : P.underlying T = some (.slice E)) {x : Operand} {A : Option Addr} {n c : Nat} (hx : a.eval x = .slice A n c) : (execOp a.eval ⟨d, .call { callee := .builtin .len, args := #[x], argTypes := #[T] }, tt, ps, af, gd⟩).run P w = .ok (.value (.int .i64 (n : Nat))) w := by
 unfold execOp
 simp [resolve, invoke, hx, builtin, Builtin.len_, run_underlying hT, goInt]
theorem Bq {T E : TypeId} {x i : Operand} {b o n c j size : Nat} (hT : P.underlying T = some (.slice E)) (hs : (P.info? E).map (·.size) = some size) (hx : a.eval x = .slice (some ⟨b, o, none⟩) n c) (hi : a.eval i = .int .i64 (j : Nat)) (hj : j < n) {q : Nat} (hq : o + j * size = q) :
  (execOp a.eval ⟨d, .indexAddr T x i, tt, ps, af, gd⟩).run P w = .ok (.value (.pointer (some ⟨b, q, none⟩))) w := by
 subst hq
 cases cY : P.info? E with
 | none => simp [cY] at hs
 | some i0 =>
  have If : i0.size = size := by simpa [cY] using hs
  subst If
  unfold execOp
  simp only [hx, hi]
  have h1 : (0 : Int) ≤ j ∧ (j : Int) < n := by omega
  simp [Instr.indexAt, run_underlying hT, sizeOf, typeInfo, program, cY, asIntOf, hj, CT, Sem.run]
/-- field i of a struct of type T lies off cells behind its head -/
def BI (P : Program) (T : TypeId) (i off : Nat) : Prop := ∀ b o w, (Instr.fieldAt T (.pointer (some ⟨b, o, none⟩)) i).run P w = .ok (.pointer (some ⟨b, o + off, none⟩)) w
theorem Br {T : TypeId} {x : Operand} {i off b o : Nat} (hf : BI P T i off) (hx : a.eval x = .pointer (some ⟨b, o, none⟩)) {q : Nat} (hq : o + off = q) : (execOp a.eval ⟨d, .fieldAddr T x i, tt, ps, af, gd⟩).run P w = .ok (.value (.pointer (some ⟨b, q, none⟩))) w := by
 subst hq
 unfold execOp
 simp only [hx, hf b o w, Sem.run_bind, Sem.run_pure, Result.andThen_ok]
theorem Ai {t : TypeId} {ds : TypeDesc} (ht : P.underlying t = some ds) (hr : ds.isRow = false) {x : Operand} {b o : Nat} {v : Value} (hx : a.eval x = .pointer (some ⟨b, o, none⟩)) (hc : w.cell? ⟨b, o, none⟩ = some v) : (execOp a.eval ⟨d, .load t x, tt, ps, af, gd⟩).run P w = .ok (.value v) w := by
 unfold execOp
 simp only [hx]
 cases ds <;> simp [TypeDesc.isRow] at hr <;> simp [Instr.loadAt, Instr.sureAddr, loadVar, isAgg, run_underlying ht, load, Sem.run, hc]
/-- function f is there, and is entered -/
def Bu (P : Program) (f : FuncId) : Prop := ∀ args w, (callFunc f args).run P w = .ok (.enter f args) w
theorem Kt {f : FuncId} (hf : Bu P f) {ats : Array TypeId} : (execOp a.eval ⟨d, .call { callee := .value (.func f), args := #[], argTypes := ats }, tt, ps, af, gd⟩).run P w = .ok (.enter f #[]) w := by
 have he : a.eval (.func f) = .func (.func f) #[] #[] := rfl
 unfold execOp
 simp [resolve, invoke, he, Deferred.ofValue, hf _ w]
theorem Av {f : FuncId} (hf : Bu P f) {x : Operand} {vx : Value} {ats : Array TypeId} (hx : a.eval x = vx) : (execOp a.eval ⟨d, .call { callee := .value (.func f), args := #[x], argTypes := ats }, tt, ps, af, gd⟩).run P w = .ok (.enter f #[vx]) w := by
 have he : a.eval (.func f) = .func (.func f) #[] #[] := rfl
 unfold execOp
 simp [resolve, invoke, hx, he, Deferred.ofValue, hf _ w]
theorem AA {f : FuncId} (hf : Bu P f) {x y : Operand} {vx vy : Value} {ats : Array TypeId} (hx : a.eval x = vx) (hy : a.eval y = vy) : (execOp a.eval ⟨d, .call { callee := .value (.func f), args := #[x, y], argTypes := ats }, tt, ps, af, gd⟩).run P w = .ok (.enter f #[vx, vy]) w := by
 have he : a.eval (.func f) = .func (.func f) #[] #[] := rfl
 unfold execOp
 simp [resolve, invoke, hx, hy, he, Deferred.ofValue, hf _ w]
theorem EH {f : FuncId} (hf : Bu P f) {x y z : Operand} {vx vy vz : Value} {ats : Array TypeId} (hx : a.eval x = vx) (hy : a.eval y = vy) (hz : a.eval z = vz) : (execOp a.eval ⟨d, .call { callee := .value (.func f), args := #[x, y, z], argTypes := ats }, tt, ps, af, gd⟩).run P w = .ok (.enter f #[vx, vy, vz]) w := by
 have he : a.eval (.func f) = .func (.func f) #[] #[] := rfl
 unfold execOp
 simp [resolve, invoke, hx, hy, hz, he, Deferred.ofValue, hf _ w]
theorem Y4 {f : FuncId} (hf : Bu P f) {x y z u : Operand} {vx vy vz vu : Value} {ats : Array TypeId} (hx : a.eval x = vx) (hy : a.eval y = vy) (hz : a.eval z = vz) (hu : a.eval u = vu) : (execOp a.eval ⟨d, .call { callee := .value (.func f), args := #[x, y, z, u], argTypes := ats }, tt, ps, af, gd⟩).run P w = .ok (.enter f #[vx, vy, vz, vu]) w := by
 have he : a.eval (.func f) = .func (.func f) #[] #[] := rfl
 unfold execOp
 simp [resolve, invoke, hx, hy, hz, hu, he, Deferred.ofValue, hf _ w]
theorem CQ {c : Call} {K : Act → World → Prop} {Q : Exit → Act → World → Prop} (f : FuncId) (args : Array Value) (R : Ending → World → Prop) (hR : Calls P f args w R) (hc : (execOp a.eval ⟨d, .call c, tt, ps, af, gd⟩).run P w = .ok (.enter f args) w)
  (h : ∀ e w', R e w' → ∃ v, e = .returned v ∧ K (a.put d v) w') : Oper.wp P ⟨d, .call c, tt, ps, af, gd⟩ a w K Q := by
 unfold Oper.wp
 rw [hc]
 refine hR.mono fun e w' he => ?_
 obtain ⟨v, rfl, h'⟩ := h e w' he
 exact h'
end
theorem AE {p : Prop} [Decidable p] (h : p) : decide p = true := decide_eq_true h
theorem AF {p : Prop} [Decidable p] (h : ¬ p) : decide p = false := decide_eq_false h
end
section
section
variable {α : Type} (enc : α → List Int)
def J9 (L : List α) : List Int := L.flatMap enc
/-- the cells of a row of structs -/
abbrev FV (L : List α) : List Value := IV (J9 enc L)
@[simp] theorem iY : J9 enc ([] : List α) = [] := rfl
theorem G1 (x : α) (L : List α) : J9 enc (x :: L) = enc x ++ J9 enc L := by simp [J9]
theorem Rj (L M : List α) : J9 enc (L ++ M) = J9 enc L ++ J9 enc M := by simp [J9]
theorem G6 (L M : List α) : FV enc (L ++ M) = FV enc L ++ FV enc M := by simp [FV, IV, Rj]
theorem CI (L : List α) : ∀ u ∈ FV enc L, u.oneCell' = true := by
 intro u hu
 simp only [FV, IV, List.mem_map] at hu
 obtain ⟨x, _, rfl⟩ := hu
 rfl
variable {enc} {k : Nat} (hk : ∀ x, (enc x).length = k)
include hk
theorem Nf : ∀ L : List α, (J9 enc L).length = L.length * k
 | [] => by simp
 | x :: L => by rw [G1, List.length_append, hk, Nf L]; simp [Nat.add_mul]; omega
theorem Cu (L : List α) : (FV enc L).length = L.length * k := by simp only [FV, IV, List.length_map]; exact Nf hk L
theorem Ve (L : List α) (j : Nat) : J9 enc (L.take j) = (J9 enc L).take (j * k) := by
 induction L generalizing j with
 | nil => simp
 | cons x L ih =>
  cases j with
  | zero => simp
  | succ j => rw [List.take_succ_cons, G1, G1, ih, List.take_append, hk, show (j + 1) * k - k = j * k by rw [Nat.add_mul]; omega, List.take_of_length_le (l := enc x) (by rw [hk, Nat.add_mul]; omega)]
theorem Ot (L : List α) (j : Nat) : J9 enc (L.drop j) = (J9 enc L).drop (j * k) := by
 induction L generalizing j with
 | nil => simp
 | cons x L ih =>
  cases j with
  | zero => simp
  | succ j => rw [List.drop_succ_cons, G1, ih, List.drop_append, hk, show (j + 1) * k - k = j * k by rw [Nat.add_mul]; omega, show (enc x).drop ((j + 1) * k) = [] from List.drop_eq_nil_of_le (by rw [hk, Nat.add_mul]; omega), List.nil_append]
theorem Ul (L : List α) (j : Nat) : FV enc (L.take j) = (FV enc L).take (j * k) := by simp only [FV, IV, Ve hk, List.map_take]
theorem PB (L : List α) (j : Nat) : FV enc (L.drop j) = (FV enc L).drop (j * k) := by simp only [FV, IV, Ot hk, List.map_drop]
theorem Vf {L : List α} {j : Nat} (h : j < L.length) : ((J9 enc L).drop (j * k)).take k = enc L[j] := by
 rw [← Ot hk, List.drop_eq_getElem_cons h, G1, List.take_append_of_le_length (by rw [hk]; omega), List.take_of_length_le (by rw [hk]; omega)]
theorem Iy {w : World} {A : Option Addr} {L : List α} (h : BJ w A (FV enc L)) {b o : Nat} (e : A = some ⟨b, o, none⟩) {j : Nat} (hj : j < L.length) : w.rangeAt b (o + j * k) (IV (enc L[j])) := by
 have := h.ints_range e (j * k) k (by rw [Nf hk]; have : (j + 1) * k ≤ L.length * k := Nat.mul_le_mul_right _ hj; rw [Nat.add_mul] at this; omega)
 rwa [Vf hk hj] at this
theorem CK {w : World} {A : Option Addr} {L : List α} (h : BJ w A (FV enc L)) (hp : 0 < k) {j : Nat} (hj : j < L.length) : ∃ b o, A = some ⟨b, o, none⟩ ∧ w.rangeAt b (o + j * k) (IV (enc L[j])) := by
 obtain ⟨b, o, rfl, _⟩ := h 0 (by rw [Cu hk]; exact Nat.mul_pos (by omega) hp)
 exact ⟨b, o, rfl, Iy hk h rfl hj⟩
theorem BJ.take_fv {w : World} {A : Option Addr} {L : List α} (h : BJ w A (FV enc L)) (j : Nat) : BJ w A (FV enc (L.take j)) := by
 intro i hi
 rw [Ul hk] at hi ⊢
 obtain ⟨b, o, e, hc⟩ := h i (by simp at hi; simp; omega)
 exact ⟨b, o, e, by rw [hc, List.getElem?_take, if_pos (by simp at hi; omega)]⟩
end
theorem Bo {w : World} {b o : Nat} {cs : List Value} (h : w.rangeAt b o cs) (i : Nat) {v : Value} (hv : cs[i]? = some v) : w.cell? ⟨b, o + i, none⟩ = some v := h i v hv
/-- where a slice expression's row begins -/
def C6 (A : Option Addr) (c lo size : Nat) : Option Addr := if c = lo then A else A.map (·.add (lo * size))
theorem M1 {w : World} {A : Option Addr} {xs : List Value} {n c size : Nat} (hl : xs.length = n * size) (hn : n ≤ c) (h : BJ w A xs) (lo : Nat) : BJ w (C6 A c lo size) (xs.drop (lo * size)) := by
 intro i hi
 unfold C6
 by_cases e : c = lo
 ·
  have : n * size ≤ lo * size := Nat.mul_le_mul_right _ (by omega)
  simp at hi; omega
 ·
  rw [if_neg e]
  have CM : lo * size + i < xs.length := by simp at hi; omega
  obtain ⟨b, o, rfl, hc⟩ := h (lo * size + i) CM
  refine ⟨b, o + lo * size, by simp [CT], ?_⟩
  rw [List.getElem?_drop, ← hc, Nat.add_assoc]
theorem Ny {P : Program} {T E : TypeId} {A : Option Addr} {n c size lo hi : Nat} {w : World} (hT : P.underlying T = some (.slice E)) (hs : (P.info? E).map (·.size) = some size) (low MY : Option Value)
  (N5 : low = none ∧ lo = 0 ∨ low = some (.int .i64 lo)) (qK : MY = none ∧ hi = n ∨ MY = some (.int .i64 hi)) (h1 : lo ≤ hi) (h2 : hi ≤ c) :
  (Instr.slice T (.slice A n c) low MY none).run P w = .ok (.slice (C6 A c lo size) (hi - lo) (c - lo)) w := by
 cases hq : P.info? E with
 | none => simp [hq] at hs
 | some i =>
  have If : i.size = size := by simpa [hq] using hs
  have a1 : (0 : Int) ≤ hi ∧ (hi : Int) ≤ c := by omega
  have a2 : (0 : Int) ≤ lo ∧ (lo : Int) ≤ hi := by omega
  rcases N5 with ⟨rfl, rfl⟩ | rfl <;> rcases qK with ⟨rfl, rfl⟩ | rfl <;>
   simp [Instr.slice, Instr.sliceBounds, Instr.sliceBound, run_underlying hT, sizeOf, typeInfo, program, hq, If, asIntOf, h1, h2, C6, Sem.run, Sem.run_bind, Sem.run_pure, Result.andThen_ok]
end
section
section
variable {P : Program} {ops : Array Oper} {rest : List Oper} {d : Option Tmp} {tt : TypeId} {ps : String} {af : Array Edge} {a : Act} {w : World} {Q : Exit → Act → World → Prop}
theorem fG {op : Op} (v : Value) (w' : World) (hv : (execOp a.eval ⟨d, op, tt, ps, af, none⟩).run P w = .ok (.value v) w') (h : wpList P ops Q rest (a.put d v) w') : wpList P ops Q (⟨d, op, tt, ps, af, none⟩ :: rest) a w :=
 wpList_plain rfl fun _ hK => by
  unfold Oper.wp
  rw [hv]
  exact hK _ _ h
theorem Ly {op : Op} {gd : Option (Nat × Bool)} {K : Act → World → Prop} (v : Value) (w' : World) (hv : (execOp a.eval ⟨d, op, tt, ps, af, gd⟩).run P w = .ok (.value v) w') (h : K (a.put d v) w') : Oper.wp P ⟨d, op, tt, ps, af, gd⟩ a w K Q := by
 unfold Oper.wp
 rw [hv]
 exact h
theorem L5 {b : Builtin} {args : Array Operand} {ats : Array TypeId} {gd : Option (Nat × Bool)} {v : Value} {w w' : World} (vals : Array Value) (hb : args.map a.eval = vals) (hr : ∀ cs, (builtin b ats tt cs vals).run P w = .ok (.value v) w') :
  (execOp a.eval ⟨d, .call { callee := .builtin b, args := args, argTypes := ats }, tt, ps, af, gd⟩).run P w = .ok (.value v) w' := by
 subst hb
 unfold execOp
 simp only [resolve, invoke, Sem.run_bind, Sem.run_pure, Result.andThen_ok]
 exact hr _
theorem bU {b : Builtin} {x : Operand} {ats : Array TypeId} {gd : Option (Nat × Bool)} {v : Value} {w w' : World} (vx : Value) (hx : a.eval x = vx) (hr : ∀ cs, (builtin b ats tt cs #[vx]).run P w = .ok (.value v) w') :
  (execOp a.eval ⟨d, .call { callee := .builtin b, args := #[x], argTypes := ats }, tt, ps, af, gd⟩).run P w = .ok (.value v) w' := L5 _ (by simp [hx]) hr
theorem Lb {b : Builtin} {x y : Operand} {ats : Array TypeId} {gd : Option (Nat × Bool)} {v : Value} {w w' : World} (vx vy : Value) (hx : a.eval x = vx) (hy : a.eval y = vy) (hr : ∀ cs, (builtin b ats tt cs #[vx, vy]).run P w = .ok (.value v) w') :
  (execOp a.eval ⟨d, .call { callee := .builtin b, args := #[x, y], argTypes := ats }, tt, ps, af, gd⟩).run P w = .ok (.value v) w' := L5 _ (by simp [hx, hy]) hr
end
section
variable {P : Program} {ats : Array TypeId} {tt : TypeId} {vals : Array Value} {v : Value} {w w' : World}
theorem Lr (h : (Builtin.copy_ ats tt vals).run P w = .ok v w') (cs : Array Bool) : (builtin .copy ats tt cs vals).run P w = .ok (.value v) w' := by
 simp only [builtin, Sem.run_bind, Sem.run_pure, Result.andThen_ok, h]
theorem Z9 (h : (Builtin.clear_ ats tt vals).run P w = .ok v w') (cs : Array Bool) : (builtin .clear ats tt cs vals).run P w = .ok (.value v) w' := by
 simp only [builtin, Sem.run_bind, Sem.run_pure, Result.andThen_ok, h]
end
def We (cur : Array Value) (o : Nat) (vs : List Value) : Array Value := (cur.toList.take o ++ vs ++ cur.toList.drop (o + vs.length)).toArray
theorem Kh {w : World} {B g : Nat} {cur : Array Value} (h : B ≤ g) : Below B w (w.setRow g cur) := ⟨rfl, rfl, rfl, by simp, fun k hk => setRow_other w g k _ (by omega)⟩
theorem Kg {w : World} {g : Nat} {t : TypeId} {cur cur' : Array Value} (h : Ad w g t cur) : Ad (w.setRow g cur') g t cur' := setRow_heap w g cur cur' t (0, 0) h
theorem Dk {w : World} {g base : Nat} {e : TypeId} {size : Nat} (h : Ad w g e #[]) (hb : base ≤ g) : w.ownsRow base e size (.slice (some ⟨g, 0, none⟩) 0 0) 0 [] :=
 ⟨by simp, .inr ⟨g, 0, #[], rfl, hb, h, Nat.le_refl _, by simp [maxLen], by simp, by simp⟩⟩
def LZ (_ : World) : Prop := True
theorem LZ.any (w : World) : LZ w := trivial
theorem Jq {g o c lo size : Nat} (h : lo ≠ c) : C6 (some ⟨g, o, none⟩) c lo size = some ⟨g, o + lo * size, none⟩ := by
 unfold C6
 rw [if_neg (fun e => h e.symm)]
 simp [CT]
section
variable {P : Program} {ops : Array Oper} {rest : List Oper} {d : Option Tmp} {tt : TypeId} {ps : String} {af : Array Edge} {a : Act} {w : World} {Q : Exit → Act → World → Prop}
theorem bK {op : Op} (v : Value) (g : Nat) (e : TypeId) (cur cur' : Array Value) (hg : Ad w g e cur) (hv : (execOp a.eval ⟨d, op, tt, ps, af, none⟩).run P w = .ok (.value v) (w.setRow g cur'))
  (h : ∀ w', Ad w' g e cur' → (∀ B, B ≤ g → Below B w w') → (∀ g', g' ≠ g → w'.heap[g']? = w.heap[g']?) → wpList P ops Q rest (a.put d v) w') : wpList P ops Q (⟨d, op, tt, ps, af, none⟩ :: rest) a w :=
 fG v _ hv (h _ (Kg hg) (fun _ hB => Kh hB) (fun g' Fh => setRow_other w g g' _ Fh))
theorem Ka {op : Op} {gd : Option (Nat × Bool)} {K : Act → World → Prop} (v : Value) (g : Nat) (e : TypeId) (cur cur' : Array Value) (hg : Ad w g e cur) (hv : (execOp a.eval ⟨d, op, tt, ps, af, gd⟩).run P w = .ok (.value v) (w.setRow g cur'))
  (h : ∀ w', Ad w' g e cur' → (∀ B, B ≤ g → Below B w w') → (∀ g', g' ≠ g → w'.heap[g']? = w.heap[g']?) → K (a.put d v) w') : Oper.wp P ⟨d, op, tt, ps, af, gd⟩ a w K Q :=
 Ly v _ hv (h _ (Kg hg) (fun _ hB => Kh hB) (fun g' Fh => setRow_other w g g' _ Fh))
theorem BS {T E : TypeId} (hT : P.underlying T = some (.slice E)) {x : Operand} {low MY mx : Option Operand} {gd : Option (Nat × Bool)} {v : Value} (vx : Value) (vl vh vm : Option Value) (hx : a.eval x = vx) (hl : low.map a.eval = vl) (hh : MY.map a.eval = vh) (hm : mx.map a.eval = vm)
  (hr : (Instr.slice T vx vl vh vm).run P w = .ok v w) : (execOp a.eval ⟨d, .slice T x low MY mx, tt, ps, af, gd⟩).run P w = .ok (.value v) w := by
 subst hx hl hh hm
 unfold execOp
 simp only [Instr.sliceAt, Sem.run_bind, Sem.run_pure, Result.andThen_ok, run_underlying hT, hr]
end
theorem CF {P : Program} {T E : TypeId} {A A' : Option Addr} {n c size n' c' : Nat} {w : World} (lo hi : Nat) (hT : P.underlying T = some (.slice E)) (hs : (P.info? E).map (·.size) = some size) (low MY : Option Value)
  (N5 : low = none ∧ lo = 0 ∨ low = some (.int .i64 lo)) (qK : MY = none ∧ hi = n ∨ MY = some (.int .i64 hi)) (h1 : lo ≤ hi) (h2 : hi ≤ c) (hA : C6 A c lo size = A') (hn : hi - lo = n') (hc : c - lo = c') :
  (Instr.slice T (.slice A n c) low MY none).run P w = .ok (.slice A' n' c') w := by
 subst hA hn hc
 exact Ny hT hs low MY N5 qK h1 h2
end
section
/-- what a list says of slot j: its first word on it -/
def lk : List (Nat × Value) → Nat → Option Value
 | [], _ => none
 | (k, v) :: l, j => match Nat.beq k j with | true => some v | false => lk l j
/-- of the frame a of n slots the list's words are true -/
structure Kn (a : Act) (n : Nat) (l : List (Nat × Value)) : Prop where
 size : a.tmps.size = n
 defers : a.defers = []
 at_ : ∀ k v, lk l k = some v → a.tmps.getD k undef = v
section
variable {a : Act} {n : Nat} {l : List (Nat × Value)}
theorem Kn.ev (h : Kn a n l) {j : Nat} {v : Value} (hj : lk l j = some v) : a.eval (.tmp j) = v := h.at_ j v hj
theorem Kn.e (h : Kn a n l) {j : Nat} {v : Value} (hj : lk l j = some v) : a.eval (.tmp j) = v := h.at_ j v hj
theorem Kn.put (h : Kn a n l) (k : Nat) (v : Value) (hk : Nat.blt k n = true) : Kn (a.put (some k) v) n ((k, v) :: l) := by
 have hk' : k < a.tmps.size := by rw [h.size]; exact Nat.le_of_ble_eq_true hk
 refine ⟨by simp [Act.put, h.size], by simp [Act.put, h.defers], fun j u hj => ?_⟩
 unfold lk at hj
 cases hb : Nat.beq k j with
 | true =>
  rw [hb] at hj
  have e : k = j := Nat.eq_of_beq_eq_true hb
  subst e
  injection hj with hj
  subst hj
  simp [Act.put, Array.getD, hk']
 | false =>
  rw [hb] at hj
  have e : k ≠ j := Nat.ne_of_beq_eq_false hb
  have := h.at_ j u hj
  rw [← this]
  simp only [Act.put, Array.getD_eq_getD_getElem?]
  rw [Array.getElem?_setIfInBounds_ne e]
theorem Kn.sub (h : Kn a n l) {l' : List (Nat × Value)} (hs : ∀ k v, lk l' k = some v → lk l k = some v) : Kn a n l' := ⟨h.size, h.defers, fun k v hk => h.at_ k v (hs k v hk)⟩
theorem Kn.nil (h : Kn a n l) : Kn a n [] := ⟨h.size, h.defers, fun k v hk => by cases hk⟩
theorem Kn.add {l' : List (Nat × Value)} (h' : Kn a n l') (h : Kn a n l) {k : Nat} {v : Value} (hk : lk l k = some v) : Kn a n ((k, v) :: l') := ⟨h.size, h.defers, fun j u hj => by
 unfold lk at hj
 cases hb : Nat.beq k j with
 | true =>
  rw [hb] at hj
  have e : k = j := Nat.eq_of_beq_eq_true hb
  subst e
  injection hj with hj
  rw [← hj]
  exact h.at_ k v hk
 | false =>
  rw [hb] at hj
  exact h'.at_ j u hj⟩
end
/-- the words on some slots alone -/
def pick (l : List (Nat × Value)) : List Nat → List (Nat × Value)
 | [] => []
 | k :: ks => match lk l k with | some v => (k, v) :: pick l ks | none => pick l ks
theorem Kn.pick {a : Act} {n : Nat} {l : List (Nat × Value)} (h : Kn a n l) : ∀ ks, Kn a n (pick l ks)
 | [] => h.nil
 | k :: ks => by
  unfold YtbnmpoonkjlkjaaGreat.pick
  split
  ·
   rename_i v hv
   exact (Kn.pick h ks).add h hv
  · exact Kn.pick h ks
/-- the arguments of a call -/
def R3 : List Value → Nat → List (Nat × Value)
 | [], _ => []
 | v :: vs, k => (k, v) :: R3 vs (k + 1)
theorem TB : ∀ (vs : List Value) (k j : Nat) (v : Value), lk (R3 vs k) j = some v → k ≤ j ∧ vs[j - k]? = some v
 | [], _, _, _, h => by cases h
 | u :: vs, k, j, v, h => by
  unfold R3 lk at h
  cases hb : Nat.beq k j with
  | true =>
   rw [hb] at h
   have e : k = j := Nat.eq_of_beq_eq_true hb
   subst e
   simpa using h
  | false =>
   rw [hb] at h
   have e : k ≠ j := Nat.ne_of_beq_eq_false hb
   obtain ⟨h1, h2⟩ := TB vs (k + 1) j v h
   refine ⟨by omega, ?_⟩
   rw [show j - k = (j - (k + 1)) + 1 by omega, List.getElem?_cons_succ]
   exact h2
theorem Kn.args (args : Array Value) (m : Nat) : Kn { tmps := args ++ Array.replicate m undef, defers := [] } (args.size + m) (R3 args.toList 0) :=
 ⟨by simp, rfl, fun k v hk => by
  obtain ⟨_, h⟩ := TB _ _ _ _ hk
  rw [Nat.sub_zero] at h
  have hl : k < args.size := by simpa using (List.getElem?_eq_some_iff.1 h).1
  rw [Array.getD_eq_getD_getElem?, Array.getElem?_append_left hl]
  rw [Array.getElem?_toList] at h
  rw [h]; rfl⟩
theorem Az {P : Program} {f : FuncId} {fn : Func} {c : Code} {args : Array Value} {w : World} {R : Ending → World → Prop} (n : Nat) (hf : P.funcs[f]? = some fn) (hb : fn.body = some c) (hn : args.size + (fn.ntmps - args.size) = n)
  (h : ∀ a, Kn a n (R3 args.toList 0) → c.wp P (bodyPost P fn R) a w) : Calls P f args w R :=
 calls_of_wp hf hb (h _ (hn ▸ Kn.args args _))
section
variable {P : Program} {ops : Array Oper} {rest : List Oper} {a : Act} {w : World} {Q : Exit → Act → World → Prop} {n : Nat} {l : List (Nat × Value)}
theorem kl (H : Kn a n l) {k : Nat} {v : Value} (hk : Nat.blt k n = true) (h : ∀ a', Kn a' n ((k, v) :: l) → wpList P ops Q rest a' w) : wpList P ops Q rest (a.put (some k) v) w := h _ (H.put k v hk)
theorem Dz (H : Kn a n l) {v : Value} (h : ∀ a', Kn a' n l → wpList P ops Q rest a' w) : wpList P ops Q rest (a.put none v) w := h _ H
theorem kp {L : List Oper} {S : World → Prop} {π : List (Nat × Bool)} (H : Kn a n l) {k : Nat} {v : Value} (hk : Nat.blt k n = true) (h : ∀ a', Kn a' n ((k, v) :: l) → GW P L Q S π a' w) : GW P L Q S π (a.put (some k) v) w := h _ (H.put k v hk)
theorem WZ {o : Oper} {j : Nat} {b : Bool} {oj : Oper} {t : Tmp} (hg : o.guard = some (j, b)) (H : Kn a n l) (hj : DP ops.toList j = some oj) (hd : oj.dst = some t) (hv : lk l t = some (.bool b)) : Region.wanted o (yielded ops a.tmps) = true := by
 have : Region.wanted o (yielded ops.toList.toArray a.tmps) = (b == b) := D0 hg hj hd (H.at_ t _ hv)
 simpa using this
theorem ZU {o : Oper} {j : Nat} {b : Bool} {oj : Oper} {t : Tmp} (hg : o.guard = some (j, b)) (H : Kn a n l) (hj : DP ops.toList j = some oj) (hd : oj.dst = some t) (hv : lk l t = some (.bool (!b))) : Region.wanted o (yielded ops a.tmps) = false := by
 have : Region.wanted o (yielded ops.toList.toArray a.tmps) = ((!b) == b) := D0 hg hj hd (H.at_ t _ hv)
 simpa using this
theorem gD {o : Oper} {j : Nat} {b : Bool} {oj : Oper} {t : Tmp} (hg : o.guard = some (j, b)) (H : Kn a n l) (hj : DP ops.toList j = some oj) (hd : oj.dst = some t) (hv : lk l t = some undef) : Region.wanted o (yielded ops a.tmps) = false := by
 have hi : ops[j]? = some oj := by rw [GI] at hj; simpa using hj
 have hb := H.at_ t _ hv
 simp only [Region.wanted, hg, yielded, hi, Option.bind_some, hd]
 rw [Array.getD_eq_getD_getElem?] at hb
 cases hh : a.tmps[t]? with
 | none => rfl
 | some v =>
  rw [hh] at hb
  simp only [Option.getD_some] at hb
  subst hb
  rfl
theorem eT {y : Code} (h : y.wp P Q a w) : Exit.then (y.wp P Q) Q .normal a w := h
theorem cP {K : Act → World → Prop} (h : K a w) : Exit.then K Q .normal a w := h
theorem AJ {i : Nat} {K : Act → World → Prop} (h : Q (.exit i) a w) : Exit.then K Q (.exit i) a w := h
theorem bX {K : Act → World → Prop} (h : Q .ret a w) : Exit.then K Q .ret a w := h
theorem AS {i : Nat} (h : Q .ret a w) : Exit.inBlock i Q .ret a w := h
theorem AC {i : Nat} (h : Q .normal a w) : Exit.inBlock i Q .normal a w := h
theorem BD {i : Nat} (h : Q .normal a w) : Exit.inBlock i Q (.exit i) a w := by simp only [Exit.inBlock, if_true]; exact h
theorem XJ {c : Nat} {x y : Code} (H : Kn a n l) (hc : lk l c = some (.bool true)) (h : x.wp P Q a w) : (Code.cond (.tmp c) x y).wp P Q a w := wp_cond_true (H.ev hc) h
theorem XK {c : Nat} {x y : Code} (H : Kn a n l) (hc : lk l c = some (.bool false)) (h : y.wp P Q a w) : (Code.cond (.tmp c) x y).wp P Q a w := wp_cond_false (H.ev hc) h
theorem Ag {fn : Func} {R : Ending → World → Prop} {t : Tmp} {v : Value} (H : Kn a n l) (hf : fn.results = #[.tmp t]) (hv : lk l t = some v) (h : R (.returned v) w) : bodyPost P fn R .ret a w :=
 ⟨H.defers, v, by have := H.at_ t v hv; rw [Array.getD_eq_getD_getElem?] at this; simp only [results, hf]; simp [this], h⟩
theorem GJ {fn : Func} {R : Ending → World → Prop} {t u : Tmp} {v x : Value} (H : Kn a n l) (hf : fn.results = #[.tmp t, .tmp u]) (hv : lk l t = some v) (hx : lk l u = some x) (h : R (.returned (.tuple #[v, x])) w) : bodyPost P fn R .ret a w :=
 ⟨H.defers, _, by rw [results_tmp2 hf, H.at_ t v hv, H.at_ u x hx], h⟩
end
end
section
section
variable {P : Program} {ops : Array Oper} {rest : List Oper} {d : Option Tmp} {tt : TypeId} {ps : String} {af : Array Edge} {a : Act} {w : World} {Q : Exit → Act → World → Prop}
theorem BP (t : TypeId) (n : Nat) {parts : Array (Nat × Operand)} (vals : Array (Nat × Value)) (e : TypeId) (C : Array Value) (hv : (parts.map fun (i, x) => (i, a.eval x)) = vals)
  (hr : ∀ w : World, (Instr.buildSlice t n vals).run P w = .ok (.slice (some ⟨w.heap.size, 0, none⟩) n n) (w.alloc (.cells C e)))
  (h : ∀ w' b, w.heap.size ≤ b → Below w.heap.size w w' → Ad w' b e C → wpList P ops Q rest (a.put d (.slice (some ⟨b, 0, none⟩) n n)) w') : wpList P ops Q (⟨d, .buildSlice t n parts, tt, ps, af, none⟩ :: rest) a w :=
 cI t n parts e C (by rw [hv]; exact hr) h
theorem Co {gd : Option (Nat × Bool)} {K : Act → World → Prop} (t : TypeId) (n : Nat) {parts : Array (Nat × Operand)} (vals : Array (Nat × Value)) (e : TypeId) (C : Array Value) (hv : (parts.map fun (i, x) => (i, a.eval x)) = vals)
  (hr : ∀ w : World, (Instr.buildSlice t n vals).run P w = .ok (.slice (some ⟨w.heap.size, 0, none⟩) n n) (w.alloc (.cells C e)))
  (h : ∀ w' b, w.heap.size ≤ b → Below w.heap.size w w' → Ad w' b e C → K (a.put d (.slice (some ⟨b, 0, none⟩) n n)) w') : Oper.wp P ⟨d, .buildSlice t n parts, tt, ps, af, gd⟩ a w K Q := by
 have hr' : ∀ w : World, (Instr.buildSlice t n (parts.map fun (i, x) => (i, a.eval x))).run P w = .ok (.slice (some ⟨w.heap.size, 0, none⟩) n n) (w.alloc (.cells C e)) := by rw [hv]; exact hr
 unfold Oper.wp execOp
 simp only [hr', Sem.run_bind, Sem.run_pure, Result.andThen_ok]
 exact h (w.alloc (.cells C e)) w.heap.size (Nat.le_refl _) ((Below.refl _ _).alloc (Nat.le_refl _) _) (heap_alloc_new w _)
theorem kt {L : List Oper} {S : World → Prop} {z : Nat} {t : PT} {n : Nat} {l : List (Nat × Value)} (H : Kn a n l) {k : Nat} {v : Value} (hk : Nat.blt k n = true) (h : ∀ a', Kn a' n ((k, v) :: l) → Ez P L Q S z t a' w) : Ez P L Q S z t (a.put (some k) v) w := h _ (H.put k v hk)
theorem Bl {gd : Option (Nat × Bool)} {ty : TypeId} {parts : Array (Nat × Operand)} (vals : Array (Nat × Value)) (V : Value) (hv : (parts.map fun (i, x) => (i, a.eval x)) = vals) (hr : ∀ w, (Instr.build ty vals).run P w = .ok V w) :
  (execOp a.eval ⟨d, .build ty parts, tt, ps, af, gd⟩).run P w = .ok (.value V) w := by
 unfold execOp
 simp only [hv, hr, Sem.run_bind, Sem.run_pure, Result.andThen_ok]
theorem AL {gd : Option (Nat × Bool)} {ty : TypeId} {x : Operand} {b o : Nat} {cs : List Value} (hx : a.eval x = .pointer (some ⟨b, o, none⟩)) (hr : w.rangeAt b o cs) (hu : Tj P ty = true) (hi : (P.info? ty).map (·.size) = some cs.length) {C : Array Value} (hC : cs.toArray = C) :
  (execOp a.eval ⟨d, .load ty x, tt, ps, af, gd⟩).run P w = .ok (.value (.agg C)) w := by
 subst hC
 exact Uz ty x b o cs hx hr hu hi
end
end
section
section
variable {P : Program} {ops : Array Oper} {rest : List Oper} {d : Option Tmp} {tt : TypeId} {ps : String} {af : Array Edge} {gd : Option (Nat × Bool)} {a : Act} {w : World} {Q : Exit → Act → World → Prop}
theorem C2 {T E : TypeId} {x i : Operand} {b o N j size : Nat} (hT : P.underlying T = some (.array N E)) (hs : (P.info? E).map (·.size) = some size) (hx : a.eval x = .pointer (some ⟨b, o, none⟩)) (hi : a.eval i = .int .i64 (j : Nat)) (hj : j < N) {q : Nat} (hq : o + j * size = q) :
  (execOp a.eval ⟨d, .indexAddr T x i, tt, ps, af, gd⟩).run P w = .ok (.value (.pointer (some ⟨b, q, none⟩))) w := by
 subst hq
 cases cY : P.info? E with
 | none => simp [cY] at hs
 | some i0 =>
  have If : i0.size = size := by simpa [cY] using hs
  subst If
  unfold execOp
  simp only [hx, hi]
  simp [Instr.indexAt, Instr.sureAddr, run_underlying hT, sizeOf, typeInfo, program, cY, asIntOf, hj, CT, Sem.run]
theorem Tt {f : FuncId} {c : Value} (hf : Bu P f) {g x : Operand} {vx : Value} {ats : Array TypeId} (hg : a.eval g = .func (.func f) #[] #[c]) (hx : a.eval x = vx) :
  (execOp a.eval ⟨d, .call { callee := .value g, args := #[x], argTypes := ats }, tt, ps, af, gd⟩).run P w = .ok (.enter f #[vx, c]) w := by
 unfold execOp
 simp [resolve, invoke, hx, hg, Deferred.ofValue, hf _ w]
theorem Mf {f : FuncId} (hf : Bu P f) {g x : Operand} {vx : Value} {ats : Array TypeId} (hg : a.eval g = .func (.func f) #[] #[]) (hx : a.eval x = vx) :
  (execOp a.eval ⟨d, .call { callee := .value g, args := #[x], argTypes := ats }, tt, ps, af, gd⟩).run P w = .ok (.enter f #[vx]) w := by
 unfold execOp
 simp [resolve, invoke, hx, hg, Deferred.ofValue, hf _ w]
theorem Y1 {fn : Fn} {x : Operand} {vx : Value} (hx : a.eval x = vx) : (execOp a.eval ⟨d, .makeFunc fn #[] #[x], tt, ps, af, gd⟩).run P w = .ok (.value (.func fn #[] #[vx])) w := by
 subst hx
 have pZ : ∀ fn first cap w, (Instr.makeFunc fn first cap).run P w = .ok (.func fn first cap) w := fun _ _ _ _ => rfl
 unfold execOp
 simp [pZ, Sem.run_bind, Sem.run_pure, Result.andThen_ok]
theorem XH {w w' : World} {b o : Nat} {v : Value} (h : w.cell? ⟨b, o, none⟩ = some v) (hb : Below w.heap.size w w') : w'.cell? ⟨b, o, none⟩ = some v := (hb.cell (p := ⟨b, o, none⟩) (World.block_lt_of_cell? w _ h)).trans h
theorem Ar {w : World} {b : Nat} {t : TypeId} {L : List Value} (h : Ad w b t L.toArray) : w.rangeAt b 0 L := by
 intro i v hv
 rw [Nat.zero_add, h.cell]
 simpa using hv
theorem Ae {w w' : World} {b : Nat} {t : TypeId} {C : Array Value} (h : Ad w b t C) (ho : w'.heap[b]? = w.heap[b]?) : Ad w' b t C := ho.trans h
end
end
section
section
variable {α : Type} (enc : α → List Int)
/-- a slice value that reads as the row L -/
def AG (w : World) (v : Value) (L : List α) : Prop := ∃ A c, v = .slice A L.length c ∧ L.length ≤ c ∧ c ≤ maxLen ∧ (A = none → c = 0) ∧ BJ w A (FV enc L)
variable {enc} {w w' : World} {v : Value} {L M : List α}
theorem AG.up (h : AG enc w v L) (hb : Below w.heap.size w w') : AG enc w' v L := by
 obtain ⟨A, c, a1, a2, a3, a4, a5⟩ := h
 exact ⟨A, c, a1, a2, a3, a4, a5.up hb⟩
theorem AG.nil : AG enc w (.slice none 0 0) ([] : List α) := ⟨none, 0, rfl, Nat.le_refl _, by simp [maxLen], fun _ => rfl, fun j hj => by simp [FV, IV] at hj⟩
theorem AG.own {base size n : Nat} {e : TypeId} (hk : ∀ x, (enc x).length = size) (hs : 0 < size) (h : w.ownsRow base e size v n (FV enc L)) : AG enc w v L := by
 have hl := h.1
 rw [Cu hk] at hl
 obtain rfl : L.length = n := Nat.eq_of_mul_eq_mul_right hs hl
 obtain ⟨A, c, rfl, h1, h2, h3⟩ := Et h
 refine ⟨A, c, rfl, h2, h3, fun e => ?_, h1⟩
 subst e
 rcases h.2 with ⟨e, _⟩ | ⟨g, cap, cur, e, _⟩
 · injection e
 · cases e
theorem BW {A : Option Addr} {n c : Nat} (h : AG enc w (.slice A n c) L) : BJ w A (FV enc L) := by
 obtain ⟨A', c', e, _, _, _, h⟩ := h
 injection e with e1 e2 e3
 subst e1
 exact h
theorem AG.drop {size : Nat} (hk : ∀ x, (enc x).length = size) {A : Option Addr} {c : Nat} (h : AG enc w (.slice A L.length c) L) {j : Nat} (hj : j ≤ L.length) : AG enc w (.slice (C6 A c j size) (L.length - j) (c - j)) (L.drop j) := by
 obtain ⟨A', c', e, h1, h2, h3, hh⟩ := h
 injection e with e1 e2 e3
 subst e1 e3
 refine ⟨_, _, by rw [List.length_drop], by rw [List.length_drop]; omega, by omega, fun e => ?_, by rw [PB hk]; exact M1 (Cu hk L) h1 hh j⟩
 unfold C6 at e
 split at e
 · omega
 ·
  have := h3 (by cases A <;> simp_all)
  omega
/-- a slice of memory of the call's eY that reads as the row L -/
def BN (enc : α → List Int) (e : TypeId) (size : Nat) (w : World) (base : Nat) (v : Value) (L : List α) : Prop := w.ownsRow base e size v L.length (FV enc L)
theorem BN.row {base size : Nat} {e : TypeId} (h : BN enc e size w base v L) (hk : ∀ x, (enc x).length = size) (hs : 0 < size) : AG enc w v L := AG.own hk hs h
theorem BN.up {base size : Nat} {e : TypeId} (h : BN enc e size w base v L) (hb : Below w.heap.size w w') : BN enc e size w' base v L := Bh h hb
theorem BN.nil {base size : Nat} {e : TypeId} : BN enc e size w base (.slice none 0 0) ([] : List α) := World.ownsRow_nil _ _ _ _
theorem Jc {base size n : Nat} {e : TypeId} {xs : List Value} (hk : ∀ x, (enc x).length = size) (hs : 0 < size) (h : w.ownsRow base e size v n xs) (he : xs = FV enc M) : BN enc e size w base v M := by
 subst he
 have hl := h.1
 rw [Cu hk] at hl
 obtain rfl : M.length = n := Nat.eq_of_mul_eq_mul_right hs hl
 exact h
theorem GG {base base' size n : Nat} {e : TypeId} {xs : List Value} (h : w.ownsRow base e size v n xs) (hb : base' ≤ base) : w.ownsRow base' e size v n xs := by
 obtain ⟨h1, h2 | ⟨g, cap, cur, a1, a2, a3⟩⟩ := h
 · exact ⟨h1, .inl h2⟩
 · exact ⟨h1, .inr ⟨g, cap, cur, a1, Nat.le_trans hb a2, a3⟩⟩
theorem BN.base {base base' size : Nat} {e : TypeId} (h : BN enc e size w base v L) (hb : base' ≤ base) : BN enc e size w base' v L := GG h hb
theorem BN.lt {base size : Nat} {e : TypeId} (h : BN enc e size w base v L) {q : Nat} (hq : v.ownBlock = some q) : base ≤ q ∧ q < w.heap.size := World.ownsRow.lt h q hq
theorem BN.keep {base size : Nat} {e : TypeId} (h : BN enc e size w base v L) (hk : ∀ q, v.ownBlock = some q → w'.heap[q]? = w.heap[q]?) : BN enc e size w' base v L := D9 h hk
theorem BG {b : Nat} {t : TypeId} {C : Array Value} (k : Ad w b t C) (hC : C.toList = FV enc L) : BJ w (some ⟨b, 0, none⟩) (FV enc L) := by
 intro j hj
 refine ⟨b, 0, rfl, ?_⟩
 rw [Nat.zero_add, k.cell, ← hC]
 simp
end
theorem Ad.grown {w w' : World} {g : Nat} {t : TypeId} {C : Array Value} {row : Option Nat} (h : Ad w g t C) (hg : w.grownBy w' row) (Fh : some g ≠ row) : Ad w' g t C := (hg.block g h.lt Fh).trans h
theorem Ls {w : World} {v v' : Value} {b : Nat} (h : v'.ownBlock = v.ownBlock ∨ v'.ownBlock = some w.heap.size) (Fh : v.ownBlock ≠ some b) (hb : b < w.heap.size) : v'.ownBlock ≠ some b := by
 rcases h with e | e <;> rw [e]
 · exact Fh
 ·
  intro e2
  injection e2 with e2
  omega
theorem La {A : Option Addr} {c size : Nat} : C6 A c 0 size = A := by
 unfold C6
 split
 · rfl
 ·
  cases A with
  | none => rfl
  | some a => obtain ⟨b, o, s⟩ := a; simp [Addr.add]
end
section
abbrev D6 := BitVec 32
abbrev B8 := BitVec 8
abbrev u32v (x : D6) : Value := .int .u32 (x.toNat : Int)
abbrev u8v (x : B8) : Value := .int .u8 (x.toNat : Int)
theorem IG (n : Nat) : IntKind.u32.wrap (n : Int) = ((n % 4294967296 : Nat) : Int) := by
 simp [IntKind.wrap, IntKind.bits, IntKind.signed]
theorem OC (n : Nat) : IntKind.u8.wrap (n : Int) = ((n % 256 : Nat) : Int) := by
 simp [IntKind.wrap, IntKind.bits, IntKind.signed]
theorem cJ (m : D6) : BitVec.ofInt IntKind.u32.bits (m.toNat : Int) = m := by
 show BitVec.ofInt 32 (m.toNat : Int) = m
 rw [BitVec.ofInt_natCast]
 simp
theorem bJ (m : D6) : IntKind.u32.wrap (m.toNat : Int) = (m.toNat : Int) := by
 rw [IG, Nat.mod_eq_of_lt m.isLt]
theorem yU (m : B8) : BitVec.ofInt IntKind.u8.bits (m.toNat : Int) = m := by
 show BitVec.ofInt 8 (m.toNat : Int) = m
 rw [BitVec.ofInt_natCast]
 simp
theorem xZ (m : B8) : IntKind.u8.wrap (m.toNat : Int) = (m.toNat : Int) := by
 rw [OC, Nat.mod_eq_of_lt m.isLt]
theorem ZD (m n : D6) : bits .xor .u32 (m.toNat : Int) (n.toNat : Int) = ((m ^^^ n).toNat : Int) := by
 unfold bits
 simp only [cJ]
 exact bJ (m ^^^ n)
theorem mB (m n : D6) : bits .and .u32 (m.toNat : Int) (n.toNat : Int) = ((m &&& n).toNat : Int) := by
 unfold bits
 simp only [cJ]
 exact bJ (m &&& n)
theorem pA (m n : D6) : bits .or .u32 (m.toNat : Int) (n.toNat : Int) = ((m ||| n).toNat : Int) := by
 unfold bits
 simp only [cJ]
 exact bJ (m ||| n)
theorem oV (m n : B8) : bits .xor .u8 (m.toNat : Int) (n.toNat : Int) = ((m ^^^ n).toNat : Int) := by
 unfold bits
 simp only [yU]
 exact xZ (m ^^^ n)
section
variable {P : Program} {a : Act} {w : World} {d : Option Tmp} {tt : TypeId} {ps : String} {af : Array Edge} {gd : Option (Nat × Bool)} {x y : Operand} {m n : D6} {t t2 : TypeId}
theorem Dx (ht : P.underlying t = some (.int .u32)) (hx : a.eval x = u32v m) (hy : a.eval y = u32v n) : (execOp a.eval ⟨d, .binOp .xor t x y t2, tt, ps, af, gd⟩).run P w = .ok (.value (u32v (m ^^^ n))) w := by
 have h := ZD m n
 unfold execOp
 simp only [hx, hy]
 go_simp
theorem Hb (ht : P.underlying t = some (.int .u32)) (hx : a.eval x = u32v m) (hy : a.eval y = u32v n) : (execOp a.eval ⟨d, .binOp .and t x y t2, tt, ps, af, gd⟩).run P w = .ok (.value (u32v (m &&& n))) w := by
 have h := mB m n
 unfold execOp
 simp only [hx, hy]
 go_simp
theorem IR (ht : P.underlying t = some (.int .u32)) (hx : a.eval x = u32v m) (hy : a.eval y = u32v n) : (execOp a.eval ⟨d, .binOp .or t x y t2, tt, ps, af, gd⟩).run P w = .ok (.value (u32v (m ||| n))) w := by
 have h := pA m n
 unfold execOp
 simp only [hx, hy]
 go_simp
theorem Yy (ht : P.underlying t = some (.int .u32)) (hx : a.eval x = u32v m) : (execOp a.eval ⟨d, .unOp .xor t x, tt, ps, af, gd⟩).run P w = .ok (.value (u32v (~~~m))) w := by
 have h : bits .xor .u32 (4294967295 : Int) (m.toNat : Int) = ((~~~m).toNat : Int) := by
  have h1 := ZD (4294967295#32) m
  have h2 : (4294967295#32 ^^^ m) = ~~~m := by
   have e : (4294967295#32) = BitVec.allOnes 32 := by decide
   rw [e, BitVec.allOnes_xor]
  rw [h2] at h1
  exact h1
 have hm : (if IntKind.u32.signed = true then (-1 : Int) else IntKind.u32.max) = 4294967295 := by decide
 unfold execOp
 simp only [hx]
 go_simp
theorem Do (ht : P.underlying t = some (.int .u32)) (hx : a.eval x = u32v m) (hy : a.eval y = u32v n) : (execOp a.eval ⟨d, .binOp .add t x y t2, tt, ps, af, gd⟩).run P w = .ok (.value (u32v (m + n))) w := by
 have h : IntKind.u32.wrap ((m.toNat : Int) + (n.toNat : Int)) = (((m + n).toNat : Nat) : Int) := by
  rw [← Int.natCast_add, IG, BitVec.toNat_add]
 unfold execOp
 simp only [hx, hy]
 go_simp
theorem Tp {k : Nat} (hk : k ≤ 32) (ht : P.underlying t = some (.int .u32)) (hx : a.eval x = u32v m) (hy : a.eval y = .int .i64 k) : (execOp a.eval ⟨d, .binOp .shl t x y t2, tt, ps, af, gd⟩).run P w = .ok (.value (u32v (m <<< k))) w := by
 have h : IntKind.u32.wrap ((m.toNat : Int) * 2 ^ k) = (((m <<< k).toNat : Nat) : Int) := by
  rw [BitVec.toNat_shiftLeft, Nat.shiftLeft_eq, ← IG]
  simp
 rw [BitVec.toNat_shiftLeft] at h
 unfold execOp
 simp only [hx, hy]
 go_simp
theorem Mc {k : Nat} (hk : k ≤ 32) (ht : P.underlying t = some (.int .u32)) (hx : a.eval x = u32v m) (hy : a.eval y = .int .i64 k) : (execOp a.eval ⟨d, .binOp .shr t x y t2, tt, ps, af, gd⟩).run P w = .ok (.value (u32v (m >>> k))) w := by
 unfold execOp
 simp only [hx, hy]
 go_simp
 rw [Int.shiftRight_eq_div_pow]
 simp
theorem Ko {k : Nat} (hk : k ≤ 32) (ht : P.underlying t = some (.int .u32)) (hx : a.eval x = u32v m) (hy : a.eval y = .int .u64 k) : (execOp a.eval ⟨d, .binOp .shr t x y t2, tt, ps, af, gd⟩).run P w = .ok (.value (u32v (m >>> k))) w := by
 unfold execOp
 simp only [hx, hy]
 go_simp
 rw [Int.shiftRight_eq_div_pow]
 simp
theorem Kp {k : Nat} (hk : k ≤ 32) (ht : P.underlying t = some (.int .u32)) (hx : a.eval x = u32v m) (hy : a.eval y = .int .u64 k) : (execOp a.eval ⟨d, .binOp .shl t x y t2, tt, ps, af, gd⟩).run P w = .ok (.value (u32v (m <<< k))) w := by
 have h : IntKind.u32.wrap ((m.toNat : Int) * 2 ^ k) = (((m <<< k).toNat : Nat) : Int) := by
  rw [BitVec.toNat_shiftLeft, Nat.shiftLeft_eq, ← IG]
  simp
 rw [BitVec.toNat_shiftLeft] at h
 unfold execOp
 simp only [hx, hy]
 go_simp
theorem IU {c : B8} {s : TypeId} (hs : P.underlying s = some (.int .u8)) (ht : P.underlying t = some (.int .u32)) (hx : a.eval x = u8v c) : (execOp a.eval ⟨d, .convert s t x, tt, ps, af, gd⟩).run P w = .ok (.value (u32v (c.setWidth 32))) w := by
 unfold execOp
 simp only [hx]
 go_simp
 rw [IG]
 simp
theorem Q2 {s : TypeId} (hs : P.underlying s = some (.int .u32)) (ht : P.underlying t = some (.int .u8)) (hx : a.eval x = u32v m) : (execOp a.eval ⟨d, .convert s t x, tt, ps, af, gd⟩).run P w = .ok (.value (u8v (m.setWidth 8))) w := by
 unfold execOp
 simp only [hx]
 go_simp
 rw [OC]
 simp
theorem Me {s : TypeId} {n : Int} (hs : P.underlying s = some (.int .i64)) (ht : P.underlying t = some (.int .u8)) (hx : a.eval x = .int .i64 n) : (execOp a.eval ⟨d, .convert s t x, tt, ps, af, gd⟩).run P w = .ok (.value (u8v (BitVec.ofInt 8 n))) w := by
 unfold execOp
 simp only [hx]
 go_simp
 simp [IntKind.wrap, IntKind.bits, IntKind.signed]
 omega
theorem Ts {s : TypeId} {c : B8} (hs : P.underlying s = some (.int .u8)) (ht : P.underlying t = some (.int .i64)) (hx : a.eval x = u8v c) : (execOp a.eval ⟨d, .convert s t x, tt, ps, af, gd⟩).run P w = .ok (.value (.int .i64 (c.toNat : Nat))) w := by
 unfold execOp
 simp only [hx]
 go_simp
 exact IntWalk.i64_in _ (by have := c.isLt; omega)
theorem Yz {b o : Nat} (hx : a.eval x = .pointer (some ⟨b, o, none⟩)) : (execOp a.eval ⟨d, .nilCheck x, tt, ps, af, gd⟩).run P w = .ok (.value (.pointer (some ⟨b, o, none⟩))) w := by
 unfold execOp
 simp only [hx]
 go_simp
theorem H8 {p q r : Int} (ht : P.underlying t = some (.int .i64)) (hx : a.eval x = .int .i64 p) (hy : a.eval y = .int .i64 q) (hq : p * q = r) (h1 : -9223372036854775808 ≤ r ∧ r ≤ 9223372036854775807) : (execOp a.eval ⟨d, .binOp .mul t x y t2, tt, ps, af, gd⟩).run P w = .ok (.value (.int .i64 r)) w := by
 subst hq
 have := IntWalk.i64_in _ h1
 unfold execOp
 simp only [hx, hy]
 go_simp
theorem MI {p q : Nat} (ht : P.underlying t = some (.int .i64)) (hx : a.eval x = .int .i64 (p : Nat)) (hy : a.eval y = .int .i64 (q : Nat)) (hq : 0 < q) : (execOp a.eval ⟨d, .binOp .rem t x y t2, tt, ps, af, gd⟩).run P w = .ok (.value (.int .i64 (p % q : Nat))) w := by
 unfold execOp
 simp only [hx, hy]
 go_simp
 rw [if_neg (by omega), Int.tmod_eq_emod_of_nonneg (by omega)]
theorem ZQ {p q : Nat} (ht : P.underlying t = some (.int .i64)) (hx : a.eval x = .int .i64 (p : Nat)) (hy : a.eval y = .int .i64 (q : Nat)) (hq : 0 < q) (hp : p ≤ 9223372036854775807) : (execOp a.eval ⟨d, .binOp .quo t x y t2, tt, ps, af, gd⟩).run P w = .ok (.value (.int .i64 (p / q : Nat))) w := by
 unfold execOp
 simp only [hx, hy]
 go_simp
 rw [if_neg (by omega), IntWalk.i64_in _ (by have h1 : (0 : Int) ≤ (p : Int) / (q : Int) := Int.ediv_nonneg (by omega) (by omega); have h2 : (p : Int) / (q : Int) ≤ p := Int.ediv_le_self _ (by omega); omega)]
end
end
theorem s3 : (Tryz.prog.info? 3).map (·.size) = some 1 := by kernel_rfl
theorem s4 : (Tryz.prog.info? 4).map (·.size) = some 1 := by kernel_rfl
theorem s5 : (Tryz.prog.info? 5).map (·.size) = some 1 := by kernel_rfl
theorem s9 : (Tryz.prog.info? 9).map (·.size) = some 1 := by kernel_rfl
theorem PD : (Tryz.prog.info? 30).map (·.size) = some 1 := by kernel_rfl
theorem s133 : (Tryz.prog.info? 133).map (·.size) = some 1 := by kernel_rfl
theorem fN : (Tryz.prog.info? 141).map (·.size) = some 8 := by kernel_rfl
theorem Ys : (Tryz.prog.info? 159).map (·.size) = some 64 := by kernel_rfl
theorem Ws : (Tryz.prog.info? 105).map (·.size) = some 32 := by kernel_rfl
theorem tS : Bu Tryz.prog 11 := fun args w => by kernel_rfl
theorem tR : Bu Tryz.prog 12 := fun args w => by kernel_rfl
theorem lJ : Bu Tryz.prog 13 := fun args w => by kernel_rfl
theorem lD : Bu Tryz.prog 14 := fun args w => by kernel_rfl
theorem Z4 : Bu Tryz.prog 15 := fun args w => by kernel_rfl
theorem tQ : Bu Tryz.prog 16 := fun args w => by kernel_rfl
theorem kZ : Bu Tryz.prog 17 := fun args w => by kernel_rfl
theorem tP : Bu Tryz.prog 18 := fun args w => by kernel_rfl
theorem kP : Bu Tryz.prog 19 := fun args w => by kernel_rfl
theorem eS : Bu Tryz.prog 20 := fun args w => by kernel_rfl
theorem kN : Bu Tryz.prog 21 := fun args w => by kernel_rfl
theorem tO : Bu Tryz.prog 22 := fun args w => by kernel_rfl
theorem XG : Bu Tryz.prog 23 := fun args w => by kernel_rfl
theorem Vl : Bu Tryz.prog 24 := fun args w => by kernel_rfl
theorem tN : Bu Tryz.prog 25 := fun args w => by kernel_rfl
theorem tM : Bu Tryz.prog 26 := fun args w => by kernel_rfl
theorem kM : Bu Tryz.prog 27 := fun args w => by kernel_rfl
theorem tL : Bu Tryz.prog 28 := fun args w => by kernel_rfl
theorem kK : Bu Tryz.prog 29 := fun args w => by kernel_rfl
theorem tK : Bu Tryz.prog 30 := fun args w => by kernel_rfl
theorem kJ : Bu Tryz.prog 31 := fun args w => by kernel_rfl
theorem tJ : Bu Tryz.prog 32 := fun args w => by kernel_rfl
theorem kI : Bu Tryz.prog 33 := fun args w => by kernel_rfl
theorem tI : Bu Tryz.prog 34 := fun args w => by kernel_rfl
theorem kH : Bu Tryz.prog 35 := fun args w => by kernel_rfl
theorem tH : Bu Tryz.prog 36 := fun args w => by kernel_rfl
theorem tG : Bu Tryz.prog 37 := fun args w => by kernel_rfl
theorem tF : Bu Tryz.prog 38 := fun args w => by kernel_rfl
theorem Vk : Bu Tryz.prog 39 := fun args w => by kernel_rfl
theorem Vj : Bu Tryz.prog 41 := fun args w => by kernel_rfl
theorem kB : Bu Tryz.prog 42 := fun args w => by kernel_rfl
theorem Z3 : Bu Tryz.prog 43 := fun args w => by kernel_rfl
theorem tE : Bu Tryz.prog 44 := fun args w => by kernel_rfl
theorem kA : Bu Tryz.prog 45 := fun args w => by kernel_rfl
theorem XF : Bu Tryz.prog 46 := fun args w => by kernel_rfl
theorem XE : Bu Tryz.prog 47 := fun args w => by kernel_rfl
theorem jZ : Bu Tryz.prog 48 := fun args w => by kernel_rfl
theorem eR : Bu Tryz.prog 49 := fun args w => by kernel_rfl
theorem jY : Bu Tryz.prog 50 := fun args w => by kernel_rfl
theorem jX : Bu Tryz.prog 51 := fun args w => by kernel_rfl
theorem tD : Bu Tryz.prog 52 := fun args w => by kernel_rfl
theorem tC : Bu Tryz.prog 53 := fun args w => by kernel_rfl
theorem tB : Bu Tryz.prog 54 := fun args w => by kernel_rfl
theorem tA : Bu Tryz.prog 55 := fun args w => by kernel_rfl
theorem sZ : Bu Tryz.prog 56 := fun args w => by kernel_rfl
theorem sY : Bu Tryz.prog 57 := fun args w => by kernel_rfl
theorem sX : Bu Tryz.prog 58 := fun args w => by kernel_rfl
theorem sW : Bu Tryz.prog 59 := fun args w => by kernel_rfl
theorem sV : Bu Tryz.prog 60 := fun args w => by kernel_rfl
theorem sU : Bu Tryz.prog 61 := fun args w => by kernel_rfl
theorem jW : Bu Tryz.prog 62 := fun args w => by kernel_rfl
theorem eQ : Bu Tryz.prog 63 := fun args w => by kernel_rfl
theorem Vi : Bu Tryz.prog 64 := fun args w => by kernel_rfl
theorem Z2 : Bu Tryz.prog 65 := fun args w => by kernel_rfl
theorem KG : Bu Tryz.prog 66 := fun args w => by kernel_rfl
theorem LW : Bu Tryz.prog 67 := fun args w => by kernel_rfl
theorem N8 : Bu Tryz.prog 68 := fun args w => by kernel_rfl
theorem eP : Bu Tryz.prog 69 := fun args w => by kernel_rfl
theorem Z1 : Bu Tryz.prog 70 := fun args w => by kernel_rfl
theorem eO : Bu Tryz.prog 71 := fun args w => by kernel_rfl
theorem sS : Bu Tryz.prog 72 := fun args w => by kernel_rfl
theorem jV : Bu Tryz.prog 73 := fun args w => by kernel_rfl
theorem sR : Bu Tryz.prog 74 := fun args w => by kernel_rfl
theorem jU : Bu Tryz.prog 75 := fun args w => by kernel_rfl
theorem eN : Bu Tryz.prog 76 := fun args w => by kernel_rfl
theorem jT : Bu Tryz.prog 77 := fun args w => by kernel_rfl
theorem eM : Bu Tryz.prog 78 := fun args w => by kernel_rfl
theorem jS : Bu Tryz.prog 79 := fun args w => by kernel_rfl
theorem sQ : Bu Tryz.prog 80 := fun args w => by kernel_rfl
theorem Z0 : Bu Tryz.prog 81 := fun args w => by kernel_rfl
theorem jR : Bu Tryz.prog 82 := fun args w => by kernel_rfl
theorem Zz : Bu Tryz.prog 83 := fun args w => by kernel_rfl
theorem jQ : Bu Tryz.prog 84 := fun args w => by kernel_rfl
theorem Zy : Bu Tryz.prog 85 := fun args w => by kernel_rfl
theorem sP : Bu Tryz.prog 86 := fun args w => by kernel_rfl
theorem XD : Bu Tryz.prog 87 := fun args w => by kernel_rfl
theorem jP : Bu Tryz.prog 88 := fun args w => by kernel_rfl
theorem jO : Bu Tryz.prog 89 := fun args w => by kernel_rfl
theorem jN : Bu Tryz.prog 90 := fun args w => by kernel_rfl
theorem jM : Bu Tryz.prog 91 := fun args w => by kernel_rfl
theorem Zx : Bu Tryz.prog 92 := fun args w => by kernel_rfl
theorem sO : Bu Tryz.prog 93 := fun args w => by kernel_rfl
theorem eL : Bu Tryz.prog 94 := fun args w => by kernel_rfl
theorem jL : Bu Tryz.prog 95 := fun args w => by kernel_rfl
theorem sN : Bu Tryz.prog 96 := fun args w => by kernel_rfl
theorem sM : Bu Tryz.prog 97 := fun args w => by kernel_rfl
theorem sL : Bu Tryz.prog 98 := fun args w => by kernel_rfl
theorem sK : Bu Tryz.prog 99 := fun args w => by kernel_rfl
theorem lZ : Bu Tryz.prog 100 := fun args w => by kernel_rfl
theorem lY : Bu Tryz.prog 101 := fun args w => by kernel_rfl
theorem lX : Bu Tryz.prog 102 := fun args w => by kernel_rfl
theorem lW : Bu Tryz.prog 103 := fun args w => by kernel_rfl
theorem lV : Bu Tryz.prog 104 := fun args w => by kernel_rfl
theorem lU : Bu Tryz.prog 105 := fun args w => by kernel_rfl
theorem lT : Bu Tryz.prog 106 := fun args w => by kernel_rfl
theorem Uc : Bu Tryz.prog 107 := fun args w => by kernel_rfl
theorem lS : Bu Tryz.prog 108 := fun args w => by kernel_rfl
theorem EQ : Bu Tryz.prog 109 := fun args w => by kernel_rfl
theorem JH : Bu Tryz.prog 110 := fun args w => by kernel_rfl
theorem bF : Bu Tryz.prog 111 := fun args w => by kernel_rfl
theorem bE : Bu Tryz.prog 112 := fun args w => by kernel_rfl
theorem bD : Bu Tryz.prog 113 := fun args w => by kernel_rfl
theorem lR : Bu Tryz.prog 114 := fun args w => by kernel_rfl
theorem bC : Bu Tryz.prog 115 := fun args w => by kernel_rfl
theorem Ru : Bu Tryz.prog 116 := fun args w => by kernel_rfl
theorem bB : Bu Tryz.prog 117 := fun args w => by kernel_rfl
theorem lQ : Bu Tryz.prog 118 := fun args w => by kernel_rfl
theorem bA : Bu Tryz.prog 119 := fun args w => by kernel_rfl
theorem aZ : Bu Tryz.prog 120 := fun args w => by kernel_rfl
theorem Ub : Bu Tryz.prog 121 := fun args w => by kernel_rfl
theorem lP : Bu Tryz.prog 122 := fun args w => by kernel_rfl
theorem aY : Bu Tryz.prog 123 := fun args w => by kernel_rfl
theorem aX : Bu Tryz.prog 124 := fun args w => by kernel_rfl
theorem lO : Bu Tryz.prog 125 := fun args w => by kernel_rfl
theorem lN : Bu Tryz.prog 126 := fun args w => by kernel_rfl
theorem lM : Bu Tryz.prog 127 := fun args w => by kernel_rfl
theorem lL : Bu Tryz.prog 128 := fun args w => by kernel_rfl
theorem lK : Bu Tryz.prog 129 := fun args w => by kernel_rfl
theorem lI : Bu Tryz.prog 130 := fun args w => by kernel_rfl
theorem lH : Bu Tryz.prog 131 := fun args w => by kernel_rfl
theorem lG : Bu Tryz.prog 132 := fun args w => by kernel_rfl
theorem lF : Bu Tryz.prog 133 := fun args w => by kernel_rfl
theorem JG : Bu Tryz.prog 134 := fun args w => by kernel_rfl
theorem lE : Bu Tryz.prog 135 := fun args w => by kernel_rfl
theorem lC : Bu Tryz.prog 145 := fun args w => by kernel_rfl
theorem lB : Bu Tryz.prog 146 := fun args w => by kernel_rfl
theorem lA : Bu Tryz.prog 147 := fun args w => by kernel_rfl
theorem JF : Bu Tryz.prog 148 := fun args w => by kernel_rfl
theorem i5 : (Tryz.prog.info? 5).map (fun i => (i.zero, i.size, i.bytes)) = some (some (.int .u8 0), 1, 1) := by kernel_rfl
section
def flds : List (Nat × Nat × Nat) := [(36, 0, 0), (36, 1, 1), (36, 2, 2), (36, 3, 3), (36, 4, 4), (36, 5, 5), (36, 6, 6), (36, 7, 7), (36, 8, 8), (36, 9, 9), (36, 10, 10), (36, 11, 11), (36, 12, 12), (36, 13, 28), (76, 0, 0), (76, 1, 1), (76, 2, 2), (76, 3, 3), (76, 4, 4), (76, 5, 5), (76, 6, 21), (76, 7, 22), (76, 8, 45), (76, 9, 46), (76, 10, 47), (38, 0, 0), (38, 1, 1), (38, 2, 2), (38, 3, 3), (38, 4, 7), (38, 5, 43), (72, 0, 0), (72, 1, 1), (72, 2, 17), (72, 3, 18), (72, 4, 19), (72, 5, 20), (72, 6, 21), (32, 0, 0), (32, 1, 1), (32, 2, 2), (32, 3, 3), (49, 0, 0), (49, 1, 1), (49, 2, 2), (49, 3, 3), (65, 0, 0), (65, 1, 1), (70, 0, 0), (70, 1, 1), (99, 0, 0), (99, 1, 1), (99, 2, 2), (99, 3, 3), (91, 0, 0), (91, 1, 1), (91, 2, 2), (91, 3, 3), (116, 0, 0), (116, 1, 1), (123, 0, 0), (123, 1, 1), (79, 0, 0), (79, 1, 1), (79, 2, 2), (79, 3, 3), (79, 4, 4), (79, 5, 5), (79, 6, 21), (79, 7, 22), (79, 8, 38), (79, 9, 39), (79, 10, 40), (79, 11, 41), (79, 12, 42), (79, 13, 43), (79, 14, 44), (79, 15, 46), (79, 16, 114)]
theorem Zi : ∀ x ∈ flds, BI Tryz.prog x.1 x.2.1 x.2.2 := by
 simp only [flds, List.forall_mem_cons]
 repeat' apply And.intro
 all_goals first | (intro b o w; go_simp; done) | (intro x hx; cases hx)
def Rk : List (Nat × Nat × Nat) → Nat → Nat → Option Nat
 | [], _, _ => none
 | (a, b, o) :: l, t, i => match Nat.beq a t with
  | true => match Nat.beq b i with
   | true => some o
   | false => Rk l t i
  | false => Rk l t i
theorem Ng : ∀ {l : List (Nat × Nat × Nat)} {t i o : Nat}, Rk l t i = some o → (t, i, o) ∈ l
 | [], _, _, _, h => by cases h
 | (a, b, c) :: l, t, i, o, h => by
  unfold Rk at h
  split at h
  ·
   rename_i h1
   split at h
   ·
    rename_i h2
    obtain rfl := Option.some.inj h
    rw [Nat.eq_of_beq_eq_true h1, Nat.eq_of_beq_eq_true h2]
    exact List.mem_cons_self
   · exact List.mem_cons_of_mem _ (Ng h)
  · exact List.mem_cons_of_mem _ (Ng h)
def cL : List Value → Nat → Option Value
 | [], _ => none
 | v :: _, 0 => some v
 | _ :: l, i + 1 => cL l i
theorem T6 : ∀ (l : List Value) (i : Nat), cL l i = l[i]?
 | [], _ => rfl
 | _ :: _, 0 => rfl
 | _ :: l, i + 1 => by rw [List.getElem?_cons_succ, ← T6 l i]; rfl
def YG (l : List (Nat × Value)) : Operand → Option Value
 | .tmp t => lk l t
 | .const v => some v
 | _ => none
def GO (full : List Oper) (l : List (Nat × Value)) : Option (Nat × Bool) → Option Bool
 | none => some true
 | some (j, b) => match DP full j with
  | none => none
  | some oj => match oj.dst with
   | none => none
   | some t => match lk l t with
    | some (.bool b') => match b with
     | true => some b'
     | false => match b' with
      | true => some false
      | false => some true
    | some (.tuple ⟨[]⟩) => some false
    | _ => none
def pB (l : List (Nat × Value)) : Op → Option Value
 | .move x => YG l x
 | .assign x => YG l x
 | .nilCheck x => match YG l x with
  | some (.pointer (some ⟨b, o, none⟩)) => some (.pointer (some ⟨b, o, none⟩))
  | _ => none
 | .extract x i => match YG l x with
  | some (.tuple ⟨L⟩) => cL L i
  | _ => none
 | .fieldAddr t x i => match YG l x with
  | some (.pointer (some ⟨b, 0, none⟩)) => match Rk flds t i with
   | some f => some (.pointer (some ⟨b, f, none⟩))
   | none => none
  | _ => none
 | .pick c x y => match YG l c with
  | some (.bool true) => YG l x
  | some (.bool false) => YG l y
  | _ => none
 | _ => none
def I2 (full : List Oper) (n : Nat) (l : List (Nat × Value)) : Oper → Option (List (Nat × Value))
 | ⟨some k, op, _, _, _, g⟩ => match Nat.blt k n with
  | false => none
  | true => match GO full l g with
   | none => none
   | some false => some ((k, undef) :: l)
   | some true => match pB l op with
    | none => none
    | some v => some ((k, v) :: l)
 | ⟨none, _, _, _, _, g⟩ => match GO full l g with
  | some false => some l
  | _ => none
def Wt (full : List Oper) (n : Nat) : Nat → List (Nat × Value) → List Oper → Option (List (Nat × Value) × List Oper)
 | 0, l, r => some (l, r)
 | _ + 1, _, [] => none
 | i + 1, l, o :: r => match I2 full n l o with
  | none => none
  | some l' => Wt full n i l' r
section
variable {ops : Array Oper} {a : Act} {w : World} {Q : Exit → Act → World → Prop} {n : Nat} {l : List (Nat × Value)}
theorem Is (H : Kn a n l) {x : Operand} {v : Value} (h : YG l x = some v) : a.eval x = v := by
 cases x with
 | tmp t => exact H.ev h
 | const u => exact Am.trans (Option.some.inj h)
 | global g => cases h
 | func f => cases h
theorem CJ (H : Kn a n l) {o : Oper} {b : Bool} (h : GO ops.toList l o.guard = some b) : Region.wanted o (yielded ops a.tmps) = b := by
 cases hg : o.guard with
 | none =>
  rw [hg] at h
  rw [FW hg]
  exact Option.some.inj h
 | some g =>
  obtain ⟨j, c⟩ := g
  rw [hg] at h
  unfold GO at h
  simp only at h
  split at h
  · cases h
  ·
   rename_i oj hj
   split at h
   · cases h
   ·
    rename_i t hd
    split at h
    ·
     rename_i b' hv
     split at h
     ·
      obtain rfl := Option.some.inj h
      cases b' with
      | true => exact WZ hg H hj hd hv
      | false => exact ZU hg H hj hd hv
     ·
      split at h
      ·
       obtain rfl := Option.some.inj h
       exact ZU hg H hj hd hv
      ·
       obtain rfl := Option.some.inj h
       exact WZ hg H hj hd hv
    ·
     rename_i hv
     obtain rfl := Option.some.inj h
     exact gD hg H hj hd hv
    · cases h
theorem Ph (H : Kn a n l) {op : Op} {v : Value} {d : Option Tmp} {tt : TypeId} {ps : String} {af : Array Edge} {gd : Option (Nat × Bool)} (h : pB l op = some v) : (execOp a.eval ⟨d, op, tt, ps, af, gd⟩).run Tryz.prog w = .ok (.value v) w := by
 unfold pB at h
 split at h
 · exact C4 (Is H h)
 · exact GE (Is H h)
 ·
  split at h
  ·
   rename_i hx
   obtain rfl := Option.some.inj h
   exact Yz (Is H hx)
  · cases h
 ·
  split at h
  ·
   rename_i hx
   exact UF (Is H hx) (by rw [← h, T6]; simp)
  · cases h
 ·
  split at h
  ·
   rename_i hx
   split at h
   ·
    rename_i f hf
    obtain rfl := Option.some.inj h
    exact Br (Zi _ (Ng hf)) (Is H hx) (Nat.zero_add _)
   · cases h
  · cases h
 ·
  split at h
  ·
   rename_i hc
   exact Ea (Is H hc) (Is H h)
  ·
   rename_i hc
   exact GD (Is H hc) (Is H h)
  · cases h
 · cases h
theorem Yh {o : Oper} {rest : List Oper} (hw : Region.wanted o (yielded ops a.tmps) = true) (h : wpList Tryz.prog ops Q (⟨o.dst, o.op, o.type, o.pos, o.after, none⟩ :: rest) a w) : wpList Tryz.prog ops Q (o :: rest) a w := by
 unfold wpList at h ⊢
 rw [if_pos (by rfl)] at h
 rw [if_pos hw]
 exact h
theorem VV {rest : List Oper} {o : Oper} {l' : List (Nat × Value)} (H : Kn a n l) (hs : I2 ops.toList n l o = some l') (h : ∀ a', Kn a' n l' → wpList Tryz.prog ops Q rest a' w) : wpList Tryz.prog ops Q (o :: rest) a w := by
 obtain ⟨d, op, tt, ps, af, g⟩ := o
 cases d with
 | none =>
  unfold I2 at hs
  simp only at hs
  split at hs
  ·
   rename_i hg
   obtain rfl := Option.some.inj hs
   exact fH (CJ H hg) (Dz H h)
  · cases hs
 | some k =>
  unfold I2 at hs
  simp only at hs
  split at hs
  · cases hs
  ·
   rename_i hk
   split at hs
   · cases hs
   ·
    rename_i hg
    obtain rfl := Option.some.inj hs
    exact fH (CJ H hg) (kl H hk h)
   ·
    rename_i hg
    split at hs
    · cases hs
    ·
     rename_i v hv
     obtain rfl := Option.some.inj hs
     exact Yh (CJ H hg) (Fr v (Ph H hv) (kl H hk h))
theorem kR (i : Nat) : ∀ {a : Act} {l : List (Nat × Value)} {rest rest' : List Oper} {l' : List (Nat × Value)}, Kn a n l → Wt ops.toList n i l rest = some (l', rest') → (∀ a', Kn a' n l' → wpList Tryz.prog ops Q rest' a' w) → wpList Tryz.prog ops Q rest a w := by
 induction i with
 | zero =>
  intro a l rest rest' l' H hr h
  obtain ⟨rfl, rfl⟩ := Prod.mk.inj (Option.some.inj hr)
  exact h a H
 | succ i ih =>
  intro a l rest rest' l' H hr h
  cases rest with
  | nil => cases hr
  | cons o r =>
   unfold Wt at hr
   split at hr
   · cases hr
   ·
    rename_i l1 hs
    exact VV H hs fun a' H' => ih H' hr h
theorem kV {rest : List Oper} {op : Op} {tt : TypeId} {ps : String} {af : Array Edge} {k : Nat} {v : Value} (H : Kn a n l) (hv : (execOp a.eval ⟨some k, op, tt, ps, af, none⟩).run Tryz.prog w = .ok (.value v) w) (hk : Nat.blt k n = true) (h : ∀ a', Kn a' n ((k, v) :: l) → wpList Tryz.prog ops Q rest a' w) :
  wpList Tryz.prog ops Q (⟨some k, op, tt, ps, af, none⟩ :: rest) a w := Fr v hv (kl H hk h)
theorem kG {rest : List Oper} {op : Op} {tt : TypeId} {ps : String} {af : Array Edge} {d : Option Tmp} {g : Nat × Bool} (H : Kn a n l) (hg : GO ops.toList l (some g) = some true) (h : wpList Tryz.prog ops Q (⟨d, op, tt, ps, af, none⟩ :: rest) a w) :
  wpList Tryz.prog ops Q (⟨d, op, tt, ps, af, some g⟩ :: rest) a w := Sp op g (CJ (o := ⟨d, op, tt, ps, af, some g⟩) H hg) h
def M9 (L : List Oper) (n : Nat) : Nat → List (Nat × Value) → PT → Option (List (Nat × Value) × PT)
 | 0, l, t => some (l, t)
 | i + 1, l, t => match t with
  | .fl j t => match DP L j with
   | none => none
   | some o => match I2 L n l o with
    | none => none
    | some l' => M9 L n i l' t
  | _ => none
theorem kF {L : List Oper} {S : World → Prop} {z i : Nat} {t : PT} {k : Nat} {op : Op} {tt : TypeId} {ps : String} {af : Array Edge} {v : Value} {g : Option (Nat × Bool)} (H : Kn a n l) (ho : DP L i = some ⟨some k, op, tt, ps, af, g⟩) (hg : GO L l g = some true)
  (hv : ∀ w', S w' → (execOp a.eval ⟨some k, op, tt, ps, af, g⟩).run Tryz.prog w' = .ok (.value v) w') (hk : Nat.blt k n = true) (h : ∀ a', Kn a' n ((k, v) :: l) → Ez Tryz.prog L Q S z t a' w) : Ez Tryz.prog L Q S z (.fl i t) a w :=
 ⟨_, ho, by
  have hw : Region.wanted ⟨some k, op, tt, ps, af, g⟩ (yielded L.toArray a.tmps) = true := CJ (ops := L.toArray) (o := ⟨some k, op, tt, ps, af, g⟩) H hg
  rw [if_pos hw]
  exact ⟨v, hv, kt H hk h⟩⟩
theorem KX {L : List Oper} {S : World → Prop} {z i : Nat} {t : PT} {o : Oper} {l' : List (Nat × Value)} (H : Kn a n l) (ho : DP L i = some o) (hs : I2 L n l o = some l') (h : ∀ a', Kn a' n l' → Ez Tryz.prog L Q S z t a' w) : Ez Tryz.prog L Q S z (.fl i t) a w := by
 refine ⟨o, ho, ?_⟩
 obtain ⟨d, op, tt, ps, af, g⟩ := o
 cases d with
 | none =>
  unfold I2 at hs
  simp only at hs
  split at hs
  ·
   rename_i hg
   obtain rfl := Option.some.inj hs
   have hw : Region.wanted ⟨none, op, tt, ps, af, g⟩ (yielded L.toArray a.tmps) = false := CJ (ops := L.toArray) (o := ⟨none, op, tt, ps, af, g⟩) H hg
   rw [if_neg (by rw [hw]; simp)]
   exact h _ H
  · cases hs
 | some k =>
  unfold I2 at hs
  simp only at hs
  split at hs
  · cases hs
  ·
   rename_i hk
   split at hs
   · cases hs
   ·
    rename_i hg
    obtain rfl := Option.some.inj hs
    have hw : Region.wanted ⟨some k, op, tt, ps, af, g⟩ (yielded L.toArray a.tmps) = false := CJ (ops := L.toArray) (o := ⟨some k, op, tt, ps, af, g⟩) H hg
    rw [if_neg (by rw [hw]; simp)]
    exact kt H hk h
   ·
    rename_i hg
    split at hs
    · cases hs
    ·
     rename_i v hv
     obtain rfl := Option.some.inj hs
     have hw : Region.wanted ⟨some k, op, tt, ps, af, g⟩ (yielded L.toArray a.tmps) = true := CJ (ops := L.toArray) (o := ⟨some k, op, tt, ps, af, g⟩) H hg
     rw [if_pos hw]
     exact ⟨v, fun w' _ => Ph H hv, kt H hk h⟩
theorem kQ {L : List Oper} {S : World → Prop} {z : Nat} (i : Nat) : ∀ {a : Act} {l : List (Nat × Value)} {t t' : PT} {l' : List (Nat × Value)}, Kn a n l → M9 L n i l t = some (l', t') → (∀ a', Kn a' n l' → Ez Tryz.prog L Q S z t' a' w) → Ez Tryz.prog L Q S z t a w := by
 induction i with
 | zero =>
  intro a l t t' l' H hr h
  obtain ⟨rfl, rfl⟩ := Prod.mk.inj (Option.some.inj hr)
  exact h a H
 | succ i ih =>
  intro a l t t' l' H hr h
  unfold M9 at hr
  split at hr
  ·
   split at hr
   · cases hr
   ·
    rename_i o ho
    split at hr
    · cases hr
    ·
     rename_i l1 hs
     exact KX H ho hs fun a' H' => ih H' hr h
  · cases hr
end
section
variable {ops : Array Oper} {a : Act} {w : World} {Q : Exit → Act → World → Prop} {n : Nat} {l l' : List (Nat × Value)} {rest rest' : List Oper} {op : Op} {tt : TypeId} {ps : String} {af : Array Edge} {k : Nat} {v : Value}
def Wu (full : List Oper) (n k : Nat) (v : Value) (i : Nat) (l : List (Nat × Value)) (r : List Oper) : Option (List (Nat × Value) × List Oper) := match Nat.blt k n with
 | true => Wt full n i ((k, v) :: l) r
 | false => none
theorem kL (i : Nat) (H : Kn a n l) (hr : Wu ops.toList n k v i l rest = some (l', rest')) (h : ∀ a', Kn a' n l' → wpList Tryz.prog ops Q rest' a' w) : wpList Tryz.prog ops Q rest (a.put (some k) v) w := by
 unfold Wu at hr
 split at hr
 ·
  rename_i hk
  exact kl H hk fun a' H' => kR i H' hr h
 · cases hr
theorem kX (i : Nat) (H : Kn a n l) (hv : (execOp a.eval ⟨some k, op, tt, ps, af, none⟩).run Tryz.prog w = .ok (.value v) w) (hr : Wu ops.toList n k v i l rest = some (l', rest')) (h : ∀ a', Kn a' n l' → wpList Tryz.prog ops Q rest' a' w) :
  wpList Tryz.prog ops Q (⟨some k, op, tt, ps, af, none⟩ :: rest) a w := Fr v hv (kL i H hr h)
theorem kY (i : Nat) {g : Nat × Bool} (H : Kn a n l) (hg : GO ops.toList l (some g) = some true) (hv : (execOp a.eval ⟨some k, op, tt, ps, af, none⟩).run Tryz.prog w = .ok (.value v) w) (hr : Wu ops.toList n k v i l rest = some (l', rest')) (h : ∀ a', Kn a' n l' → wpList Tryz.prog ops Q rest' a' w) :
  wpList Tryz.prog ops Q (⟨some k, op, tt, ps, af, some g⟩ :: rest) a w := kG H hg (kX i H hv hr h)
theorem kO (i : Nat) (H : Kn a n l) (hr : Wt ops.toList n i l rest = some (l', rest')) (h : ∀ a', Kn a' n l' → wpList Tryz.prog ops Q rest' a' w) : wpList Tryz.prog ops Q rest (a.put none v) w := Dz H fun a' H' => kR i H' hr h
theorem kC (i : Nat) {c : Call} {f : FuncId} {args : Array Value} {R : World → Prop} (hR : Calls Tryz.prog f args w fun e w' => e = .returned v ∧ R w') (hc : (execOp a.eval ⟨some k, .call c, tt, ps, af, none⟩).run Tryz.prog w = .ok (.enter f args) w) (H : Kn a n l) (hr : Wu ops.toList n k v i l rest = some (l', rest')) (h : ∀ w' a', R w' → Kn a' n l' → wpList Tryz.prog ops Q rest' a' w') :
  wpList Tryz.prog ops Q (⟨some k, .call c, tt, ps, af, none⟩ :: rest) a w := A8 f args _ hR hc fun e w' ⟨he, hb⟩ => ⟨v, he, kL i H hr fun a' H' => h w' a' hb H'⟩
theorem kD {K : Act → World → Prop} {gd : Option (Nat × Bool)} {d : Option Tmp} {c : Call} {f : FuncId} {args : Array Value} {R : World → Prop} (hR : Calls Tryz.prog f args w fun e w' => e = .returned v ∧ R w') (hc : (execOp a.eval ⟨d, .call c, tt, ps, af, gd⟩).run Tryz.prog w = .ok (.enter f args) w) (h : ∀ w', R w' → K (a.put d v) w') :
  Oper.wp Tryz.prog ⟨d, .call c, tt, ps, af, gd⟩ a w K Q := CQ f args _ hR hc fun e w' ⟨he, hb⟩ => ⟨v, he, h w' hb⟩
end
def IO (L : List Oper) (n k : Nat) (v : Value) (i : Nat) (l : List (Nat × Value)) (t : PT) : Option (List (Nat × Value) × PT) := match Nat.blt k n with
 | true => M9 L n i ((k, v) :: l) t
 | false => none
section
variable {a : Act} {w : World} {Q : Exit → Act → World → Prop} {n : Nat} {l l' : List (Nat × Value)} {op : Op} {tt : TypeId} {ps : String} {af : Array Edge} {k : Nat} {v : Value} {L : List Oper} {S : World → Prop} {z : Nat} {t t' : PT} {K : Act → World → Prop}
theorem kT (i : Nat) (H : Kn a n l) (hr : IO L n k v i l t = some (l', t')) (h : ∀ a', Kn a' n l' → Ez Tryz.prog L Q S z t' a' w) : Ez Tryz.prog L Q S z t (a.put (some k) v) w := by
 unfold IO at hr
 split at hr
 ·
  rename_i hk
  exact kt H hk fun a' H' => kQ i H' hr h
 · cases hr
theorem kE (i : Nat) {j : Nat} {g : Option (Nat × Bool)} (H : Kn a n l) (ho : DP L j = some ⟨some k, op, tt, ps, af, g⟩) (hg : GO L l g = some true)
  (hv : ∀ w', S w' → (execOp a.eval ⟨some k, op, tt, ps, af, g⟩).run Tryz.prog w' = .ok (.value v) w') (hr : IO L n k v i l t = some (l', t')) (h : ∀ a', Kn a' n l' → Ez Tryz.prog L Q S z t' a' w) : Ez Tryz.prog L Q S z (.fl j t) a w := by
 unfold IO at hr
 split at hr
 ·
  rename_i hk
  exact kF H ho hg hv hk fun a' H' => kQ i H' hr h
 · cases hr
theorem kS (i : Nat) {j : Nat} (hK : ∀ a w, (j ≠ z → S w) ∧ Ez Tryz.prog L Q S z t a w → K a w) (hS : S w) (H : Kn a n l) (hr : IO L n k v i l t = some (l', t')) (h : ∀ a', Kn a' n l' → Ez Tryz.prog L Q S z t' a' w) : K (a.put (some k) v) w := hK _ _ ⟨fun _ => hS, kT i H hr h⟩
theorem kU (i : Nat) {j : Nat} (hK : ∀ a w, (j ≠ z → S w) ∧ Ez Tryz.prog L Q S z t a w → K a w) (hS : S w) (H : Kn a n l) (hr : M9 L n i l t = some (l', t')) (h : ∀ a', Kn a' n l' → Ez Tryz.prog L Q S z t' a' w) : K (a.put none v) w := hK _ _ ⟨fun _ => hS, kQ i H hr h⟩
theorem pO {j : Nat} {d : Option Tmp} (ho : DP L j = some ⟨d, op, tt, ps, af, none⟩) (h : ∀ K : Act → World → Prop, (∀ a w, (j ≠ z → S w) ∧ Ez Tryz.prog L Q S z t a w → K a w) → Oper.wp Tryz.prog ⟨d, op, tt, ps, af, none⟩ a w K Q) : Ez Tryz.prog L Q S z (.one j t) a w := Al fun K hK => A7 ho (h K hK)
end
def Dn : List Nat → PT → PT
 | [], t => t
 | i :: l, t => .fl i (Dn l t)
section
variable {L : List Oper} {a : Act} {w : World} {Q : Exit → Act → World → Prop} {id : Nat}
theorem rT (S : World → Prop) (z : Nat) (t : PT) (hS : S w.drew) (h : Ez Tryz.prog L (NoPanic Q) S z t a w.drew) (hm : Tryz.prog.follows .mixedOrders = true := by kernel_rfl) (El : Region.noSelect L.toArray = true := by kernel_rfl) (hn : t.len = L.length := by rfl)
  (hB : Gj L.toArray z t (Array.replicate L.length false) = true := by kernel_rfl) : (Code.region id L.toArray true).wp Tryz.prog Q a w := Ha S z t hm El hn hB hS h
theorem rB (z : Nat) (t : PT) (h : AV w w.drew → Ez Tryz.prog L (NoPanic Q) (AV w) z t a w.drew) (hm : Tryz.prog.follows .mixedOrders = true := by kernel_rfl) (El : Region.noSelect L.toArray = true := by kernel_rfl) (hn : t.len = L.length := by rfl)
  (hB : Gj L.toArray z t (Array.replicate L.length false) = true := by kernel_rfl) : (Code.region id L.toArray true).wp Tryz.prog Q a w := rT (AV w) z t (Below.drew (Below.refl _ w)) (h (Below.drew (Below.refl _ w))) hm El hn hB
end
theorem dT {p : Prop} [Decidable p] (h : p := by omega) : decide p = true := decide_eq_true h
theorem dF {p : Prop} [Decidable p] (h : ¬ p := by omega) : decide p = false := decide_eq_false h
abbrev J (x : Int) : Value := .int .i64 x
universe u
theorem R {α : Sort u} {a : α} : a = a := rfl
abbrev zA := @wpList_nil
abbrev zB := @eT
abbrev zC := @wp_seq
abbrev zD := @wp_region_lit
abbrev zE := @wp_skip
abbrev zF := @wp_ret
abbrev zG := @XK
abbrev zH := @XJ
abbrev zI := @cP
abbrev zJ := @bX
abbrev U3 := @Tryz.underlying3
abbrev U4 := @Tryz.underlying4
abbrev U5 := @Tryz.underlying5
abbrev U9 := @Tryz.underlying9
abbrev U21 := @Tryz.underlying21
abbrev R6 := @Tryz.underlying22
abbrev Lu := @Tryz.underlying29
abbrev CO := @Tryz.underlying30
abbrev U32 := @Tryz.underlying32
abbrev RG := @Tryz.underlying33
abbrev XU := @Tryz.underlying34
abbrev C1 := @Tryz.underlying36
abbrev O8 := @Tryz.underlying46
abbrev PH := @Tryz.underlying49
abbrev Yc := @Tryz.underlying53
abbrev CL := @Tryz.underlying63
abbrev ND := @Tryz.underlying70
abbrev FG := @Tryz.underlying73
abbrev PA := @Tryz.underlying74
abbrev xR := @Tryz.underlying80
abbrev xQ := @Tryz.underlying81
abbrev Hs := @Tryz.underlying87
abbrev oT := @Tryz.underlying89
abbrev I6 := @Tryz.underlying96
abbrev xP := @Tryz.underlying99
abbrev LY := @Tryz.underlying105
abbrev tY := @Tryz.underlying117
abbrev tX := @Tryz.underlying121
abbrev BC := @Tryz.underlying133
abbrev Gy := @Tryz.underlying134
abbrev R7 := @Tryz.underlying140
abbrev Ic := @Tryz.underlying141
abbrev U143 := @Tryz.underlying143
abbrev Lv := @Tryz.underlying159
theorem kW {ops : Array Oper} {a : Act} {w : World} {Q : Exit → Act → World → Prop} {n : Nat} {l : List (Nat × Value)} {rest : List Oper} {op : Op} {tt : TypeId} {ps : String} {af : Array Edge} {k : Nat} {v : Value} {g : Nat × Bool} (H : Kn a n l) (hg : GO ops.toList l (some g) = some true) (hv : (execOp a.eval ⟨some k, op, tt, ps, af, none⟩).run Tryz.prog w = .ok (.value v) w) (hk : Nat.blt k n = true) (h : ∀ a', Kn a' n ((k, v) :: l) → wpList Tryz.prog ops Q rest a' w) :
  wpList Tryz.prog ops Q (⟨some k, op, tt, ps, af, some g⟩ :: rest) a w := kG H hg (kV H hv hk h)
theorem _root_.Go.RowKit.Below.tr {a b c : World} (h : Below a.heap.size a b) (hb : Below b.heap.size b c) : Below a.heap.size a c := h.trans (hb.mono h.size)
end
end Go.Proofs.YtbnmpoonkjlkjaaGreat
