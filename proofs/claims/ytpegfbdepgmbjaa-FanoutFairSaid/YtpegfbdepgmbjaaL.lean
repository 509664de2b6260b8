import Derived.Test.YtpegfbdepgmbjaaRows
import Derived.WalkKit
import Derived.Lib.Hide
import Derived.Deep.QuietTactic
import Derived.BigQuiet
import Derived.StillTailTactics
import Derived.Deep.MidRow
namespace Go.Proofs.Ytpegfbdepgmbjaa
open Go.RowKit

/-- cells known from an address on -/
def Holds (w : World) (A : Option Addr) (xs : List Value) : Prop :=
  ∀ j, j < xs.length → ∃ b o, A = some ⟨b, o, none⟩ ∧ w.cell? ⟨b, o + j, none⟩ = xs[j]?

theorem Holds.lt {w : World} {A : Option Addr} {xs : List Value} (h : Holds w A xs) {b o : Nat} (e : A = some ⟨b, o, none⟩) (hx : 0 < xs.length) : b < w.heap.size := by
  obtain ⟨b', o', he, hc⟩ := h 0 hx
  rw [he] at e
  injection e with e
  injection e with e1 e2
  subst e1; subst e2
  rw [List.getElem?_eq_getElem hx] at hc
  exact World.block_lt_of_cell? w _ hc
theorem Holds.up {w w' : World} {A : Option Addr} {xs : List Value} (h : Holds w A xs) (hb : Below w.heap.size w w') : Holds w' A xs := by
  intro j hj
  obtain ⟨b, o, he, hc⟩ := h j hj
  refine ⟨b, o, he, ?_⟩
  rw [← hc]
  rw [List.getElem?_eq_getElem hj] at hc
  exact hb.cell (p := ⟨b, o + j, none⟩) (World.block_lt_of_cell? w _ hc)

/-- block g is just the cells C of type t, none of them frozen -/
def Block (w : World) (g : Nat) (t : TypeId) (C : Array Value) : Prop := w.heap[g]? = some (.cells C t (0, 0))
section
variable {w w' : World} {g : Nat} {t : TypeId} {C : Array Value}
theorem Block.lt (h : Block w g t C) : g < w.heap.size := by
  unfold Block at h
  exact (Array.getElem?_eq_some_iff.1 h).1
theorem Block.cell (h : Block w g t C) (i : Nat) : w.cell? ⟨g, i, none⟩ = C[i]? := cell_of_row w g i C t (0, 0) h
theorem Block.frozen (h : Block w g t C) (i : Nat) : w.frozen? ⟨g, i, none⟩ = false := frozen_of_row w g i C t h
theorem Block.up {B : Nat} (h : Block w g t C) (hb : Below B w w') (hg : g < B) : Block w' g t C := (hb.block g hg).trans h
theorem Block.ups (h : Block w g t C) (hb : Below w.heap.size w w') : Block w' g t C := h.up hb h.lt
theorem Block.set (h : Block w g t C) (i : Nat) (u : Value) : Block (w.setCell ⟨g, i, none⟩ u) g t (C.setIfInBounds i u) := heap_setCell_same w g i C t u h
theorem Block.far (h : Block w g t C) {p : Addr} (hp : g ≠ p.block) (u : Value) : Block (w.setCell p u) g t C := (heap_setCell_other w p g u hp).trans h
end

section
variable {P : Program} {ops : Array Oper} {rest : List Oper} {o : Oper} {a : Act} {w : World} {Q : Exit → Act → World → Prop}

/-- a new variable holding a whole row -/
theorem arm_box (hgd : o.guard = none) (e : TypeId) (x : Operand) (ho : o.op = .box e x) (C : Array Value) (hx : a.eval x = .agg C)
    (h : ∀ w' g, w.heap.size ≤ g → Below w.heap.size w w' → Block w' g e C → wpList P ops Q rest (a.put o.dst (.pointer (some ⟨g, 0, none⟩))) w') : wpList P ops Q (o :: rest) a w :=
  wpList_plain hgd fun _ hK => by
    unfold Oper.wp execOp
    simp only [ho, hx, Instr.box, newVar, newRow, newObj, Value.cells, Sem.run, Sem.run_bind, Sem.run_pure, Result.andThen_ok]
    exact hK _ _ (h (w.alloc (.cells C e)) w.heap.size (Nat.le_refl _) ((Below.refl _ _).alloc (Nat.le_refl _) _) (heap_alloc_new w _))

/-- a new variable of zeros -/
theorem arm_alloc (hgd : o.guard = none) (e : TypeId) (ho : o.op = .alloc e) (Z : Array Value) (hz : (P.info? e).map (·.zero) = some (some (.agg Z)))
    (h : ∀ w' g, w.heap.size ≤ g → Below w.heap.size w w' → Block w' g e Z → wpList P ops Q rest (a.put o.dst (.pointer (some ⟨g, 0, none⟩))) w') : wpList P ops Q (o :: rest) a w :=
  wpList_plain hgd fun _ hK => by
    unfold Oper.wp execOp
    cases hq : P.info? e with
    | none => simp [hq] at hz
    | some i =>
      have hz' : i.zero = some (.agg Z) := by simpa [hq] using hz
      simp only [ho, Instr.alloc, zeroValue, typeInfo, program, newVar, newRow, newObj, Value.cells, Sem.run, Sem.run_bind, Sem.run_pure, Result.andThen_ok, hq, hz']
      exact hK _ _ (h (w.alloc (.cells Z e)) w.heap.size (Nat.le_refl _) ((Below.refl _ _).alloc (Nat.le_refl _) _) (heap_alloc_new w _))

/-- a whole row read out of a variable of its own -/
theorem arm_load (hgd : o.guard = none) (ty : TypeId) (x : Operand) (ho : o.op = .load ty x) (g : Nat) (hx : a.eval x = .pointer (some ⟨g, 0, none⟩))
    (t : TypeId) (C : Array Value) (d : TypeDesc) (hg : Block w g t C) (hu : P.underlying ty = some d)
    (hd : (match d with | .struct _ | .array _ _ => true | _ => false) = true) (hi : (P.info? ty).map (·.size) = some C.size)
    (h : wpList P ops Q rest (a.put o.dst (.agg C)) w) : wpList P ops Q (o :: rest) a w :=
  wpList_load_row hgd ty x ho g hx t C (0, 0) d hg hu hd hi h

/-- a whole row stored into a variable of its own -/
theorem arm_store (hgd : o.guard = none) (ty : TypeId) (x y : Operand) (ho : o.op = .store ty x y)
    (g : Nat) (cells : Array Value) (hx : a.eval x = .pointer (some ⟨g, 0, none⟩)) (hy : a.eval y = .agg cells)
    (t : TypeId) (old : Array Value) (hg : Block w g t old) (hi : (P.info? ty).map (·.size) = some cells.size)
    (hold : old.size = cells.size) (h1 : cells.all (·.oneCell') = true)
    (h : ∀ w', (∀ B, B ≤ g → Below B w w') → (∀ g', g' ≠ g → w'.heap[g']? = w.heap[g']?) → Block w' g t cells → wpList P ops Q rest (a.put o.dst undef) w') : wpList P ops Q (o :: rest) a w :=
  wpList_plain hgd fun _ hK => wp_store_row ty x y ho g cells hx hy t old hg hi hold h1
    (hK _ _ (h _ (fun B hB => ⟨rfl, rfl, rfl, by simp, fun k hk => setRow_other w g k _ (by omega)⟩) (fun g' hg' => setRow_other w g g' _ (by omega)) (setRow_heap w g old cells t (0, 0) hg)))

def setL (C : Array Value) (o : Nat) : List Value → Array Value
  | [] => C
  | v :: vs => setL (C.setIfInBounds o v) (o + 1) vs
theorem Block.setCells {g : Nat} {t : TypeId} : ∀ (vs : List Value) (w : World) (C : Array Value) (o : Nat), Block w g t C → Block (w.setCells g o vs) g t (setL C o vs)
  | [], _, _, _, h => h
  | v :: vs, _, _, o, h => Block.setCells vs _ _ (o + 1) (h.set o v)
theorem below_setCells {B g : Nat} {w0 : World} (hB : B ≤ g) : ∀ (vs : List Value) (w : World) (o : Nat), Below B w0 w → Below B w0 (w.setCells g o vs)
  | [], _, _, h => h
  | v :: vs, _, o, h => below_setCells hB vs _ (o + 1) (h.setCell (p := ⟨g, o, none⟩) hB v)
theorem other_setCells {g g' : Nat} (hg : g' ≠ g) : ∀ (vs : List Value) (w : World) (o : Nat), (w.setCells g o vs).heap[g']? = w.heap[g']?
  | [], _, _ => rfl
  | v :: vs, w, o => (other_setCells hg vs _ (o + 1)).trans (heap_setCell_other w ⟨g, o, none⟩ g' v hg)

/-- some cells stored into the middle of a block -/
theorem arm_store_mid (hgd : o.guard = none) (ty : TypeId) (x y : Operand) (ho : o.op = .store ty x y)
    (g off : Nat) (cells : Array Value) (hx : a.eval x = .pointer (some ⟨g, off, none⟩)) (hy : a.eval y = .agg cells)
    (t : TypeId) (old : Array Value) (hg : Block w g t old) (hi : (P.info? ty).map (·.size) = some cells.size)
    (hold : off + cells.size ≤ old.size) (h1 : cells.all (·.oneCell') = true)
    (h : ∀ w', (∀ B, B ≤ g → Below B w w') → (∀ g', g' ≠ g → w'.heap[g']? = w.heap[g']?) → Block w' g t (setL old off cells.toList) → wpList P ops Q rest (a.put o.dst undef) w') : wpList P ops Q (o :: rest) a w :=
  wpList_plain hgd fun _ hK => wp_store_mid ty x y ho g off cells hx hy (fun j hj => ⟨by rw [hg.cell, Array.getElem?_eq_getElem (by omega)]; rfl, hg.frozen _⟩) hi h1
    (hK _ _ (h _ (fun B hB => below_setCells hB _ _ _ (Below.refl _ _)) (fun g' hg' => other_setCells hg' _ _ _) (Block.setCells _ _ _ _ hg)))

theorem res_row_tmp {fn : Func} {p u : Tmp} {ty : TypeId} (h : fn.results = #[.cell p ty, .tmp u]) (tmps : Array Value) (w : World) (g : Nat) (t : TypeId) (C : Array Value) (d : TypeDesc)
    (hp : tmps.getD p undef = .pointer (some ⟨g, 0, none⟩)) (hg : Block w g t C)
    (hu : P.underlying ty = some d) (hd : (match d with | .struct _ | .array _ _ => true | _ => false) = true) (hi : (P.info? ty).map (·.size) = some C.size) :
    (results fn tmps).run P w = .ok (.tuple #[.agg C, tmps.getD u undef]) w := by
  rw [results_cell_tmp h, hp]
  simp only [asAddr, Sem.run_pure, Result.andThen_ok, run_loadVar_row w g t ty C (0, 0) d hg hu hd hi]
theorem res_row {fn : Func} {p : Tmp} {ty : TypeId} (h : fn.results = #[.cell p ty]) (tmps : Array Value) (w : World) (g : Nat) (t : TypeId) (C : Array Value) (d : TypeDesc)
    (hp : tmps.getD p undef = .pointer (some ⟨g, 0, none⟩)) (hg : Block w g t C)
    (hu : P.underlying ty = some d) (hd : (match d with | .struct _ | .array _ _ => true | _ => false) = true) (hi : (P.info? ty).map (·.size) = some C.size) :
    (results fn tmps).run P w = .ok (.agg C) w := results_cell_row h tmps w g t C (0, 0) d hp hg hu hd hi
end

section
variable {P : Program} {ops : Array Oper} {rest : List Oper} {d : Option Tmp} {tt : TypeId} {ps : String} {af : Array Edge} {a : Act} {w : World} {Q : Exit → Act → World → Prop}
/-- the arms with the operation written out: what does not fit falls at once -/
theorem op_box (e : TypeId) (x : Operand) (C : Array Value) (hx : a.eval x = .agg C)
    (h : ∀ w' g, w.heap.size ≤ g → Below w.heap.size w w' → Block w' g e C → wpList P ops Q rest (a.put d (.pointer (some ⟨g, 0, none⟩))) w') :
    wpList P ops Q (⟨d, .box e x, tt, ps, af, none⟩ :: rest) a w := arm_box rfl e x rfl C hx h
theorem op_alloc (e : TypeId) (Z : Array Value) (hz : (P.info? e).map (·.zero) = some (some (.agg Z)))
    (h : ∀ w' g, w.heap.size ≤ g → Below w.heap.size w w' → Block w' g e Z → wpList P ops Q rest (a.put d (.pointer (some ⟨g, 0, none⟩))) w') :
    wpList P ops Q (⟨d, .alloc e, tt, ps, af, none⟩ :: rest) a w := arm_alloc rfl e rfl Z hz h
theorem op_load (ty : TypeId) (x : Operand) (g : Nat) (t : TypeId) (C : Array Value) (ds : TypeDesc) (hx : a.eval x = .pointer (some ⟨g, 0, none⟩))
    (hg : Block w g t C) (hu : P.underlying ty = some ds)
    (hd : (match ds with | .struct _ | .array _ _ => true | _ => false) = true) (hi : (P.info? ty).map (·.size) = some C.size)
    (h : wpList P ops Q rest (a.put d (.agg C)) w) : wpList P ops Q (⟨d, .load ty x, tt, ps, af, none⟩ :: rest) a w :=
  arm_load rfl ty x rfl g hx t C ds hg hu hd hi h
theorem op_store (ty : TypeId) (x y : Operand) (g : Nat) (t : TypeId) (cells old : Array Value) (hx : a.eval x = .pointer (some ⟨g, 0, none⟩)) (hy : a.eval y = .agg cells)
    (hg : Block w g t old) (hi : (P.info? ty).map (·.size) = some cells.size) (hold : old.size = cells.size) (h1 : cells.all (·.oneCell') = true)
    (h : ∀ w', (∀ B, B ≤ g → Below B w w') → (∀ g', g' ≠ g → w'.heap[g']? = w.heap[g']?) → Block w' g t cells → wpList P ops Q rest (a.put d undef) w') :
    wpList P ops Q (⟨d, .store ty x y, tt, ps, af, none⟩ :: rest) a w := arm_store rfl ty x y rfl g cells hx hy t old hg hi hold h1 h
theorem op_store_mid (ty : TypeId) (x y : Operand) (g off : Nat) (t : TypeId) (cells old : Array Value) (hx : a.eval x = .pointer (some ⟨g, off, none⟩)) (hy : a.eval y = .agg cells)
    (hg : Block w g t old) (hi : (P.info? ty).map (·.size) = some cells.size) (hold : off + cells.size ≤ old.size) (h1 : cells.all (·.oneCell') = true)
    (h : ∀ w', (∀ B, B ≤ g → Below B w w') → (∀ g', g' ≠ g → w'.heap[g']? = w.heap[g']?) → Block w' g t (setL old off cells.toList) → wpList P ops Q rest (a.put d undef) w') :
    wpList P ops Q (⟨d, .store ty x y, tt, ps, af, none⟩ :: rest) a w := arm_store_mid rfl ty x y rfl g off cells hx hy t old hg hi hold h1 h

theorem op_build0 (ty : TypeId) (V : Value) (hr : ∀ w, (Instr.build ty #[]).run P w = .ok V w) (h : wpList P ops Q rest (a.put d V) w) :
    wpList P ops Q (⟨d, .build ty #[], tt, ps, af, none⟩ :: rest) a w :=
  wpList_plain rfl fun _ hK => by
    unfold Oper.wp execOp
    simp only [List.map_toArray, List.map_nil, hr, Sem.run_bind, Sem.run_pure, Result.andThen_ok]
    exact hK _ _ h
theorem op_lit (t : TypeId) (n : Nat) (parts : Array (Nat × Operand)) (e : TypeId) (C : Array Value)
    (hr : ∀ w : World, (Instr.buildSlice t n (parts.map fun (i, x) => (i, a.eval x))).run P w = .ok (.slice (some ⟨w.heap.size, 0, none⟩) n n) (w.alloc (.cells C e)))
    (h : ∀ w' b, w.heap.size ≤ b → Below w.heap.size w w' → Block w' b e C → wpList P ops Q rest (a.put d (.slice (some ⟨b, 0, none⟩) n n)) w') :
    wpList P ops Q (⟨d, .buildSlice t n parts, tt, ps, af, none⟩ :: rest) a w :=
  wpList_plain rfl fun _ hK => by
    unfold Oper.wp execOp
    simp only [hr, Sem.run_bind, Sem.run_pure, Result.andThen_ok]
    exact hK _ _ (h (w.alloc (.cells C e)) w.heap.size (Nat.le_refl _) ((Below.refl _ _).alloc (Nat.le_refl _) _) (heap_alloc_new w _))
/-- an operation whose guard says yes is as one without a guard -/
theorem op_unguard (op : Op) (g : Nat × Bool) (hw : Region.wanted ⟨d, op, tt, ps, af, some g⟩ (yielded ops a.tmps) = true) (h : wpList P ops Q (⟨d, op, tt, ps, af, none⟩ :: rest) a w) :
    wpList P ops Q (⟨d, op, tt, ps, af, some g⟩ :: rest) a w := by
  unfold wpList at h ⊢
  rw [if_pos (by rfl)] at h
  rw [if_pos hw]
  exact h

/-- a variable made and filled at once -/
theorem op_new (e : TypeId) (k : Tmp) (y : Operand) (cells Z : Array Value) {t1 t2 : TypeId} {p1 p2 : String} {a1 a2 : Array Edge} (hz : (P.info? e).map (·.zero) = some (some (.agg Z)))
    (hi : (P.info? e).map (·.size) = some cells.size) (hZ : Z.size = cells.size) (h1 : cells.all (·.oneCell') = true)
    (hx : ∀ p, (a.put (some k) p).eval (.tmp k) = p) (hy : ∀ p, (a.put (some k) p).eval y = .agg cells)
    (h : ∀ w' g, w.heap.size ≤ g → Below w.heap.size w w' → Block w' g e cells → wpList P ops Q rest (a.put (some k) (.pointer (some ⟨g, 0, none⟩))) w') :
    wpList P ops Q (⟨some k, .alloc e, t1, p1, a1, none⟩ :: ⟨none, .store e (.tmp k) y, t2, p2, a2, none⟩ :: rest) a w := by
  refine op_alloc e Z hz fun w1 g hg hb hk => ?_
  refine op_store e (.tmp k) y g e cells Z (hx _) (hy _) hk hi hZ h1 fun w2 hb2 ho2 hk2 => ?_
  exact h w2 g hg (hb.trans (hb2 _ hg)) hk2
end
theorem Block.holds {w : World} {b : Nat} {t : TypeId} {L : List Value} (h : Block w b t L.toArray) : Holds w (some ⟨b, 0, none⟩) L := fun j hj => ⟨b, 0, rfl, by rw [Nat.zero_add, h.cell]; simp⟩

/-- a row of ints -/
def ints (B : List Int) : Array Value := (B.map (Value.int .i64)).toArray
theorem ints_size (B : List Int) : (ints B).size = B.length := by simp [ints]
theorem ints_at (B : List Int) (i : Nat) : (ints B)[i]? = (B[i]?).map (Value.int .i64) := by simp [ints]
theorem ints_get {B : List Int} {i : Nat} (h : i < B.length) : (ints B)[i]? = some (.int .i64 B[i]) := by rw [ints_at, List.getElem?_eq_getElem h]; rfl
theorem ints_one (B : List Int) : (ints B).all (·.oneCell') = true := by
  rw [Array.all_eq_true_iff_forall_mem]
  intro x hx
  simp [ints] at hx
  obtain ⟨a, _, rfl⟩ := hx
  rfl
theorem ints_set (B : List Int) (i : Nat) (x : Int) : (ints B).setIfInBounds i (.int .i64 x) = ints (B.set i x) := by
  simp [ints, List.setIfInBounds_toArray]
end Go.Proofs.Ytpegfbdepgmbjaa
