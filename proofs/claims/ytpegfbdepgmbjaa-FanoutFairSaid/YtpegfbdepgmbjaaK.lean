/- Laws for walks, one an operation. -/
import Derived.Test.YtpegfbdepgmbjaaPt
import Derived.Test.YtpegfbdepgmbjaaM
import Derived.Test.YtpegfbdepgmbjaaO
import Derived.Deep.Cut
import Derived.Deep.CutRange
import Derived.IntWalk
import Derived.Outline
namespace Go.Proofs.Ytpegfbdepgmbjaa
open Go.RowKit
set_option linter.unusedVariables false
set_option linter.unusedSimpArgs false

section
variable {P : Program} {ops : Array Oper} {rest : List Oper} {d : Option Tmp} {tt : TypeId} {ps : String} {af : Array Edge} {a : Act} {w : World} {Q : Exit → Act → World → Prop}
theorem op_build (ty : TypeId) (parts : Array (Nat × Operand)) (V : Value) (hr : ∀ w, (Instr.build ty (parts.map fun (i, x) => (i, a.eval x))).run P w = .ok V w) (h : wpList P ops Q rest (a.put d V) w) :
    wpList P ops Q (⟨d, .build ty parts, tt, ps, af, none⟩ :: rest) a w :=
  wpList_plain rfl fun _ hK => by
    unfold Oper.wp execOp
    simp only [hr, Sem.run_bind, Sem.run_pure, Result.andThen_ok]
    exact hK _ _ h
end

section
variable {P : Program} {ops : Array Oper} {rest : List Oper} {d : Option Tmp} {tt : TypeId} {ps : String} {af : Array Edge} {a : Act} {w : World} {Q : Exit → Act → World → Prop}
def rowTy (P : Program) (ty : TypeId) : Bool := match P.underlying ty with | some (.struct _) => true | some (.array _ _) => true | _ => false
theorem op_loadR (ty : TypeId) (x : Operand) (g : Nat) (t : TypeId) (C : Array Value) (hx : a.eval x = .pointer (some ⟨g, 0, none⟩))
    (hg : Block w g t C) (hu : rowTy P ty = true) (hi : (P.info? ty).map (·.size) = some C.size)
    (h : wpList P ops Q rest (a.put d (.agg C)) w) : wpList P ops Q (⟨d, .load ty x, tt, ps, af, none⟩ :: rest) a w := by
  cases hq : P.underlying ty with
  | none => simp [rowTy, hq] at hu
  | some ds => exact op_load ty x g t C ds hx hg hq (by cases ds <;> simp [rowTy, hq] at hu ⊢) hi h
theorem wl_v {op : Op} (v : Value) (hv : (execOp a.eval ⟨d, op, tt, ps, af, none⟩).run P w = .ok (.value v) w) (h : wpList P ops Q rest (a.put d v) w) : wpList P ops Q (⟨d, op, tt, ps, af, none⟩ :: rest) a w :=
  wpList_plain rfl fun _ hK => by
    unfold Oper.wp
    rw [hv]
    exact hK _ _ h
theorem wl_s {o : Oper} (hw : Region.wanted o (yielded ops a.tmps) = false) (h : wpList P ops Q rest (a.put o.dst undef) w) : wpList P ops Q (o :: rest) a w := by
  unfold wpList
  rw [if_neg (by rw [hw]; simp)]
  exact h
/-- a call -/
theorem wl_call {c : Call} (f : FuncId) (args : Array Value) (R : Ending → World → Prop) (hR : Calls P f args w R) (hc : (execOp a.eval ⟨d, .call c, tt, ps, af, none⟩).run P w = .ok (.enter f args) w)
    (h : ∀ e w', R e w' → ∃ v, e = .returned v ∧ wpList P ops Q rest (a.put d v) w') : wpList P ops Q (⟨d, .call c, tt, ps, af, none⟩ :: rest) a w :=
  wpList_plain rfl fun _ hK => by
    unfold Oper.wp
    rw [hc]
    refine hR.mono fun e w' he => ?_
    obtain ⟨v, rfl, h'⟩ := h e w' he
    exact hK _ _ h'
/-- a value stored into cells of a block, whatever it is -/
theorem op_store1 (ty : TypeId) (x y : Operand) (g off : Nat) (t : TypeId) (v : Value) (old : Array Value) (hx : a.eval x = .pointer (some ⟨g, off, none⟩)) (hy : a.eval y = v)
    (hg : Block w g t old) (hi : (P.info? ty).map (·.size) = some v.cells.size) (hold : off + v.cells.size ≤ old.size) (h1 : v.cells.all (·.oneCell') = true)
    (h : ∀ w', (∀ B, B ≤ g → Below B w w') → (∀ g', g' ≠ g → w'.heap[g']? = w.heap[g']?) → Block w' g t (setL old off v.cells.toList) → wpList P ops Q rest (a.put d undef) w') :
    wpList P ops Q (⟨d, .store ty x y, tt, ps, af, none⟩ :: rest) a w :=
  wpList_plain rfl fun _ hK => by
    have ht : w.there g off v.cells.size := fun j hj => ⟨by rw [hg.cell, Array.getElem?_eq_getElem (by omega)]; rfl, hg.frozen _⟩
    have hrun : (storeVar ty ⟨g, off, none⟩ v).run P w = .ok () (w.setCells g off v.cells.toList) := run_storeVar_mid w g off ty v.cells ht hi h1
    unfold Oper.wp execOp
    simp only [hx, hy, Instr.storeAt, Instr.sureAddr, Sem.run_bind, Sem.run_pure, Result.andThen_ok, hrun]
    exact hK _ _ (h _ (fun B hB => below_setCells hB _ _ _ (Below.refl _ _)) (fun g' hg' => other_setCells hg' _ _ _) (Block.setCells _ _ _ _ hg))
end

def Apart (v u : Value) : Prop := v.ownBlock = none ∨ v.ownBlock ≠ u.ownBlock
section
variable {w w' : World} {base e size n : Nat} {v : Value} {xs : List Value}
theorem own_block (h : w.ownsRow base e size v n xs) (hk : ∀ k, v.ownBlock = some k → w'.heap[k]? = w.heap[k]?) : w'.ownsRow base e size v n xs := by
  refine ⟨h.1, ?_⟩
  rcases h.2 with h2 | ⟨g, cap, cur, rfl, hb, hg, hrest⟩
  · exact .inl h2
  · exact .inr ⟨g, cap, cur, rfl, hb, (hk g rfl).trans hg, hrest⟩
theorem own_row {u : Value} (h : w.ownsRow base e size v n xs) (hg : w.grownBy w' u.ownBlock) (ha : Apart v u) : w'.ownsRow base e size v n xs := by
  refine own_block h fun k hk => hg.block k ((h.lt k hk).2) ?_
  rcases ha with ha | ha
  · rw [ha] at hk; cases hk
  · rw [← hk]; exact ha
theorem Apart.next {u u' : Value} (ha : Apart v u) (h : w.ownsRow base e size v n xs) (hu : u'.ownBlock = u.ownBlock ∨ u'.ownBlock = some w.heap.size) : Apart v u' := by
  rcases hu with hu | hu
  · unfold Apart; rw [hu]; exact ha
  · cases hv : v.ownBlock with
    | none => exact .inl hv
    | some k => exact .inr (by have := (h.lt k hv).2; rw [hu, hv]; intro e; injection e with e; omega)
theorem Apart.turn {u : Value} (ha : Apart v u) : Apart u v := by
  rcases ha with ha | ha
  · cases hu : u.ownBlock with
    | none => exact .inl hu
    | some k => exact .inr (by rw [hu, ha]; simp)
  · exact .inr (fun e => ha e.symm)
theorem Apart.nil (v : Value) : Apart (.slice none 0 0) v := .inl rfl
end

section
variable {w : World} {P : Program} {ops : Array Oper} {rest : List Oper} {d : Option Tmp} {tt : TypeId} {ps : String} {af : Array Edge} {a : Act} {Q : Exit → Act → World → Prop}
/-- some cells read out of the midst of a block -/
theorem op_loadM (ty : TypeId) (x : Operand) (b o : Nat) (cs : List Value) (C : Array Value) (hC : cs.toArray = C) (hx : a.eval x = .pointer (some ⟨b, o, none⟩)) (hr : w.rangeAt b o cs) (hu : rowTy P ty = true) (hi : (P.info? ty).map (·.size) = some cs.length)
    (h : wpList P ops Q rest (a.put d (.agg C)) w) : wpList P ops Q (⟨d, .load ty x, tt, ps, af, none⟩ :: rest) a w := by
  subst hC
  exact wl_v (.agg cs.toArray) (by
    unfold execOp
    cases hq : P.underlying ty with
    | none => simp [rowTy, hq] at hu
    | some ds =>
      have hd : ds.isRow = true := by cases ds <;> simp [rowTy, hq, TypeDesc.isRow] at hu ⊢
      simp only [hx, Instr.loadAt, Instr.sureAddr, Sem.run_bind, Sem.run_pure, Result.andThen_ok, run_loadVar_mid w b o ty cs ds hr hq hd hi]) h
theorem Holds.range {A : Option Addr} {xs : List Value} (h : Holds w A xs) {b o : Nat} (e : A = some ⟨b, o, none⟩) (j k : Nat) (hj : j + k ≤ xs.length) : w.rangeAt b (o + j) ((xs.drop j).take k) := by
  intro i v hv
  have hi : i < k := by
    have := (List.getElem?_eq_some_iff.1 hv).1
    simp at this; omega
  rw [List.getElem?_take, if_pos hi, List.getElem?_drop] at hv
  obtain ⟨b', o', e', hc⟩ := h (j + i) (by omega)
  rw [e] at e'
  injection e' with e'
  injection e' with e1 e2
  subst e1 e2
  rw [Nat.add_assoc, hc, hv]
theorem Holds.ints_range {A : Option Addr} {L : List Int} (h : Holds w A (L.map (Value.int .i64))) {b o : Nat} (e : A = some ⟨b, o, none⟩) (j k : Nat) (hj : j + k ≤ L.length) : w.rangeAt b (o + j) (((L.drop j).take k).map (Value.int .i64)) := by
  have := h.range e j k (by simpa using hj)
  rwa [← List.map_drop, ← List.map_take] at this
end

abbrev IV (L : List Int) : List Value := L.map (Value.int .i64)

theorem run_loadM {a : Act} {w : World} (ty : TypeId) (x : Operand) (b o : Nat) (cs : List Value) {d : Option Tmp} {tt : TypeId} {ps : String} {af : Array Edge} {gd : Option (Nat × Bool)} {P : Program} (hx : a.eval x = .pointer (some ⟨b, o, none⟩)) (hr : w.rangeAt b o cs) (hu : rowTy P ty = true) (hi : (P.info? ty).map (·.size) = some cs.length) :
    (execOp a.eval ⟨d, .load ty x, tt, ps, af, gd⟩).run P w = .ok (.value (.agg cs.toArray)) w := by
  unfold execOp
  cases hq : P.underlying ty with
  | none => simp [rowTy, hq] at hu
  | some ds =>
    have hd : ds.isRow = true := by cases ds <;> simp [rowTy, hq, TypeDesc.isRow] at hu ⊢
    simp only [hx, Instr.loadAt, Instr.sureAddr, Sem.run_bind, Sem.run_pure, Result.andThen_ok, run_loadVar_mid w b o ty cs ds hr hq hd hi]
theorem range_ups {w w' : World} {b o : Nat} {cs : List Value} (h : w.rangeAt b o cs) (hb : Below w.heap.size w w') : w'.rangeAt b o cs := fun j v hv => (hb.cell (p := ⟨b, o + j, none⟩) (World.block_lt_of_cell? w _ (h j v hv))).trans (h j v hv)
def BelowOf (W w : World) : Prop := Below W.heap.size W w

section
variable {P : Program} {d : Option Tmp} {tt : TypeId} {ps : String} {af : Array Edge} {a : Act} {w : World} {K : Act → World → Prop} {Q : Exit → Act → World → Prop}
theorem wpo_append (t e : TypeId) (s x : Operand) (base : Nat) (z : Value) (size bytes : Nat) (v : Value) (n : Nat) (xs : List Value) (A : Option Addr) (m c : Nat) (news : List Value)
    (hs : a.eval s = v) (hx : a.eval x = .slice A m c)
    (ht : P.underlying t = some (.slice e)) (hi : (P.info? e).map (fun i => (i.zero, i.size, i.bytes)) = some (some z, size, bytes))
    (hzs : z.cells.size = size) (hsz : 0 < size)
    (hown : w.ownsRow base e size v n xs) (hl : news.length = m * size) (hr : Holds w A news) (h1 : ∀ u ∈ news, u.oneCell' = true)
    (h63 : n + m ≤ maxLen) (hbytes : (n + m) * bytes ≤ 140737488355328) (hbase : base ≤ w.heap.size)
    (h : ∀ v' w', w'.ownsRow base e size v' (n + m) (xs ++ news) → w.grownBy w' v.ownBlock → (v'.ownBlock = v.ownBlock ∨ v'.ownBlock = some w.heap.size) → Below base w w' → K (a.put d v') w') :
    Oper.wp P ⟨d, .call { callee := .builtin .append, args := #[s, x], argTypes := #[t, t] }, tt, ps, af, none⟩ a w K Q := by
  obtain ⟨v', w', hrun, h2, h3, h4⟩ := run_append_holds (P := P) w base t tt e z size bytes ht hi hzs hsz v n xs hown A m c news hl hr h1 h63 hbytes hbase
  unfold Oper.wp execOp
  simp only [resolve, invoke, builtin, Sem.run_bind, Sem.run_pure, Result.andThen_ok, List.map_toArray, List.map_cons, List.map_nil, hs, hx, hrun]
  exact h v' w' h2 h3 h4 ((Below.refl base w).grown h3 hbase fun k hk => (hown.lt k hk).1)
theorem wpo_store1 (ty : TypeId) (x y : Operand) (g off : Nat) (t : TypeId) (v : Value) (old : Array Value) (hx : a.eval x = .pointer (some ⟨g, off, none⟩)) (hy : a.eval y = v)
    (hg : Block w g t old) (hi : (P.info? ty).map (·.size) = some v.cells.size) (hold : off + v.cells.size ≤ old.size) (h1 : v.cells.all (·.oneCell') = true)
    (h : ∀ w', (∀ B, B ≤ g → Below B w w') → (∀ g', g' ≠ g → w'.heap[g']? = w.heap[g']?) → Block w' g t (setL old off v.cells.toList) → K (a.put d undef) w') :
    Oper.wp P ⟨d, .store ty x y, tt, ps, af, none⟩ a w K Q := by
  have ht : w.there g off v.cells.size := fun j hj => ⟨by rw [hg.cell, Array.getElem?_eq_getElem (by omega)]; rfl, hg.frozen _⟩
  have hrun : (storeVar ty ⟨g, off, none⟩ v).run P w = .ok () (w.setCells g off v.cells.toList) := run_storeVar_mid w g off ty v.cells ht hi h1
  unfold Oper.wp execOp
  simp only [hx, hy, Instr.storeAt, Instr.sureAddr, Sem.run_bind, Sem.run_pure, Result.andThen_ok, hrun]
  exact h _ (fun B hB => below_setCells hB _ _ _ (Below.refl _ _)) (fun g' hg' => other_setCells hg' _ _ _) (Block.setCells _ _ _ _ hg)
end

section
variable {P : Program} {d : Option Tmp} {tt : TypeId} {ps : String} {af : Array Edge} {a : Act} {w : World} {K : Act → World → Prop} {Q : Exit → Act → World → Prop}
/-- a new variable of zeros, as one step of a region that draws -/
theorem wpo_alloc (e : TypeId) (Z : Array Value) (hz : (P.info? e).map (·.zero) = some (some (.agg Z)))
    (h : ∀ w' g, w.heap.size ≤ g → Below w.heap.size w w' → Block w' g e Z → K (a.put d (.pointer (some ⟨g, 0, none⟩))) w') :
    Oper.wp P ⟨d, .alloc e, tt, ps, af, none⟩ a w K Q := by
  unfold Oper.wp execOp
  cases hq : P.info? e with
  | none => simp [hq] at hz
  | some i =>
    have hz' : i.zero = some (.agg Z) := by simpa [hq] using hz
    simp only [Instr.alloc, zeroValue, typeInfo, program, newVar, newRow, newObj, Value.cells, Sem.run, Sem.run_bind, Sem.run_pure, Result.andThen_ok, hq, hz']
    exact h (w.alloc (.cells Z e)) w.heap.size (Nat.le_refl _) ((Below.refl _ _).alloc (Nat.le_refl _) _) (heap_alloc_new w _)
end



section
variable {P : Program} {d : Option Tmp} {tt : TypeId} {ps : String} {af : Array Edge} {a : Act} {w : World} {K : Act → World → Prop} {Q : Exit → Act → World → Prop}
/-- a whole row stored, as one step of a region that draws -/
theorem wpo_store (ty : TypeId) (x y : Operand) (g : Nat) (t : TypeId) (cells old : Array Value) (hx : a.eval x = .pointer (some ⟨g, 0, none⟩)) (hy : a.eval y = .agg cells)
    (hg : Block w g t old) (hi : (P.info? ty).map (·.size) = some cells.size) (hold : old.size = cells.size) (h1 : cells.all (·.oneCell') = true)
    (h : ∀ w', (∀ B, B ≤ g → Below B w w') → (∀ g', g' ≠ g → w'.heap[g']? = w.heap[g']?) → Block w' g t cells → K (a.put d undef) w') :
    Oper.wp P ⟨d, .store ty x y, tt, ps, af, none⟩ a w K Q :=
  wp_store_row ty x y rfl g cells hx hy t old hg hi hold h1
    (h _ (fun B hB => ⟨rfl, rfl, rfl, by simp, fun k hk => setRow_other w g k _ (by omega)⟩) (fun g' hg' => setRow_other w g g' _ (by omega)) (setRow_heap w g old cells t (0, 0) hg))
end


section
variable {P : Program} {d : Option Tmp} {tt : TypeId} {ps : String} {af : Array Edge} {a : Act} {w : World} {K : Act → World → Prop} {Q : Exit → Act → World → Prop}
theorem wpo_lit (t : TypeId) (n : Nat) (parts : Array (Nat × Operand)) (e : TypeId) (C : Array Value)
    (hr : ∀ w : World, (Instr.buildSlice t n (parts.map fun (i, x) => (i, a.eval x))).run P w = .ok (.slice (some ⟨w.heap.size, 0, none⟩) n n) (w.alloc (.cells C e)))
    (h : ∀ w' b, w.heap.size ≤ b → Below w.heap.size w w' → Block w' b e C → K (a.put d (.slice (some ⟨b, 0, none⟩) n n)) w') :
    Oper.wp P ⟨d, .buildSlice t n parts, tt, ps, af, none⟩ a w K Q := by
  unfold Oper.wp execOp
  simp only [hr, Sem.run_bind, Sem.run_pure, Result.andThen_ok]
  exact h (w.alloc (.cells C e)) w.heap.size (Nat.le_refl _) ((Below.refl _ _).alloc (Nat.le_refl _) _) (heap_alloc_new w _)
end

end Go.Proofs.Ytpegfbdepgmbjaa
