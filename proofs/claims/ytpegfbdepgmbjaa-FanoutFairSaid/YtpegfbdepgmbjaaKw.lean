/- More laws for single operations: boxes, arrays' elements, closures, blocks (nothing of a program in sight). -/
import Derived.Test.YtpegfbdepgmbjaaKq
namespace Go.Proofs.Ytpegfbdepgmbjaa
open Go.RowKit
set_option linter.unusedVariables false
set_option linter.unusedSimpArgs false

section
variable {P : Program} {ops : Array Oper} {rest : List Oper} {d : Option Tmp} {tt : TypeId} {ps : String} {af : Array Edge} {gd : Option (Nat × Bool)} {a : Act} {w : World} {Q : Exit → Act → World → Prop}
/-- a new variable holding one cell -/
theorem op_box1 (e : TypeId) (x : Operand) (v : Value) (hx : a.eval x = v) (hv : v.cells = #[v])
    (h : ∀ w' g, w.heap.size ≤ g → Below w.heap.size w w' → Block w' g e #[v] → wpList P ops Q rest (a.put d (.pointer (some ⟨g, 0, none⟩))) w') :
    wpList P ops Q (⟨d, .box e x, tt, ps, af, none⟩ :: rest) a w :=
  wpList_plain rfl fun _ hK => by
    unfold Oper.wp execOp
    simp only [hx, Instr.box, newVar, newRow, newObj, hv, Sem.run, Sem.run_bind, Sem.run_pure, Result.andThen_ok]
    exact hK _ _ (h (w.alloc (.cells #[v] e)) w.heap.size (Nat.le_refl _) ((Below.refl _ _).alloc (Nat.le_refl _) _) (heap_alloc_new w _))
/-- an array's element's address -/
theorem r_ixa {T E : TypeId} {x i : Operand} {b o N j size : Nat} (hT : P.underlying T = some (.array N E)) (hs : (P.info? E).map (·.size) = some size) (hx : a.eval x = .pointer (some ⟨b, o, none⟩)) (hi : a.eval i = .int .i64 (j : Nat)) (hj : j < N) {q : Nat} (hq : o + j * size = q) :
    (execOp a.eval ⟨d, .indexAddr T x i, tt, ps, af, gd⟩).run P w = .ok (.value (.pointer (some ⟨b, q, none⟩))) w := by
  subst hq
  cases hqq : P.info? E with
  | none => simp [hqq] at hs
  | some i0 =>
    have hsz : i0.size = size := by simpa [hqq] using hs
    subst hsz
    unfold execOp
    simp only [hx, hi]
    simp [Instr.indexAt, Instr.sureAddr, run_underlying hT, sizeOf, typeInfo, program, hqq, asIntOf, hj, add_flat, Sem.run]
/-- a call of a function value -/
theorem r_callc {f : FuncId} {c : Value} (hf : entF P f) {g x : Operand} {vx : Value} {ats : Array TypeId} (hg : a.eval g = .func (.func f) #[] #[c]) (hx : a.eval x = vx) :
    (execOp a.eval ⟨d, .call { callee := .value g, args := #[x], argTypes := ats }, tt, ps, af, gd⟩).run P w = .ok (.enter f #[vx, c]) w := by
  unfold execOp
  simp [resolve, invoke, hx, hg, Deferred.ofValue, hf _ w]
theorem r_callf {f : FuncId} (hf : entF P f) {g x : Operand} {vx : Value} {ats : Array TypeId} (hg : a.eval g = .func (.func f) #[] #[]) (hx : a.eval x = vx) :
    (execOp a.eval ⟨d, .call { callee := .value g, args := #[x], argTypes := ats }, tt, ps, af, gd⟩).run P w = .ok (.enter f #[vx]) w := by
  unfold execOp
  simp [resolve, invoke, hx, hg, Deferred.ofValue, hf _ w]
/-- a closure that captures one variable -/
theorem r_mkfn1 {fn : Fn} {x : Operand} {vx : Value} (hx : a.eval x = vx) : (execOp a.eval ⟨d, .makeFunc fn #[] #[x], tt, ps, af, gd⟩).run P w = .ok (.value (.func fn #[] #[vx])) w := by
  subst hx
  have hmf : ∀ fn first cap w, (Instr.makeFunc fn first cap).run P w = .ok (.func fn first cap) w := fun _ _ _ _ => rfl
  unfold execOp
  simp [hmf, Sem.run_bind, Sem.run_pure, Result.andThen_ok]
theorem cell_ups {w w' : World} {b o : Nat} {v : Value} (h : w.cell? ⟨b, o, none⟩ = some v) (hb : Below w.heap.size w w') : w'.cell? ⟨b, o, none⟩ = some v := (hb.cell (p := ⟨b, o, none⟩) (World.block_lt_of_cell? w _ h)).trans h
theorem block_range {w : World} {b : Nat} {t : TypeId} {L : List Value} (h : Block w b t L.toArray) : w.rangeAt b 0 L := by
  intro i v hv
  rw [Nat.zero_add, h.cell]
  simpa using hv
theorem block_same {w w' : World} {b : Nat} {t : TypeId} {C : Array Value} (h : Block w b t C) (ho : w'.heap[b]? = w.heap[b]?) : Block w' b t C := ho.trans h
end
end Go.Proofs.Ytpegfbdepgmbjaa
