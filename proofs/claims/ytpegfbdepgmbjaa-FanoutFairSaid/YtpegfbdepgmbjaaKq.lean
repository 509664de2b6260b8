/- More laws for walks whose frames are facts: literals built out of slots (nothing of a program in sight). -/
import Derived.Test.YtpegfbdepgmbjaaKk
namespace Go.Proofs.Ytpegfbdepgmbjaa
open Go.RowKit
set_option linter.unusedVariables false
set_option linter.unusedSimpArgs false

section
variable {P : Program} {ops : Array Oper} {rest : List Oper} {d : Option Tmp} {tt : TypeId} {ps : String} {af : Array Edge} {a : Act} {w : World} {Q : Exit → Act → World → Prop}
/-- a slice literal -/
theorem op_litv (t : TypeId) (n : Nat) {parts : Array (Nat × Operand)} (vals : Array (Nat × Value)) (e : TypeId) (C : Array Value) (hv : (parts.map fun (i, x) => (i, a.eval x)) = vals)
    (hr : ∀ w : World, (Instr.buildSlice t n vals).run P w = .ok (.slice (some ⟨w.heap.size, 0, none⟩) n n) (w.alloc (.cells C e)))
    (h : ∀ w' b, w.heap.size ≤ b → Below w.heap.size w w' → Block w' b e C → wpList P ops Q rest (a.put d (.slice (some ⟨b, 0, none⟩) n n)) w') : wpList P ops Q (⟨d, .buildSlice t n parts, tt, ps, af, none⟩ :: rest) a w :=
  op_lit t n parts e C (by rw [hv]; exact hr) h
theorem wpo_litv {gd : Option (Nat × Bool)} {K : Act → World → Prop} (t : TypeId) (n : Nat) {parts : Array (Nat × Operand)} (vals : Array (Nat × Value)) (e : TypeId) (C : Array Value) (hv : (parts.map fun (i, x) => (i, a.eval x)) = vals)
    (hr : ∀ w : World, (Instr.buildSlice t n vals).run P w = .ok (.slice (some ⟨w.heap.size, 0, none⟩) n n) (w.alloc (.cells C e)))
    (h : ∀ w' b, w.heap.size ≤ b → Below w.heap.size w w' → Block w' b e C → K (a.put d (.slice (some ⟨b, 0, none⟩) n n)) w') : Oper.wp P ⟨d, .buildSlice t n parts, tt, ps, af, gd⟩ a w K Q := by
  have hr' : ∀ w : World, (Instr.buildSlice t n (parts.map fun (i, x) => (i, a.eval x))).run P w = .ok (.slice (some ⟨w.heap.size, 0, none⟩) n n) (w.alloc (.cells C e)) := by rw [hv]; exact hr
  unfold Oper.wp execOp
  simp only [hr', Sem.run_bind, Sem.run_pure, Result.andThen_ok]
  exact h (w.alloc (.cells C e)) w.heap.size (Nat.le_refl _) ((Below.refl _ _).alloc (Nat.le_refl _) _) (heap_alloc_new w _)
theorem kt {L : List Oper} {S : World → Prop} {z : Nat} {t : PT} {n : Nat} {l : List (Nat × Value)} (H : Kn a n l) {k : Nat} {v : Value} (hk : Nat.blt k n = true) (h : ∀ a', Kn a' n ((k, v) :: l) → wpT P L Q S z t a' w) : wpT P L Q S z t (a.put (some k) v) w := h _ (H.put k v hk)
/-- a struct built -/
theorem r_build {gd : Option (Nat × Bool)} {ty : TypeId} {parts : Array (Nat × Operand)} (vals : Array (Nat × Value)) (V : Value) (hv : (parts.map fun (i, x) => (i, a.eval x)) = vals) (hr : ∀ w, (Instr.build ty vals).run P w = .ok V w) :
    (execOp a.eval ⟨d, .build ty parts, tt, ps, af, gd⟩).run P w = .ok (.value V) w := by
  unfold execOp
  simp only [hv, hr, Sem.run_bind, Sem.run_pure, Result.andThen_ok]
/-- rows of structs at an address: element j -/
theorem r_row {gd : Option (Nat × Bool)} {ty : TypeId} {x : Operand} {b o : Nat} {cs : List Value} (hx : a.eval x = .pointer (some ⟨b, o, none⟩)) (hr : w.rangeAt b o cs) (hu : rowTy P ty = true) (hi : (P.info? ty).map (·.size) = some cs.length) {C : Array Value} (hC : cs.toArray = C) :
    (execOp a.eval ⟨d, .load ty x, tt, ps, af, gd⟩).run P w = .ok (.value (.agg C)) w := by
  subst hC
  exact run_loadM ty x b o cs hx hr hu hi
end
end Go.Proofs.Ytpegfbdepgmbjaa
