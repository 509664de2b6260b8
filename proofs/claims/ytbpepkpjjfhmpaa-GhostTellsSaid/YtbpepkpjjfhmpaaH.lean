/- The ghost: rows of one's own, ranges, what GhostRises carries. -/
import Derived.Test.YtbpepkpjjfhmpaaG
import Derived.Test.YtbpepkpjjfhmpaaM
namespace Go.Proofs.Ytbpepkpjjfhmpaa
open Go.RowKit Go.Maps
set_option linter.unusedVariables false
set_option linter.unusedSimpArgs false

def Apart (v u : Value) : Prop := v.ownBlock = none ∨ v.ownBlock ≠ u.ownBlock
section
variable {w w' : World} {base e size n : Nat} {v : Value} {xs : List Value}
theorem own_block (h : w.ownsRow base e size v n xs) (hk : ∀ k, v.ownBlock = some k → w'.heap[k]? = w.heap[k]?) : w'.ownsRow base e size v n xs := by
  refine ⟨h.1, ?_⟩
  rcases h.2 with h2 | ⟨g, cap, cur, rfl, hb, hg, hrest⟩
  · exact .inl h2
  · exact .inr ⟨g, cap, cur, rfl, hb, (hk g rfl).trans hg, hrest⟩
theorem own_row {u : Value} (h : w.ownsRow base e size v n xs) (hg : w.grownBy w' u.ownBlock) (ha : Apart v u) : w'.ownsRow base e size v n xs := by
  refine own_block h fun k hk => hg.block k ((h.lt k hk).2) ?_
  rcases ha with ha | ha
  · rw [ha] at hk; cases hk
  · rw [← hk]; exact ha
theorem own_but {g bm : Nat} (h : w.ownsRow base e size v n xs) (hb : But g bm w w') (gb : g < base) (mb : bm < base) : w'.ownsRow base e size v n xs :=
  own_block h fun k hk => hb.block k ((h.lt k hk).2) (by have := (h.lt k hk).1; omega) (by have := (h.lt k hk).1; omega)
theorem Apart.next {u u' : Value} (ha : Apart v u) (h : w.ownsRow base e size v n xs) (hu : u'.ownBlock = u.ownBlock ∨ u'.ownBlock = some w.heap.size) : Apart v u' := by
  rcases hu with hu | hu
  · unfold Apart; rw [hu]; exact ha
  · cases hv : v.ownBlock with
    | none => exact .inl hv
    | some k => exact .inr (by have := (h.lt k hv).2; rw [hu, hv]; intro e; injection e with e; omega)
theorem Apart.turn {u : Value} (ha : Apart v u) : Apart u v := by
  rcases ha with ha | ha
  · cases hu : u.ownBlock with
    | none => exact .inl hu
    | some k => exact .inr (by rw [hu, ha]; simp)
  · exact .inr (fun e => ha e.symm)
theorem Apart.nil (v : Value) : Apart (.slice none 0 0) v := .inl rfl
theorem GG.row {g bm : Nat} {G : GS} (h : GG w g bm G) (hown : w.ownsRow base e size v n xs) (hg : w.grownBy w' v.ownBlock) (gb : g < base) (mb : bm < base) : GG w' g bm G := by
  have ng : some g ≠ v.ownBlock := fun e => by have := (hown.lt g e.symm).1; omega
  have nm : some bm ≠ v.ownBlock := fun e => by have := (hown.lt bm e.symm).1; omega
  exact ⟨(hg.block g h.1.lt ng).trans h.1, h.2.1.kept hg nm, h.2.2⟩
theorem GG.drew {g bm : Nat} {G : GS} (h : GG w g bm G) : GG w.drew g bm G := h
end

section
variable {w : World} {P : Program} {ops : Array Oper} {rest : List Oper} {d : Option Tmp} {tt : TypeId} {ps : String} {af : Array Edge} {a : Act} {Q : Exit → Act → World → Prop}
/-- some cells read out of the midst of a block -/
theorem op_loadM (ty : TypeId) (x : Operand) (b o : Nat) (cs : List Value) (C : Array Value) (hC : cs.toArray = C) (hx : a.eval x = .pointer (some ⟨b, o, none⟩)) (hr : w.rangeAt b o cs) (hu : rowTy P ty = true) (hi : (P.info? ty).map (·.size) = some cs.length)
    (h : wpList P ops Q rest (a.put d (.agg C)) w) : wpList P ops Q (⟨d, .load ty x, tt, ps, af, none⟩ :: rest) a w := by
  subst hC
  exact wl_v (.agg cs.toArray) (by
    unfold execOp
    cases hq : P.underlying ty with
    | none => simp [rowTy, hq] at hu
    | some ds =>
      have hd : ds.isRow = true := by cases ds <;> simp [rowTy, hq, TypeDesc.isRow] at hu ⊢
      simp only [hx, Instr.loadAt, Instr.sureAddr, Sem.run_bind, Sem.run_pure, Result.andThen_ok, run_loadVar_mid w b o ty cs ds hr hq hd hi]) h
theorem Holds.range {A : Option Addr} {xs : List Value} (h : Holds w A xs) {b o : Nat} (e : A = some ⟨b, o, none⟩) (j k : Nat) (hj : j + k ≤ xs.length) : w.rangeAt b (o + j) ((xs.drop j).take k) := by
  intro i v hv
  have hi : i < k := by
    have := (List.getElem?_eq_some_iff.1 hv).1
    simp at this; omega
  rw [List.getElem?_take, if_pos hi, List.getElem?_drop] at hv
  obtain ⟨b', o', e', hc⟩ := h (j + i) (by omega)
  rw [e] at e'
  injection e' with e'
  injection e' with e1 e2
  subst e1 e2
  rw [Nat.add_assoc, hc, hv]
theorem Holds.ints_range {A : Option Addr} {L : List Int} (h : Holds w A (L.map (Value.int .i64))) {b o : Nat} (e : A = some ⟨b, o, none⟩) (j k : Nat) (hj : j + k ≤ L.length) : w.rangeAt b (o + j) (((L.drop j).take k).map (Value.int .i64)) := by
  have := h.range e j k (by simpa using hj)
  rwa [← List.map_drop, ← List.map_take] at this
end
theorem nflat_len : ∀ V : List Nt, (nflat V).length = V.length * 4
  | [] => rfl
  | x :: V => by have := nflat_len V; simp only [nflat, List.flatMap_cons, List.length_append, List.length_cons, List.length_nil] at this ⊢; omega
theorem nflat_part {V : List Nt} {j : Nat} (h : j < V.length) : ((nflat V).drop (j*4)).take 4 = [V[j].1, V[j].2.1, V[j].2.2.1, V[j].2.2.2] := by
  apply List.ext_getElem?
  intro q
  rw [List.getElem?_take]
  split
  · rename_i hq
    rw [List.getElem?_drop, nflat_at h q hq]
  · rename_i hq
    rw [List.getElem?_eq_none (by simp; omega)]
theorem nflat_range {w : World} {A : Option Addr} {V : List Nt} (h : Holds w A ((nflat V).map (Value.int .i64))) {b o : Nat} (e : A = some ⟨b, o, none⟩) {j : Nat} (hj : j < V.length) : w.rangeAt b (o + j*4) [.int .i64 V[j].1, .int .i64 V[j].2.1, .int .i64 V[j].2.2.1, .int .i64 V[j].2.2.2] := by
  have := h.ints_range e (j*4) 4 (by rw [nflat_len]; omega)
  rwa [nflat_part hj] at this
theorem nflat_snoc (V : List Nt) (x : Nt) : nflat (V ++ [x]) = nflat V ++ [x.1, x.2.1, x.2.2.1, x.2.2.2] := by simp [nflat]
/-- the last notes of the users up to j, how many they have -/
def lasts (G : GS) (j : Nat) : List Nt := (List.range j).map fun (i : Nat) => lastF G.last ((i : Int) + 1)
def manys (G : GS) (j : Nat) : List Int := (List.range j).map fun i => ci G.many (i + 1)
theorem lasts_len (G : GS) (j : Nat) : (lasts G j).length = j := by simp [lasts]
theorem manys_len (G : GS) (j : Nat) : (manys G j).length = j := by simp [manys]
theorem lasts_next (G : GS) (j : Nat) : lasts G (j + 1) = lasts G j ++ [lastF G.last ((j : Int) + 1)] := by simp [lasts, List.range_succ]
theorem manys_next (G : GS) (j : Nat) : manys G (j + 1) = manys G j ++ [ci G.many (j + 1)] := by simp [manys, List.range_succ]
theorem lasts_at (G : GS) {j k : Nat} (h : j < k) : (lasts G k)[j]? = some (lastF G.last ((j : Int) + 1)) := by simp [lasts, h]
theorem manys_at (G : GS) {j k : Nat} (h : j < k) : (manys G k)[j]? = some (ci G.many (j + 1)) := by simp [manys, h]
theorem manyJ (many : List Int) (j : Nat) (h : j < 16) : manyF many ((j : Int) + 1) = ci many (j + 1) := by
  unfold manyF; rw [if_pos (by omega)]; congr 1
theorem castJ (j : Nat) : ((j + 1 : Nat) : Int) = (j : Int) + 1 := by omega
theorem GOK.wfJ {G : GS} {k : Nat} (h : GOK G k) (j : Nat) (hj : j < 16) : NWF (lastF G.last ((j : Int) + 1)) := by rw [← castJ]; exact h.wf (j + 1) (by omega) (by omega)
theorem GOK.hadJ {G : GS} {k : Nat} (h : GOK G k) (j : Nat) (hj : j < 16) : lastF G.last ((j : Int) + 1) ∈ G.had := by rw [← castJ]; exact h.had (j + 1) (by omega) (by omega)

abbrev IV (L : List Int) : List Value := L.map (Value.int .i64)
/-- GhostRises: at the head of a round -/
def R1 (W : World) (g bm base n : Nat) (v i : Value) (w : World) : Prop :=
  ∃ (k : Nat) (G : GS) (V : List Nt), k ≤ n ∧ i = .int .i64 k ∧ GOK G k ∧ GG w g bm G ∧ w.ownsRow base 35 4 v V.length (IV (nflat V)) ∧ (∀ x ∈ V, x ∈ G.had ∧ NWF x) ∧ V.length ≤ 16 * k ∧ Below W.heap.size W w ∧ base ≤ w.heap.size
def R2 (W : World) (g bm base : Nat) (G : GS) (V : List Nt) (v5 : Value) (v8 v9 u : Value) (w : World) : Prop :=
  ∃ j : Nat, j ≤ 16 ∧ u = .int .i64 ((j : Int) + 1) ∧ GG w g bm G ∧ w.ownsRow base 35 4 v5 V.length (IV (nflat V)) ∧ w.ownsRow base 35 4 v8 j (IV (nflat (lasts G j))) ∧ w.ownsRow base 3 1 v9 j (IV (manys G j)) ∧
    Apart v8 v5 ∧ Apart v9 v5 ∧ Apart v8 v9 ∧ Below W.heap.size W w ∧ base ≤ w.heap.size
def R3 (W : World) (g bm base : Nat) (G G1 : GS) (v8 v9 : Value) (N : Nat) (v5 u : Value) (w : World) : Prop :=
  ∃ (j : Nat) (V : List Nt), j ≤ 16 ∧ u = .int .i64 ((j : Int) + 1) ∧ GG w g bm G1 ∧ w.ownsRow base 35 4 v5 V.length (IV (nflat V)) ∧ w.ownsRow base 35 4 v8 16 (IV (nflat (lasts G 16))) ∧ w.ownsRow base 3 1 v9 16 (IV (manys G 16)) ∧
    Apart v8 v5 ∧ Apart v9 v5 ∧ (∀ x ∈ V, x ∈ G1.had ∧ NWF x) ∧ V.length ≤ N + j ∧ Below W.heap.size W w ∧ base ≤ w.heap.size
def R4 (W : World) (g bm base : Nat) (G1 : GS) (V : List Nt) (v5 : Value) (u : Value) (w : World) : Prop :=
  ∃ j : Nat, j ≤ V.length ∧ u = .int .i64 (j : Int) ∧ GG w g bm G1 ∧ w.ownsRow base 35 4 v5 V.length (IV (nflat V)) ∧ Below W.heap.size W w ∧ base ≤ w.heap.size
theorem i35 : (Try.prog.info? 35).map (fun i => (i.zero, i.size, i.bytes)) = some (some (.agg zN), 4, 32) := by kernel_rfl
theorem i3 : (Try.prog.info? 3).map (fun i => (i.zero, i.size, i.bytes)) = some (some (.int .i64 0), 1, 8) := by kernel_rfl
theorem own_snoc4 {w : World} {base : Nat} {v : Value} {n : Nat} {V : List Nt} {x : Nt} (h : w.ownsRow base 35 4 v (n + 1) (IV (nflat V) ++ [.int .i64 x.1, .int .i64 x.2.1, .int .i64 x.2.2.1, .int .i64 x.2.2.2])) : w.ownsRow base 35 4 v (n + 1) (IV (nflat (V ++ [x]))) := by
  rw [nflat_snoc]; simpa [IV] using h
theorem own_snoc1 {w : World} {base : Nat} {v : Value} {n : Nat} {L : List Int} {x : Int} (h : w.ownsRow base 3 1 v (n + 1) (IV L ++ [.int .i64 x])) : w.ownsRow base 3 1 v (n + 1) (IV (L ++ [x])) := by
  simpa [IV] using h
end Go.Proofs.Ytbpepkpjjfhmpaa
