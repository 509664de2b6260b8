/- Client: part ZEi of the proof. -/
import Derived.Test.YtbnmpoonkjlkjaaGreatXZEh
import Derived.Test.YtbnmpoonkjlkjaaGreatXZTw
namespace Go.Proofs.YtbnmpoonkjlkjaaGreat
open Go.RowKit
set_option linter.unusedVariables false
set_option linter.unusedSimpArgs false
set_option maxRecDepth 100000
set_option maxHeartbeats 8000000
/-- w' is w, but that byte j of block q is another one -/
structure JA (w w' : World) (q j : Nat) : Prop where
 same : ∀ g, g ≠ q → w'.heap[g]? = w.heap[g]?
 ex : ∃ (C : Array Value) (x y : B8), Ad w q 5 C ∧ C[j]? = some (u8v x) ∧ Ad w' q 5 (C.setIfInBounds j (u8v y))
theorem JA.cell {w w' : World} {q j g o : Nat} {v : Value} (h : JA w w' q j) (hv : w.cell? ⟨g, o, none⟩ = some v) (hn : ∀ x, v ≠ u8v x) : w'.cell? ⟨g, o, none⟩ = some v := by
 obtain ⟨hs, C, x, y, hC, hj, rJ⟩ := h
 by_cases e : g = q
 ·
  subst e
  rw [hC.cell] at hv
  rw [rJ.cell, Array.getElem?_setIfInBounds_ne (fun e => by subst e; rw [hj] at hv; injection hv with hv; exact hn x hv.symm)]
  exact hv
 ·
  rw [← hv]
  unfold World.cell?
  rw [hs g e]
theorem JA.block {w w' : World} {q j g : Nat} {t : TypeId} {C : Array Value} (h : JA w w' q j) (k : Ad w g t C) (ht : t ≠ 5) : Ad w' g t C := by
 obtain ⟨hs, D, x, y, hD, hj, _⟩ := h
 refine (hs g (fun e => ?_)).trans k
 subst e
 have k2 : w.heap[g]? = some (.cells C t (0, 0)) := k
 rw [show w.heap[g]? = some (.cells D 5 (0, 0)) from hD] at k2
 injection k2 with k2
 injection k2 with _ k3
 exact ht k3.symm
theorem JA.row {α : Type} {enc : α → List Int} {w w' : World} {q j : Nat} {v : Value} {L : List α} (hp : JA w w' q j) (h : AG enc w v L) : AG enc w' v L := by
 obtain ⟨A, c, rfl, h1, h2, h3, hh⟩ := h
 refine ⟨A, c, R, h1, h2, h3, fun i hi => ?_⟩
 obtain ⟨g, o, e, hc⟩ := hh i hi
 refine ⟨g, o, e, ?_⟩
 have he := List.getElem?_eq_getElem hi
 rw [he] at hc ⊢
 refine hp.cell hc fun x e => ?_
 have hm := List.getElem_mem hi
 rw [e] at hm
 simp only [FV, IV, List.mem_map] at hm
 obtain ⟨n, _, e2⟩ := hm
 injection e2 with e2
 cases e2
theorem JA.map {w w' : World} {q j : Nat} {m : Option Nat} {vw : Int → Option Nt} (hp : JA w w' q j) (hw : w'.os = w.os ∧ w'.tape = w.tape ∧ w'.output = w.output ∧ w.heap.size ≤ w'.heap.size) (h : AW w m vw) : AW w' m vw := by
 obtain ⟨hs, D, x, y, hD, hj, _⟩ := hp
 refine h.kept (row := some q) ⟨hw.1, hw.2.1, hw.2.2.1, hw.2.2.2, fun k _ hk => hs k (fun e => hk (by rw [e]))⟩ ?_
 cases m with
 | none => exact .inl rfl
 | some p =>
  refine .inr fun e => ?_
  injection e with e
  subst e
  obtain ⟨_, _, ⟨es, cl, hb, _⟩, _⟩ := (show En w p vw from h)
  have h2 : w.heap[p]? = some (.cells D 5 (0, 0)) := hD
  rw [hb] at h2
  cases h2
theorem JA.cl [Dw] {w w' : World} {q j b : Nat} {m : Option Nat} {c : Cl} (hp : JA w w' q j) (hw : w'.os = w.os ∧ w'.tape = w.tape ∧ w'.output = w.output ∧ w.heap.size ≤ w'.heap.size) (h : Bn w b m c) : Bn w' b m c := by
 obtain ⟨hc, ⟨vi, vo, k, ⟨AN, Ch⟩, AD, BM⟩, Bw, Dr⟩ := h
 exact ⟨hc, ⟨vi, vo, hp.block k (by decide), ⟨hp.row AN, Ch⟩, hp.row AD, BM⟩, hp.map hw Bw, Dr⟩
theorem JA.rat [Dw] {w w' : World} {q j b : Nat} {c : Cl} (hp : JA w w' q j) (h : F1 w b c) : F1 w' b c := by
 obtain ⟨hc, vi, vo, k, ⟨AN, Ch⟩, AD, BM⟩ := h
 exact ⟨hc, vi, vo, hp.block k (by decide), ⟨hp.row AN, Ch⟩, hp.row AD, BM⟩
/-- rows of bytes, of their eY memory: how long they are -/
def F2 (w : World) (B : Nat) (v : Value) (ls : List Nat) : Prop :=
 ∃ vs : List Value, w.ownsRow B 30 1 v ls.length vs ∧ ∀ (i : Nat) x n, vs[i]? = some x → ls[i]? = some n → ∃ bs : List B8, bs.length = n ∧ Dg w B x bs
theorem AK.lens {w : World} {B : Nat} {v : Value} {L : List (List B8)} (h : AK w B v L) : F2 w B v (L.map List.length) := by
 obtain ⟨vs, h1, h2, h3, _⟩ := h
 refine ⟨vs, by rw [List.length_map]; exact h2, fun i x n hx hn => ?_⟩
 rw [List.getElem?_map] at hn
 cases hL : L[i]? with
 | none => rw [hL] at hn; cases hn
 | some y => rw [hL] at hn; injection hn with hn; exact ⟨y, hn, h3 i x y hx hL⟩
theorem F2.poke {w w' : World} {B q j : Nat} {v : Value} {ls : List Nat} (hp : JA w w' q j) (h : F2 w B v ls) : F2 w' B v ls := by
 obtain ⟨vs, h2, h3⟩ := h
 refine ⟨vs, ⟨h2.1, h2.2.imp id fun ⟨g, cap, cur, e1, e2, e3, e4⟩ => ⟨g, cap, cur, e1, e2, hp.block (t := 30) e3 (by decide), e4⟩⟩, fun i x n hx hn => ?_⟩
 obtain ⟨bs, hl, h5, h6⟩ := h3 i x n hx hn
 rcases h6 with ⟨e1, e2⟩ | ⟨g, cap, cur, e1, e2, e3, e4, e5, e6, e7⟩
 · exact ⟨bs, hl, h5, .inl ⟨e1, e2⟩⟩
 ·
  by_cases e : g = q
  ·
   subst e
   obtain ⟨hs, C, x1, y, hC, hj, rJ⟩ := hp
   have hCc : C = cur := by
    have h1 : w.heap[g]? = some (.cells C 5 (0, 0)) := hC
    rw [e3] at h1
    injection h1 with h1
    injection h1 with h1
    exact h1.symm
   subst hCc
   refine ⟨bs.set j y, by rw [List.length_set]; exact hl, by simp, .inr ⟨g, cap, C.setIfInBounds j (u8v y), by rw [List.length_set]; exact e1, e2, rJ, by rw [List.length_set]; exact e4, e5, by simpa using e6, ?_⟩⟩
   rw [List.length_set, Array.toList_setIfInBounds, List.map_set, ← e7, List.take_set]
  · exact ⟨bs, hl, h5, .inr ⟨g, cap, cur, e1, e2, (hp.same g e).trans e3, e4, e5, e6, e7⟩⟩
theorem F2.head {w : World} {B : Nat} {A : Option Addr} {n c : Nat} {ls : List Nat} (h : F2 w B (.slice A n c) ls) (hn : 0 < ls.length) : ∃ g, A = some ⟨g, 0, none⟩ := by
 obtain ⟨vs, ⟨_, ⟨_, e⟩ | ⟨g, cap, cur, e1, _⟩⟩, _⟩ := h
 · omega
 ·
  injection e1 with e1
  exact ⟨g, e1⟩
theorem F2.at {w : World} {B g n c i l : Nat} {ls : List Nat} (h : F2 w B (.slice (some ⟨g, 0, none⟩) n c) ls) (hi : ls[i]? = some l) : ∃ A k, w.cell? ⟨g, i, none⟩ = some (.slice A l k) ∧ l ≤ 9223372036854775807 ∧ (0 < l → ∃ q C, A = some ⟨q, 0, none⟩ ∧ B ≤ q ∧ l ≤ C.size ∧ Ad w q 5 C ∧ ∀ j, j < l → ∃ x, C[j]? = some (u8v x)) := by
 obtain ⟨vs, h2, h3⟩ := h
 have hil := (List.getElem?_eq_some_iff.1 hi).1
 have zL : i < vs.length := by have := h2.1; omega
 have hv := List.getElem?_eq_getElem zL
 obtain ⟨bs, hl, h5, h6⟩ := h3 i _ l hv hi
 have hc := h2.cells (g := g) (by simp [Value.ownBlock]) i _ hv
 have dL : w.cell? ⟨g, i, none⟩ = some vs[i] := by
  rw [← hc]
  congr 1
  unfold Addr.add
  split <;> simp_all
 rw [dL]
 rcases h6 with ⟨e1, e2⟩ | ⟨q, cap, cur, e1, e2, e3, e4, e5, e6, e7⟩
 · exact ⟨none, 0, by rw [e1, show l = 0 by omega], by omega, fun h => by omega⟩
 ·
  refine ⟨some ⟨q, 0, none⟩, cap, by rw [e1, hl], by unfold maxLen at e5; omega, fun _ => ⟨q, cur, rfl, e2, by omega, e3, fun j hj => ?_⟩⟩
  have hb := congrArg (·[j]?) e7
  simp only [List.getElem?_take, List.getElem?_map] at hb
  rw [if_pos (by omega), List.getElem?_eq_getElem (l := bs) (i := j) (by omega)] at hb
  exact ⟨_, by rw [← Array.getElem?_toList]; exact hb⟩
theorem bV (w : World) (u : Int) : Calls Tryz.prog 14 #[J (u)] w fun e w' => (∃ b, e = .returned (.pointer (some ⟨b, 0, none⟩)) ∧ w.heap.size ≤ b ∧ ∀ I : Dw, @F1 I w' b (G3 (DV u))) ∧ Below w.heap.size w w' :=
 (Wx w u).mono fun e w' ⟨⟨b, h1, h2, k⟩, h3⟩ => ⟨⟨b, h1, h2, fun I => ⟨Nl (O0 u), _, _, k, ⟨AG.nil, Cj⟩, AG.nil, Cj⟩⟩, h3⟩
end Go.Proofs.YtbnmpoonkjlkjaaGreat
