/- Client: part ZTw of the proof. -/
import Derived.Test.YtbnmpoonkjlkjaaGreatXM
import Derived.Test.YtbnmpoonkjlkjaaGreatXZSt
namespace Go.Proofs.YtbnmpoonkjlkjaaGreat
open Go.RowKit
set_option linter.unusedVariables false
set_option linter.unusedSimpArgs false
set_option maxRecDepth 100000
set_option maxHeartbeats 8000000
theorem AW.two {w w' : World} {m md : Option Nat} {bd : Nat} {vw : Int → Option Nt} (h : AW w m vw) (hb : ∀ q, m = some q → q ≠ bd) (hm : ∀ q, m = some q → md ≠ some q) (ho : Bi bd md w w') : AW w' m vw := by
 cases md with
 | none => exact h.kept (row := some bd) ⟨ho.os, ho.tape, ho.output, ho.size, fun k hk hn => ho.block k hk (fun e => hn (by rw [e])) (by simp)⟩ (by
   cases m with
   | none => exact .inl rfl
   | some q => exact .inr (fun e => hb q rfl (by injection e)))
 | some p =>
  cases m with
  | none => exact h
  | some q =>
   have zS : q ≠ p := fun e => hm q rfl (by rw [e])
   by_cases hp : p < w.heap.size
   ·
    have h1 : AW { w' with heap := w'.heap.setIfInBounds p w.heap[p] } (some q) vw := h.kept (row := some bd) ⟨ho.os, ho.tape, ho.output, by simpa using ho.size, fun k hk hn => by
     show (w'.heap.setIfInBounds p w.heap[p])[k]? = _
     by_cases e : p = k
     ·
      subst e
      rw [Array.getElem?_setIfInBounds_self, if_pos (Nat.lt_of_lt_of_le hp ho.size), Array.getElem?_eq_getElem hp]
     ·
      rw [Array.getElem?_setIfInBounds_ne e]
      exact ho.block k hk (fun e2 => hn (by rw [e2])) (fun e2 => e (by injection e2 with e2; exact e2.symm))⟩ (.inr (fun e => hb q R (by injection e)))
    exact h1.kept (row := some p) ⟨R, R, R, by simp, fun k hk hn => by
     show w'.heap[k]? = (w'.heap.setIfInBounds p w.heap[p])[k]?
     rw [Array.getElem?_setIfInBounds_ne (fun e => hn (by rw [e]))]⟩ (.inr (fun e => zS (by injection e)))
   · exact h.kept (row := some bd) ⟨ho.os, ho.tape, ho.output, ho.size, fun k hk hn => ho.block k hk (fun e => hn (by rw [e])) (fun e => by injection e with e; omega)⟩ (.inr (fun e => hb q rfl (by injection e)))
theorem AG.two {α : Type} {enc : α → List Int} {w w' : World} {v : Value} {L : List α} {F bd : Nat} {md : Option Nat} {vd : Int → Option Nt} (h : AG enc w v L) (hf : Ct F v) (hF : bd < F) (hm : AW w md vd) (ho : Bi bd md w w') : AG enc w' v L := by
 obtain ⟨A, c, rfl, h1, h2, h3, hh⟩ := h
 refine ⟨A, c, R, h1, h2, h3, fun j hj => ?_⟩
 obtain ⟨g, o, e, hc⟩ := hh j hj
 refine ⟨g, o, e, ?_⟩
 have hs := hc.trans (List.getElem?_eq_getElem hj)
 have CM := World.block_lt_of_cell? w _ hs
 have hq := hf A _ c rfl g o e
 have Fh : some g ≠ md := fun e2 => by
  subst e2
  have := En.no_cell (show En w g vd from hm) (o + j)
  rw [this] at hs
  cases hs
 rw [← hc]
 unfold World.cell?
 rw [ho.block g CM (by omega) Fh]
theorem Bn.two [Dw] {w w' : World} {b bd : Nat} {m md : Option Nat} {c d : Cl} (h : Bn w b m c) (hd : Bn w bd md d) (hb : b ≠ bd) (hF : bd < Dw.lim b) (hm : ∀ q, m = some q → md ≠ some q) (ho : Bi bd md w w') : Bn w' b m c := by
 obtain ⟨hc, ⟨vi, vo, k, ⟨AN, Ch⟩, AD, BM⟩, Bw, Dr⟩ := h
 refine ⟨hc, ⟨vi, vo, Ad.onlym k hb hd.mp ho, ⟨AN.two Ch hF hd.mp ho, Ch⟩, AD.two BM hF hd.mp ho, BM⟩, Bw.two (fun q e => ?_) hm ho, Dr⟩
 intro e2
 subst e e2
 obtain ⟨_, ⟨_, _, kd, _⟩, _⟩ := hd
 obtain ⟨_, _, ⟨es, cl, hq, _⟩, _⟩ := (show En w q c.vw from Bw)
 have h2 : w.heap[q]? = some (.cells _ 76 (0, 0)) := kd
 rw [hq] at h2
 cases h2
/-- two clients' maps are two -/
def Lx (m md : Option Nat) : Prop := ∀ q, m = some q → md ≠ some q
theorem Lx.symm {m md : Option Nat} (h : Lx m md) : Lx md m := fun q e e2 => h q e2 e
theorem Lx.next [Dw] {w : World} {bd : Nat} {m m1 md : Option Nat} {d : Cl} (h : Lx m md) (hd : Bn w bd md d) (hn : Eg w m m1) : Lx m1 md := fun q e e2 => by
 rcases hn with rfl | rfl | ⟨p, rfl, hp⟩
 · exact h q e e2
 · cases e
 ·
  injection e with e
  subst e
  have := hd.mp.lt e2
  omega
theorem gA (w : World) (u : Int) (c : Cl) (hc : G3 (DV u) = c) : Calls Tryz.prog 13 #[J u] w fun e w' => (∃ b, e = .returned (.pointer (some ⟨b, 0, none⟩)) ∧ w.heap.size ≤ b ∧ ∀ I : Dw, @Bn I w' b none c) ∧ Below w.heap.size w w' := by
 subst hc
 exact T7 w u
/-- the bound that lies behind block q -/
abbrev pF (q : Nat) : Dw := ⟨fun b => max (b + 1) (q + 1), fun b => Nat.le_max_left _ _⟩
end Go.Proofs.YtbnmpoonkjlkjaaGreat
