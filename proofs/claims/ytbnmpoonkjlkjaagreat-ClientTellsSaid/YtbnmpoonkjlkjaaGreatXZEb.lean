/- Client: part ZEb of the proof. -/
import Derived.Test.YtbnmpoonkjlkjaaGreatXZEa
namespace Go.Proofs.YtbnmpoonkjlkjaaGreat
open Go.RowKit
set_option linter.unusedVariables false
set_option linter.unusedSimpArgs false
set_option maxRecDepth 100000
set_option maxHeartbeats 8000000
theorem bL {vw : Int → Option Nt} {y : Nt} {u : Nat} (hy : y.1 = (u : Nat)) (hu : u < 17) : ((List.range 17).map fun q => ((Fd vw y) ((q : Nat) : Int)).getD CH) = ((List.range 17).map fun q => (vw ((q : Nat) : Int)).getD CH).set u y := by
 apply List.ext_getElem?
 intro j
 rw [List.getElem?_set, List.getElem?_map, List.getElem?_map, List.length_map, List.length_range]
 by_cases hj : u = j
 ·
  subst hj
  rw [if_pos rfl, if_pos hu, List.getElem?_range hu]
  show some (Option.getD (if ((u : Nat) : Int) = y.1 then some y else vw _) CH) = _
  rw [if_pos hy.symm]
  rfl
 ·
  rw [if_neg hj]
  by_cases h : j < 17
  ·
   rw [List.getElem?_range h]
   show some (Option.getD (if ((j : Nat) : Int) = y.1 then some y else vw _) CH) = some _
   rw [if_neg (by omega)]
  ·
   rw [List.getElem?_eq_none (by simp; omega)]
   rfl
/-- the cells of the document's client in block b -/
structure F1 [Dw] (w : World) (b : Nat) (c : Cl) : Prop where
 ok : Dc c
 ex : ∃ vi vo, Ad w b 79 (rA c vi vo) ∧ (ET w vi c.items ∧ Ct (Dw.lim b) vi) ∧ (Id w vo c.os ∧ Ct (Dw.lim b) vo)
theorem F1.up [Dw] {w w' : World} {b : Nat} {c : Cl} (h : F1 w b c) (hb : Below w.heap.size w w') : F1 w' b c := by
 obtain ⟨hc, vi, vo, k, ⟨AN, Ch⟩, AD, BM⟩ := h
 exact ⟨hc, vi, vo, k.ups hb, ⟨AN.up hb, Ch⟩, AD.up hb, BM⟩
theorem F1.lt [Dw] {w : World} {b : Nat} {c : Cl} (h : F1 w b c) : b < w.heap.size := by
 obtain ⟨hc, vi, vo, k, _⟩ := h
 exact k.lt
theorem F1.two [Dw] {w w' : World} {b bd : Nat} {md : Option Nat} {c d : Cl} (h : F1 w b c) (hd : Bn w bd md d) (hb : b ≠ bd) (hF : bd < Dw.lim b) (ho : Bi bd md w w') : F1 w' b c := by
 obtain ⟨hc, vi, vo, k, ⟨AN, Ch⟩, AD, BM⟩ := h
 exact ⟨hc, vi, vo, Ad.onlym k hb hd.mp ho, ⟨AN.two Ch hF hd.mp ho, Ch⟩, AD.two BM hF hd.mp ho, BM⟩
theorem Bn.off79 [Dw] {w w' : World} {b bd : Nat} {m : Option Nat} {c d : Cl} (h : Bn w b m c) (hd : F1 w bd d) (hb : b ≠ bd) (hF : bd < Dw.lim b) (ho : Bi bd none w w') : Bn w' b m c := by
 obtain ⟨hc, ⟨vi, vo, k, ⟨AN, Ch⟩, AD, BM⟩, Bw, Dr⟩ := h
 have qA : AW w none (fun _ => none) := fun u => rfl
 refine ⟨hc, ⟨vi, vo, Ad.onlym k hb qA ho, ⟨AN.two Ch hF qA ho, Ch⟩, AD.two BM hF qA ho, BM⟩, Bw.two (fun q e => ?_) (fun q _ => by simp) ho, Dr⟩
 intro e2
 subst e e2
 obtain ⟨_, _, _, kd, _⟩ := hd
 obtain ⟨_, _, ⟨es, cl, hq, _⟩, _⟩ := (show En w q c.vw from Bw)
 have h2 : w.heap[q]? = some (.cells _ 79 (0, 0)) := kd
 rw [hq] at h2
 cases h2
end Go.Proofs.YtbnmpoonkjlkjaaGreat
