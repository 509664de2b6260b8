/- Client: part ZTw of the proof. -/
import Derived.Test.YtbnmpoonkjlkjaaGreatXM
import Derived.Test.YtbnmpoonkjlkjaaGreatXZSt
namespace Go.Proofs.YtbnmpoonkjlkjaaGreat
open Go.RowKit
set_option linter.unusedVariables false
set_option linter.unusedSimpArgs false
theorem MapAt.two {w w' : World} {m md : Option Nat} {bd : Nat} {vw : Int → Option Nt} (h : MapAt w m vw) (hb : ∀ q, m = some q → q ≠ bd) (hm : ∀ q, m = some q → md ≠ some q) (ho : Only bd md w w') : MapAt w' m vw := by
 cases md with
 | none => exact h.kept (row := some bd) ⟨ho.os, ho.tape, ho.output, ho.size, fun k hk hn => ho.block k hk (fun e => hn (by rw [e])) (by simp)⟩ (by
   cases m with
   | none => exact .inl rfl
   | some q => exact .inr (fun e => hb q rfl (by injection e)))
 | some p =>
  cases m with
  | none => exact h
  | some q =>
   have hqp : q ≠ p := fun e => hm q rfl (by rw [e])
   by_cases hp : p < w.heap.size
   ·
    have h1 : MapAt { w' with heap := w'.heap.setIfInBounds p w.heap[p] } (some q) vw := h.kept (row := some bd) ⟨ho.os, ho.tape, ho.output, by simpa using ho.size, fun k hk hn => by
     show (w'.heap.setIfInBounds p w.heap[p])[k]? = _
     by_cases e : p = k
     ·
      subst e
      rw [Array.getElem?_setIfInBounds_self, if_pos (Nat.lt_of_lt_of_le hp ho.size), Array.getElem?_eq_getElem hp]
     ·
      rw [Array.getElem?_setIfInBounds_ne e]
      exact ho.block k hk (fun e2 => hn (by rw [e2])) (fun e2 => e (by injection e2 with e2; exact e2.symm))⟩ (.inr (fun e => hb q rfl (by injection e)))
    exact h1.kept (row := some p) ⟨rfl, rfl, rfl, by simp, fun k hk hn => by
     show w'.heap[k]? = (w'.heap.setIfInBounds p w.heap[p])[k]?
     rw [Array.getElem?_setIfInBounds_ne (fun e => hn (by rw [e]))]⟩ (.inr (fun e => hqp (by injection e)))
   · exact h.kept (row := some bd) ⟨ho.os, ho.tape, ho.output, ho.size, fun k hk hn => ho.block k hk (fun e => hn (by rw [e])) (fun e => by injection e with e; omega)⟩ (.inr (fun e => hb q rfl (by injection e)))
theorem Row.two {α : Type} {enc : α → List Int} {w w' : World} {v : Value} {L : List α} {F bd : Nat} {md : Option Nat} {vd : Int → Option Nt} (h : Row enc w v L) (hf : Fresh F v) (hF : bd < F) (hm : MapAt w md vd) (ho : Only bd md w w') : Row enc w' v L := by
 obtain ⟨A, c, rfl, h1, h2, h3, hh⟩ := h
 refine ⟨A, c, rfl, h1, h2, h3, fun j hj => ?_⟩
 obtain ⟨g, o, e, hc⟩ := hh j hj
 refine ⟨g, o, e, ?_⟩
 have hs := hc.trans (List.getElem?_eq_getElem hj)
 have hlt := World.block_lt_of_cell? w _ hs
 have hq := hf A _ c rfl g o e
 have hne : some g ≠ md := fun e2 => by
  subst e2
  have := VMap.no_cell (show VMap w g vd from hm) (o + j)
  rw [this] at hs
  cases hs
 rw [← hc]
 unfold World.cell?
 rw [ho.block g hlt (by omega) hne]
theorem ClAt.two [Lim] {w w' : World} {b bd : Nat} {m md : Option Nat} {c d : Cl} (h : ClAt w b m c) (hd : ClAt w bd md d) (hb : b ≠ bd) (hF : bd < Lim.lim b) (hm : ∀ q, m = some q → md ≠ some q) (ho : Only bd md w w') : ClAt w' b m c := by
 obtain ⟨hc, ⟨vi, vo, k, ⟨hri, hfi⟩, hro, hfo⟩, hmp, hmb⟩ := h
 refine ⟨hc, ⟨vi, vo, Block.onlym k hb hd.mp ho, ⟨hri.two hfi hF hd.mp ho, hfi⟩, hro.two hfo hF hd.mp ho, hfo⟩, hmp.two (fun q e => ?_) hm ho, hmb⟩
 intro e2
 subst e e2
 obtain ⟨_, ⟨_, _, kd, _⟩, _⟩ := hd
 obtain ⟨_, _, ⟨es, cl, hq, _⟩, _⟩ := (show VMap w q c.vw from hmp)
 have h2 : w.heap[q]? = some (.cells _ 76 (0, 0)) := kd
 rw [hq] at h2
 cases h2
/-- two clients' maps are two -/
def Apart2 (m md : Option Nat) : Prop := ∀ q, m = some q → md ≠ some q
theorem Apart2.symm {m md : Option Nat} (h : Apart2 m md) : Apart2 md m := fun q e e2 => h q e2 e
theorem Apart2.next [Lim] {w : World} {bd : Nat} {m m1 md : Option Nat} {d : Cl} (h : Apart2 m md) (hd : ClAt w bd md d) (hn : MNext w m m1) : Apart2 m1 md := fun q e e2 => by
 rcases hn with rfl | rfl | ⟨p, rfl, hp⟩
 · exact h q e e2
 · cases e
 ·
  injection e with e
  subst e
  have := hd.mp.lt e2
  omega
theorem step_m [Lim] (w : World) (b : Nat) (m : Option Nat) (c c' : Cl) (L : List (List B8)) (h : ClAt w b m c) (hX : Lim.lim b ≤ w.heap.size) (vb : Value) (bs : List B8) (hbs : BRow w vb bs) (hbn : bs.length ≤ 1000000) (hL : stepO c bs = L) (hc : stepC c bs = c') : Calls Tryz.prog 23 #[.pointer (some ⟨b, 0, none⟩), vb] w fun e w' => (∃ A k, e = .returned (.slice A L.length k) ∧ ∃ B, b < B ∧ w.heap.size = B ∧ Outs w' B (.slice A L.length k) L) ∧ (∃ m', ClAt w' b m' c' ∧ MNext w m m') ∧ Only b m w w' := by
 subst hL hc
 exact (step_any w b m c h vb bs hbs hbn hX).mono fun e w' ⟨⟨v, he, ho⟩, ⟨m', h2, h4⟩, h3⟩ => by
  obtain ⟨A, k, rfl⟩ := ho.shape
  exact ⟨⟨A, k, he, _, h.lt, rfl, ho⟩, ⟨m', h2, h4⟩, h3⟩
theorem tick_m [Lim] (w : World) (b : Nat) (m : Option Nat) (c c' : Cl) (L : List (List B8)) (h : ClAt w b m c) (hL : tickO c = L) (hc : tickC c = c') : Calls Tryz.prog 15 #[.pointer (some ⟨b, 0, none⟩)] w fun e w' => (∃ A k, e = .returned (.slice A L.length k) ∧ ∃ B, b < B ∧ w.heap.size = B ∧ Outs w' B (.slice A L.length k) L) ∧ (∃ m', ClAt w' b m' c' ∧ MNext w m m') ∧ Only b m w w' := by
 subst hL hc
 exact (tick_any w b m c h).mono fun e w' ⟨⟨v, he, ho⟩, h2, h3⟩ => by
  obtain ⟨A, k, rfl⟩ := ho.shape
  exact ⟨⟨A, k, he, _, h.lt, rfl, ho⟩, ⟨m, h2, .inl rfl⟩, h3⟩
theorem start_m [Lim] (w : World) (b : Nat) (m : Option Nat) (c c' : Cl) (n : Int) (r : Bool) (h : ClAt w b m c) (hL : startB n = r) (hc : startF c n = c') : Calls Tryz.prog 17 #[.pointer (some ⟨b, 0, none⟩), .int .i64 n] w fun e w' => e = .returned (.bool r) ∧ (∃ m', ClAt w' b m' c' ∧ MNext w m m') ∧ Only b m w w' := by
 subst hL hc
 exact startc_any w b m c h n
theorem order_m [Lim] (w : World) (b : Nat) (m : Option Nat) (c c' : Cl) (o : Nt) (r : Bool) (h : ClAt w b m c) (hX : Lim.lim b ≤ w.heap.size) (hL : decide (¬ orderNo c o) = r) (hc : orderF c o = c') : Calls Tryz.prog 21 #[.pointer (some ⟨b, 0, none⟩), .agg (cN o)] w fun e w' => e = .returned (.bool r) ∧ (∃ m', ClAt w' b m' c' ∧ MNext w m m') ∧ Only b m w w' := by
 subst hL hc
 exact (order_any w b m c h o hX).mono fun e w' ⟨h1, h2, h3⟩ => ⟨h1, ⟨m, h2, .inl rfl⟩, h3⟩
theorem crash_m [Lim] (w : World) (b : Nat) (m : Option Nat) (c : Cl) (h : ClAt w b m c) : Calls Tryz.prog 19 #[.pointer (some ⟨b, 0, none⟩)] w fun e w' => e = .returned (.tuple #[]) ∧ (∃ m', ClAt w' b m' (crashF c) ∧ MNext w m m') ∧ Only b m w w' :=
 (crash_any w b m c h).mono fun e w' ⟨h1, h2, h3⟩ => ⟨h1, ⟨none, h2, .inr (.inl rfl)⟩, h3⟩
theorem new_m (w : World) (u : Int) (c : Cl) (hc : clZ (clampU u) = c) : Calls Tryz.prog 13 #[.int .i64 u] w fun e w' => (∃ b, e = .returned (.pointer (some ⟨b, 0, none⟩)) ∧ w.heap.size ≤ b ∧ ∀ I : Lim, @ClAt I w' b none c) ∧ Below w.heap.size w w' := by
 subst hc
 exact new_any w u
/-- the bound that lies behind block q -/
abbrev limQ (q : Nat) : Lim := ⟨fun b => max (b + 1) (q + 1), fun b => Nat.le_max_left _ _⟩
/-- bytes that change nothing -/
def Junk (bs : List B8) : Prop := ¬ (decE bs = 0 ∧ ((decP bs).fld 0 = 2 ∨ (decP bs).fld 0 = 4 ∨ (decP bs).fld 0 = 12 ∨ (decP bs).fld 0 = 8 ∨ (decP bs).fld 0 = 11))
theorem junk_step {c : Cl} {bs : List B8} (h : Junk bs) : stepC c bs = c ∧ stepO c bs = [] := by
 by_cases he : decE bs = 0
 ·
  have hn : ¬ ((decP bs).fld 0 = 2 ∨ (decP bs).fld 0 = 4 ∨ (decP bs).fld 0 = 12 ∨ (decP bs).fld 0 = 8 ∨ (decP bs).fld 0 = 11) := fun h2 => h ⟨he, h2⟩
  rw [stepC, stepO, if_pos he, if_pos he, gotC, gotO]
  rw [if_neg (fun e => hn (.inl e)), if_neg (fun e => hn (.inr (.inl e))), if_neg (fun e => hn (.inr (.inr (.inl e)))), if_neg (fun e => hn (.inr (.inr (.inr (.inl e))))), if_neg (fun e => hn (.inr (.inr (.inr (.inr e))))), if_neg (fun e => hn (.inl e)), if_neg (fun e => hn (.inr (.inr (.inr (.inl e)))))]
  exact ⟨rfl, rfl⟩
 ·
  rw [stepC, stepO, if_neg he, if_neg he]
  exact ⟨rfl, rfl⟩
end Go.Proofs.YtbnmpoonkjlkjaaGreat
