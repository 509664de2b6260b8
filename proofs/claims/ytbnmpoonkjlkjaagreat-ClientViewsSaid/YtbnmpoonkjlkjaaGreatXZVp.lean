/- Client: part ZVp of the proof. -/
import Derived.Test.YtbnmpoonkjlkjaaGreatXZRo
namespace Go.Proofs.YtbnmpoonkjlkjaaGreat
open Go.RowKit
set_option linter.unusedVariables false
set_option linter.unusedSimpArgs false
def ver (o : Option Nt) : Int := (o.getD note0).2.1
theorem bel_rise (vw : Int → Option Nt) (n : Nt) (u : Int) : belF vw n u = vw u ∨ ∃ y, belF vw n u = some y ∧ ver (vw u) < y.2.1 := by
 have hu : ver (vw n.1) < n.2.1 → (updV vw n u = vw u ∨ ∃ y, updV vw n u = some y ∧ ver (vw u) < y.2.1) := fun h => by
  unfold updV
  by_cases e : u = n.1
  ·
   rw [if_pos e]
   exact .inr ⟨n, rfl, by rw [e]; exact h⟩
  ·
   rw [if_neg e]
   exact .inl rfl
 by_cases h0 : n.1 = 0
 ·
  rw [belF, if_pos h0]
  exact .inl rfl
 ·
  rw [belF, if_neg h0]
  cases hv : vw n.1 with
  | none =>
   simp only
   by_cases h1 : n.2.1 < 1
   ·
    rw [if_pos h1]
    exact .inl rfl
   ·
    rw [if_neg h1]
    exact hu (by rw [hv]; show (0 : Int) < _; omega)
  | some old =>
   simp only
   by_cases h1 : newerF old n = true
   ·
    rw [if_pos h1]
    exact hu (by rw [hv]; exact (of_decide_eq_true h1).2)
   ·
    rw [if_neg h1]
    exact .inl rfl
theorem bels_rise : ∀ (l : List Nt) (vw : Int → Option Nt) (u : Int), l.foldl belF vw u = vw u ∨ ∃ y, l.foldl belF vw u = some y ∧ ver (vw u) < y.2.1
 | [], _, _ => .inl rfl
 | n :: l, vw, u => by
  rcases bels_rise l (belF vw n) u with h | ⟨y, h, hl⟩
  ·
   rcases bel_rise vw n u with h2 | ⟨y, h2, hl⟩
   · exact .inl (h.trans h2)
   · exact .inr ⟨y, h.trans h2, hl⟩
  ·
   refine .inr ⟨y, h, ?_⟩
   rcases bel_rise vw n u with h2 | ⟨z, h2, hl2⟩
   · rwa [h2] at hl
   ·
    rw [h2] at hl
    exact Int.lt_trans hl2 hl
/-- what is seen of user u -/
def seen (c : Cl) (u : Int) : Nt := (c.vw u).getD note0
/-- a view changed by a note that the key k signed -/
def Told (c c1 : Cl) (k : List B8) (p : Pkt) (u : Int) : Prop := p.fld 0 = 8 ∧ c.state = 3 ∧ p.fld 1 = c.id ∧ (seen c u).2.1 < (seen c1 u).2.1 ∧ goodF k p = true
theorem step_view {c : Cl} {bs : List B8} (u : Int) : seen (stepC c bs) u = seen c u ∨ Told c (stepC c bs) c.key (decP bs) u := by
 by_cases he : ¬ decE bs = 0
 ·
  rw [stepC, if_neg he]
  exact .inl rfl
 replace he : decE bs = 0 := Decidable.of_not_not he
 have hC : stepC c bs = gotC c (decP bs) := if_pos he
 rw [hC]
 generalize decP bs = p
 by_cases h2 : p.fld 0 = 2
 ·
  rw [gotC, if_pos h2, cookC]
  split <;> exact .inl rfl
 by_cases h4 : p.fld 0 = 4
 ·
  rw [gotC, if_neg h2, if_pos h4, accC]
  split <;> exact .inl rfl
 by_cases h12 : p.fld 0 = 12
 ·
  rw [gotC, if_neg h2, if_neg h4, if_pos h12, refC]
  split
  · exact .inl rfl
  · split <;> exact .inl rfl
 by_cases h8 : p.fld 0 = 8
 ·
  have hg : gotC c p = notC c p := by rw [gotC, if_neg h2, if_neg h4, if_neg h12, if_pos h8]
  rw [hg]
  by_cases ho : ownF c p = true
  ·
   rw [notC, if_pos ho]
   have ho2 := ho
   rw [ownF, Bool.and_eq_true] at ho2
   obtain ⟨h3, hid⟩ := of_decide_eq_true ho2.1
   rcases bels_rise (takeF c.next c.items (itP p)).2 c.vw u with h | ⟨y, h, hl⟩
   · exact .inl (by rw [seen, seen]; exact congrArg (fun o => Option.getD o note0) h)
   ·
    refine .inr ⟨h8, h3, hid, ?_, ho2.2⟩
    have e : (toldC c p).vw u = some y := h
    rw [seen, seen, e]
    exact hl
  ·
   rw [notC, if_neg ho]
   exact .inl rfl
 by_cases h11 : p.fld 0 = 11
 ·
  have hg : gotC c p = repC c p := by rw [gotC, if_neg h2, if_neg h4, if_neg h12, if_neg h8, if_pos h11]
  rw [hg]
  unfold repC
  split
  · exact .inl rfl
  ·
   split
   ·
    unfold repC1
    split <;> exact .inl rfl
   · exact .inl rfl
 ·
  have hg : gotC c p = c := by rw [gotC, if_neg h2, if_neg h4, if_neg h12, if_neg h8, if_neg h11]
  rw [hg]
  exact .inl rfl
theorem step_key {c : Cl} {bs : List B8} (h3 : (stepC c bs).state = 3) : (c.state = 3 ∧ (stepC c bs).key = c.key) ∨ (c.state = 2 ∧ (stepC c bs).key = (decP bs).sec) := by
 by_cases he : ¬ decE bs = 0
 ·
  rw [stepC, if_neg he] at h3 ⊢
  exact .inl ⟨h3, rfl⟩
 replace he : decE bs = 0 := Decidable.of_not_not he
 have hC : stepC c bs = gotC c (decP bs) := if_pos he
 rw [hC] at h3 ⊢
 generalize decP bs = p at h3 ⊢
 by_cases h2 : p.fld 0 = 2
 ·
  have hg : gotC c p = cookC c p := by rw [gotC, if_pos h2]
  rw [hg] at h3 ⊢
  by_cases hx : c.state = 1 ∧ p.fld 10 = c.nonce
  ·
   rw [cookC, if_pos hx] at h3
   exact absurd (show (2 : Int) = 3 from h3) (by decide)
  ·
   rw [cookC, if_neg hx] at h3 ⊢
   exact .inl ⟨h3, rfl⟩
 by_cases h4 : p.fld 0 = 4
 ·
  have hg : gotC c p = accC c p := by rw [gotC, if_neg h2, if_pos h4]
  rw [hg] at h3 ⊢
  by_cases hx : c.state = 2 ∧ p.fld 10 = c.nonce
  ·
   rw [accC, if_pos hx]
   exact .inr ⟨hx.1, rfl⟩
  ·
   rw [accC, if_neg hx] at h3 ⊢
   exact .inl ⟨h3, rfl⟩
 by_cases h12 : p.fld 0 = 12
 ·
  have hg : gotC c p = refC c p := by rw [gotC, if_neg h2, if_neg h4, if_pos h12]
  rw [hg] at h3 ⊢
  by_cases hx : c.state = 2 ∧ p.fld 10 = c.nonce
  ·
   rw [refC, if_pos hx] at h3
   exact absurd (show (1 : Int) = 3 from h3) (by decide)
  ·
   by_cases hy : c.state = 3 ∧ p.fld 10 = c.id ∧ p.fld 4 = 6
   ·
    rw [refC, if_neg hx, if_pos hy] at h3
    exact absurd (show (1 : Int) = 3 from h3) (by decide)
   ·
    rw [refC, if_neg hx, if_neg hy] at h3 ⊢
    exact .inl ⟨h3, rfl⟩
 by_cases h8 : p.fld 0 = 8
 ·
  have hg : gotC c p = notC c p := by rw [gotC, if_neg h2, if_neg h4, if_neg h12, if_pos h8]
  rw [hg] at h3 ⊢
  by_cases ho : ownF c p = true
  ·
   rw [notC, if_pos ho] at h3 ⊢
   exact .inl ⟨h3, rfl⟩
  ·
   rw [notC, if_neg ho] at h3 ⊢
   exact .inl ⟨h3, rfl⟩
 by_cases h11 : p.fld 0 = 11
 ·
  have hg : gotC c p = repC c p := by rw [gotC, if_neg h2, if_neg h4, if_neg h12, if_neg h8, if_pos h11]
  rw [hg] at h3 ⊢
  cases hos : c.os with
  | nil =>
   rw [repC_nil hos] at h3 ⊢
   exact .inl ⟨h3, rfl⟩
  | cons o l =>
   by_cases hy : ownF c p = true ∧ p.fld 2 = c.seq + 1
   ·
    rw [repC_yes hos hy] at h3 ⊢
    unfold repC1 at h3 ⊢
    by_cases h10 : o.1 = 10
    ·
     rw [if_pos h10] at h3
     exact absurd (show (0 : Int) = 3 from h3) (by decide)
    ·
     rw [if_neg h10] at h3 ⊢
     exact .inl ⟨h3, rfl⟩
   ·
    have e : repC c p = c := by
     unfold repC
     split
     · rfl
     · rw [if_neg hy]
    rw [e] at h3 ⊢
    exact .inl ⟨h3, rfl⟩
 ·
  have hg : gotC c p = c := by rw [gotC, if_neg h2, if_neg h4, if_neg h12, if_neg h8, if_neg h11]
  rw [hg] at h3 ⊢
  exact .inl ⟨h3, rfl⟩
theorem say_key (c : Cl) : (sayC c).key = c.key := by
 unfold sayC
 split
 · rfl
 · split <;> rfl
theorem beat_key (c : Cl) : (beatC c).key = c.key := by
 unfold beatC
 split <;> rfl
theorem tick_key (c : Cl) : (tickC c).key = c.key := by
 by_cases h0 : c.state = 0
 · rw [tickC, if_pos h0]
 rw [tickC, if_neg h0]
 unfold tick1C
 split
 · rw [say_key, beat_key]; rfl
 ·
  split
  · rfl
  · split <;> rfl
theorem order_same (c : Cl) (o : Nt) : (orderF c o).state = c.state ∧ (orderF c o).key = c.key ∧ (orderF c o).vw = c.vw := by
 unfold orderF
 split <;> exact ⟨rfl, rfl, rfl⟩
/-- the first j users' views -/
def wasL (c : Cl) (j : Nat) : List Nt := (List.range j).map fun q => seen c ((q + 1 : Nat) : Int)
theorem wasL_len (c : Cl) (j : Nat) : (wasL c j).length = j := by simp [wasL]
theorem wasL_next (c : Cl) (j : Nat) : wasL c (j + 1) = wasL c j ++ [seen c ((j + 1 : Nat) : Int)] := by
 rw [wasL, wasL, List.range_succ, List.map_append]
 rfl
theorem wasL_at {c : Cl} {n j : Nat} (h : j < n) : (wasL c n)[j]? = some (seen c ((j + 1 : Nat) : Int)) := by
 rw [wasL, List.getElem?_map, List.getElem?_range h]
 rfl
theorem Row.blk33 {α : Type} {enc : α → List Int} {w w' : World} {v : Value} {L : List α} {g : Nat} {K : List B8} (h : Row enc w v L) (hk : Block w g 33 (barr K)) (ho : ∀ q, q ≠ g → w'.heap[q]? = w.heap[q]?) : Row enc w' v L := by
 obtain ⟨A, c, rfl, h1, h2, h3, hh⟩ := h
 refine ⟨A, c, rfl, h1, h2, h3, fun j hj => ?_⟩
 obtain ⟨q, o, e, hc⟩ := hh j hj
 refine ⟨q, o, e, ?_⟩
 have hne : q ≠ g := fun e2 => by
  subst e2
  rw [hk.cell] at hc
  rw [List.getElem?_eq_getElem hj] at hc
  obtain ⟨x, _, hx⟩ : ∃ x, x ∈ flat enc L ∧ Value.int .i64 x = (FV enc L)[j] := by
   have := List.getElem_mem hj
   obtain ⟨x, hx, e⟩ := List.mem_map.1 this
   exact ⟨x, hx, e⟩
  rw [← hx] at hc
  simp [u8v] at hc
 rw [← hc]
 unfold World.cell?
 rw [ho q hne]
theorem ClAt.blk33 {w w' : World} {b g : Nat} {m : Option Nat} {c : Cl} {K : List B8} (h : ClAt w b m c) (hk : Block w g 33 (barr K)) (hne : b ≠ g) (hb : Below g w w') (ho : ∀ q, q ≠ g → w'.heap[q]? = w.heap[q]?) : ClAt w' b m c := by
 obtain ⟨hc, ⟨vi, vo, k, ⟨hri, hfi⟩, hro, hfo⟩, hmp, hmb⟩ := h
 refine ⟨hc, ⟨vi, vo, block_same k (ho _ hne), ⟨hri.blk33 hk ho, hfi⟩, hro.blk33 hk ho, hfo⟩, ?_, hmb⟩
 refine hmp.kept (row := some g) ⟨hb.os, hb.tape, hb.output, hb.size, fun q hq hn => ho q (fun e => hn (by rw [e]))⟩ ?_
 cases m with
 | none => exact .inl rfl
 | some q =>
  refine .inr fun e => ?_
  injection e with e
  subst e
  obtain ⟨_, _, ⟨es, cl, hq, _⟩, _⟩ := (show VMap w q c.vw from hmp)
  have h2 : w.heap[q]? = some (.cells (barr K) 33 (0, 0)) := hk
  rw [hq] at h2
  cases h2
end Go.Proofs.YtbnmpoonkjlkjaaGreat
