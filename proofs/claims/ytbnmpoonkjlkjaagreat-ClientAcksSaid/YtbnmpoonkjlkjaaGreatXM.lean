/- Client: part M of the proof. -/
import Derived.Test.YtbnmpoonkjlkjaaGreatXL
import Derived.Deep.Slices
namespace Go.Proofs.YtbnmpoonkjlkjaaGreat
open Go.RowKit
set_option linter.unusedVariables false
set_option linter.unusedSimpArgs false
theorem pop_seq : ∀ (M : List It) (n : Int), ∀ z ∈ (popF n M).2, ∃ y ∈ M, z = y.2 ∧ y.1 < (popF n M).1.1
 | [], n => by simp [popF_nil]
 | y :: M, n => by
  by_cases h : y.1 = n
  ·
   rw [popF_go h]
   intro z hz
   have hl := (pop_len M (n + 1)).2
   rcases List.mem_cons.1 hz with rfl | hz
   · exact ⟨y, by simp, rfl, by show y.1 < (popF (n + 1) M).1.1; omega⟩
   ·
    obtain ⟨x, hx, e, h2⟩ := pop_seq M (n + 1) z hz
    exact ⟨x, by simp [hx], e, h2⟩
  ·
   rw [popF_stop h]
   intro z hz
   cases hz
theorem take_facts {n : Int} {L : List It} {x : It} (hl : L.length ≤ 7) : (n ≤ (takeF n L x).1.1 ∧ (takeF n L x).1.1 ≤ n + 8) ∧ (∀ y ∈ (takeF n L x).1.2, y = x ∨ y ∈ L) ∧ ∀ z ∈ (takeF n L x).2, ∃ y, (y = x ∨ y ∈ L) ∧ z = y.2 ∧ y.1 < (takeF n L x).1.1 := by
 by_cases h : ShutP n L x
 ·
  rw [take_shut h]
  exact ⟨⟨Int.le_refl _, by show n ≤ n + 8; omega⟩, fun y hy => .inr hy, fun z hz => by cases hz⟩
 ·
  obtain ⟨h1, h2⟩ := take_count h
  rw [take_go h] at h1 h2 ⊢
  refine ⟨⟨by omega, by omega⟩, fun y hy => ins_mem.1 ((pop_from (insI L x) n).1 y hy), fun z hz => ?_⟩
  obtain ⟨y, hy, e, h3⟩ := pop_seq (insI L x) n z hz
  exact ⟨y, ins_mem.1 hy, e, h3⟩
theorem bel_from {vw : Int → Option Nt} {n y : Nt} {u : Int} (h : belF vw n u = some y) : vw u = some y ∨ y = n := by
 have hu : updV vw n u = some y → vw u = some y ∨ y = n := fun h => by
  unfold updV at h
  split at h
  · exact .inr (Option.some.inj h).symm
  · exact .inl h
 by_cases h0 : n.1 = 0
 ·
  rw [belF, if_pos h0] at h
  exact .inl h
 ·
  rw [belF, if_neg h0] at h
  cases hv : vw n.1 with
  | none =>
   rw [hv] at h
   simp only at h
   by_cases h1 : n.2.1 < 1
   ·
    rw [if_pos h1] at h
    exact .inl h
   ·
    rw [if_neg h1] at h
    exact hu h
  | some old =>
   rw [hv] at h
   simp only at h
   by_cases h1 : newerF old n = true
   ·
    rw [if_pos h1] at h
    exact hu h
   ·
    rw [if_neg h1] at h
    exact .inl h
theorem bels_from : ∀ (l : List Nt) (vw : Int → Option Nt) (u : Int) (y : Nt), l.foldl belF vw u = some y → vw u = some y ∨ y ∈ l
 | [], _, _, _, h => .inl h
 | n :: l, vw, u, y, h => by
  rcases bels_from l _ u y h with h | h
  ·
   rcases bel_from h with h | h
   · exact .inl h
   · exact .inr (by simp [h])
  · exact .inr (by simp [h])
/-- a client that is let in and was told the items of a list -/
structure AkInv (c : Cl) (k : List B8) (i : Int) (seen : List It) : Prop where
 state : c.state = 3
 id : c.id = i
 key : c.key = k
 pend : ∀ y ∈ c.items, y ∈ seen
 bel : ∀ u y, c.vw u = some y → ∃ s : Int, (s, y) ∈ seen ∧ s < c.next
theorem ak_zero {v n e i : Int} {k : List B8} : AkInv (J3 v n e k i) k i [] := ⟨rfl, rfl, rfl, (fun y hy => by cases hy), (fun u y h => by cases h)⟩
def aP (i a s : Int) : Pkt := ⟨[9, i, 0, 0, 0, 0, 0, 0, a, s, 0, 0], Z16, Z8⟩
theorem aP_ok {i a s : Int} (hi : 1 ≤ i ∧ i ≤ 1073741824) (ha : 0 ≤ a ∧ a ≤ 1073741824) (hs : 0 ≤ s ∧ s ≤ 255) : (aP i a s).ok := lit_ok rfl rfl (by unfold i64; omega)
theorem aP_so {i a s : Int} (hi : 1 ≤ i ∧ i ≤ 1073741824) (ha : 0 ≤ a ∧ a ≤ 1073741824) (hs : 0 ≤ s ∧ s ≤ 255) : signOk (aP i a s) = true := sok_of (fun t => right_ack ha hi hs) (show 5 ≤ (9 : Int) ∧ (9 : Int) ≤ 11 by decide)
theorem ak_step {c : Cl} {k : List B8} {i : Int} {seen : List It} {x : It} (hi : 1 ≤ i ∧ i ≤ 1073741824) (hc : ClOk c) (h : AkInv c k i seen) (hp : (noteP i x.1 x.2).ok) (hs : signOk (noteP i x.1 x.2) = true) :
  ∃ c1 s, stepC c (encF (signF k (noteP i x.1 x.2))) = c1 ∧ AkInv c1 k i (seen ++ [x]) ∧ stepO c (encF (signF k (noteP i x.1 x.2))) = [encF (signF k (aP i (c1.next - 1) s))] ∧ (c.next ≤ c1.next ∧ c1.next ≤ c.next + 8) ∧ (0 ≤ c1.next - 1 ∧ c1.next - 1 ≤ 1073741824) ∧ (0 ≤ s ∧ s ≤ 255) := by
 have ho : ownF c (signF k (noteP i x.1 x.2)) = true := by
  rw [← h.key]
  exact own_sign hs h.state h.id.symm
 have hC : stepC c (encF (signF k (noteP i x.1 x.2))) = toldC c (signF k (noteP i x.1 x.2)) := by
  rw [(step_sign hp hs).1]
  show notC c _ = _
  rw [notC, if_pos ho]
 have hok : ClOk (toldC c (signF k (noteP i x.1 x.2))) := told_ok hc h.state (right_tag hs) rfl
 have hx : itP (signF k (noteP i x.1 x.2)) = x := rfl
 have ht := take_facts (n := c.next) (x := x) hc.items
 have hn : (toldC c (signF k (noteP i x.1 x.2))).next = (takeF c.next c.items x).1.1 := by rw [← hx]; rfl
 have hL : (toldC c (signF k (noteP i x.1 x.2))).items = (takeF c.next c.items x).1.2 := by rw [← hx]; rfl
 have hV : (toldC c (signF k (noteP i x.1 x.2))).vw = (takeF c.next c.items x).2.foldl belF c.vw := by rw [← hx]; rfl
 have hA := ack_in (toldC c (signF k (noteP i x.1 x.2))).next (toldC c (signF k (noteP i x.1 x.2))).items
 have hR : q_rightF (toldC c (signF k (noteP i x.1 x.2))).next (toldC c (signF k (noteP i x.1 x.2))).items = true := decide_eq_true (hok.on h.state).2
 have hA1 : (ackF (toldC c (signF k (noteP i x.1 x.2))).next (toldC c (signF k (noteP i x.1 x.2))).items).1 = (toldC c (signF k (noteP i x.1 x.2))).next - 1 := by rw [ackF, if_pos hR]
 refine ⟨_, (ackF (toldC c (signF k (noteP i x.1 x.2))).next (toldC c (signF k (noteP i x.1 x.2))).items).2, hC, ⟨h.state, h.id, h.key, fun y hy => ?_, fun u y hy => ?_⟩, ?_, by rw [hn]; exact ht.1, by rw [← hA1]; omega, by omega⟩
 ·
  rw [hL] at hy
  rcases ht.2.1 y hy with rfl | hy
  · simp
  · simp [h.pend y hy]
 ·
  rw [hV] at hy
  rw [hn]
  rcases bels_from _ _ u y hy with hy | hy
  ·
   obtain ⟨s, hs, hlt⟩ := h.bel u y hy
   exact ⟨s, by simp [hs], by omega⟩
  ·
   obtain ⟨z, hz, rfl, hlt⟩ := ht.2.2 y hy
   refine ⟨z.1, ?_, hlt⟩
   rcases hz with rfl | hz
   · simp
   · simp [h.pend z hz]
 ·
  rw [(step_sign hp hs).2]
  show notO c _ = _
  rw [notO, if_pos ho, ← hA1]
  have hso := aP_so (i := i) (a := (ackF (toldC c (signF k (noteP i x.1 x.2))).next (toldC c (signF k (noteP i x.1 x.2))).items).1) (s := (ackF (toldC c (signF k (noteP i x.1 x.2))).next (toldC c (signF k (noteP i x.1 x.2))).items).2) hi (by omega) (by omega)
  have he : (ackP (ackF (toldC c (signF k (noteP i x.1 x.2))).next (toldC c (signF k (noteP i x.1 x.2))).items).1 (ackF (toldC c (signF k (noteP i x.1 x.2))).next (toldC c (signF k (noteP i x.1 x.2))).items).2).set 1 (toldC c (signF k (noteP i x.1 x.2))).id = aP i (ackF (toldC c (signF k (noteP i x.1 x.2))).next (toldC c (signF k (noteP i x.1 x.2))).items).1 (ackF (toldC c (signF k (noteP i x.1 x.2))).next (toldC c (signF k (noteP i x.1 x.2))).items).2 := by
   rw [← h.id]
   rfl
  have hk2 : (toldC c (signF k (noteP i x.1 x.2))).key = k := h.key
  rw [sgn_yes (c := toldC c (signF k (noteP i x.1 x.2))) (by rw [he]; exact hso), he, hk2]
section
/-- a row of acts -/
def ARow (w : World) (v : Value) (L : List Ac) : Prop := ∃ A c, v = .slice A L.length c ∧ L.length ≤ c ∧ c ≤ maxLen ∧ ∀ (i : Nat) x, L[i]? = some x → AcOk x ∧ ∃ b o vb, A = some ⟨b, o, none⟩ ∧ BRow w vb x.b ∧ w.rangeAt b (o + i * 59) (acL x vb)
theorem range_up {w w' : World} {b o : Nat} {cs : List Value} (h : w.rangeAt b o cs) (hb : Below w.heap.size w w') : w'.rangeAt b o cs := fun j v hj => by
 have h1 := h j v hj
 have h2 := World.block_lt_of_cell? w _ h1
 rw [← h1]
 unfold World.cell?
 rw [hb.block b h2]
theorem ARow.up {w w' : World} {v : Value} {L : List Ac} (h : ARow w v L) (hb : Below w.heap.size w w') : ARow w' v L := by
 obtain ⟨A, c, h1, h2, h3, h4⟩ := h
 exact ⟨A, c, h1, h2, h3, fun i x hx => by
  obtain ⟨h5, b, o, vb, h6, h7, h8⟩ := h4 i x hx
  exact ⟨h5, b, o, vb, h6, h7.up hb, range_up h8 hb⟩⟩
theorem ARow.shape {w : World} {v : Value} {L : List Ac} (h : ARow w v L) : ∃ A c, v = .slice A L.length c := by
 obtain ⟨A, c, h1, _⟩ := h
 exact ⟨A, c, h1⟩
theorem ARow.at {w : World} {A : Option Addr} {n c i : Nat} {L : List Ac} {x : Ac} (h : ARow w (.slice A n c) L) (hx : L[i]? = some x) : AcOk x ∧ ∃ b o vb, A = some ⟨b, o, none⟩ ∧ BRow w vb x.b ∧ w.rangeAt b (o + i * 59) (acL x vb) := by
 obtain ⟨A', c', h1, h2, h3, h4⟩ := h
 injection h1 with h1
 subst h1
 exact h4 i x hx
section
variable {H : Type} {enc : TypeId × Value → H} {w : World} {base : Nat} {spare : Nat → Bool} {held : Bool}
end
end
end Go.Proofs.YtbnmpoonkjlkjaaGreat
