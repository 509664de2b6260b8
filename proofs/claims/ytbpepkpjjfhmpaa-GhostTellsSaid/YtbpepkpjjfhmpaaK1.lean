/- GhostBoards: what is needed ahead of the walk. -/
import Derived.Test.YtbpepkpjjfhmpaaH
import Derived.Test.YtbpepkpjjfhmpaaW
import Derived.Deep.CutRange
import Derived.IntWalk
namespace Go.Proofs.Ytbpepkpjjfhmpaa
open Go.ChangeShapes Go.WideShapes Go.ChangeAt Go.RowKit Go.Deep Go.Maps
set_option linter.unusedVariables false
set_option linter.unusedSimpArgs false

/-! ### a slice of slices of ints, as it came in -/
structure IRow where
  A : Option Addr
  c : Nat
  L : List Int
def RowAt (w : World) (A : Option Addr) (i : Nat) (r : IRow) : Prop :=
  (∃ b o, A = some ⟨b, o, none⟩ ∧ w.cell? ⟨b, o + i, none⟩ = some (.slice r.A r.L.length r.c)) ∧ Holds w r.A (r.L.map (Value.int .i64)) ∧ r.L.length ≤ maxLen
def HoldsRows (w : World) (A : Option Addr) (n : Nat) : Prop := ∀ i, i < n → ∃ r, RowAt w A i r

section
variable {H : Type} {enc : TypeId × Value → H} {P : Program} {w : World} {base : Nat} {spare : Nat → Bool} {held : Bool}

theorem open_slice_cells {t e : TypeId} {fuel : Nat} {cs : List Value} {x : DataW H × List MemPlace} (d k : Nat) (ht : P.underlying t = some (.slice e)) (hd : intTy P d e = true) (hC : P.cellsOf e = k) (hk : 0 < k)
    (hf' : DataW.trod enc P w base spare held fuel t cs = some x) :
    ∃ (A : Option Addr) (n c : Nat) (B : List Int), cs = [.slice A n c] ∧ B.length = n * k ∧ WF B ∧ n ≤ c ∧ c ≤ maxLen ∧ Holds w A (B.map (Value.int .i64)) := by
  rcases open_slice ht hf' with ⟨hcs, _⟩ | ⟨ad, len, cap, m, n', D, Pl, hcs, hb, hl, hm, hmm, hx, hi⟩
  · exact ⟨none, 0, 0, [], hcs, by simp, fun x hx => by simp at hx, Nat.le_refl _, by simp [maxLen], fun j hj => by simp at hj⟩
  · have hlm : len ≤ m := by rw [hmm]; split <;> omega
    rw [hC] at hi
    have hcell : ∀ i, i < len → ∀ j, j < k → ∃ u, w.cell? (ad.add (i * k + j)) = some u ∧ IsInt u := by
      intro i hi' j hj
      obtain ⟨cs', hc, ht'⟩ := hi i (by omega)
      obtain ⟨_, hcl, hat⟩ := World.cells?_some hc
      have h1 := hat j (by omega)
      have hlen : cs'.length = k := hcl
      refine ⟨cs'[j]'(by omega), ?_, trod_ints d e _ _ _ hd ht' _ (List.getElem_mem _)⟩
      rw [← Go.Deep.add_add, h1]
      exact List.getElem?_eq_getElem (by omega)
    have hall : ∀ q, q < len * k → ∃ u, w.cell? (ad.add q) = some u ∧ IsInt u := by
      intro q hq
      have := hcell (q / k) (by rw [Nat.div_lt_iff_lt_mul hk]; exact hq) (q % k) (Nat.mod_lt _ hk)
      rwa [Nat.mul_comm, Nat.div_add_mod] at this
    obtain ⟨B, hB, hw⟩ := ints_of ((List.range (len * k)).map fun q => (w.cell? (ad.add q)).getD undef) (by
      intro u hu
      obtain ⟨q, hq, rfl⟩ := List.mem_map.1 hu
      obtain ⟨u, hc, hint⟩ := hall q (List.mem_range.1 hq)
      rw [hc]; exact hint)
    have hlen : B.length = len * k := by have := congrArg List.length hB; simpa using this.symm
    refine ⟨some ad, len, cap, B, hcs, hlen, hw, hl, hm, fun j hj => ?_⟩
    have hj' : j < len * k := by simpa [hlen] using hj
    obtain ⟨u, hc, _⟩ := hall j hj'
    obtain ⟨b, o, sp⟩ := ad
    have hsp : sp = none := by
      obtain ⟨u0, hc0, _⟩ := hall 0 (by omega)
      have := World.cell?_spot hc0
      simpa [Addr.add] using this
    subst hsp
    refine ⟨b, o, rfl, ?_⟩
    rw [add_flat] at hc
    rw [hc, ← hB, List.getElem?_map, List.getElem?_range hj']
    simp [add_flat, hc]

theorem open_slice_rows {r : Reach} {b0 : Nat} {t e : TypeId} {v : Value} {dd : DataW H} {p : List MemPlace} {e2 : TypeId} (ht : P.underlying t = some (.slice e)) (he : P.underlying e = some (.slice e2)) (hc2 : P.cellsOf e = 1) (hd : intTy P 2 e2 = true) (hC : P.cellsOf e2 = 1)
    (hv : Value.okWide P w r b0 t v) (h : DataW.Trod enc P w base spare held t v dd p) :
    ∃ (A : Option Addr) (n c : Nat), v = .slice A n c ∧ n ≤ c ∧ c ≤ maxLen ∧ HoldsRows w A n := by
  obtain ⟨A, n, c, rfl⟩ := okWide_slice ht hv
  obtain ⟨fuel, hf⟩ := h
  have hf' : DataW.trod enc P w base spare held fuel t [.slice A n c] = some (dd, p) := by simpa [Value.cells] using hf
  rcases open_slice ht hf' with ⟨hcs, _⟩ | ⟨ad, len, cap, m, n', D, Pl, hcs, hb, hl, hm, hmm, hx, hi⟩
  · simp at hcs
    obtain ⟨rfl, rfl, rfl⟩ := hcs
    exact ⟨none, 0, 0, rfl, Nat.le_refl _, by simp [maxLen], fun i hi => by omega⟩
  · simp at hcs
    obtain ⟨rfl, rfl, rfl⟩ := hcs
    have hlm : n ≤ m := by rw [hmm]; split <;> omega
    rw [hc2] at hi
    refine ⟨some ad, n, c, rfl, hl, hm, fun i hi' => ?_⟩
    obtain ⟨cs', hc, ht'⟩ := hi i (by omega)
    obtain ⟨A', n1, c1, B, rfl, hB, hw, hn1, hc1, hh⟩ := open_slice_cells 2 1 he hd hC (by omega) ht'
    obtain ⟨_, hcl, hat⟩ := World.cells?_some hc
    have h1 := hat 0 (by omega)
    refine ⟨⟨A', c1, B⟩, ?_, hh, by simp only []; omega⟩
    obtain ⟨b, o, sp⟩ := ad
    have hsp : sp = none := by
      obtain ⟨cs0, hc0, ht0⟩ := hi 0 (by omega)
      obtain ⟨A0, n0, c0, B0, rfl, _⟩ := open_slice_cells 2 1 he hd hC (by omega) ht0
      obtain ⟨_, hcl0, hat0⟩ := World.cells?_some hc0
      have := World.cell?_spot (hat0 0 (by omega))
      simpa [Addr.add] using this
    subst hsp
    refine ⟨b, o, rfl, ?_⟩
    obtain rfl : n1 = B.length := by omega
    simp only [add_flat, Nat.mul_one, Nat.add_zero] at h1
    simpa using h1
end
theorem RowAt.up {w w' : World} {A : Option Addr} {i : Nat} {r : IRow} (h : RowAt w A i r) (hb : Below w.heap.size w w') : RowAt w' A i r := by
  obtain ⟨⟨b, o, e, hc⟩, hh, hl⟩ := h
  exact ⟨⟨b, o, e, (hb.cell (p := ⟨b, o + i, none⟩) (World.block_lt_of_cell? w _ hc)).trans hc⟩, hh.up hb, hl⟩


/-- what is put is what its entry holds then -/
theorem putF_cell {B : List Int} (hB : B.length = 51) (n : Nat) (hn : n ≤ 16) (x y z : Int) :
    ci (((B.set (n*3) x).set (n*3+1) y).set (n*3+2) z) (n*3+1) = y ∧ ci (((B.set (n*3) x).set (n*3+1) y).set (n*3+2) z) (n*3+2) = z ∧ ci (((B.set (n*3) x).set (n*3+1) y).set (n*3+2) z) (n*3) = x := by
  refine ⟨?_, ?_, ?_⟩
  · rw [ci_set_ne _ (by omega), ci_set_eq _ (by simp; omega)]
  · rw [ci_set_eq _ (by simp; omega)]
  · rw [ci_set_ne _ (by omega), ci_set_ne _ (by omega), ci_set_eq _ (by omega)]


theorem putF_ver {B : List Int} (hB : B.length = 51) (u : Int) (l : List Int) (j : Nat) (hj : j ≤ 16) : ci B (j*3) ≤ ci (putF B u l).1 (j*3) ∧ ci (putF B u l).1 (j*3) ≤ ci B (j*3) + 1 := by
  unfold putF
  split
  · split
    · exact ⟨Int.le_refl _, by simp only []; omega⟩
    · simp only []
      by_cases e : j = u.toNat
      · subst e
        rw [(putF_cell hB u.toNat hj _ _ _).2.2]
        omega
      · rw [ci_set_ne _ (by omega), ci_set_ne _ (by omega), ci_set_ne _ (by omega)]
        omega
  · exact ⟨Int.le_refl _, by simp only []; omega⟩
theorem putF_other {B : List Int} (u : Int) (l : List Int) (j : Nat) (hj : (j : Int) ≠ u) : noteF (putF B u l).1 j = noteF B j := by
  unfold noteF
  split
  · rename_i hj1
    simp only [Int.toNat_natCast]
    unfold putF
    split
    · split
      · rfl
      · rename_i hu _
        have e : j ≠ u.toNat := by omega
        simp only []
        rw [ci_set_ne _ (by omega), ci_set_ne _ (by omega), ci_set_ne _ (by omega), ci_set_ne _ (by omega), ci_set_ne _ (by omega), ci_set_ne _ (by omega), ci_set_ne _ (by omega), ci_set_ne _ (by omega), ci_set_ne _ (by omega)]
    · rfl
  · rfl


theorem lookK_fine (D : List Int) (G : GS) (hl : G.last.length = 68) (hm : G.many.length = 17) (hw : G.wrong = false)
    (hyp : ∀ u : Nat, 1 ≤ u → u ≤ 16 → newer (lastF G.last u).1 (lastF G.last u).2.1 (noteF D u).1 (noteF D u).2.1 = true ∨ noteF D u = lastF G.last u) :
    ∀ k, k ≤ 16 → (lookK D G k).wrong = false ∧ ∀ u : Nat, 1 ≤ u → u ≤ k → lastF (lookK D G k).last u = noteF D u ∧
      ci (lookK D G k).many u = ci G.many u + (if noteF D u = lastF G.last u then 0 else 1)
  | 0, _ => ⟨hw, fun u h1 h2 => by omega⟩
  | k + 1, hk => by
    obtain ⟨ih1, ih2⟩ := lookK_fine D G hl hm hw hyp k (by omega)
    have st := lookK_steps D G hl hm k (by omega)
    have ot := st.other (k + 1) (by omega)
    have one := lookS_step D (k + 1) (lookK D G k) (st.len.trans hl) (st.mlen.trans hm) (by omega) (by omega)
    have key : (lookS D (k + 1) (lookK D G k)).wrong = false ∧ lastF (lookS D (k + 1) (lookK D G k)).last ((k + 1 : Nat) : Int) = noteF D ((k + 1 : Nat) : Int) ∧
        ci (lookS D (k + 1) (lookK D G k)).many (k + 1) = ci G.many (k + 1) + (if noteF D ((k + 1 : Nat) : Int) = lastF G.last ((k + 1 : Nat) : Int) then 0 else 1) := by
      have hh := hyp (k + 1) (by omega) (by omega)
      unfold lookS
      rw [ot.1]
      rcases hh with hh | hh
      · have hne : noteF D ((k + 1 : Nat) : Int) ≠ lastF G.last ((k + 1 : Nat) : Int) := by
          intro e
          rw [e] at hh
          simp [newer] at hh
        rw [if_pos hh, if_neg hne]
        refine ⟨ih1, lastF_same _ _ _ (st.len.trans hl) (by omega) (by omega), ?_⟩
        show ci ((lookK D G k).many.set (k + 1) _) (k + 1) = _
        rw [ci_set_eq _ (by rw [st.mlen, hm]; omega), ot.2]
      · have hnn : ¬ newer (lastF G.last ((k + 1 : Nat) : Int)).1 (lastF G.last ((k + 1 : Nat) : Int)).2.1 (noteF D ((k + 1 : Nat) : Int)).1 (noteF D ((k + 1 : Nat) : Int)).2.1 = true := by
          rw [hh]; simp [newer]
        rw [if_neg hnn, if_pos hh, if_pos hh]
        exact ⟨ih1, by rw [ot.1, hh], by rw [ot.2]; omega⟩
    refine ⟨key.1, fun u h1 h2 => ?_⟩
    by_cases e : u = k + 1
    · subst e; exact key.2
    · have a := one.other u e
      unfold lookK
      rw [a.1, a.2]
      exact ih2 u h1 (by omega)

/-- a ghost that has seen all of the board C -/
structure BOK (C : List Int) (G : GS) (k : Nat) : Prop where
  ok : GOK G k
  wrong : G.wrong = false
  last : ∀ u : Int, lastF G.last u = noteF C u
theorem lastF_out (last : List Int) (B : List Int) (u : Int) (h : ∀ v : Nat, 1 ≤ v → v ≤ 16 → lastF last v = noteF B v) : lastF last u = noteF B u := by
  by_cases hu : 1 ≤ u ∧ u ≤ 16
  · obtain ⟨v, rfl⟩ : ∃ v : Nat, u = v := ⟨u.toNat, by omega⟩
    exact h v (by omega) (by omega)
  · rw [lastF_bad _ _ hu, noteF_bad _ _ hu]
structure BNext (C D : List Int) (G G1 : GS) (x : Int) (ok : Bool) (k : Nat) : Prop where
  next : BOK D G1 (k + 1)
  many : manyF G1.many x = manyF G.many x + (if ok = true then 1 else 0)
  old : oddF G1.had (noteF C x) = false
  new : oddF G1.had (noteF D x) = false
theorem BOK.look {C : List Int} {G : GS} {k : Nat} (h : BOK C G k) (hC : C.length = 51) (hw : WF C) {x : Int} {L : List Int} {D : List Int} {ok : Bool} (hp : putF C x L = (D, ok)) : BNext C D G (lookK D G 16) x ok k := by
  have hD : (putF C x L).1 = D := by rw [hp]
  have hDw : WF D := by rw [← hD]; exact putF_wf hw x L
  have hno : noteF D x = noteF C x ∨ (1 ≤ x ∧ x ≤ 16 ∧ ok = true ∧ (noteF D x).1 = (noteF C x).1 ∧ (noteF C x).2.1 < (noteF D x).2.1) := by
    by_cases hx : 1 ≤ x ∧ x ≤ 16
    · obtain ⟨m, rfl⟩ : ∃ m : Nat, x = m := ⟨x.toNat, by omega⟩
      unfold putF at hp
      rw [if_pos hx] at hp
      split at hp
      · simp only [Prod.mk.injEq] at hp
        exact .inl (by rw [hp.1])
      · simp only [Prod.mk.injEq, Int.toNat_natCast] at hp
        obtain ⟨rfl, rfl⟩ := hp
        have hc := putF_cell hC m (by omega) (ci C (m*3) + 1) (fold L).1 (fold L).2
        refine .inr ⟨hx.1, hx.2, rfl, ?_, ?_⟩
        · rw [noteF_nat _ _ (by omega) (by omega), noteF_nat _ _ (by omega) (by omega)]
        · rw [noteF_nat _ _ (by omega) (by omega), noteF_nat _ _ (by omega) (by omega)]
          simp only []
          rw [hc.2.2]; omega
    · exact .inl (by rw [noteF_bad _ _ hx, noteF_bad _ _ hx])
  have hok : (noteF D x = noteF C x ↔ ok = false) := by
    constructor
    · intro e
      rcases hno with _ | ⟨_, _, _, _, h5⟩
      · by_cases hx : 1 ≤ x ∧ x ≤ 16
        · obtain ⟨m, rfl⟩ : ∃ m : Nat, x = m := ⟨x.toNat, by omega⟩
          unfold putF at hp
          rw [if_pos hx] at hp
          split at hp
          · simp only [Prod.mk.injEq] at hp; exact hp.2.symm
          · simp only [Prod.mk.injEq, Int.toNat_natCast] at hp
            obtain ⟨rfl, rfl⟩ := hp
            have hc := putF_cell hC m (by omega) (ci C (m*3) + 1) (fold L).1 (fold L).2
            rw [noteF_nat _ _ (by omega) (by omega), noteF_nat _ _ (by omega) (by omega)] at e
            simp only [Prod.mk.injEq] at e
            have := e.2.1
            rw [hc.2.2] at this; omega
        · unfold putF at hp; rw [if_neg hx] at hp; simp only [Prod.mk.injEq] at hp; exact hp.2.symm
      · rw [e] at h5; omega
    · intro e
      rcases hno with h | ⟨_, _, h3, _⟩
      · exact h
      · rw [h3] at e; cases e
  have hother : ∀ u : Nat, (u : Int) ≠ x → noteF D u = noteF C u := fun u hu => by rw [← hD]; exact putF_other x L u hu
  have hyp : ∀ u : Nat, 1 ≤ u → u ≤ 16 → newer (lastF G.last u).1 (lastF G.last u).2.1 (noteF D u).1 (noteF D u).2.1 = true ∨ noteF D u = lastF G.last u := by
    intro u h1 h2
    rw [h.last]
    by_cases e : (u : Int) = x
    · rw [e]
      rcases hno with hn | ⟨_, _, _, h4, h5⟩
      · exact .inr hn
      · exact .inl (by simp [newer, h4, h5])
    · exact .inr (hother u e)
  obtain ⟨w1, w2⟩ := lookK_fine D G h.ok.len h.ok.mlen h.wrong hyp 16 (by omega)
  have st := lookK_steps D G h.ok.len h.ok.mlen 16 (by omega)
  have gok := h.ok.look (B := D) hDw
  have hl : ∀ u : Int, lastF (lookK D G 16).last u = noteF D u := fun u => lastF_out _ _ u fun v h1 h2 => (w2 v h1 h2).1
  have hodd : ∀ (G' : GS) (y : Nt), y ∈ G'.had → oddF G'.had y = false := fun G' y hy => by simp [oddF, hy]
  have hz : ∀ (G' : GS), oddF G'.had (0, 0, 0, 0) = false := fun G' => by simp [oddF]
  refine ⟨⟨gok, w1, hl⟩, ?_, ?_, ?_⟩
  · by_cases hx : 1 ≤ x ∧ x ≤ 16
    · obtain ⟨m, rfl⟩ : ∃ m : Nat, x = m := ⟨x.toNat, by omega⟩
      unfold manyF
      rw [if_pos hx, if_pos hx]
      simp only [Int.toNat_natCast]
      rw [(w2 m (by omega) (by omega)).2, h.last]
      by_cases e : noteF D (m : Int) = noteF C (m : Int)
      · rw [if_pos e, hok.1 e]; simp
      · rw [if_neg e]
        have : ok = true := by
          cases ok with
          | true => rfl
          | false => exact absurd (hok.2 rfl) e
        rw [this]; simp
    · unfold manyF
      rw [if_neg hx, if_neg hx]
      have : ok = false := hok.1 (by rw [noteF_bad _ _ hx, noteF_bad _ _ hx])
      rw [this]; simp
  · by_cases hx : 1 ≤ x ∧ x ≤ 16
    · obtain ⟨m, rfl⟩ : ∃ m : Nat, x = m := ⟨x.toNat, by omega⟩
      have := st.had _ (h.ok.had m (by omega) (by omega))
      rw [h.last] at this
      exact hodd _ _ this
    · rw [noteF_bad _ _ hx]; exact hz _
  · by_cases hx : 1 ≤ x ∧ x ≤ 16
    · obtain ⟨m, rfl⟩ : ∃ m : Nat, x = m := ⟨x.toNat, by omega⟩
      have := gok.had m (by omega) (by omega)
      rw [hl] at this
      exact hodd _ _ this
    · rw [noteF_bad _ _ hx]; exact hz _
theorem G0_bok : BOK sB0 G0 0 := by
  refine ⟨G0_ok, by decide +kernel, fun u => lastF_out _ _ u fun v h1 h2 => ?_⟩
  have h : ((List.range 17).all fun v => v == 0 || decide (lastF G0.last v = noteF sB0 v)) = true := by decide +kernel
  have := List.all_eq_true.1 h v (List.mem_range.2 (by omega))
  simp only [Bool.or_eq_true, beq_iff_eq, decide_eq_true_eq] at this
  rcases this with e | e
  · omega
  · exact e

/-- what holds inside a round of GhostBoards -/
def VG (W : World) (g bm : Nat) (G : GS) (b7 : Nat) (C : List Int) (bu qu : Nat) (x : Int) (bs qs : Nat) (A : Option Addr) (c : Nat) (L : List Int) (w' : World) : Prop :=
  Below W.heap.size W w' ∧ GG w' g bm G ∧ Block w' b7 33 (ints C) ∧ w'.cell? ⟨bu, qu, none⟩ = some (.int .i64 x) ∧ w'.cell? ⟨bs, qs, none⟩ = some (.slice A L.length c) ∧ Holds w' A (L.map (Value.int .i64))
theorem VG.up {W w w' : World} {g bm : Nat} {G : GS} {b7 : Nat} {C : List Int} {bu qu : Nat} {x : Int} {bs qs : Nat} {A : Option Addr} {c : Nat} {L : List Int} (h : VG W g bm G b7 C bu qu x bs qs A c L w) (hb : Below w.heap.size w w') : VG W g bm G b7 C bu qu x bs qs A c L w' :=
  ⟨h.1.trans (hb.mono h.1.size), h.2.1.ups hb, h.2.2.1.ups hb, (hb.cell (p := ⟨bu, qu, none⟩) (World.block_lt_of_cell? w _ h.2.2.2.1)).trans h.2.2.2.1, (hb.cell (p := ⟨bs, qs, none⟩) (World.block_lt_of_cell? w _ h.2.2.2.2.1)).trans h.2.2.2.2.1, h.2.2.2.2.2.up hb⟩
def RG (W : World) (g bm b7 n : Nat) (i : Value) (wr : World) : Prop :=
  ∃ (k : Nat) (G : GS) (C : List Int), k ≤ n ∧ i = .int .i64 k ∧ C.length = 51 ∧ WF C ∧ BOK C G k ∧ GG wr g bm G ∧ Block wr b7 33 (ints C) ∧ Below W.heap.size W wr
section
variable {P : Program} {d : Option Tmp} {tt : TypeId} {ps : String} {af : Array Edge} {a : Act} {w : World} {K : Act → World → Prop} {Q : Exit → Act → World → Prop}
/-- a new variable of zeros, as one step of a region that draws -/
theorem wpo_alloc (e : TypeId) (Z : Array Value) (hz : (P.info? e).map (·.zero) = some (some (.agg Z)))
    (h : ∀ w' g, w.heap.size ≤ g → Below w.heap.size w w' → Block w' g e Z → K (a.put d (.pointer (some ⟨g, 0, none⟩))) w') :
    Oper.wp P ⟨d, .alloc e, tt, ps, af, none⟩ a w K Q := by
  unfold Oper.wp execOp
  cases hq : P.info? e with
  | none => simp [hq] at hz
  | some i =>
    have hz' : i.zero = some (.agg Z) := by simpa [hq] using hz
    simp only [Instr.alloc, zeroValue, typeInfo, program, newVar, newRow, newObj, Value.cells, Sem.run, Sem.run_bind, Sem.run_pure, Result.andThen_ok, hq, hz']
    exact h (w.alloc (.cells Z e)) w.heap.size (Nat.le_refl _) ((Below.refl _ _).alloc (Nat.le_refl _) _) (heap_alloc_new w _)
end


end Go.Proofs.Ytbpepkpjjfhmpaa
