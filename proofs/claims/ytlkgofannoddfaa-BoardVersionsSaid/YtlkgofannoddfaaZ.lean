/- BoardVersions: what is needed ahead of the walk. -/
import Derived.Test.YtlkgofannoddfaaT
import Derived.Test.YtlkgofannoddfaaPf
import Derived.Test.YtlkgofannoddfaaM
import Derived.Test.YtlkgofannoddfaaX
import Derived.Deep.CutRange
namespace Go.Proofs.Ytlkgofannoddfaa
open Go.ChangeShapes Go.WideShapes Go.ChangeAt Go.RowKit Go.Deep
set_option linter.unusedVariables false
set_option linter.unusedSimpArgs false

/-! ### a slice of slices of ints, as it came in -/
structure IRow where
  A : Option Addr
  c : Nat
  L : List Int
def RowAt (w : World) (A : Option Addr) (i : Nat) (r : IRow) : Prop :=
  (∃ b o, A = some ⟨b, o, none⟩ ∧ w.cell? ⟨b, o + i, none⟩ = some (.slice r.A r.L.length r.c)) ∧ Holds w r.A (r.L.map (Value.int .i64)) ∧ r.L.length ≤ maxLen
def HoldsRows (w : World) (A : Option Addr) (n : Nat) : Prop := ∀ i, i < n → ∃ r, RowAt w A i r

section
variable {H : Type} {enc : TypeId × Value → H} {P : Program} {w : World} {base : Nat} {spare : Nat → Bool} {held : Bool}

theorem open_slice_cells {t e : TypeId} {fuel : Nat} {cs : List Value} {x : DataW H × List MemPlace} (d k : Nat) (ht : P.underlying t = some (.slice e)) (hd : intTy P d e = true) (hC : P.cellsOf e = k) (hk : 0 < k)
    (hf' : DataW.trod enc P w base spare held fuel t cs = some x) :
    ∃ (A : Option Addr) (n c : Nat) (B : List Int), cs = [.slice A n c] ∧ B.length = n * k ∧ WF B ∧ n ≤ c ∧ c ≤ maxLen ∧ Holds w A (B.map (Value.int .i64)) := by
  rcases open_slice ht hf' with ⟨hcs, _⟩ | ⟨ad, len, cap, m, n', D, Pl, hcs, hb, hl, hm, hmm, hx, hi⟩
  · exact ⟨none, 0, 0, [], hcs, by simp, fun x hx => by simp at hx, Nat.le_refl _, by simp [maxLen], fun j hj => by simp at hj⟩
  · have hlm : len ≤ m := by rw [hmm]; split <;> omega
    rw [hC] at hi
    have hcell : ∀ i, i < len → ∀ j, j < k → ∃ u, w.cell? (ad.add (i * k + j)) = some u ∧ IsInt u := by
      intro i hi' j hj
      obtain ⟨cs', hc, ht'⟩ := hi i (by omega)
      obtain ⟨_, hcl, hat⟩ := World.cells?_some hc
      have h1 := hat j (by omega)
      have hlen : cs'.length = k := hcl
      refine ⟨cs'[j]'(by omega), ?_, trod_ints d e _ _ _ hd ht' _ (List.getElem_mem _)⟩
      rw [← Go.Deep.add_add, h1]
      exact List.getElem?_eq_getElem (by omega)
    have hall : ∀ q, q < len * k → ∃ u, w.cell? (ad.add q) = some u ∧ IsInt u := by
      intro q hq
      have := hcell (q / k) (by rw [Nat.div_lt_iff_lt_mul hk]; exact hq) (q % k) (Nat.mod_lt _ hk)
      rwa [Nat.mul_comm, Nat.div_add_mod] at this
    obtain ⟨B, hB, hw⟩ := ints_of ((List.range (len * k)).map fun q => (w.cell? (ad.add q)).getD undef) (by
      intro u hu
      obtain ⟨q, hq, rfl⟩ := List.mem_map.1 hu
      obtain ⟨u, hc, hint⟩ := hall q (List.mem_range.1 hq)
      rw [hc]; exact hint)
    have hlen : B.length = len * k := by have := congrArg List.length hB; simpa using this.symm
    refine ⟨some ad, len, cap, B, hcs, hlen, hw, hl, hm, fun j hj => ?_⟩
    have hj' : j < len * k := by simpa [hlen] using hj
    obtain ⟨u, hc, _⟩ := hall j hj'
    obtain ⟨b, o, sp⟩ := ad
    have hsp : sp = none := by
      obtain ⟨u0, hc0, _⟩ := hall 0 (by omega)
      have := World.cell?_spot hc0
      simpa [Addr.add] using this
    subst hsp
    refine ⟨b, o, rfl, ?_⟩
    rw [add_flat] at hc
    rw [hc, ← hB, List.getElem?_map, List.getElem?_range hj']
    simp [add_flat, hc]

theorem open_slice_rows {r : Reach} {b0 : Nat} {t e : TypeId} {v : Value} {dd : DataW H} {p : List MemPlace} {e2 : TypeId} (ht : P.underlying t = some (.slice e)) (he : P.underlying e = some (.slice e2)) (hc2 : P.cellsOf e = 1) (hd : intTy P 2 e2 = true) (hC : P.cellsOf e2 = 1)
    (hv : Value.okWide P w r b0 t v) (h : DataW.Trod enc P w base spare held t v dd p) :
    ∃ (A : Option Addr) (n c : Nat), v = .slice A n c ∧ n ≤ c ∧ c ≤ maxLen ∧ HoldsRows w A n := by
  obtain ⟨A, n, c, rfl⟩ := okWide_slice ht hv
  obtain ⟨fuel, hf⟩ := h
  have hf' : DataW.trod enc P w base spare held fuel t [.slice A n c] = some (dd, p) := by simpa [Value.cells] using hf
  rcases open_slice ht hf' with ⟨hcs, _⟩ | ⟨ad, len, cap, m, n', D, Pl, hcs, hb, hl, hm, hmm, hx, hi⟩
  · simp at hcs
    obtain ⟨rfl, rfl, rfl⟩ := hcs
    exact ⟨none, 0, 0, rfl, Nat.le_refl _, by simp [maxLen], fun i hi => by omega⟩
  · simp at hcs
    obtain ⟨rfl, rfl, rfl⟩ := hcs
    have hlm : n ≤ m := by rw [hmm]; split <;> omega
    rw [hc2] at hi
    refine ⟨some ad, n, c, rfl, hl, hm, fun i hi' => ?_⟩
    obtain ⟨cs', hc, ht'⟩ := hi i (by omega)
    obtain ⟨A', n1, c1, B, rfl, hB, hw, hn1, hc1, hh⟩ := open_slice_cells 2 1 he hd hC (by omega) ht'
    obtain ⟨_, hcl, hat⟩ := World.cells?_some hc
    have h1 := hat 0 (by omega)
    refine ⟨⟨A', c1, B⟩, ?_, hh, by simp only []; omega⟩
    obtain ⟨b, o, sp⟩ := ad
    have hsp : sp = none := by
      obtain ⟨cs0, hc0, ht0⟩ := hi 0 (by omega)
      obtain ⟨A0, n0, c0, B0, rfl, _⟩ := open_slice_cells 2 1 he hd hC (by omega) ht0
      obtain ⟨_, hcl0, hat0⟩ := World.cells?_some hc0
      have := World.cell?_spot (hat0 0 (by omega))
      simpa [Addr.add] using this
    subst hsp
    refine ⟨b, o, rfl, ?_⟩
    obtain rfl : n1 = B.length := by omega
    simp only [add_flat, Nat.mul_one, Nat.add_zero] at h1
    simpa using h1
end
theorem RowAt.up {w w' : World} {A : Option Addr} {i : Nat} {r : IRow} (h : RowAt w A i r) (hb : Below w.heap.size w w') : RowAt w' A i r := by
  obtain ⟨⟨b, o, e, hc⟩, hh, hl⟩ := h
  exact ⟨⟨b, o, e, (hb.cell (p := ⟨b, o + i, none⟩) (World.block_lt_of_cell? w _ hc)).trans hc⟩, hh.up hb, hl⟩

/-! ### the plain law -/
theorem putF_ver {B : List Int} (hB : B.length = 51) (u : Int) (l : List Int) (j : Nat) (hj : j ≤ 16) : ci B (j*3) ≤ ci (putF B u l).1 (j*3) ∧ ci (putF B u l).1 (j*3) ≤ ci B (j*3) + 1 := by
  unfold putF
  split
  · split
    · exact ⟨Int.le_refl _, by simp only []; omega⟩
    · simp only []
      by_cases e : j = u.toNat
      · subst e
        rw [(putF_cell hB u.toNat hj _ _ _).2.2]
        omega
      · rw [ci_set_ne _ (by omega), ci_set_ne _ (by omega), ci_set_ne _ (by omega)]
        omega
  · exact ⟨Int.le_refl _, by simp only []; omega⟩
theorem putF_other {B : List Int} (u : Int) (l : List Int) (j : Nat) (hj : (j : Int) ≠ u) : noteF (putF B u l).1 j = noteF B j := by
  unfold noteF
  split
  · rename_i hj1
    simp only [Int.toNat_natCast]
    unfold putF
    split
    · split
      · rfl
      · rename_i hu _
        have e : j ≠ u.toNat := by omega
        simp only []
        rw [ci_set_ne _ (by omega), ci_set_ne _ (by omega), ci_set_ne _ (by omega), ci_set_ne _ (by omega), ci_set_ne _ (by omega), ci_set_ne _ (by omega), ci_set_ne _ (by omega), ci_set_ne _ (by omega), ci_set_ne _ (by omega)]
    · rfl
  · rfl

theorem ver_cases {C D L : List Int} {x s n : Int} {ok : Bool} (hC : C.length = 51) (hp : putF C x L = (D, ok)) (hf : fold L = (s, n)) (m : Nat) (h1 : 1 ≤ m) (h2 : m ≤ 16) (hv : ci C (m*3) < 1073741824) :
    (x = m ∧ ok = true ∧ noteF D m = ((m : Int), ci C (m*3) + 1, s, n)) ∨ (x = m ∧ ok = false ∧ noteF D m = ((m : Int), ci C (m*3), s, n) ∧ ci C (m*3+1) = s ∧ ci C (m*3+2) = n) ∨ (x ≠ m ∧ noteF D m = ((m : Int), ci C (m*3), ci C (m*3+1), ci C (m*3+2))) := by
  have hnote : ∀ B, noteF B (m : Int) = ((m : Int), ci B (m*3), ci B (m*3+1), ci B (m*3+2)) := fun B => by unfold noteF; rw [if_pos (by omega)]; simp
  by_cases e : x = m
  · subst e
    unfold putF at hp
    rw [if_pos (by omega), hf] at hp
    simp only [Int.toNat_natCast] at hp
    split at hp
    · rename_i hq
      simp only [Prod.mk.injEq] at hp
      obtain ⟨rfl, rfl⟩ := hp
      rcases hq with hq | hq
      · exact .inr (.inl ⟨rfl, rfl, by rw [hnote, hq.1, hq.2], hq.1, hq.2⟩)
      · omega
    · simp only [Prod.mk.injEq] at hp
      obtain ⟨rfl, rfl⟩ := hp
      have hc := putF_cell hC m h2 (ci C (m*3) + 1) s n
      exact .inl ⟨rfl, rfl, by rw [hnote, hc.1, hc.2.1, hc.2.2]⟩
  · refine .inr (.inr ⟨e, ?_⟩)
    have := putF_other (B := C) x L m (fun h => e h.symm)
    rw [hp, hnote C] at this
    exact this

def VerRel (B : List Int) (u : Value) : Prop := ∃ k : Nat, 1 ≤ k ∧ k ≤ 17 ∧ u = .int .i64 k ∧ ∀ j, 1 ≤ j → j < k → 0 ≤ ci B (j*3) ∧ ci B (j*3) ≤ 1048576
/-- what holds inside a round -/
def VC (W : World) (b3 : Nat) (C : List Int) (bu qu : Nat) (x : Int) (bs qs : Nat) (A : Option Addr) (c : Nat) (L : List Int) (w' : World) : Prop :=
  Below W.heap.size W w' ∧ Block w' b3 25 (ints C) ∧ w'.cell? ⟨bu, qu, none⟩ = some (.int .i64 x) ∧ w'.cell? ⟨bs, qs, none⟩ = some (.slice A L.length c) ∧ Holds w' A (L.map (Value.int .i64))
theorem VC.up {W w w' : World} {b3 : Nat} {C : List Int} {bu qu : Nat} {x : Int} {bs qs : Nat} {A : Option Addr} {c : Nat} {L : List Int} (h : VC W b3 C bu qu x bs qs A c L w) (hb : Below w.heap.size w w') : VC W b3 C bu qu x bs qs A c L w' :=
  ⟨h.1.trans (hb.mono h.1.size), h.2.1.ups hb, (hb.cell (p := ⟨bu, qu, none⟩) (World.block_lt_of_cell? w _ h.2.2.1)).trans h.2.2.1, (hb.cell (p := ⟨bs, qs, none⟩) (World.block_lt_of_cell? w _ h.2.2.2.1)).trans h.2.2.2.1, h.2.2.2.2.up hb⟩
def V2 (W : World) (b3 : Nat) (n : Nat) (i : Value) (wr : World) : Prop :=
  ∃ k : Nat, k ≤ n ∧ i = .int .i64 k ∧ ∃ C : List Int, C.length = 51 ∧ WF C ∧ (∀ j, 1 ≤ j → j ≤ 16 → 0 ≤ ci C (j*3) ∧ ci C (j*3) ≤ 1048576 + k) ∧ Block wr b3 25 (ints C) ∧ Below W.heap.size W wr
def V3 (W : World) (b3 : Nat) (C : List Int) (bu qu : Nat) (x : Int) (bs qs : Nat) (A : Option Addr) (c : Nat) (L : List Int) (b10 : Nat) (D : List Int) (j : Value) (wr : World) : Prop :=
  ∃ k : Nat, 1 ≤ k ∧ k ≤ 17 ∧ j = .int .i64 k ∧ VC W b3 C bu qu x bs qs A c L wr ∧ Block wr b10 25 (ints D)

section
variable {P : Program} {d : Option Tmp} {tt : TypeId} {ps : String} {af : Array Edge} {a : Act} {w : World} {K : Act → World → Prop} {Q : Exit → Act → World → Prop}
/-- a new variable of zeros, as one step of a region that draws -/
theorem wpo_alloc (e : TypeId) (Z : Array Value) (hz : (P.info? e).map (·.zero) = some (some (.agg Z)))
    (h : ∀ w' g, w.heap.size ≤ g → Below w.heap.size w w' → Block w' g e Z → K (a.put d (.pointer (some ⟨g, 0, none⟩))) w') :
    Oper.wp P ⟨d, .alloc e, tt, ps, af, none⟩ a w K Q := by
  unfold Oper.wp execOp
  cases hq : P.info? e with
  | none => simp [hq] at hz
  | some i =>
    have hz' : i.zero = some (.agg Z) := by simpa [hq] using hz
    simp only [Instr.alloc, zeroValue, typeInfo, program, newVar, newRow, newObj, Value.cells, Sem.run, Sem.run_bind, Sem.run_pure, Result.andThen_ok, hq, hz']
    exact h (w.alloc (.cells Z e)) w.heap.size (Nat.le_refl _) ((Below.refl _ _).alloc (Nat.le_refl _) _) (heap_alloc_new w _)
end

set_option maxHeartbeats 1000000 in
set_option maxRecDepth 100000 in
theorem versions_bad (B : List Int) (U : List Int) (A A2 : Option Addr) (c n2 c2 : Nat) (w : World) (hU : U.length ≤ 9223372036854775807) (hn : 100 < U.length ∨ n2 ≠ U.length) (hn2 : n2 ≤ 9223372036854775807) :
    Calls Try.prog 4 #[.agg (ints B), .slice A U.length c, .slice A2 n2 c2] w fun e w' => e = .returned (.bool true) ∧ Below w.heap.size w w' := by
  have hall := Below.refl w.heap.size w
  by_cases h1 : 100 < U.length
  · clear hn
    go_enter Try.func4, Try.ntmps4
    go_wp2_with (first
      | ((with_reducible refine op_box 25 (.tmp 0) (ints B) ?_ ?_); rfl; intro w1 b3 hge hb k3; replace hall := hall.trans (hb.mono hall.size); clear hb hge)
      | (go_at_call 8; refine (small_any _).mono ?_; rintro e w1 ⟨rfl, hb⟩; replace hall := hall.trans (hb.mono hall.size); clear hb))
    go_ret
    exact ⟨rfl, hall⟩
  · have h2 : n2 ≠ U.length := by omega
    have h3 : ((n2 : Int) != (U.length : Int)) = true := by simp; omega
    clear hn
    go_enter Try.func4, Try.ntmps4
    go_wp2_with (first
      | ((with_reducible refine op_box 25 (.tmp 0) (ints B) ?_ ?_); rfl; intro w1 b3 hge hb k3; replace hall := hall.trans (hb.mono hall.size); clear hb hge)
      | (go_at_call 8; refine (small_any _).mono ?_; rintro e w1 ⟨rfl, hb⟩; replace hall := hall.trans (hb.mono hall.size); clear hb))
    go_ret
    exact ⟨rfl, hall⟩
end Go.Proofs.Ytlkgofannoddfaa
