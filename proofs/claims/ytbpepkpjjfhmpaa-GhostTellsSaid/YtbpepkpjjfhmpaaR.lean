/- The ghost: IndexFunc, ContainsFunc at Fine's closure; Fine. -/
import Derived.Test.YtbpepkpjjfhmpaaQ
namespace Go.Proofs.Ytbpepkpjjfhmpaa
open Go.RowKit Go.Maps
set_option linter.unusedVariables false
set_option linter.unusedSimpArgs false

/-- notes in memory, one behind the other -/
def nflat (V : List Nt) : List Int := V.flatMap fun x => [x.1, x.2.1, x.2.2.1, x.2.2.2]
def IdxRel (W : World) (V : List Nt) (had : List Nt) (i : Value) (wr : World) : Prop :=
  ∃ k : Nat, k ≤ V.length ∧ i = .int .i64 k ∧ (∀ j, j < k → ∀ x, V[j]? = some x → oddF had x = false) ∧ Below W.heap.size W wr
theorem nflat_at {V : List Nt} {k : Nat} (h : k < V.length) (q : Nat) (hq : q < 4) : (nflat V)[k * 4 + q]? = [V[k].1, V[k].2.1, V[k].2.2.1, V[k].2.2.2][q]? := by
  induction V generalizing k with
  | nil => simp at h
  | cons x V ih =>
    cases k with
    | zero =>
      simp only [nflat, List.flatMap_cons, Nat.zero_mul, Nat.zero_add]
      rw [List.getElem?_append_left (by simpa using hq)]
      rfl
    | succ k =>
      have := ih (k := k) (by simpa using h)
      simp only [nflat, List.flatMap_cons] at this ⊢
      rw [List.getElem?_append_right (by simp; omega)]
      simp only [List.length_cons, List.length_nil, List.getElem_cons_succ]
      rw [show (k + 1) * 4 + q - (0 + 1 + 1 + 1 + 1) = k * 4 + q by omega]
      exact this

set_option maxHeartbeats 1000000 in
theorem idx_at (w : World) (g bm bc : Nat) (G : GS) (V : List Nt) (hV : ∀ x ∈ V, NWF x) (A : Option Addr) (c : Nat) (hn : V.length ≤ 9223372036854775807) (hh : Holds w A ((nflat V).map (Value.int .i64))) (h : GG w g bm G) (hc : w.cell? ⟨bc, 0, none⟩ = some (.pointer (some ⟨g, 0, none⟩))) :
    Calls Try.prog 32 #[.slice A V.length c, .func (.func 28) #[] #[.pointer (some ⟨bc, 0, none⟩)]] w fun e w' => (∃ r : Int, e = .returned (.int .i64 r) ∧ decide (0 ≤ r) = V.any (oddF G.had)) ∧ Below w.heap.size w w' := by
  go_enter Try.func32, Try.ntmps32
  go_wp2
  go_loopw [8] (IdxRel w V G.had) (fun i _ => V.length - (intOf i).toNat)
  case atStart => exact ⟨0, Nat.zero_le _, rfl, fun j hj => by omega, Below.refl _ _⟩
  case round =>
    obtain ⟨k, hk, rfl, hno, hbel⟩ := hrel
    by_cases hlt : k < V.length
    · have hl : k * 4 + 3 < (nflat V).length := by
        have h3 : (nflat V)[k*4+3]? = some V[k].2.2.2 := nflat_at hlt 3 (by omega)
        exact (List.getElem?_eq_some_iff.1 h3).1
      obtain ⟨b, o, rfl, _⟩ := hh (k*4) (by simp; omega)
      have cell : ∀ q, q < 4 → w.cell? ⟨b, o + (k*4 + q), none⟩ = ([V[k].1, V[k].2.1, V[k].2.2.1, V[k].2.2.2][q]?).map (Value.int .i64) := by
        intro q hq
        obtain ⟨b', o', e, hcq⟩ := hh (k*4 + q) (by simp; omega)
        injection e with e
        injection e with e1 e2
        subst e1 e2
        rw [hcq, List.getElem?_map, nflat_at hlt q hq]
      have hx := hV V[k] (List.getElem_mem _)
      have hyes : V[k]? = some V[k] := List.getElem?_eq_getElem hlt
      have t0 := cell 0 (by omega)
      have t1 := cell 1 (by omega)
      have t2 := cell 2 (by omega)
      have t3 := cell 3 (by omega)
      generalize V[k] = x at *
      obtain ⟨a0, a1, a2, a3⟩ := x
      simp at t0 t1 t2 t3
      have hb := World.block_lt_of_cell? w _ t0
      have s0 := (hbel.cell (p := ⟨b, o + k*4, none⟩) hb).trans t0
      have s1 := (hbel.cell (p := ⟨b, o + (k*4+1), none⟩) hb).trans t1
      have s2 := (hbel.cell (p := ⟨b, o + (k*4+2), none⟩) hb).trans t2
      have s3 := (hbel.cell (p := ⟨b, o + (k*4+3), none⟩) hb).trans t3
      simp only [← Nat.add_assoc] at s1 s2 s3
      have hg' : GG wr g bm G := GAt.ups h hbel
      have hc' := (hbel.cell (p := ⟨bc, 0, none⟩) (World.block_lt_of_cell? w _ hc)).trans hc
      obtain ⟨r, hr⟩ : ∃ r, oddF G.had (a0, a1, a2, a3) = r := ⟨_, rfl⟩
      have HR := Lib.hid hr
      have HNO := Lib.hid hno
      have HY := Lib.hid hyes
      have HV := Lib.hid hx
      clear hr hno hyes hx t0 t1 t2 t3 cell hV hh h hc
      cases r
      all_goals go_wp2_with (first
        | (go_at_call 28; refine (odd_at _ g bm bc G a0 a1 a2 a3 HV.out hg' hc').mono ?_; rintro e w2 ⟨rfl, hb2⟩; rw [HR.out]; replace hbel := hbel.trans (hb2.mono hbel.size); clear hb2))
      · refine ⟨⟨k + 1, by omega, by go_num, fun j hj y hy => ?_, hbel⟩, by simp [intOf]; omega⟩
        by_cases e : j = k
        · subst e
          have := HY.out
          rw [this] at hy
          injection hy with hy
          rw [← hy]
          exact HR.out
        · exact HNO.out j (by omega) y hy
      · go_ret
        refine ⟨⟨_, rfl, ?_⟩, hbel⟩
        have : V.any (oddF G.had) = true := List.any_eq_true.2 ⟨_, List.mem_of_getElem? HY.out, HR.out⟩
        rw [this]
        simp
    · obtain rfl : k = V.length := by omega
      have HNO := Lib.hid hno
      clear hno
      go_wp2
      go_ret
      refine ⟨⟨_, rfl, ?_⟩, hbel⟩
      have : V.any (oddF G.had) = false := by
        rw [List.any_eq_false]
        intro x hx
        obtain ⟨j, hj, e⟩ := List.getElem_of_mem hx
        have := HNO.out j hj x (by rw [List.getElem?_eq_getElem hj, e])
        simp [this]
      rw [this]
      simp
end Go.Proofs.Ytbpepkpjjfhmpaa
