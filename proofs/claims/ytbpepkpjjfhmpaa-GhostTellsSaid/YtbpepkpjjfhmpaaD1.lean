/- The document's ghost: what it is in memory; known, Wrong, Many, Last, Had. -/
import Derived.Test.YtbpepkpjjfhmpaaK2
namespace Go.Proofs.Ytbpepkpjjfhmpaa
open Go.RowKit Go.Maps
set_option linter.unusedVariables false
set_option linter.unusedSimpArgs false

structure RS where
  rows : List (List Nt)
  bad : Bool
def RRow (w : World) (r : Nat) (v : Value) (V : List Nt) : Prop := ∃ A c, v = .slice A V.length c ∧ Holds w A (IV (nflat V)) ∧ V.length ≤ 1000 ∧ (∀ b o, A = some ⟨b, o, none⟩ → r < b ∧ b < w.heap.size)
def RAt (w : World) (r : Nat) (S : RS) : Prop := ∃ vals : List Value, vals.length = 17 ∧ S.rows.length = 17 ∧ Block w r 57 (vals ++ [Value.bool S.bad]).toArray ∧ ∀ (u : Nat) (v : Value) (V : List Nt), vals[u]? = some v → S.rows[u]? = some V → RRow w r v V
def rowN (S : RS) (u : Nat) : List Nt := S.rows.getD u []
theorem RRow.ups {w w' : World} {r : Nat} {v : Value} {V : List Nt} (h : RRow w r v V) (hb : Below w.heap.size w w') : RRow w' r v V := by
  obtain ⟨A, c, rfl, hh, hl, hn⟩ := h
  exact ⟨A, c, rfl, hh.up hb, hl, fun b o e => ⟨(hn b o e).1, Nat.lt_of_lt_of_le (hn b o e).2 hb.size⟩⟩
theorem RAt.ups {w w' : World} {r : Nat} {S : RS} (h : RAt w r S) (hb : Below w.heap.size w w') : RAt w' r S := by
  obtain ⟨vals, h1, h2, h3, h4⟩ := h
  exact ⟨vals, h1, h2, h3.ups hb, fun u v V a b => (h4 u v V a b).ups hb⟩
theorem RAt.row {w : World} {r : Nat} {S : RS} (h : RAt w r S) {u : Nat} (hu : u ≤ 16) : ∃ A c, w.cell? ⟨r, u, none⟩ = some (.slice A (rowN S u).length c) ∧ Holds w A (IV (nflat (rowN S u))) ∧ (rowN S u).length ≤ 1000 := by
  obtain ⟨vals, h1, h2, h3, h4⟩ := h
  have hv : vals[u]? = some vals[u] := List.getElem?_eq_getElem (by omega)
  have hr : S.rows[u]? = some S.rows[u] := List.getElem?_eq_getElem (by omega)
  have hN : rowN S u = S.rows[u] := by unfold rowN; rw [List.getD_eq_getElem?_getD, hr]; rfl
  obtain ⟨A, c, e, hh, hl, _⟩ := h4 u _ _ hv hr
  refine ⟨A, c, ?_, by rw [hN]; exact hh, by rw [hN]; exact hl⟩
  rw [h3.cell, List.getElem?_toArray, List.getElem?_append_left (by omega), hv, hN, e]
theorem RAt.badCell {w : World} {r : Nat} {S : RS} (h : RAt w r S) : w.cell? ⟨r, 17, none⟩ = some (.bool S.bad) := by
  obtain ⟨vals, h1, h2, h3, h4⟩ := h
  rw [h3.cell, List.getElem?_toArray, List.getElem?_append_right (by omega), h1]
  rfl

theorem rknown_any (u : Int) (w : World) : Calls Try.prog 27 #[.int .i64 u] w fun e w' => e = .returned (.bool (decide (1 ≤ u ∧ u ≤ 16))) ∧ w = w' := by
  by_cases h1 : 1 ≤ u
  · by_cases h2 : u ≤ 16
    · go_enter Try.func27, Try.ntmps27
      go_wp2
      go_ret
      exact ⟨by simp; omega, rfl⟩
    · go_enter Try.func27, Try.ntmps27
      go_wp2
      go_ret
      exact ⟨by simp; omega, rfl⟩
  · go_enter Try.func27, Try.ntmps27
    go_wp2
    go_ret
    exact ⟨by simp; omega, rfl⟩
theorem rwrong_at (w : World) (r : Nat) (S : RS) (h : RAt w r S) :
    Calls Try.prog 20 #[.pointer (some ⟨r, 0, none⟩)] w fun e w' => e = .returned (.bool S.bad) ∧ w = w' := by
  have c17 := h.badCell
  clear h
  go_enter Try.func20, Try.ntmps20
  go_wp2
  go_ret
  exact ⟨rfl, rfl⟩
def rmanyF (S : RS) (u : Int) : Int := if 1 ≤ u ∧ u ≤ 16 then (rowN S u.toNat).length else 0
theorem rmany_at (w : World) (r : Nat) (S : RS) (u : Int) (h : RAt w r S) :
    Calls Try.prog 14 #[.pointer (some ⟨r, 0, none⟩), .int .i64 u] w fun e w' => e = .returned (.int .i64 (rmanyF S u)) ∧ w = w' := by
  by_cases hu : 1 ≤ u ∧ u ≤ 16
  · obtain ⟨m, rfl⟩ : ∃ m : Nat, u = m := ⟨u.toNat, by omega⟩
    have hkn : decide (1 ≤ (m : Int) ∧ (m : Int) ≤ 16) = true := by simpa using hu
    obtain ⟨A, c, hc, _, _⟩ := h.row (u := m) (by omega)
    have h17 : (m : Int) < 17 := by omega
    have hr : rmanyF S m = (rowN S m).length := by unfold rmanyF; rw [if_pos hu]; simp
    rw [hr]
    clear h hr
    go_enter Try.func14, Try.ntmps14
    go_wp2_with (first
      | (go_at_call 27; refine (rknown_any _ _).mono ?_; rintro e w' ⟨rfl, rfl⟩; rw [hkn]))
    go_ret
    exact ⟨rfl, rfl⟩
  · have hkn : decide (1 ≤ u ∧ u ≤ 16) = false := by simpa using hu
    have hr : rmanyF S u = 0 := by unfold rmanyF; rw [if_neg hu]
    rw [hr]
    clear h hr
    go_enter Try.func14, Try.ntmps14
    go_wp2_with (first
      | (go_at_call 27; refine (rknown_any _ _).mono ?_; rintro e w' ⟨rfl, rfl⟩; rw [hkn]))
    go_ret
    exact ⟨rfl, rfl⟩
def lastN (V : List Nt) : Nt := V.getLastD (0, 0, 0, 0)
def rlastF (S : RS) (u : Int) : Nt := if 1 ≤ u ∧ u ≤ 16 then lastN (rowN S u.toNat) else (0, 0, 0, 0)
theorem lastN_at {V : List Nt} (h : V ≠ []) : V[V.length - 1]? = some (lastN V) := by
  unfold lastN
  rw [List.getLastD_eq_getLast?, List.getLast?_eq_getElem?]
  have : V.length - 1 < V.length := by have := List.length_pos_iff.2 h; omega
  rw [List.getElem?_eq_getElem this]
  rfl
theorem row_last {w : World} {A : Option Addr} {V : List Nt} (h : Holds w A (IV (nflat V))) (hne : V ≠ []) : ∃ b o, A = some ⟨b, o, none⟩ ∧ w.rangeAt b (o + (V.length - 1) * 4) [.int .i64 (lastN V).1, .int .i64 (lastN V).2.1, .int .i64 (lastN V).2.2.1, .int .i64 (lastN V).2.2.2] := by
  have hp := List.length_pos_iff.2 hne
  obtain ⟨b, o, rfl, _⟩ := h 0 (by simp [IV, nflat_len]; omega)
  refine ⟨b, o, rfl, ?_⟩
  have hl : V.length - 1 < V.length := by omega
  have := nflat_range h rfl hl
  have e := lastN_at hne
  rw [List.getElem?_eq_getElem hl] at e
  injection e with e
  rw [e] at this
  exact this
theorem run_loadM {a : Act} {w : World} (ty : TypeId) (x : Operand) (b o : Nat) (cs : List Value) {d : Option Tmp} {tt : TypeId} {ps : String} {af : Array Edge} {gd : Option (Nat × Bool)} {P : Program} (hx : a.eval x = .pointer (some ⟨b, o, none⟩)) (hr : w.rangeAt b o cs) (hu : rowTy P ty = true) (hi : (P.info? ty).map (·.size) = some cs.length) :
    (execOp a.eval ⟨d, .load ty x, tt, ps, af, gd⟩).run P w = .ok (.value (.agg cs.toArray)) w := by
  unfold execOp
  cases hq : P.underlying ty with
  | none => simp [rowTy, hq] at hu
  | some ds =>
    have hd : ds.isRow = true := by cases ds <;> simp [rowTy, hq, TypeDesc.isRow] at hu ⊢
    simp only [hx, Instr.loadAt, Instr.sureAddr, Sem.run_bind, Sem.run_pure, Result.andThen_ok, run_loadVar_mid w b o ty cs ds hr hq hd hi]
theorem range_ups {w w' : World} {b o : Nat} {cs : List Value} (h : w.rangeAt b o cs) (hb : Below w.heap.size w w') : w'.rangeAt b o cs := fun j v hv => (hb.cell (p := ⟨b, o + j, none⟩) (World.block_lt_of_cell? w _ (h j v hv))).trans (h j v hv)
def BelowOf (W w : World) : Prop := Below W.heap.size W w

set_option maxHeartbeats 1000000 in
set_option maxRecDepth 100000 in
theorem rlast_known (w : World) (r m : Nat) (hm1 : 1 ≤ m) (hm2 : m ≤ 16) (V : List Nt) (A : Option Addr) (c : Nat) (hlr : r < w.heap.size) (hc : w.cell? ⟨r, m, none⟩ = some (.slice A V.length c)) (hV : V.length ≤ 1000) (hne : V ≠ []) (hh : Holds w A (IV (nflat V))) :
    Calls Try.prog 12 #[.pointer (some ⟨r, 0, none⟩), .int .i64 (m : Int)] w fun e w' => e = .returned (ntv (lastN V)) ∧ Below w.heap.size w w' := by
  have hkn : decide (1 ≤ (m : Int) ∧ (m : Int) ≤ 16) = true := by simp; omega
  have h17 : (m : Int) < 17 := by omega
  have hp := List.length_pos_iff.2 hne
  obtain ⟨bq, oq, rfl, hrg⟩ := row_last hh hne
  generalize lastN V = x at *
  obtain ⟨x0, x1, x2, x3⟩ := x
  simp only [ntv]
  simp only at hrg
  obtain ⟨p, hpe⟩ : ∃ p : Nat, V.length = p + 1 := ⟨V.length - 1, by omega⟩
  have WV : IntKind.i64.wrap ((V.length : Int) - 1) = ((V.length - 1 : Nat) : Int) := by rw [IntWalk.i64_in _ (by omega)]; omega
  have hix : ((V.length - 1 : Nat) : Int) < (V.length : Int) := by omega
  clear hpe hh
  have hall := Below.refl w.heap.size w
  go_enter Try.func12, Try.ntmps12
  go_upto_region 0 with (fail)
  refine wp_region_lit ?_
  refine op_alloc 35 zN info28z ?_; intro w1 b4 hge hb k4; replace hall := hall.trans (hb.mono hall.size); have g4 : w.heap.size ≤ b4 := hge; clear hb hge; try simp only [Act.put, List.setIfInBounds_toArray, List.set_cons_zero, List.set_cons_succ]
  go_upto_region 1 with (fail)
  refine wp_region_lit ?_
  refine wl_v ?_ ?_ ?_; rotate_left; (focus (go_simp; (try with_reducible rfl); done)); try simp only [Act.put, List.setIfInBounds_toArray, List.set_cons_zero, List.set_cons_succ]
  refine wl_call _ _ _ (rknown_any (m : Int) _) (by go_simp) ?_; rintro e w9 ⟨rfl, rfl⟩; refine ⟨_, rfl, ?_⟩; rw [hkn]; try simp only [Act.put, List.setIfInBounds_toArray, List.set_cons_zero, List.set_cons_succ]
  refine wl_v ?_ ?_ ?_; rotate_left; (focus (go_simp; (try with_reducible rfl); done)); try simp only [Act.put, List.setIfInBounds_toArray, List.set_cons_zero, List.set_cons_succ]
  go_upto_region 3 with (fail)
  have hS : BelowOf w _ := hall.drew
  refine region_pi (BelowOf w) [(0, true), (1, true), (2, true), (3, true), (4, true), (5, true), (6, true), (7, true), (8, true), (9, true), (10, true), (11, true), (12, true), (13, true), (14, true), (15, true), (16, false)] (by kernel_rfl) (by kernel_rfl) rfl (by kernel_rfl) hS ?_
  skip
  refine pi_f0 ?_ rfl ?_ ?_; rotate_left; (focus (intro w' hS'; go_simp; (try with_reducible rfl); done)); try simp only [Act.put, List.setIfInBounds_toArray, List.set_cons_zero, List.set_cons_succ]
  refine pi_f0 ?_ rfl ?_ ?_; rotate_left; (focus (intro w' hS'; go_simp; (try with_reducible rfl); done)); try simp only [Act.put, List.setIfInBounds_toArray, List.set_cons_zero, List.set_cons_succ]
  refine pi_f0 ?_ rfl ?_ ?_; rotate_left; (focus (intro w' hS'; go_simp; (try with_reducible rfl); done)); try simp only [Act.put, List.setIfInBounds_toArray, List.set_cons_zero, List.set_cons_succ]
  refine pi_f0 ?_ rfl ?_ ?_; rotate_left; (focus (intro w' hS'; go_simp; (try with_reducible rfl); done)); try simp only [Act.put, List.setIfInBounds_toArray, List.set_cons_zero, List.set_cons_succ]
  refine pi_f0 ?_ rfl ?_ ?_; rotate_left; (focus (intro w' hS'; go_simp; (try rw [if_pos h17]); (try rw [if_pos hix]); (try with_reducible rfl); done)); try simp only [Act.put, List.setIfInBounds_toArray, List.set_cons_zero, List.set_cons_succ]
  refine pi_f0 ?_ rfl ?_ ?_; rotate_left; (focus (intro w' hS'; have hc1 := (hS'.cell (p := ⟨r, m, none⟩) hlr).trans hc; go_simp; (try rw [if_pos h17]); (try go_simp); (try with_reducible rfl); done)); try simp only [Act.put, List.setIfInBounds_toArray, List.set_cons_zero, List.set_cons_succ]
  refine pi_f0 ?_ rfl ?_ ?_; rotate_left; (focus (intro w' hS'; go_simp; (try with_reducible rfl); done)); try simp only [Act.put, List.setIfInBounds_toArray, List.set_cons_zero, List.set_cons_succ]
  refine pi_f0 ?_ rfl ?_ ?_; rotate_left; (focus (intro w' hS'; go_simp; (try with_reducible rfl); done)); try simp only [Act.put, List.setIfInBounds_toArray, List.set_cons_zero, List.set_cons_succ]
  refine pi_f0 ?_ rfl ?_ ?_; rotate_left; (focus (intro w' hS'; go_simp; (try with_reducible rfl); done)); try simp only [Act.put, List.setIfInBounds_toArray, List.set_cons_zero, List.set_cons_succ]
  refine pi_f0 ?_ rfl ?_ ?_; rotate_left; (focus (intro w' hS'; go_simp; (try with_reducible rfl); done)); try simp only [Act.put, List.setIfInBounds_toArray, List.set_cons_zero, List.set_cons_succ]
  refine pi_f0 ?_ rfl ?_ ?_; rotate_left; (focus (intro w' hS'; go_simp; (try rw [if_pos h17]); (try rw [if_pos hix]); (try with_reducible rfl); done)); try simp only [Act.put, List.setIfInBounds_toArray, List.set_cons_zero, List.set_cons_succ]
  refine pi_f0 ?_ rfl ?_ ?_; rotate_left; (focus (intro w' hS'; have hc1 := (hS'.cell (p := ⟨r, m, none⟩) hlr).trans hc; go_simp; (try rw [if_pos h17]); (try go_simp); (try with_reducible rfl); done)); try simp only [Act.put, List.setIfInBounds_toArray, List.set_cons_zero, List.set_cons_succ]
  refine pi_f0 ?_ rfl ?_ ?_; rotate_left; (focus (intro w' hS'; go_simp; (try with_reducible rfl); done)); try simp only [Act.put, List.setIfInBounds_toArray, List.set_cons_zero, List.set_cons_succ]
  refine pi_f0 ?_ rfl ?_ ?_; rotate_left; (focus (intro w' hS'; go_simp; (try with_reducible rfl); done)); try simp only [Act.put, List.setIfInBounds_toArray, List.set_cons_zero, List.set_cons_succ]
  refine pi_f0 ?_ rfl ?_ ?_; rotate_left; (focus (intro w' hS'; go_simp; (try rw [if_pos h17]); (try rw [if_pos hix]); (try with_reducible rfl); done)); try simp only [Act.put, List.setIfInBounds_toArray, List.set_cons_zero, List.set_cons_succ]
  refine pi_f0 ?_ rfl ?_ ?_; rotate_left; (focus (intro w' hS'; refine run_loadM 35 _ bq (oq + (V.length - 1) * 4) [.int .i64 x0, .int .i64 x1, .int .i64 x2, .int .i64 x3] ?_ (range_ups hrg hS') ?_ ?_; rfl; kernel_rfl; exact info28s)); try simp only [Act.put, List.setIfInBounds_toArray, List.set_cons_zero, List.set_cons_succ]
  refine pi_a0 rfl (fun K hK => ?_); refine wpo_store 35 (.tmp 4) (.tmp 24) b4 35 #[.int .i64 x0, .int .i64 x1, .int .i64 x2, .int .i64 x3] zN rfl rfl k4 info28s rfl (by simp [Value.oneCell']) fun w5 hb5 ho5 k5 => ?_; replace hS : BelowOf w w5 := Below.trans hS (hb5 _ g4); refine hK _ _ ⟨?_, ?_⟩; exact hS; clear hK; clear K; try simp only [Act.put, List.setIfInBounds_toArray, List.set_cons_zero, List.set_cons_succ]
  refine pi_nil (NoPanic.normal ?_)
  go_wp2_with fail
  exact bodyPost_ret (res_row rfl _ _ b4 35 #[.int .i64 x0, .int .i64 x1, .int .i64 x2, .int .i64 x3] _ rfl k5 Try.underlying35 rfl info28s) rfl ⟨rfl, hS⟩

theorem rlast_at (w : World) (r : Nat) (S : RS) (u : Int) (h : RAt w r S) (hne : ∀ m : Nat, 1 ≤ m → m ≤ 16 → rowN S m ≠ []) :
    Calls Try.prog 12 #[.pointer (some ⟨r, 0, none⟩), .int .i64 u] w fun e w' => e = .returned (ntv (rlastF S u)) ∧ Below w.heap.size w w' := by
  by_cases hu : 1 ≤ u ∧ u ≤ 16
  · obtain ⟨m, rfl⟩ : ∃ m : Nat, u = m := ⟨u.toNat, by omega⟩
    obtain ⟨A, c, hc, hh, hl⟩ := h.row (u := m) (by omega)
    have := rlast_known w r m (by omega) (by omega) (rowN S m) A c (World.block_lt_of_cell? w _ hc) hc hl (hne m (by omega) (by omega)) hh
    have e : rlastF S m = lastN (rowN S m) := by unfold rlastF; rw [if_pos hu]; simp
    rw [e]
    exact this
  · have hkn : decide (1 ≤ u ∧ u ≤ 16) = false := by simpa using hu
    have hr : rlastF S u = (0, 0, 0, 0) := by unfold rlastF; rw [if_neg hu]
    have hall := Below.refl w.heap.size w
    rw [hr]
    clear h hr
    go_enter Try.func12, Try.ntmps12
    go_wp2_with (first
      | ((with_reducible refine op_alloc 35 zN ?_ ?_); exact info28z; intro w2 b4 hge hb k4; have g4 : w.heap.size ≤ b4 := hge; replace hall := hall.trans (hb.mono hall.size); clear hb hge)
      | ((with_reducible refine op_build0 35 _ build35 ?_))
      | ((with_reducible refine op_store 35 (.tmp 4) (.tmp 8) b4 35 #[.int .i64 0, .int .i64 0, .int .i64 0, .int .i64 0] zN ?_ ?_ ?_ ?_ ?_ ?_ ?_); rfl; rfl; exact k4; exact info28s; rfl; (simp [Value.oneCell']); intro w3 hb ho k5; replace hall := hall.trans (hb _ g4); clear hb ho)
      | (go_at_call 27; refine (rknown_any _ _).mono ?_; rintro e w' ⟨rfl, rfl⟩; rw [hkn]))
    exact bodyPost_ret (res_row rfl _ _ b4 35 #[.int .i64 0, .int .i64 0, .int .i64 0, .int .i64 0] _ rfl k5 Try.underlying35 rfl info28s) rfl ⟨rfl, hall⟩

theorem no_next {V : List Nt} {x v : Nt} {k : Nat} (h : ∀ j, j < k → V[j]? ≠ some x) (hk : V[k]? = some v) (hne : v ≠ x) : ∀ j, j < k + 1 → V[j]? ≠ some x := by
  intro j hj
  by_cases e : j = k
  · subst e; rw [hk]; intro e2; injection e2 with e2; exact hne e2
  · exact h j (by omega)
theorem ne_of_dec {a b c d a' b' c' d' : Int} (h : decide (a = a' ∧ b = b' ∧ c = c' ∧ d = d') = false) : ((a, b, c, d) : Nt) ≠ (a', b', c', d') := by
  intro e
  simp only [Prod.mk.injEq] at e
  simp [e] at h
def SRd (W : World) (b3 : Nat) (X : Array Value) (w : World) : Prop := Below W.heap.size W w ∧ Block w b3 35 X
def RH (W : World) (b3 : Nat) (x0 x1 x2 x3 : Int) (V : List Nt) (i : Value) (w : World) : Prop :=
  ∃ k : Nat, k ≤ V.length ∧ i = .int .i64 k ∧ (∀ j, j < k → V[j]? ≠ some (x0, x1, x2, x3)) ∧ Below W.heap.size W w ∧ Block w b3 35 #[.int .i64 x0, .int .i64 x1, .int .i64 x2, .int .i64 x3]
set_option maxHeartbeats 2000000 in
set_option maxRecDepth 100000 in
theorem rhad_known (w : World) (r m : Nat) (hm1 : 1 ≤ m) (hm2 : m ≤ 16) (x1 x2 x3 : Int) (V : List Nt) (A : Option Addr) (c : Nat) (hlr : r < w.heap.size) (hc : w.cell? ⟨r, m, none⟩ = some (.slice A V.length c)) (hV : V.length ≤ 1000) (hh : Holds w A (IV (nflat V))) :
    Calls Try.prog 16 #[.pointer (some ⟨r, 0, none⟩), .agg #[.int .i64 (m : Int), .int .i64 x1, .int .i64 x2, .int .i64 x3]] w fun e w' => e = .returned (.bool (decide (((m : Int), x1, x2, x3) ∈ V))) ∧ Below w.heap.size w w' := by
  have hkn : decide (1 ≤ (m : Int) ∧ (m : Int) ≤ 16) = true := by simp; omega
  have h17 : (m : Int) < 17 := by omega
  have hall := Below.refl w.heap.size w
  have hg28 := g28
  go_enter Try.func16, Try.ntmps16
  go_upto_region 0 with (fail)
  refine wp_region_lit ?_
  refine op_box 35 _ #[.int .i64 (m : Int), .int .i64 x1, .int .i64 x2, .int .i64 x3] rfl ?_; intro w1 b3 hge hb k3; replace hall := hall.trans (hb.mono hall.size); clear hb hge; try simp only [Act.put, List.setIfInBounds_toArray, List.set_cons_zero, List.set_cons_succ]
  refine wl_v ?_ ?_ ?_; rotate_left; (focus (go_simp; (try with_reducible rfl); done)); try simp only [Act.put, List.setIfInBounds_toArray, List.set_cons_zero, List.set_cons_succ]
  go_upto_region 1 with (fail)
  refine wp_region_lit ?_
  refine wl_v ?_ ?_ ?_; rotate_left; (focus (go_simp; (try with_reducible rfl); done)); try simp only [Act.put, List.setIfInBounds_toArray, List.set_cons_zero, List.set_cons_succ]
  refine wl_v (.int .i64 (m : Int)) (by have q0 := k3.cell 0; go_simp) ?_; try simp only [Act.put, List.setIfInBounds_toArray, List.set_cons_zero, List.set_cons_succ]
  refine wl_call _ _ _ (rknown_any (m : Int) _) (by go_simp) ?_; rintro e w9 ⟨rfl, rfl⟩; refine ⟨_, rfl, ?_⟩; rw [hkn]; try simp only [Act.put, List.setIfInBounds_toArray, List.set_cons_zero, List.set_cons_succ]
  refine wl_v ?_ ?_ ?_; rotate_left; (focus (go_simp; (try with_reducible rfl); done)); try simp only [Act.put, List.setIfInBounds_toArray, List.set_cons_zero, List.set_cons_succ]
  go_upto_region 3 with (fail)
  refine wp_region_lit ?_
  refine wl_v ?_ ?_ ?_; rotate_left; (focus (go_simp; (try with_reducible rfl); done)); try simp only [Act.put, List.setIfInBounds_toArray, List.set_cons_zero, List.set_cons_succ]
  go_wp2_with fail
  go_loopw [5] (RH w b3 (m : Int) x1 x2 x3 V) (fun i _ => V.length - (intOf i).toNat)
  case atStart => exact ⟨0, by omega, rfl, fun j hj => by omega, hall, k3⟩
  case round =>
    clear hall k3
    obtain ⟨k, hk, rfl, hno, hall, k3⟩ := hrel
    have HNO := Lib.hid hno
    clear hno
    by_cases hlt : k < V.length
    · skip
      have hix : (k : Int) < (V.length : Int) := by omega
      obtain ⟨bq, oq, rfl, _⟩ := hh 0 (by simp [IV, nflat_len]; omega)
      have hrg := nflat_range hh rfl hlt
      have hyes : V[k]? = some V[k] := List.getElem?_eq_getElem hlt
      generalize V[k] = v at *
      obtain ⟨v0, v1, v2, v3⟩ := v
      simp only at hrg
      have HY := Lib.hid hyes
      clear hyes
      go_upto_region 4 with (fail)
      have hS : SRd w b3 #[.int .i64 (m : Int), .int .i64 x1, .int .i64 x2, .int .i64 x3] _ := ⟨hall.drew, k3⟩
      refine region_pi (SRd w b3 #[.int .i64 (m : Int), .int .i64 x1, .int .i64 x2, .int .i64 x3]) [(0, true), (1, true), (2, true), (3, true), (4, true), (5, true), (6, true), (7, true), (8, true), (9, true)] (by kernel_rfl) (by kernel_rfl) rfl (by kernel_rfl) hS ?_
      skip
      refine pi_f0 ?_ rfl ?_ ?_; rotate_left; (focus (intro w' hS'; go_simp; (try with_reducible rfl); done)); try simp only [Act.put, List.setIfInBounds_toArray, List.set_cons_zero, List.set_cons_succ]
      refine pi_f0 ?_ rfl ?_ ?_; rotate_left; (focus (intro w' hS'; go_simp; (try with_reducible rfl); done)); try simp only [Act.put, List.setIfInBounds_toArray, List.set_cons_zero, List.set_cons_succ]
      refine pi_f0 ?_ rfl ?_ ?_; rotate_left; (focus (intro w' hS'; go_simp; (try with_reducible rfl); done)); try simp only [Act.put, List.setIfInBounds_toArray, List.set_cons_zero, List.set_cons_succ]
      refine pi_f0 ?_ rfl ?_ ?_; rotate_left; (focus (intro w' hS'; have q0 := hS'.2.cell 0; go_simp; (try with_reducible rfl); done)); try simp only [Act.put, List.setIfInBounds_toArray, List.set_cons_zero, List.set_cons_succ]
      refine pi_f0 ?_ rfl ?_ ?_; rotate_left; (focus (intro w' hS'; go_simp; (try with_reducible rfl); done)); try simp only [Act.put, List.setIfInBounds_toArray, List.set_cons_zero, List.set_cons_succ]
      refine pi_f0 ?_ rfl ?_ ?_; rotate_left; (focus (intro w' hS'; go_simp; (try with_reducible rfl); done)); try simp only [Act.put, List.setIfInBounds_toArray, List.set_cons_zero, List.set_cons_succ]
      refine pi_f0 ?_ rfl ?_ ?_; rotate_left; (focus (intro w' hS'; go_simp; (try rw [if_pos h17]); (try rw [if_pos hix]); (try with_reducible rfl); done)); try simp only [Act.put, List.setIfInBounds_toArray, List.set_cons_zero, List.set_cons_succ]
      refine pi_f0 ?_ rfl ?_ ?_; rotate_left; (focus (intro w' hS'; have hc1 := (hS'.1.cell (p := ⟨r, m, none⟩) hlr).trans hc; go_simp; (try with_reducible rfl); done)); try simp only [Act.put, List.setIfInBounds_toArray, List.set_cons_zero, List.set_cons_succ]
      refine pi_f0 ?_ rfl ?_ ?_; rotate_left; (focus (intro w' hS'; go_simp; (try with_reducible rfl); done)); try simp only [Act.put, List.setIfInBounds_toArray, List.set_cons_zero, List.set_cons_succ]
      refine pi_f0 (.bool true) rfl (by intro w' hS'; go_simp <;> omega) ?_; try simp only [Act.put, List.setIfInBounds_toArray, List.set_cons_zero, List.set_cons_succ]
      refine pi_nil (NoPanic.normal ?_)
      replace hall := hS.1
      replace k3 := hS.2
      clear hS
      obtain ⟨z, hz⟩ : ∃ z, decide (v0 = (m : Int) ∧ v1 = x1 ∧ v2 = x2 ∧ v3 = x3) = z := ⟨_, rfl⟩
      have heq : ∀ w, (Op.equalIn 10000 35 (.agg #[.int .i64 v0, .int .i64 v1, .int .i64 v2, .int .i64 v3]) (.agg #[.int .i64 (m : Int), .int .i64 x1, .int .i64 x2, .int .i64 x3])).run Try.prog w = .ok z w := fun w => by rw [eqN, hz]
      have HZ := Lib.hid hz
      clear hz
      cases z
      · skip
        go_upto_region 6 with (fail)
        have hS : SRd w b3 #[.int .i64 (m : Int), .int .i64 x1, .int .i64 x2, .int .i64 x3] _ := ⟨hall.drew, k3⟩
        refine region_pi (SRd w b3 #[.int .i64 (m : Int), .int .i64 x1, .int .i64 x2, .int .i64 x3]) [(0, true), (1, true), (2, true), (3, true), (4, true), (5, true), (6, true), (7, true), (8, true), (9, true), (10, true), (11, true)] (by kernel_rfl) (by kernel_rfl) rfl (by kernel_rfl) hS ?_
        skip
        refine pi_f0 ?_ rfl ?_ ?_; rotate_left; (focus (intro w' hS'; go_simp; (try with_reducible rfl); done)); try simp only [Act.put, List.setIfInBounds_toArray, List.set_cons_zero, List.set_cons_succ]
        refine pi_f0 ?_ rfl ?_ ?_; rotate_left; (focus (intro w' hS'; go_simp; (try with_reducible rfl); done)); try simp only [Act.put, List.setIfInBounds_toArray, List.set_cons_zero, List.set_cons_succ]
        refine pi_f0 ?_ rfl ?_ ?_; rotate_left; (focus (intro w' hS'; have q0 := hS'.2.cell 0; go_simp; (try with_reducible rfl); done)); try simp only [Act.put, List.setIfInBounds_toArray, List.set_cons_zero, List.set_cons_succ]
        refine pi_f0 ?_ rfl ?_ ?_; rotate_left; (focus (intro w' hS'; go_simp; (try with_reducible rfl); done)); try simp only [Act.put, List.setIfInBounds_toArray, List.set_cons_zero, List.set_cons_succ]
        refine pi_f0 ?_ rfl ?_ ?_; rotate_left; (focus (intro w' hS'; go_simp; (try with_reducible rfl); done)); try simp only [Act.put, List.setIfInBounds_toArray, List.set_cons_zero, List.set_cons_succ]
        refine pi_f0 ?_ rfl ?_ ?_; rotate_left; (focus (intro w' hS'; go_simp; (try rw [if_pos h17]); (try rw [if_pos hix]); (try with_reducible rfl); done)); try simp only [Act.put, List.setIfInBounds_toArray, List.set_cons_zero, List.set_cons_succ]
        refine pi_f0 ?_ rfl ?_ ?_; rotate_left; (focus (intro w' hS'; have hc1 := (hS'.1.cell (p := ⟨r, m, none⟩) hlr).trans hc; go_simp; (try with_reducible rfl); done)); try simp only [Act.put, List.setIfInBounds_toArray, List.set_cons_zero, List.set_cons_succ]
        refine pi_f0 ?_ rfl ?_ ?_; rotate_left; (focus (intro w' hS'; go_simp; (try with_reducible rfl); done)); try simp only [Act.put, List.setIfInBounds_toArray, List.set_cons_zero, List.set_cons_succ]
        refine pi_f0 ?_ rfl ?_ ?_; rotate_left; (focus (intro w' hS'; go_simp; (try rw [if_pos h17]); (try rw [if_pos hix]); (try with_reducible rfl); done)); try simp only [Act.put, List.setIfInBounds_toArray, List.set_cons_zero, List.set_cons_succ]
        refine pi_f0 ?_ rfl ?_ ?_; rotate_left; (focus (intro w' hS'; refine run_loadM 35 _ bq (oq + k * 4) [.int .i64 v0, .int .i64 v1, .int .i64 v2, .int .i64 v3] ?_ (range_ups hrg hS'.1) ?_ ?_; rfl; kernel_rfl; exact info28s)); try simp only [Act.put, List.setIfInBounds_toArray, List.set_cons_zero, List.set_cons_succ]
        refine pi_f0 ?_ rfl ?_ ?_; rotate_left; (focus (intro w' hS'; refine run_load_row b3 35 #[.int .i64 (m : Int), .int .i64 x1, .int .i64 x2, .int .i64 x3] _ ?_ hS'.2 Try.underlying35 ?_ info28s <;> rfl)); try simp only [Act.put, List.setIfInBounds_toArray, List.set_cons_zero, List.set_cons_succ]
        refine pi_f0 ?_ rfl ?_ ?_; rotate_left; (focus (intro w' hS'; go_simp; (try with_reducible rfl); done)); try simp only [Act.put, List.setIfInBounds_toArray, List.set_cons_zero, List.set_cons_succ]
        refine pi_nil (NoPanic.normal ?_)
        replace hall := hS.1
        replace k3 := hS.2
        clear hS
        go_upto_region 5 with (fail)
        refine wp_region_lit ?_
        refine wl_v ?_ ?_ ?_; rotate_left; (focus (go_simp; (try with_reducible rfl); done)); try simp only [Act.put, List.setIfInBounds_toArray, List.set_cons_zero, List.set_cons_succ]
        refine wl_v (.int .i64 ((k : Int) + 1)) (by go_simp <;> exact IntWalk.i64_in _ (by omega)) ?_; try simp only [Act.put, List.setIfInBounds_toArray, List.set_cons_zero, List.set_cons_succ]
        refine wl_v ?_ ?_ ?_; rotate_left; (focus (go_simp; (try with_reducible rfl); done)); try simp only [Act.put, List.setIfInBounds_toArray, List.set_cons_zero, List.set_cons_succ]
        go_wp2_with fail
        refine ⟨?_, ?_⟩
        · first
          | (exact ⟨k + 1, by omega, by go_num, no_next HNO.out HY.out (ne_of_dec HZ.out), hall, k3⟩)
          | ((repeat apply Exists.intro); refine ⟨?_, ?_⟩; rotate_left; (focus (first | exact rfl | (repeat (first | exact rfl | refine ⟨rfl, ?_⟩)))); (exact ⟨k + 1, by omega, by go_num, no_next HNO.out HY.out (ne_of_dec HZ.out), hall, k3⟩))
        · simp [intOf]; omega
      · skip
        go_upto_region 6 with (fail)
        have hS : SRd w b3 #[.int .i64 (m : Int), .int .i64 x1, .int .i64 x2, .int .i64 x3] _ := ⟨hall.drew, k3⟩
        refine region_pi (SRd w b3 #[.int .i64 (m : Int), .int .i64 x1, .int .i64 x2, .int .i64 x3]) [(0, true), (1, true), (2, true), (3, true), (4, true), (5, true), (6, true), (7, true), (8, true), (9, true), (10, true), (11, true)] (by kernel_rfl) (by kernel_rfl) rfl (by kernel_rfl) hS ?_
        skip
        refine pi_f0 ?_ rfl ?_ ?_; rotate_left; (focus (intro w' hS'; go_simp; (try with_reducible rfl); done)); try simp only [Act.put, List.setIfInBounds_toArray, List.set_cons_zero, List.set_cons_succ]
        refine pi_f0 ?_ rfl ?_ ?_; rotate_left; (focus (intro w' hS'; go_simp; (try with_reducible rfl); done)); try simp only [Act.put, List.setIfInBounds_toArray, List.set_cons_zero, List.set_cons_succ]
        refine pi_f0 ?_ rfl ?_ ?_; rotate_left; (focus (intro w' hS'; have q0 := hS'.2.cell 0; go_simp; (try with_reducible rfl); done)); try simp only [Act.put, List.setIfInBounds_toArray, List.set_cons_zero, List.set_cons_succ]
        refine pi_f0 ?_ rfl ?_ ?_; rotate_left; (focus (intro w' hS'; go_simp; (try with_reducible rfl); done)); try simp only [Act.put, List.setIfInBounds_toArray, List.set_cons_zero, List.set_cons_succ]
        refine pi_f0 ?_ rfl ?_ ?_; rotate_left; (focus (intro w' hS'; go_simp; (try with_reducible rfl); done)); try simp only [Act.put, List.setIfInBounds_toArray, List.set_cons_zero, List.set_cons_succ]
        refine pi_f0 ?_ rfl ?_ ?_; rotate_left; (focus (intro w' hS'; go_simp; (try rw [if_pos h17]); (try rw [if_pos hix]); (try with_reducible rfl); done)); try simp only [Act.put, List.setIfInBounds_toArray, List.set_cons_zero, List.set_cons_succ]
        refine pi_f0 ?_ rfl ?_ ?_; rotate_left; (focus (intro w' hS'; have hc1 := (hS'.1.cell (p := ⟨r, m, none⟩) hlr).trans hc; go_simp; (try with_reducible rfl); done)); try simp only [Act.put, List.setIfInBounds_toArray, List.set_cons_zero, List.set_cons_succ]
        refine pi_f0 ?_ rfl ?_ ?_; rotate_left; (focus (intro w' hS'; go_simp; (try with_reducible rfl); done)); try simp only [Act.put, List.setIfInBounds_toArray, List.set_cons_zero, List.set_cons_succ]
        refine pi_f0 ?_ rfl ?_ ?_; rotate_left; (focus (intro w' hS'; go_simp; (try rw [if_pos h17]); (try rw [if_pos hix]); (try with_reducible rfl); done)); try simp only [Act.put, List.setIfInBounds_toArray, List.set_cons_zero, List.set_cons_succ]
        refine pi_f0 ?_ rfl ?_ ?_; rotate_left; (focus (intro w' hS'; refine run_loadM 35 _ bq (oq + k * 4) [.int .i64 v0, .int .i64 v1, .int .i64 v2, .int .i64 v3] ?_ (range_ups hrg hS'.1) ?_ ?_; rfl; kernel_rfl; exact info28s)); try simp only [Act.put, List.setIfInBounds_toArray, List.set_cons_zero, List.set_cons_succ]
        refine pi_f0 ?_ rfl ?_ ?_; rotate_left; (focus (intro w' hS'; refine run_load_row b3 35 #[.int .i64 (m : Int), .int .i64 x1, .int .i64 x2, .int .i64 x3] _ ?_ hS'.2 Try.underlying35 ?_ info28s <;> rfl)); try simp only [Act.put, List.setIfInBounds_toArray, List.set_cons_zero, List.set_cons_succ]
        refine pi_f0 ?_ rfl ?_ ?_; rotate_left; (focus (intro w' hS'; go_simp; (try with_reducible rfl); done)); try simp only [Act.put, List.setIfInBounds_toArray, List.set_cons_zero, List.set_cons_succ]
        refine pi_nil (NoPanic.normal ?_)
        replace hall := hS.1
        replace k3 := hS.2
        clear hS
        go_upto_region 7 with (fail)
        refine wp_region_lit ?_
        refine wl_v ?_ ?_ ?_; rotate_left; (focus (go_simp; (try with_reducible rfl); done)); try simp only [Act.put, List.setIfInBounds_toArray, List.set_cons_zero, List.set_cons_succ]
        go_wp2_with fail
        go_ret
        have e := HZ.out
        simp only [decide_eq_true_eq] at e
        obtain ⟨rfl, rfl, rfl, rfl⟩ := e
        exact ⟨by rw [decide_eq_true (List.mem_of_getElem? HY.out)]; rfl, hall⟩
    · obtain rfl : k = V.length := by omega
      go_upto_region 4 with (fail)
      have hS : SRd w b3 #[.int .i64 (m : Int), .int .i64 x1, .int .i64 x2, .int .i64 x3] _ := ⟨hall.drew, k3⟩
      refine region_pi (SRd w b3 #[.int .i64 (m : Int), .int .i64 x1, .int .i64 x2, .int .i64 x3]) [(0, true), (1, true), (2, true), (3, true), (4, true), (5, true), (6, true), (7, true), (8, true), (9, true)] (by kernel_rfl) (by kernel_rfl) rfl (by kernel_rfl) hS ?_
      skip
      refine pi_f0 ?_ rfl ?_ ?_; rotate_left; (focus (intro w' hS'; go_simp; (try with_reducible rfl); done)); try simp only [Act.put, List.setIfInBounds_toArray, List.set_cons_zero, List.set_cons_succ]
      refine pi_f0 ?_ rfl ?_ ?_; rotate_left; (focus (intro w' hS'; go_simp; (try with_reducible rfl); done)); try simp only [Act.put, List.setIfInBounds_toArray, List.set_cons_zero, List.set_cons_succ]
      refine pi_f0 ?_ rfl ?_ ?_; rotate_left; (focus (intro w' hS'; go_simp; (try with_reducible rfl); done)); try simp only [Act.put, List.setIfInBounds_toArray, List.set_cons_zero, List.set_cons_succ]
      refine pi_f0 ?_ rfl ?_ ?_; rotate_left; (focus (intro w' hS'; have q0 := hS'.2.cell 0; go_simp; (try with_reducible rfl); done)); try simp only [Act.put, List.setIfInBounds_toArray, List.set_cons_zero, List.set_cons_succ]
      refine pi_f0 ?_ rfl ?_ ?_; rotate_left; (focus (intro w' hS'; go_simp; (try with_reducible rfl); done)); try simp only [Act.put, List.setIfInBounds_toArray, List.set_cons_zero, List.set_cons_succ]
      refine pi_f0 ?_ rfl ?_ ?_; rotate_left; (focus (intro w' hS'; go_simp; (try with_reducible rfl); done)); try simp only [Act.put, List.setIfInBounds_toArray, List.set_cons_zero, List.set_cons_succ]
      refine pi_f0 ?_ rfl ?_ ?_; rotate_left; (focus (intro w' hS'; go_simp; (try rw [if_pos h17]); (try rw [if_pos hix]); (try with_reducible rfl); done)); try simp only [Act.put, List.setIfInBounds_toArray, List.set_cons_zero, List.set_cons_succ]
      refine pi_f0 ?_ rfl ?_ ?_; rotate_left; (focus (intro w' hS'; have hc1 := (hS'.1.cell (p := ⟨r, m, none⟩) hlr).trans hc; go_simp; (try with_reducible rfl); done)); try simp only [Act.put, List.setIfInBounds_toArray, List.set_cons_zero, List.set_cons_succ]
      refine pi_f0 ?_ rfl ?_ ?_; rotate_left; (focus (intro w' hS'; go_simp; (try with_reducible rfl); done)); try simp only [Act.put, List.setIfInBounds_toArray, List.set_cons_zero, List.set_cons_succ]
      refine pi_f0 (.bool false) rfl (by intro w' hS'; go_simp <;> omega) ?_; try simp only [Act.put, List.setIfInBounds_toArray, List.set_cons_zero, List.set_cons_succ]
      refine pi_nil (NoPanic.normal ?_)
      replace hall := hS.1
      clear hS
      go_upto_region 8 with (fail)
      refine wp_region_lit ?_
      refine wl_v ?_ ?_ ?_; rotate_left; (focus (go_simp; (try with_reducible rfl); done)); try simp only [Act.put, List.setIfInBounds_toArray, List.set_cons_zero, List.set_cons_succ]
      go_wp2_with fail
      go_ret
      refine ⟨?_, hall⟩
      have : ¬ ((m : Int), x1, x2, x3) ∈ V := by
        intro hx
        obtain ⟨j, hj, e⟩ := List.getElem_of_mem hx
        exact HNO.out j hj (by rw [List.getElem?_eq_getElem hj, e])
      rw [decide_eq_false this]; rfl

end Go.Proofs.Ytbpepkpjjfhmpaa