/- The ghost's own block; see, Had, Last, Many, Wrong. -/
import Derived.Test.YtbpepkpjjfhmpaaS
import Derived.Test.YtbpepkpjjfhmpaaPf
import Derived.StillTailTactics
namespace Go.Proofs.Ytbpepkpjjfhmpaa
open Go.RowKit Go.Maps
set_option linter.unusedVariables false
set_option linter.unusedSimpArgs false
set_option linter.unusedSectionVars false

def gC (bm : Nat) (last many : List Int) (wrong : Bool) : Array Value := (Value.map (some bm) :: (last.map (Value.int .i64) ++ (many.map (Value.int .i64) ++ [Value.bool wrong]))).toArray
section
variable {bm : Nat} {last many : List Int} {wrong : Bool} (hl : last.length = 68) (hm : many.length = 17)
include hl hm
theorem gC_size : (gC bm last many wrong).size = 87 := by simp [gC, hl, hm]
theorem gC_map : (gC bm last many wrong)[0]? = some (.map (some bm)) := by simp [gC]
theorem gC_last {j : Nat} (h : j < 68) : (gC bm last many wrong)[1 + j]? = some (.int .i64 (ci last j)) := by
  simp only [gC, List.getElem?_toArray]
  rw [Nat.add_comm, List.getElem?_cons_succ, List.getElem?_append_left (by simpa [hl] using h), List.getElem?_map, List.getElem?_eq_getElem (by omega)]
  simp [ci, hl, h]
theorem gC_many {j : Nat} (h : j < 17) : (gC bm last many wrong)[69 + j]? = some (.int .i64 (ci many j)) := by
  simp only [gC, List.getElem?_toArray]
  rw [show 69 + j = 68 + j + 1 by omega, List.getElem?_cons_succ, List.getElem?_append_right (by simp [hl]), List.length_map, hl, show 68 + j - 68 = j by omega, List.getElem?_append_left (by simpa [hm] using h), List.getElem?_map, List.getElem?_eq_getElem (by omega)]
  simp [ci, hm, h]
theorem gC_wrong : (gC bm last many wrong)[86]? = some (.bool wrong) := by
  simp only [gC, List.getElem?_toArray]
  rw [show 86 = 85 + 1 by omega, List.getElem?_cons_succ, List.getElem?_append_right (by simp [hl]), List.length_map, hl, List.getElem?_append_right (by simp [hm]), List.length_map, hm]
  rfl
theorem gC_setLast {j : Nat} (h : j < 68) (x : Int) : (gC bm last many wrong).setIfInBounds (1 + j) (.int .i64 x) = gC bm (last.set j x) many wrong := by
  simp only [gC, List.setIfInBounds_toArray]
  rw [Nat.add_comm, List.set_cons_succ, List.set_append_left _ _ (by simpa [hl] using h), List.map_set]
theorem gC_setMany {j : Nat} (h : j < 17) (x : Int) : (gC bm last many wrong).setIfInBounds (69 + j) (.int .i64 x) = gC bm last (many.set j x) wrong := by
  simp only [gC, List.setIfInBounds_toArray]
  rw [show 69 + j = 68 + j + 1 by omega, List.set_cons_succ, List.set_append_right _ _ (by simp [hl]), List.length_map, hl, show 68 + j - 68 = j by omega, List.set_append_left _ _ (by simpa [hm] using h), List.map_set]
theorem gC_setWrong (b : Bool) : (gC bm last many wrong).setIfInBounds 86 (.bool b) = gC bm last many b := by
  simp only [gC, List.setIfInBounds_toArray]
  rw [show 86 = 85 + 1 by omega, List.set_cons_succ, List.set_append_right _ _ (by simp [hl]), List.length_map, hl, List.set_append_right _ _ (by simp [hm]), List.length_map, hm]
  rfl
end
theorem gC_set4 {bm : Nat} {last many : List Int} {wrong : Bool} (hl : last.length = 68) (hm : many.length = 17) {u : Nat} (hu : u ≤ 16) (x : Nt) :
    setL (gC bm last many wrong) (1 + u * 4) [.int .i64 x.1, .int .i64 x.2.1, .int .i64 x.2.2.1, .int .i64 x.2.2.2] = gC bm ((((last.set (u*4) x.1).set (u*4+1) x.2.1).set (u*4+2) x.2.2.1).set (u*4+3) x.2.2.2) many wrong := by
  simp only [setL]
  rw [gC_setLast hl hm (by omega), show 1 + u*4 + 1 = 1 + (u*4+1) by omega, gC_setLast (by simpa using hl) hm (by omega), show 1 + (u*4+1) + 1 = 1 + (u*4+2) by omega, gC_setLast (by simpa using hl) hm (by omega), show 1 + (u*4+2) + 1 = 1 + (u*4+3) by omega, gC_setLast (by simpa using hl) hm (by omega)]

section
variable {ops : Array Oper} {rest : List Oper} {d : Option Tmp} {tt : TypeId} {ps : String} {af : Array Edge} {a : Act} {w : World} {Q : Exit → Act → World → Prop}
/-- a note is remembered -/
theorem op_mapset (m k v : Operand) (bm n : Nat) (had : List Nt) (x : Nt) (hm : a.eval m = .map (some bm)) (hk : a.eval k = ntv x) (hv : a.eval v = .bool true)
    (hs : Seen w bm n had) (hn : n < maxLen) (hx : NWF x)
    (h : ∀ w', Seen w' bm (n + 1) (x :: had) → w.grownBy w' (some bm) → wpList Try.prog ops Q rest (a.put d undef) w') :
    wpList Try.prog ops Q (⟨d, .mapUpdate 49 m k v, tt, ps, af, none⟩ :: rest) a w :=
  wpList_plain rfl fun _ hK => by
    obtain ⟨w', hrun, h1, h2⟩ := hs.put hn x hx
    unfold Oper.wp execOp
    simp only [hm, hk, hv, hrun, Sem.run_bind, Sem.run_pure, Result.andThen_ok]
    exact hK _ _ (h w' h1 h2)
end

/-- only the blocks g and bm are written, of those that there were -/
structure But (g bm : Nat) (w w' : World) : Prop where
  os : w'.os = w.os
  tape : w'.tape = w.tape
  output : w'.output = w.output
  size : w.heap.size ≤ w'.heap.size
  block : ∀ k, k < w.heap.size → k ≠ g → k ≠ bm → w'.heap[k]? = w.heap[k]?
theorem But.refl (g bm : Nat) (w : World) : But g bm w w := ⟨rfl, rfl, rfl, Nat.le_refl _, fun _ _ _ _ => rfl⟩
theorem But.trans {g bm : Nat} {a b c : World} (h : But g bm a b) (k : But g bm b c) : But g bm a c :=
  ⟨k.os.trans h.os, k.tape.trans h.tape, k.output.trans h.output, Nat.le_trans h.size k.size, fun i hi h1 h2 => (k.block i (Nat.lt_of_lt_of_le hi h.size) h1 h2).trans (h.block i hi h1 h2)⟩
theorem But.of_below {g bm : Nat} {w w' : World} (h : Below w.heap.size w w') : But g bm w w' := ⟨h.os, h.tape, h.output, h.size, fun k hk _ _ => h.block k hk⟩
theorem But.of_grown {g bm : Nat} {w w' : World} (h : w.grownBy w' (some bm)) : But g bm w w' := ⟨h.os, h.tape, h.output, h.size, fun k hk _ h2 => h.block k hk (by simpa using h2)⟩
theorem But.below {g bm B : Nat} {w w' : World} (h : But g bm w w') (hB : B ≤ w.heap.size) (h1 : B ≤ g) (h2 : B ≤ bm) : Below B w w' := ⟨h.os, h.tape, h.output, h.size, fun k hk => h.block k (by omega) (by omega) (by omega)⟩

/-- the ghost at g, its map at bm -/
def GAt (w : World) (g bm n : Nat) (last many : List Int) (wrong : Bool) (had : List Nt) : Prop :=
  Block w g 53 (gC bm last many wrong) ∧ Seen w bm n had ∧ g ≠ bm ∧ last.length = 68 ∧ many.length = 17
theorem GAt.ups {w w' : World} {g bm n : Nat} {last many : List Int} {wrong : Bool} {had : List Nt} (h : GAt w g bm n last many wrong had) (hb : Below w.heap.size w w') : GAt w' g bm n last many wrong had :=
  ⟨h.1.ups hb, h.2.1.ups hb, h.2.2⟩

def SH (W : World) (g : Nat) (G : Array Value) (b3 : Nat) (X : Array Value) (bm n : Nat) (had : List Nt) (w' : World) : Prop :=
  Below W.heap.size W w' ∧ Block w' g 53 G ∧ Block w' b3 35 X ∧ Seen w' bm n had

set_option maxHeartbeats 1000000 in
set_option maxRecDepth 100000 in
theorem had_at (w : World) (g bm n : Nat) (last many : List Int) (wrong : Bool) (had : List Nt) (x : Nt) (hx : NWF x) (h : GAt w g bm n last many wrong had) :
    Calls Try.prog 15 #[.pointer (some ⟨g, 0, none⟩), ntv x] w fun e w' => e = .returned (.bool (decide (x ∈ had))) ∧ Below w.heap.size w w' := by
  have hall := Below.refl w.heap.size w
  go_enter Try.func15, Try.ntmps15
  go_wp2_with (first
    | ((with_reducible refine op_box 35 (.tmp 1) #[.int .i64 x.1, .int .i64 x.2.1, .int .i64 x.2.2.1, .int .i64 x.2.2.2] ?_ ?_); rfl; intro w1 b3 hge hb k3; replace hall := hall.trans (hb.mono hall.size); replace h := h.ups hb; clear hb hge))
  have hmap := gC_map (bm := bm) (wrong := wrong) h.2.2.2.1 h.2.2.2.2
  have hS : SH w g (gC bm last many wrong) b3 #[.int .i64 x.1, .int .i64 x.2.1, .int .i64 x.2.2.1, .int .i64 x.2.2.2] bm n had w1.drew := ⟨hall.drew, h.1, k3, h.2.1⟩
  refine region_pi (SH w g (gC bm last many wrong) b3 #[.int .i64 x.1, .int .i64 x.2.1, .int .i64 x.2.2.1, .int .i64 x.2.2.2] bm n had) [(0, true), (1, true), (2, true), (3, true), (4, true), (5, true), (6, true)] (by kernel_rfl) (by kernel_rfl) rfl (by kernel_rfl) hS ?_
  clear k3 h hall
  refine pi_f0 ?_ rfl ?_ ?_; rotate_left; (focus (intro w' hS'; have q0 := (hS'.2.1.cell 0).trans hmap; go_simp; (try with_reducible rfl); done)); try simp only [Act.put, List.setIfInBounds_toArray, List.set_cons_zero, List.set_cons_succ]
  refine pi_f0 ?_ rfl ?_ ?_; rotate_left; (focus (intro w' hS'; have q0 := (hS'.2.1.cell 0).trans hmap; go_simp; (try with_reducible rfl); done)); try simp only [Act.put, List.setIfInBounds_toArray, List.set_cons_zero, List.set_cons_succ]
  refine pi_f0 ?_ rfl ?_ ?_; rotate_left; (focus (intro w' hS'; have q0 := (hS'.2.1.cell 0).trans hmap; go_simp; (try with_reducible rfl); done)); try simp only [Act.put, List.setIfInBounds_toArray, List.set_cons_zero, List.set_cons_succ]
  refine pi_f0 ?_ rfl ?_ ?_; rotate_left; (focus (intro w' hS'; have q0 := (hS'.2.1.cell 0).trans hmap; go_simp; (try with_reducible rfl); done)); try simp only [Act.put, List.setIfInBounds_toArray, List.set_cons_zero, List.set_cons_succ]
  refine pi_f0 ?_ rfl ?_ ?_; rotate_left; (focus (intro w' h; refine run_load_row b3 35 #[.int .i64 x.1, .int .i64 x.2.1, .int .i64 x.2.2.1, .int .i64 x.2.2.2] _ ?_ h.2.2.1 Try.underlying35 ?_ info28s <;> rfl)); try simp only [Act.put, List.setIfInBounds_toArray, List.set_cons_zero, List.set_cons_succ]
  refine pi_f0 ?_ rfl ?_ ?_; rotate_left; (focus (intro w' hS'; have q := hS'.2.2.2.look x hx; unfold ntv at q; go_simp; (try with_reducible rfl); done)); try simp only [Act.put, List.setIfInBounds_toArray, List.set_cons_zero, List.set_cons_succ]
  refine pi_f0 ?_ rfl ?_ ?_; rotate_left; (focus (intro w' hS'; have q0 := (hS'.2.1.cell 0).trans hmap; go_simp; (try with_reducible rfl); done)); try simp only [Act.put, List.setIfInBounds_toArray, List.set_cons_zero, List.set_cons_succ]
  refine pi_nil (NoPanic.normal ?_)
  go_wp2
  go_ret
  exact ⟨rfl, hS.1⟩

theorem gknown_any (u : Int) (w : World) : Calls Try.prog 26 #[.int .i64 u] w fun e w' => e = .returned (.bool (decide (1 ≤ u ∧ u ≤ 16))) ∧ w = w' := by
  by_cases h1 : 1 ≤ u
  · by_cases h2 : u ≤ 16
    · go_enter Try.func26, Try.ntmps26
      go_wp2
      go_ret
      exact ⟨by simp; omega, rfl⟩
    · go_enter Try.func26, Try.ntmps26
      go_wp2
      go_ret
      exact ⟨by simp; omega, rfl⟩
  · go_enter Try.func26, Try.ntmps26
    go_wp2
    go_ret
    exact ⟨by simp; omega, rfl⟩

theorem wrong_at (w : World) (g bm n : Nat) (last many : List Int) (wrong : Bool) (had : List Nt) (h : GAt w g bm n last many wrong had) :
    Calls Try.prog 19 #[.pointer (some ⟨g, 0, none⟩)] w fun e w' => e = .returned (.bool wrong) ∧ w = w' := by
  have c86 := (h.1.cell 86).trans (gC_wrong h.2.2.2.1 h.2.2.2.2)
  clear h
  go_enter Try.func19, Try.ntmps19
  go_wp2
  go_ret
  exact ⟨rfl, rfl⟩

def manyF (many : List Int) (u : Int) : Int := if 1 ≤ u ∧ u ≤ 16 then ci many u.toNat else 0
theorem many_at (w : World) (g bm n : Nat) (last many : List Int) (wrong : Bool) (had : List Nt) (u : Int) (h : GAt w g bm n last many wrong had) :
    Calls Try.prog 13 #[.pointer (some ⟨g, 0, none⟩), .int .i64 u] w fun e w' => e = .returned (.int .i64 (manyF many u)) ∧ w = w' := by
  by_cases hu : 1 ≤ u ∧ u ≤ 16
  · obtain ⟨m, rfl⟩ : ∃ m : Nat, u = m := ⟨u.toNat, by omega⟩
    have hkn : decide (1 ≤ (m : Int) ∧ (m : Int) ≤ 16) = true := by simpa using hu
    have cm := (h.1.cell (69 + m)).trans (gC_many (j := m) h.2.2.2.1 h.2.2.2.2 (by omega))
    clear h
    go_enter Try.func13, Try.ntmps13
    go_wp2_with (first
      | (go_at_call 26; refine (gknown_any _ _).mono ?_; rintro e w' ⟨rfl, rfl⟩; rw [hkn]))
    go_ret
    exact ⟨by simp [manyF, hu], rfl⟩
  · have hkn : decide (1 ≤ u ∧ u ≤ 16) = false := by simpa using hu
    clear h
    go_enter Try.func13, Try.ntmps13
    go_wp2_with (first
      | (go_at_call 26; refine (gknown_any _ _).mono ?_; rintro e w' ⟨rfl, rfl⟩; rw [hkn]))
    go_ret
    exact ⟨by simp [manyF, hu], rfl⟩

def lastF (last : List Int) (u : Int) : Nt := if 1 ≤ u ∧ u ≤ 16 then (ci last (u.toNat*4), ci last (u.toNat*4+1), ci last (u.toNat*4+2), ci last (u.toNat*4+3)) else (0, 0, 0, 0)
theorem build35 (w : World) : (Instr.build 35 #[]).run Try.prog w = .ok (.agg #[.int .i64 0, .int .i64 0, .int .i64 0, .int .i64 0]) w := by kernel_rfl
set_option maxHeartbeats 1000000 in
theorem last_at (w : World) (g bm n : Nat) (last many : List Int) (wrong : Bool) (had : List Nt) (u : Int) (h : GAt w g bm n last many wrong had) :
    Calls Try.prog 11 #[.pointer (some ⟨g, 0, none⟩), .int .i64 u] w fun e w' => e = .returned (ntv (lastF last u)) ∧ Below w.heap.size w w' := by
  have hall := Below.refl w.heap.size w
  by_cases hu : 1 ≤ u ∧ u ≤ 16
  · obtain ⟨m, rfl⟩ : ∃ m : Nat, u = m := ⟨u.toNat, by omega⟩
    have hkn : decide (1 ≤ (m : Int) ∧ (m : Int) ≤ 16) = true := by simpa using hu
    have q0 := gC_last (bm := bm) (wrong := wrong) (j := m*4) h.2.2.2.1 h.2.2.2.2 (by omega)
    have q1 := gC_last (bm := bm) (wrong := wrong) (j := m*4+1) h.2.2.2.1 h.2.2.2.2 (by omega)
    have q2 := gC_last (bm := bm) (wrong := wrong) (j := m*4+2) h.2.2.2.1 h.2.2.2.2 (by omega)
    have q3 := gC_last (bm := bm) (wrong := wrong) (j := m*4+3) h.2.2.2.1 h.2.2.2.2 (by omega)
    have hr : lastF last m = (ci last (m*4), ci last (m*4+1), ci last (m*4+2), ci last (m*4+3)) := by unfold lastF; rw [if_pos hu]; simp
    generalize ci last (m*4) = a0 at *
    generalize ci last (m*4+1) = a1 at *
    generalize ci last (m*4+2) = a2 at *
    generalize ci last (m*4+3) = a3 at *
    rw [hr]
    clear hr
    go_enter Try.func11, Try.ntmps11
    go_wp2_with (first
      | ((with_reducible refine op_alloc 35 zN ?_ ?_); exact info28z; intro w2 b4 hge hb k4; have g4 : w.heap.size ≤ b4 := hge; replace h := h.ups hb; replace hall := hall.trans (hb.mono hall.size); clear hb hge; have c0 := (h.1.cell (1 + m*4)).trans q0; have c1 := (h.1.cell (1 + (m*4+1))).trans q1; have c2 := (h.1.cell (1 + (m*4+2))).trans q2; have c3 := (h.1.cell (1 + (m*4+3))).trans q3; (try simp only [← Nat.add_assoc] at c1 c2 c3))
      | ((with_reducible refine op_store 35 (.tmp 4) (.tmp 14) b4 35 #[.int .i64 a0, .int .i64 a1, .int .i64 a2, .int .i64 a3] zN ?_ ?_ ?_ ?_ ?_ ?_ ?_); rfl; rfl; exact k4; exact info28s; rfl; (simp [Value.oneCell']); intro w3 hb ho k5; replace hall := hall.trans (hb _ g4); clear hb ho c0 c1 c2 c3)
      | (go_at_call 26; refine (gknown_any _ _).mono ?_; rintro e w' ⟨rfl, rfl⟩; rw [hkn]))
    exact bodyPost_ret (res_row rfl _ _ b4 35 #[.int .i64 a0, .int .i64 a1, .int .i64 a2, .int .i64 a3] _ rfl k5 Try.underlying35 rfl info28s) rfl ⟨rfl, hall⟩
  · have hkn : decide (1 ≤ u ∧ u ≤ 16) = false := by simpa using hu
    have hr : lastF last u = (0, 0, 0, 0) := by unfold lastF; rw [if_neg hu]
    rw [hr]
    clear h hr
    go_enter Try.func11, Try.ntmps11
    go_wp2_with (first
      | ((with_reducible refine op_alloc 35 zN ?_ ?_); exact info28z; intro w2 b4 hge hb k4; have g4 : w.heap.size ≤ b4 := hge; replace hall := hall.trans (hb.mono hall.size); clear hb hge)
      | ((with_reducible refine op_build0 35 _ build35 ?_))
      | ((with_reducible refine op_store 35 (.tmp 4) (.tmp 8) b4 35 #[.int .i64 0, .int .i64 0, .int .i64 0, .int .i64 0] zN ?_ ?_ ?_ ?_ ?_ ?_ ?_); rfl; rfl; exact k4; exact info28s; rfl; (simp [Value.oneCell']); intro w3 hb ho k5; replace hall := hall.trans (hb _ g4); clear hb ho)
      | (go_at_call 26; refine (gknown_any _ _).mono ?_; rintro e w' ⟨rfl, rfl⟩; rw [hkn]))
    exact bodyPost_ret (res_row rfl _ _ b4 35 #[.int .i64 0, .int .i64 0, .int .i64 0, .int .i64 0] _ rfl k5 Try.underlying35 rfl info28s) rfl ⟨rfl, hall⟩
end Go.Proofs.Ytbpepkpjjfhmpaa
