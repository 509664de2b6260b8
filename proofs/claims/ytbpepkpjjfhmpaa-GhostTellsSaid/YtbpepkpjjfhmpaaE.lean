import Derived.Test.YtbpepkpjjfhmpaaC
import Derived.Test.YtbpepkpjjfhmpaaO
import Derived.DeepKeys
namespace Go.Proofs.Ytbpepkpjjfhmpaa
open Go.RowKit
set_option linter.unusedVariables false
set_option linter.unusedSimpArgs false


theorem mapM_some {α β : Type} (f : α → Option β) (g : α → β) : ∀ (l : List α), (∀ x ∈ l, f x = some (g x)) → l.mapM f = some (l.map g)
  | [], _ => rfl
  | x :: l, h => by
    rw [List.mapM_cons, h x (by simp), mapM_some f g l (fun y hy => h y (by simp [hy]))]
    rfl

theorem chunks {α : Type} (k : Nat) : ∀ (n : Nat) (l : List α), l.length = n * k → ((List.range n).map fun i => (l.drop (i * k)).take k).flatten = l
  | 0, l, h => by
    have : l = [] := List.eq_nil_of_length_eq_zero (by simpa using h)
    subst this; rfl
  | n + 1, l, h => by
    rw [List.range_succ_eq_map, List.map_cons, List.flatten_cons, List.map_map]
    have hk : (l.drop k).length = n * k := by rw [List.length_drop, h, Nat.succ_mul]; omega
    have ih := chunks k n (l.drop k) hk
    have e : ((List.range n).map ((fun i => (l.drop (i * k)).take k) ∘ Nat.succ)) = (List.range n).map fun i => ((l.drop k).drop (i * k)).take k := by
      refine List.map_congr_left fun i _ => ?_
      simp only [Function.comp, List.drop_drop]
      congr 2
      rw [Nat.succ_mul]; omega
    rw [e, ih]
    simp

theorem key23 (d : Nat) (a b c : Int) (ha : (Lit.int .i64 a).wf = true) (hb : (Lit.int .i64 b).wf = true) (hc : (Lit.int .i64 c).wf = true) :
    Try.prog.keyLits (d + 2) 31 [.int .i64 a, .int .i64 b, .int .i64 c] = some [.int .i64 a, .int .i64 b, .int .i64 c] := by
  have c23 : Try.prog.cellsOf 31 = 3 := by kernel_rfl
  have c3 : Try.prog.cellsOf 3 = 1 := by kernel_rfl
  have u23 := Try.underlying31
  have u3 := Try.underlying3
  unfold Program.keyLits
  simp only [u23]
  simp [c23, c3, Program.keyLits, u3, ha, hb, hc, List.mapM_cons]

theorem len3 {α : Type} {l : List α} (h : l.length = 3) : ∃ a b c, l = [a, b, c] := by
  match l, h with
  | [a, b, c], _ => exact ⟨a, b, c, rfl⟩

theorem key25 (d : Nat) (B : List Int) (hB : B.length = 51) (hw : WF B) :
    Try.prog.keyLits (d + 3) 33 (B.map (Value.int .i64)) = some (B.map (Lit.int .i64)) := by
  have c25 : Try.prog.cellsOf 33 = 51 := by kernel_rfl
  have c23 : Try.prog.cellsOf 31 = 3 := by kernel_rfl
  have u25 := Try.underlying33
  unfold Program.keyLits
  simp only [u25, List.length_map, hB, c25, c23, if_true]
  rw [mapM_some _ (fun i => ((B.map (Lit.int .i64)).drop (i * 3)).take 3)]
  · simp only [Option.map_some]
    rw [chunks 3 17 _ (by simpa using hB)]
  · intro i hi
    have hi' : i < 17 := by simpa using hi
    obtain ⟨a, b, c, he⟩ := len3 (l := (B.drop (i * 3)).take 3) (by simp [hB]; omega)
    have hm : ∀ x ∈ (B.drop (i * 3)).take 3, (Lit.int .i64 x).wf = true := fun x hx => hw x (List.mem_of_mem_drop (List.mem_of_mem_take hx))
    rw [he] at hm
    rw [← List.map_drop, ← List.map_take, ← List.map_drop, ← List.map_take, he]
    exact key23 d a b c (hm a (by simp)) (hm b (by simp)) (hm c (by simp))

theorem map_lit_inj : ∀ {B B' : List Int}, B.map (Lit.int .i64) = B'.map (Lit.int .i64) ↔ B = B'
  | B, B' => by
    constructor
    · intro h
      have := congrArg (List.map fun | Lit.int _ n => n | _ => 0) h
      simpa [Function.comp_def] using this
    · rintro rfl; rfl

theorem eqB (B B' : List Int) (hB : B.length = 51) (hB' : B'.length = 51) (hw : WF B) (hw' : WF B') (w : World) :
    (Op.equalIn 10000 33 (.agg (ints B)) (.agg (ints B'))).run Try.prog w = .ok (decide (B = B')) w := by
  have c25 : Try.prog.cellsOf 33 = 51 := by kernel_rfl
  obtain ⟨r, hr, hiff⟩ := run_equalIn_deep (P := Try.prog) 9995 5 33 (by kernel_rfl) w 3 3 (.agg (ints B)) (.agg (ints B')) (B.map (Lit.int .i64)) (B'.map (Lit.int .i64))
    (by simp [Value.formed, Try.underlying33, ints, hB, c25]) (by simp [Value.formed, Try.underlying33, ints, hB', c25]) (by simpa [ints, Value.cells] using key25 0 B hB hw) (by simpa [ints, Value.cells] using key25 0 B' hB' hw')
  rw [hr]
  congr 1
  rw [map_lit_inj] at hiff
  by_cases e : B = B'
  · simp [e, hiff.2 e]
  · simp only [e, decide_false]
    cases r
    · rfl
    · exact absurd (hiff.1 rfl) e

/-! ### put, whole -/
def ci (B : List Int) (i : Nat) : Int := B.getD i 0
def putF (B : List Int) (u : Int) (l : List Int) : List Int × Bool :=
  if 1 ≤ u ∧ u ≤ 16 then
    if (ci B (u.toNat*3+1) = (fold l).1 ∧ ci B (u.toNat*3+2) = (fold l).2) ∨ 1073741824 ≤ ci B (u.toNat*3) then (B, false)
    else (((B.set (u.toNat*3) (ci B (u.toNat*3) + 1)).set (u.toNat*3+1) (fold l).1).set (u.toNat*3+2) (fold l).2, true)
  else (B, false)
theorem ints_ci {B : List Int} {i : Nat} (h : i < B.length) : (ints B)[i]? = some (.int .i64 (ci B i)) := by
  rw [ints_get h]; simp [ci, h]
theorem wf_lo {x : Int} (h : (Lit.int .i64 x).wf = true) : -9223372036854775808 ≤ x ∧ x ≤ 9223372036854775807 := by
  simpa [Lit.wf, IntKind.min, IntKind.max, IntKind.signed, IntKind.bits] using h
theorem wf_mk {x : Int} (h : -9223372036854775808 ≤ x ∧ x ≤ 9223372036854775807) : (Lit.int .i64 x).wf = true := WalkArith.wf_i64 h
theorem wf_ci {B : List Int} (hw : WF B) (i : Nat) : (Lit.int .i64 (ci B i)).wf = true := by
  unfold ci
  rw [List.getD_eq_getElem?_getD]
  cases h : B[i]? with
  | none => exact wf_mk (by simp)
  | some x => exact hw x (List.mem_of_getElem? h)
theorem wf_set {B : List Int} (hw : WF B) (i : Nat) {x : Int} (hx : (Lit.int .i64 x).wf = true) : WF (B.set i x) := by
  intro y hy
  rcases List.mem_or_eq_of_mem_set hy with h | h
  · exact hw y h
  · rw [h]; exact hx
theorem putF_len {B : List Int} (hB : B.length = 51) (u : Int) (l : List Int) : (putF B u l).1.length = 51 := by
  unfold putF
  split
  · split
    · exact hB
    · simpa using hB
  · exact hB
theorem putF_wf {B : List Int} (hw : WF B) (u : Int) (l : List Int) : WF (putF B u l).1 := by
  unfold putF
  have hf := fold_bd l
  split
  · split
    · exact hw
    · rename_i h
      have h1 := wf_lo (wf_ci hw (u.toNat*3))
      refine wf_set (wf_set (wf_set hw _ (wf_mk ?_)) _ (wf_mk ?_)) _ (wf_mk ?_) <;> omega
  · exact hw

theorem put_any (B : List Int) (hB : B.length = 51) (hw : WF B) (u : Int) (L : List Int) (A : Option Addr) (c : Nat) (w : World) (hL : L.length ≤ 9223372036854775807) (h : Holds w A (L.map (Value.int .i64))) :
    Calls Try.prog 21 #[.agg (ints B), .int .i64 u, .slice A L.length c] w fun e w' => e = .returned (.tuple #[.agg (ints (putF B u L).1), .bool (putF B u L).2]) ∧ Below w.heap.size w w' := by
  by_cases hu : 1 ≤ u ∧ u ≤ 16
  · obtain ⟨n, rfl⟩ : ∃ n : Nat, u = n := ⟨u.toNat, by omega⟩
    have e0 := ints_ci (B := B) (i := n*3) (by omega)
    have e1 := ints_ci (B := B) (i := n*3+1) (by omega)
    have e2 := ints_ci (B := B) (i := n*3+2) (by omega)
    have hb := wf_lo (wf_ci hw (n*3))
    by_cases hs : ci B (n*3+1) = (fold L).1 ∧ ci B (n*3+2) = (fold L).2
    · have hp : putF B n L = (B, false) := by unfold putF; rw [if_pos hu, if_pos (Or.inl (by simpa using hs))]
      rw [hp]
      exact put_same B hB n L A c w (by omega) (by omega) hL h _ _ _ e0 e1 e2 hs.1 hs.2
    · by_cases hv : 1073741824 ≤ ci B (n*3)
      · have hp : putF B n L = (B, false) := by unfold putF; rw [if_pos hu, if_pos (Or.inr (by simpa using hv))]
        rw [hp]
        exact put_full B hB n L A c w (by omega) (by omega) hL h _ _ _ e0 e1 e2 hs hv
      · have hp : putF B n L = (((B.set (n*3) (ci B (n*3) + 1)).set (n*3+1) (fold L).1).set (n*3+2) (fold L).2, true) := by
          unfold putF; rw [if_pos hu, if_neg]
          · simp
          · simp only [Int.toNat_natCast]
            intro hh
            rcases hh with hh | hh
            · exact hs hh
            · exact hv hh
        rw [hp]
        exact put_yes B hB n L A c w (by omega) (by omega) hL h _ _ _ e0 e1 e2 hs (by omega) hb.1 _ rfl
  · have hp : putF B u L = (B, false) := by unfold putF; rw [if_neg hu]
    rw [hp]
    exact put_bad B hB u _ w hu
end Go.Proofs.Ytbpepkpjjfhmpaa
