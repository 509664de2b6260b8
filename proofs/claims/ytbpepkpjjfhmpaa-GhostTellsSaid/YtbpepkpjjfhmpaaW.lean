import Derived.Test.YtbpepkpjjfhmpaaF1
import Derived.Test.YtbpepkpjjfhmpaaPf
namespace Go.Proofs.Ytbpepkpjjfhmpaa
open Go.RowKit
set_option linter.unusedVariables false
set_option linter.unusedSimpArgs false

section
variable {P : Program} {d : Option Tmp} {tt : TypeId} {ps : String} {af : Array Edge} {a : Act} {w : World} {K : Act → World → Prop} {Q : Exit → Act → World → Prop}
/-- a whole row stored, as one step of a region that draws -/
theorem wpo_store (ty : TypeId) (x y : Operand) (g : Nat) (t : TypeId) (cells old : Array Value) (hx : a.eval x = .pointer (some ⟨g, 0, none⟩)) (hy : a.eval y = .agg cells)
    (hg : Block w g t old) (hi : (P.info? ty).map (·.size) = some cells.size) (hold : old.size = cells.size) (h1 : cells.all (·.oneCell') = true)
    (h : ∀ w', (∀ B, B ≤ g → Below B w w') → (∀ g', g' ≠ g → w'.heap[g']? = w.heap[g']?) → Block w' g t cells → K (a.put d undef) w') :
    Oper.wp P ⟨d, .store ty x y, tt, ps, af, none⟩ a w K Q :=
  wp_store_row ty x y rfl g cells hx hy t old hg hi hold h1
    (h _ (fun B hB => ⟨rfl, rfl, rfl, by simp, fun k hk => setRow_other w g k _ (by omega)⟩) (fun g' hg' => setRow_other w g g' _ (by omega)) (setRow_heap w g old cells t (0, 0) hg))
end

def OneB (W : World) (b : Nat) (X : List Int) (w' : World) : Prop := Below W.heap.size W w' ∧ Block w' b 33 (ints X)

set_option maxHeartbeats 400000 in
theorem rnote_bad (B : List Int) (hB : B.length = 51) (u : Int) (w : World) (hu : u < 1 ∨ 16 < u) :
    Calls Try.prog 25 #[.agg (ints B), .int .i64 u] w fun e w' => e = .returned (.agg #[.int .i64 0, .int .i64 0, .int .i64 0, .int .i64 0]) ∧ Below w.heap.size w w' := by
  have hall := Below.refl w.heap.size w
  by_cases hu1 : u < 1
  · clear hu
    go_enter Try.func25, Try.ntmps25
    go_wp2_with (first
      | ((with_reducible refine op_box 33 (.tmp 0) (ints B) ?_ ?_); rfl; intro w1 b2 hge hb k2; replace hall := hall.trans (hb.mono hall.size); clear hb hge)
      | ((with_reducible refine op_alloc 35 zN ?_ ?_); exact info28z; intro w2 b4 hge hb k4; have g4 : w.heap.size ≤ b4 := (by have := hall.size; omega); replace hall := hall.trans (hb.mono hall.size); clear hb hge)
      | ((with_reducible refine op_store 35 (.tmp 4) (.tmp 11) b4 35 #[.int .i64 0, .int .i64 0, .int .i64 0, .int .i64 0] zN ?_ ?_ ?_ ?_ ?_ ?_ ?_); rfl; rfl; exact k4; exact info28s; rfl; (simp [Value.oneCell']); intro w3 hb ho k5; replace hall := hall.trans (hb _ g4); clear hb ho))
    exact bodyPost_ret (res_row rfl _ _ b4 35 #[.int .i64 0, .int .i64 0, .int .i64 0, .int .i64 0] _ rfl k5 Try.underlying35 rfl info28s) rfl ⟨rfl, hall⟩
  · have hu2 : 16 < u := by omega
    clear hu
    go_enter Try.func25, Try.ntmps25
    go_wp2_with (first
      | ((with_reducible refine op_box 33 (.tmp 0) (ints B) ?_ ?_); rfl; intro w1 b2 hge hb k2; replace hall := hall.trans (hb.mono hall.size); clear hb hge)
      | ((with_reducible refine op_alloc 35 zN ?_ ?_); exact info28z; intro w2 b4 hge hb k4; have g4 : w.heap.size ≤ b4 := (by have := hall.size; omega); replace hall := hall.trans (hb.mono hall.size); clear hb hge)
      | ((with_reducible refine op_store 35 (.tmp 4) (.tmp 11) b4 35 #[.int .i64 0, .int .i64 0, .int .i64 0, .int .i64 0] zN ?_ ?_ ?_ ?_ ?_ ?_ ?_); rfl; rfl; exact k4; exact info28s; rfl; (simp [Value.oneCell']); intro w3 hb ho k5; replace hall := hall.trans (hb _ g4); clear hb ho))
    exact bodyPost_ret (res_row rfl _ _ b4 35 #[.int .i64 0, .int .i64 0, .int .i64 0, .int .i64 0] _ rfl k5 Try.underlying35 rfl info28s) rfl ⟨rfl, hall⟩

set_option maxHeartbeats 1000000 in
set_option maxRecDepth 100000 in
theorem rnote_ok (B : List Int) (hB : B.length = 51) (n : Nat) (w : World) (hn : 1 ≤ n) (hn2 : n ≤ 16) (v s k : Int)
    (hv : (ints B)[n*3]? = some (.int .i64 v)) (hs : (ints B)[n*3+1]? = some (.int .i64 s)) (hk : (ints B)[n*3+2]? = some (.int .i64 k)) :
    Calls Try.prog 25 #[.agg (ints B), .int .i64 (n : Int)] w fun e w' => e = .returned (.agg #[.int .i64 (n : Int), .int .i64 v, .int .i64 s, .int .i64 k]) ∧ Below w.heap.size w w' := by
  have hall := Below.refl w.heap.size w
  have HB := Lib.hid hB
  clear hB
  go_enter Try.func25, Try.ntmps25
  go_wp2_with (first
    | ((with_reducible refine op_box 33 (.tmp 0) (ints B) ?_ ?_); rfl; intro w1 b2 hge hb k2; replace hall := hall.trans (hb.mono hall.size); clear hb hge)
    | ((with_reducible refine op_alloc 35 zN ?_ ?_); exact info28z; intro w2 b4 hge hb k4; replace k2 := k2.ups hb; have g4 : w.heap.size ≤ b4 := (by have := hall.size; omega); replace hall := hall.trans (hb.mono hall.size); clear hb hge))
  have hS : OneB w b2 B w2.drew := ⟨hall.drew, k2⟩
  have n24 : b2 ≠ b4 := by
    intro e
    subst e
    have h1 : Block w2 b2 33 (ints B) := k2
    have h2 : Block w2 b2 35 zN := k4
    unfold Block at h1 h2
    rw [h1] at h2
    injection h2 with h2
    injection h2 with _ h2
    exact absurd h2 (by decide)
  replace k4 : Block w2.drew b4 35 zN := k4
  refine region_pi (OneB w b2 B) [(0, true), (1, true), (2, true), (3, true), (4, true), (5, true), (6, true), (7, true), (8, true), (9, true), (10, true), (11, true), (12, true), (13, true), (14, false)] (by kernel_rfl) (by kernel_rfl) rfl (by kernel_rfl) hS ?_
  clear k2
  have h17 : (n : Int) < 17 := by omega
  refine pi_f0 ?_ rfl ?_ ?_; rotate_left; (focus (intro w' hS'; have c0 := (hS'.2.cell (n*3)).trans hv; have c1 := (hS'.2.cell (n*3+1)).trans hs; have c2 := (hS'.2.cell (n*3+2)).trans hk; go_simp; (try rw [if_pos h17]); (try with_reducible rfl); done)); try simp only [Act.put, List.setIfInBounds_toArray, List.set_cons_zero, List.set_cons_succ]
  refine pi_f0 ?_ rfl ?_ ?_; rotate_left; (focus (intro w' hS'; have c0 := (hS'.2.cell (n*3)).trans hv; have c1 := (hS'.2.cell (n*3+1)).trans hs; have c2 := (hS'.2.cell (n*3+2)).trans hk; go_simp; (try rw [if_pos h17]); (try with_reducible rfl); done)); try simp only [Act.put, List.setIfInBounds_toArray, List.set_cons_zero, List.set_cons_succ]
  refine pi_f0 ?_ rfl ?_ ?_; rotate_left; (focus (intro w' hS'; have c0 := (hS'.2.cell (n*3)).trans hv; have c1 := (hS'.2.cell (n*3+1)).trans hs; have c2 := (hS'.2.cell (n*3+2)).trans hk; go_simp; (try rw [if_pos h17]); (try with_reducible rfl); done)); try simp only [Act.put, List.setIfInBounds_toArray, List.set_cons_zero, List.set_cons_succ]
  refine pi_f0 ?_ rfl ?_ ?_; rotate_left; (focus (intro w' hS'; have c0 := (hS'.2.cell (n*3)).trans hv; have c1 := (hS'.2.cell (n*3+1)).trans hs; have c2 := (hS'.2.cell (n*3+2)).trans hk; go_simp; (try rw [if_pos h17]); (try with_reducible rfl); done)); try simp only [Act.put, List.setIfInBounds_toArray, List.set_cons_zero, List.set_cons_succ]
  refine pi_f0 ?_ rfl ?_ ?_; rotate_left; (focus (intro w' hS'; have c0 := (hS'.2.cell (n*3)).trans hv; have c1 := (hS'.2.cell (n*3+1)).trans hs; have c2 := (hS'.2.cell (n*3+2)).trans hk; go_simp; (try rw [if_pos h17]); (try with_reducible rfl); done)); try simp only [Act.put, List.setIfInBounds_toArray, List.set_cons_zero, List.set_cons_succ]
  refine pi_f0 ?_ rfl ?_ ?_; rotate_left; (focus (intro w' hS'; have c0 := (hS'.2.cell (n*3)).trans hv; have c1 := (hS'.2.cell (n*3+1)).trans hs; have c2 := (hS'.2.cell (n*3+2)).trans hk; go_simp; (try rw [if_pos h17]); (try with_reducible rfl); done)); try simp only [Act.put, List.setIfInBounds_toArray, List.set_cons_zero, List.set_cons_succ]
  refine pi_f0 ?_ rfl ?_ ?_; rotate_left; (focus (intro w' hS'; have c0 := (hS'.2.cell (n*3)).trans hv; have c1 := (hS'.2.cell (n*3+1)).trans hs; have c2 := (hS'.2.cell (n*3+2)).trans hk; go_simp; (try rw [if_pos h17]); (try with_reducible rfl); done)); try simp only [Act.put, List.setIfInBounds_toArray, List.set_cons_zero, List.set_cons_succ]
  refine pi_f0 ?_ rfl ?_ ?_; rotate_left; (focus (intro w' hS'; have c0 := (hS'.2.cell (n*3)).trans hv; have c1 := (hS'.2.cell (n*3+1)).trans hs; have c2 := (hS'.2.cell (n*3+2)).trans hk; go_simp; (try rw [if_pos h17]); (try with_reducible rfl); done)); try simp only [Act.put, List.setIfInBounds_toArray, List.set_cons_zero, List.set_cons_succ]
  refine pi_f0 ?_ rfl ?_ ?_; rotate_left; (focus (intro w' hS'; have c0 := (hS'.2.cell (n*3)).trans hv; have c1 := (hS'.2.cell (n*3+1)).trans hs; have c2 := (hS'.2.cell (n*3+2)).trans hk; go_simp; (try rw [if_pos h17]); (try with_reducible rfl); done)); try simp only [Act.put, List.setIfInBounds_toArray, List.set_cons_zero, List.set_cons_succ]
  refine pi_f0 ?_ rfl ?_ ?_; rotate_left; (focus (intro w' hS'; have c0 := (hS'.2.cell (n*3)).trans hv; have c1 := (hS'.2.cell (n*3+1)).trans hs; have c2 := (hS'.2.cell (n*3+2)).trans hk; go_simp; (try rw [if_pos h17]); (try with_reducible rfl); done)); try simp only [Act.put, List.setIfInBounds_toArray, List.set_cons_zero, List.set_cons_succ]
  refine pi_f0 ?_ rfl ?_ ?_; rotate_left; (focus (intro w' hS'; have c0 := (hS'.2.cell (n*3)).trans hv; have c1 := (hS'.2.cell (n*3+1)).trans hs; have c2 := (hS'.2.cell (n*3+2)).trans hk; go_simp; (try rw [if_pos h17]); (try with_reducible rfl); done)); try simp only [Act.put, List.setIfInBounds_toArray, List.set_cons_zero, List.set_cons_succ]
  refine pi_f0 ?_ rfl ?_ ?_; rotate_left; (focus (intro w' hS'; have c0 := (hS'.2.cell (n*3)).trans hv; have c1 := (hS'.2.cell (n*3+1)).trans hs; have c2 := (hS'.2.cell (n*3+2)).trans hk; go_simp; (try rw [if_pos h17]); (try with_reducible rfl); done)); try simp only [Act.put, List.setIfInBounds_toArray, List.set_cons_zero, List.set_cons_succ]
  refine pi_f0 ?_ rfl ?_ ?_; rotate_left; (focus (intro w' hS'; have c0 := (hS'.2.cell (n*3)).trans hv; have c1 := (hS'.2.cell (n*3+1)).trans hs; have c2 := (hS'.2.cell (n*3+2)).trans hk; go_simp; (try rw [if_pos h17]); (try with_reducible rfl); done)); try simp only [Act.put, List.setIfInBounds_toArray, List.set_cons_zero, List.set_cons_succ]
  refine pi_f0 ?_ rfl ?_ ?_; rotate_left; (focus (intro w' hS'; have c0 := (hS'.2.cell (n*3)).trans hv; have c1 := (hS'.2.cell (n*3+1)).trans hs; have c2 := (hS'.2.cell (n*3+2)).trans hk; go_simp; (try rw [if_pos h17]); (try with_reducible rfl); done)); try simp only [Act.put, List.setIfInBounds_toArray, List.set_cons_zero, List.set_cons_succ]
  refine pi_a0 rfl (fun K hK => ?_)
  refine wpo_store 35 (.tmp 4) (.tmp 25) b4 35 #[.int .i64 (n : Int), .int .i64 v, .int .i64 s, .int .i64 k] zN rfl rfl k4 info28s rfl (by simp [Value.oneCell']) fun w5 hb ho k5 => ?_
  refine hK _ _ ⟨⟨hS.1.trans (hb _ g4), (ho b2 n24).trans hS.2⟩, ?_⟩
  refine pi_nil (NoPanic.normal ?_)
  go_wp2
  exact bodyPost_ret (res_row rfl _ _ b4 35 #[.int .i64 (n : Int), .int .i64 v, .int .i64 s, .int .i64 k] _ rfl k5 Try.underlying35 rfl info28s) rfl ⟨rfl, hS.1.trans (hb _ g4)⟩

theorem rnote_at (B : List Int) (u : Int) (a b c d : Int) (w : World) (hB : B.length = 51) (hn : noteF B u = (a, b, c, d)) :
    Calls Try.prog 25 #[.agg (ints B), .int .i64 u] w fun e w' => e = .returned (.agg #[.int .i64 a, .int .i64 b, .int .i64 c, .int .i64 d]) ∧ Below w.heap.size w w' := by
  unfold noteF at hn
  by_cases hu : 1 ≤ u ∧ u ≤ 16
  · rw [if_pos hu] at hn
    obtain ⟨n, rfl⟩ : ∃ n : Nat, u = n := ⟨u.toNat, by omega⟩
    simp only [Int.toNat_natCast, Prod.mk.injEq] at hn
    obtain ⟨rfl, rfl, rfl, rfl⟩ := hn
    exact rnote_ok B hB n w (by omega) (by omega) _ _ _ (ints_ci (by omega)) (ints_ci (by omega)) (ints_ci (by omega))
  · rw [if_neg hu] at hn
    simp only [Prod.mk.injEq] at hn
    obtain ⟨rfl, rfl, rfl, rfl⟩ := hn
    exact rnote_bad B hB u w (by omega)
end Go.Proofs.Ytbpepkpjjfhmpaa
