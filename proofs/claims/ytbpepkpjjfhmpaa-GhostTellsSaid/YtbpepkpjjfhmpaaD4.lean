/- The document's ghost: New. -/
import Derived.Test.YtbpepkpjjfhmpaaD3
namespace Go.Proofs.Ytbpepkpjjfhmpaa
open Go.RowKit Go.Maps
set_option linter.unusedVariables false
set_option linter.unusedSimpArgs false

def rZ : Array Value := (List.replicate 17 (Value.slice none 0 0) ++ [Value.bool false]).toArray
def rnewK : Nat → RS
  | 0 => ⟨List.replicate 17 [], false⟩
  | k + 1 => ⟨(rnewK k).rows.set (k + 1) [(((k + 1 : Nat) : Int), 0, 0, 0)], (rnewK k).bad⟩
theorem rnewK_step (m : Nat) (h : 1 ≤ m) : rnewK m = ⟨(rnewK (m - 1)).rows.set m [((m : Int), 0, 0, 0)], (rnewK (m - 1)).bad⟩ := by
  match m, h with
  | k + 1, _ => rfl
theorem rat_zero {w : World} {r : Nat} (h : Block w r 57 rZ) : RAt w r (rnewK 0) := by
  refine ⟨List.replicate 17 (.slice none 0 0), by simp, by simp [rnewK], h, fun u v V h1 h2 => ?_⟩
  have hu : u < 17 := by have := (List.getElem?_eq_some_iff.1 h1).1; simpa using this
  rw [List.getElem?_replicate, if_pos hu] at h1
  simp only [rnewK] at h2
  rw [List.getElem?_replicate, if_pos hu] at h2
  injection h1 with h1
  injection h2 with h2
  subst h1 h2
  exact ⟨none, 0, rfl, fun j hj => by simp [IV, nflat] at hj, by simp, fun b o e => by cases e⟩
theorem rrow_one {w : World} {bl r : Nat} {a b c d : Int} (h : Block w bl 35 (ints [a, b, c, d])) (hn : r < bl) : RRow w r (.slice (some ⟨bl, 0, none⟩) 1 1) [(a, b, c, d)] :=
  ⟨some ⟨bl, 0, none⟩, 1, rfl, Block.holds h, by simp, fun b' o e => by injection e with e; injection e with e1 e2; subst e1; exact ⟨hn, h.lt⟩⟩
def RNw (W : World) (r : Nat) (u : Value) (w : World) : Prop :=
  ∃ m : Nat, 1 ≤ m ∧ m ≤ 17 ∧ u = .int .i64 m ∧ RAt w r (rnewK (m - 1)) ∧ Below W.heap.size W w
set_option maxHeartbeats 2000000 in
set_option maxRecDepth 100000 in
theorem rnew_any (w : World) : Calls Try.prog 8 #[] w fun e w' => ∃ r, e = .returned (.pointer (some ⟨r, 0, none⟩)) ∧ w.heap.size ≤ r ∧ RAt w' r (rnewK 16) ∧ Below w.heap.size w w' := by
  have hall := Below.refl w.heap.size w
  go_enter Try.func8, Try.ntmps8
  go_upto_region 0 with (fail)
  refine wp_region_lit ?_
  refine wl_v ?_ ?_ ?_; rotate_left; (focus (go_simp; (try with_reducible rfl); done)); try simp only [Act.put, List.setIfInBounds_toArray, List.set_cons_zero, List.set_cons_succ]
  go_upto_region 1 with (fail)
  refine wp_region_lit ?_
  refine wl_v (.agg rZ) (by kernel_rfl) ?_; try simp only [Act.put, List.setIfInBounds_toArray, List.set_cons_zero, List.set_cons_succ]
  refine op_box 57 _ rZ rfl ?_; intro w1 r hge hb kr; replace hall := hall.trans (hb.mono hall.size); have gr : w.heap.size ≤ r := hge; clear hb hge; try simp only [Act.put, List.setIfInBounds_toArray, List.set_cons_zero, List.set_cons_succ]
  refine wl_v ?_ ?_ ?_; rotate_left; (focus (go_simp; (try with_reducible rfl); done)); try simp only [Act.put, List.setIfInBounds_toArray, List.set_cons_zero, List.set_cons_succ]
  go_upto_region 2 with (fail)
  refine wp_region_lit ?_
  refine wl_v ?_ ?_ ?_; rotate_left; (focus (go_simp; (try with_reducible rfl); done)); try simp only [Act.put, List.setIfInBounds_toArray, List.set_cons_zero, List.set_cons_succ]
  go_wp2_with fail
  go_loopw [2] (RNw w r) (fun u _ => 17 - (intOf u).toNat)
  case atStart => exact ⟨1, by omega, by omega, rfl, rat_zero kr, hall⟩
  case round =>
    clear kr hall
    obtain ⟨m, hm1, hm2, rfl, h, hall⟩ := hrel
    by_cases hm : m ≤ 16
    · skip
      have h17 : (m : Int) < 17 := by omega
      have hlr := h.lt
      have HST := Lib.hid (rnewK_step m hm1)
      go_upto_region 3 with (fail)
      refine wp_region_lit ?_
      refine wl_v ?_ ?_ ?_; rotate_left; (focus (go_simp; (try with_reducible rfl); done)); try simp only [Act.put, List.setIfInBounds_toArray, List.set_cons_zero, List.set_cons_succ]
      refine wl_v (.bool true) (by go_simp <;> omega) ?_; try simp only [Act.put, List.setIfInBounds_toArray, List.set_cons_zero, List.set_cons_succ]
      go_upto_region 5 with (fail)
      refine wp_region_lit ?_
      refine wl_v ?_ ?_ ?_; rotate_left; (focus (go_simp; (try with_reducible rfl); done)); try simp only [Act.put, List.setIfInBounds_toArray, List.set_cons_zero, List.set_cons_succ]
      refine wl_v ?_ ?_ ?_; rotate_left; (focus (go_simp; (try with_reducible rfl); done)); try simp only [Act.put, List.setIfInBounds_toArray, List.set_cons_zero, List.set_cons_succ]
      refine wl_v ?_ ?_ ?_; rotate_left; (focus (go_simp; (try with_reducible rfl); done)); try simp only [Act.put, List.setIfInBounds_toArray, List.set_cons_zero, List.set_cons_succ]
      refine wl_v (.agg #[.int .i64 (m : Int), .int .i64 0, .int .i64 0, .int .i64 0]) (by kernel_rfl) ?_; try simp only [Act.put, List.setIfInBounds_toArray, List.set_cons_zero, List.set_cons_succ]
      refine op_lit _ 1 _ 35 (ints [(m : Int), 0, 0, 0]) (by intro wl; kernel_rfl) ?_; intro w8 bl hge hb kl; have nlr : r < bl := (by omega); replace hall := hall.trans (hb.mono hall.size); replace h := h.ups hb; clear hb hge; try simp only [Act.put, List.setIfInBounds_toArray, List.set_cons_zero, List.set_cons_succ]
      refine wl_v ?_ ?_ ?_; rotate_left; (focus (go_simp; (try with_reducible rfl); done)); try simp only [Act.put, List.setIfInBounds_toArray, List.set_cons_zero, List.set_cons_succ]
      refine wl_v ?_ ?_ ?_; rotate_left; (focus (go_simp; (try with_reducible rfl); done)); try simp only [Act.put, List.setIfInBounds_toArray, List.set_cons_zero, List.set_cons_succ]
      refine wl_v ?_ ?_ ?_; rotate_left; (focus (go_simp; (try with_reducible rfl); done)); try simp only [Act.put, List.setIfInBounds_toArray, List.set_cons_zero, List.set_cons_succ]
      obtain ⟨vals, hvl, hrl, kr, hrows⟩ := h; refine op_store1 23 _ _ r m 57 (.slice (some ⟨bl, 0, none⟩) 1 1) (vals ++ [Value.bool (rnewK (m - 1)).bad]).toArray (by rfl) (by rfl) kr (by kernel_rfl) (by simp [Value.cells, hvl]; omega) (by simp [Value.cells, Value.oneCell']) ?_; intro w12 hb12 ho12 kr'; have h12 : RAt w12 r ⟨(rnewK (m - 1)).rows.set m [((m : Int), 0, 0, 0)], (rnewK (m - 1)).bad⟩ := RAt.put hvl hrl hm hrows (rrow_one kl nlr) ho12 (Below.size (hb12 0 (Nat.zero_le _))) kr'; replace hall := hall.trans (hb12 _ gr); try simp only [Act.put, List.setIfInBounds_toArray, List.set_cons_zero, List.set_cons_succ]
      go_upto_region 4 with (fail)
      refine wp_region_lit ?_
      refine wl_v ?_ ?_ ?_; rotate_left; (focus (go_simp; (try with_reducible rfl); done)); try simp only [Act.put, List.setIfInBounds_toArray, List.set_cons_zero, List.set_cons_succ]
      refine wl_v (.int .i64 ((m : Int) + 1)) (by go_simp <;> exact IntWalk.i64_in _ (by omega)) ?_; try simp only [Act.put, List.setIfInBounds_toArray, List.set_cons_zero, List.set_cons_succ]
      refine wl_v ?_ ?_ ?_; rotate_left; (focus (go_simp; (try with_reducible rfl); done)); try simp only [Act.put, List.setIfInBounds_toArray, List.set_cons_zero, List.set_cons_succ]
      go_wp2_with fail
      refine ⟨?_, ?_⟩
      · first
        | (exact ⟨m + 1, by omega, by omega, by go_num, (by rw [show m + 1 - 1 = m by omega, HST.out]; exact h12), hall⟩)
        | ((repeat apply Exists.intro); refine ⟨?_, ?_⟩; rotate_left; (focus (first | exact rfl | (repeat (first | exact rfl | refine ⟨rfl, ?_⟩)))); (exact ⟨m + 1, by omega, by omega, by go_num, (by rw [show m + 1 - 1 = m by omega, HST.out]; exact h12), hall⟩))
      · simp [intOf]; omega
    · obtain rfl : m = 17 := by omega
      go_upto_region 3 with (fail)
      refine wp_region_lit ?_
      refine wl_v ?_ ?_ ?_; rotate_left; (focus (go_simp; (try with_reducible rfl); done)); try simp only [Act.put, List.setIfInBounds_toArray, List.set_cons_zero, List.set_cons_succ]
      refine wl_v (.bool false) (by go_simp <;> omega) ?_; try simp only [Act.put, List.setIfInBounds_toArray, List.set_cons_zero, List.set_cons_succ]
      go_upto_region 6 with (fail)
      refine wp_region_lit ?_
      refine wl_v ?_ ?_ ?_; rotate_left; (focus (go_simp; (try with_reducible rfl); done)); try simp only [Act.put, List.setIfInBounds_toArray, List.set_cons_zero, List.set_cons_succ]
      refine wl_v ?_ ?_ ?_; rotate_left; (focus (go_simp; (try with_reducible rfl); done)); try simp only [Act.put, List.setIfInBounds_toArray, List.set_cons_zero, List.set_cons_succ]
      go_wp2_with fail
      go_ret
      exact ⟨r, rfl, gr, h, hall⟩
end Go.Proofs.Ytbpepkpjjfhmpaa
