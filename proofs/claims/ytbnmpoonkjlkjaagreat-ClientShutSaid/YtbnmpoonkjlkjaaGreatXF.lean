/- Client: part F of the proof. -/
import Derived.Test.YtbnmpoonkjlkjaaGreatXE
import Derived.Test.YtbnmpoonkjlkjaaGreatXC
namespace Go.Proofs.YtbnmpoonkjlkjaaGreat
open Go.RowKit
set_option linter.unusedVariables false
set_option linter.unusedSimpArgs false
theorem rtagged_any (w : World) (k : Int) : Calls Tryz.prog 79 #[.int .i64 k] w fun e w' => e = .returned (.bool (decide (5 ≤ k ∧ k ≤ 11))) ∧ Below w.heap.size w w' := by
 by_cases h1 : 5 ≤ k
 ·
  by_cases h2 : k ≤ 11
  ·
   have hall := Below.refl w.heap.size w
   refine K_enter 9 Tryz.func79 rfl rfl fun a H => ?_
   replace H := H.pick [0]
   refine zC (zD ?_)
   refine kR 1 H rfl fun a H => ?_
   refine zA (zB (zC (zD ?_)))
   refine kR 1 H rfl fun a H => ?_
   refine kV H (r_ge U3 (H.ev rfl) evc (dec_t (by omega))) rfl fun a H => ?_
   refine kR 2 H rfl fun a H => ?_
   refine kW H rfl (r_le U3 (H.ev rfl) evc (dec_t (by omega))) rfl fun a H => ?_
   refine kR 2 H rfl fun a H => ?_
   refine zA (zB (zF ?_))
   exact k_ret1 H rfl rfl ⟨by simp; omega, hall⟩
  ·
   have hall := Below.refl w.heap.size w
   refine K_enter 9 Tryz.func79 rfl rfl fun a H => ?_
   replace H := H.pick [0]
   refine zC (zD ?_)
   refine kR 1 H rfl fun a H => ?_
   refine zA (zB (zC (zD ?_)))
   refine kR 1 H rfl fun a H => ?_
   refine kV H (r_ge U3 (H.ev rfl) evc (dec_t (by omega))) rfl fun a H => ?_
   refine kR 2 H rfl fun a H => ?_
   refine kW H rfl (r_le U3 (H.ev rfl) evc (dec_f (by omega))) rfl fun a H => ?_
   refine kR 2 H rfl fun a H => ?_
   refine zA (zB (zF ?_))
   exact k_ret1 H rfl rfl ⟨by simp; omega, hall⟩
 ·
  have hall := Below.refl w.heap.size w
  refine K_enter 9 Tryz.func79 rfl rfl fun a H => ?_
  replace H := H.pick [0]
  refine zC (zD ?_)
  refine kR 1 H rfl fun a H => ?_
  refine zA (zB (zC (zD ?_)))
  refine kR 1 H rfl fun a H => ?_
  refine kV H (r_ge U3 (H.ev rfl) evc (dec_f (by omega))) rfl fun a H => ?_
  refine kR 5 H rfl fun a H => ?_
  refine zA (zB (zF ?_))
  exact k_ret1 H rfl rfl ⟨by simp; omega, hall⟩
theorem z99 : (Tryz.prog.info? 99).map (·.zero) = some (some (.agg #[.int .i64 0, .int .i64 0, .int .i64 0, .int .i64 0])) := by kernel_rfl
theorem s99 : (Tryz.prog.info? 99).map (·.size) = some 4 := by kernel_rfl
theorem rid_any (w : World) (x lo : Int) : Calls Tryz.prog 109 #[.int .i64 x, .int .i64 lo] w fun e w' => e = .returned (.agg #[.int .i64 x, .int .i64 4, .int .i64 lo, .int .i64 1073741824]) ∧ Below w.heap.size w w' := by
 have hall := Below.refl w.heap.size w
 refine K_enter 8 Tryz.func109 rfl rfl fun a H => ?_
 replace H := H.pick [0, 1]
 refine zC (zD ?_)
 refine op_alloc 99 #[.int .i64 0, .int .i64 0, .int .i64 0, .int .i64 0] z99 fun w0 b0 hge hb k0 => ?_; have g0 := Nat.le_trans hall.size hge; replace hall := hall.tr hb; clear hb hge; refine kl H rfl fun a H => ?_
 refine zA (zB (zC (zD ?_)))
 refine kR 2 H rfl fun a H => ?_
 refine kV H (r_build #[(0, .int .i64 x), (1, .int .i64 4), (2, .int .i64 lo), (3, .int .i64 1073741824)] (.agg #[.int .i64 x, .int .i64 4, .int .i64 lo, .int .i64 1073741824]) (by simp [evc, H.ev (j := 5) rfl, H.ev (j := 6) rfl]) (fun w => by kernel_rfl)) rfl fun a H => ?_
 refine op_store 99 (.tmp 4) (.tmp 7) b0 99 #[.int .i64 x, .int .i64 4, .int .i64 lo, .int .i64 1073741824] _ (H.ev rfl) (H.ev rfl) k0 s99 rfl (by simp [Value.oneCell']) fun w' hb ho kq => ?_; clear k0; have k0 := kq; replace hall := hall.trans (hb _ g0); clear hb ho kq; refine kl0 H fun a H => ?_
 refine zA (zB (zF ?_))
 exact k_ret_cell H rfl rfl k0 U99 rfl s99 ⟨rfl, hall⟩
theorem rsmall_any (w : World) (x lo hi : Int) : Calls Tryz.prog 110 #[.int .i64 x, .int .i64 lo, .int .i64 hi] w fun e w' => e = .returned (.agg #[.int .i64 x, .int .i64 1, .int .i64 lo, .int .i64 hi]) ∧ Below w.heap.size w w' := by
 have hall := Below.refl w.heap.size w
 refine K_enter 11 Tryz.func110 rfl rfl fun a H => ?_
 replace H := H.pick [0, 1, 2]
 refine zC (zD ?_)
 refine op_alloc 99 #[.int .i64 0, .int .i64 0, .int .i64 0, .int .i64 0] z99 fun w0 b0 hge hb k0 => ?_; have g0 := Nat.le_trans hall.size hge; replace hall := hall.tr hb; clear hb hge; refine kl H rfl fun a H => ?_
 refine zA (zB (zC (zD ?_)))
 refine kR 3 H rfl fun a H => ?_
 refine kV H (r_build #[(0, .int .i64 x), (1, .int .i64 1), (2, .int .i64 lo), (3, .int .i64 hi)] (.agg #[.int .i64 x, .int .i64 1, .int .i64 lo, .int .i64 hi]) (by simp [evc, H.ev (j := 7) rfl, H.ev (j := 8) rfl, H.ev (j := 9) rfl]) (fun w => by kernel_rfl)) rfl fun a H => ?_
 refine op_store 99 (.tmp 6) (.tmp 10) b0 99 #[.int .i64 x, .int .i64 1, .int .i64 lo, .int .i64 hi] _ (H.ev rfl) (H.ev rfl) k0 s99 rfl (by simp [Value.oneCell']) fun w' hb ho kq => ?_; clear k0; have k0 := kq; replace hall := hall.trans (hb _ g0); clear hb ho kq; refine kl0 H fun a H => ?_
 refine zA (zB (zF ?_))
 exact k_ret_cell H rfl rfl k0 U99 rfl s99 ⟨rfl, hall⟩
theorem get_cell {w : World} {b n : Nat} {t : TypeId} {p : Pkt} (h : Block w b t #[.int .i64 (p.fld 1), .int .i64 (p.fld 2), .int .i64 (p.fld 3), .int .i64 (p.fld 4), .int .i64 (p.fld 5), .int .i64 (p.fld 6), .int .i64 (p.fld 7), .int .i64 (p.fld 8), .int .i64 (p.fld 9), .int .i64 (p.fld 10), .int .i64 (p.fld 11)]) (hn : n < 11) : w.cell? ⟨b, 0 + n, none⟩ = some (.int .i64 (p.fld (n + 1))) := by
 rw [Nat.zero_add, h.cell]
 match n, hn with
 | 0, _ => rfl
 | 1, _ => rfl
 | 2, _ => rfl
 | 3, _ => rfl
 | 4, _ => rfl
 | 5, _ => rfl
 | 6, _ => rfl
 | 7, _ => rfl
 | 8, _ => rfl
 | 9, _ => rfl
 | 10, _ => rfl
theorem rget_lit (w : World) (p : Pkt) (n : Nat) (q : Int) (hq : q = (n : Int)) (hp : p.ok) (hn : n < 11) : Calls Tryz.prog 73 #[.agg (pv p), .int .i64 q] w fun e w' => e = .returned (.int .i64 (p.fld (n + 1))) ∧ Below w.heap.size w w' := by
 subst hq
 have hall := Below.refl w.heap.size w
 refine K_enter 33 Tryz.func73 rfl rfl fun a H => ?_
 replace H := H.pick [0, 1]
 refine zC (zD ?_)
 refine op_box 36 (.tmp 0) (pv p) (H.ev rfl) fun w0 b0 hge hb k0 => ?_; have g0 := Nat.le_trans hall.size hge; replace hall := hall.tr hb; clear hb hge; refine kl H rfl fun a H => ?_
 refine kR 1 H rfl fun a H => ?_
 refine zA (zB (zC (zD ?_)))
 refine kR 1 H rfl fun a H => ?_
 refine kV H (r_ld U3 rfl (H.ev rfl) (pv_cell k0 (fld_at hp (j := 1) (by omega)))) rfl fun a H => ?_
 refine kR 1 H rfl fun a H => ?_
 refine kV H (r_ld U3 rfl (H.ev rfl) (pv_cell k0 (fld_at hp (j := 2) (by omega)))) rfl fun a H => ?_
 refine kR 1 H rfl fun a H => ?_
 refine kV H (r_ld U3 rfl (H.ev rfl) (pv_cell k0 (fld_at hp (j := 3) (by omega)))) rfl fun a H => ?_
 refine kR 1 H rfl fun a H => ?_
 refine kV H (r_ld U3 rfl (H.ev rfl) (pv_cell k0 (fld_at hp (j := 4) (by omega)))) rfl fun a H => ?_
 refine kR 1 H rfl fun a H => ?_
 refine kV H (r_ld U3 rfl (H.ev rfl) (pv_cell k0 (fld_at hp (j := 5) (by omega)))) rfl fun a H => ?_
 refine kR 1 H rfl fun a H => ?_
 refine kV H (r_ld U3 rfl (H.ev rfl) (pv_cell k0 (fld_at hp (j := 6) (by omega)))) rfl fun a H => ?_
 refine kR 1 H rfl fun a H => ?_
 refine kV H (r_ld U3 rfl (H.ev rfl) (pv_cell k0 (fld_at hp (j := 7) (by omega)))) rfl fun a H => ?_
 refine kR 1 H rfl fun a H => ?_
 refine kV H (r_ld U3 rfl (H.ev rfl) (pv_cell k0 (fld_at hp (j := 8) (by omega)))) rfl fun a H => ?_
 refine kR 1 H rfl fun a H => ?_
 refine kV H (r_ld U3 rfl (H.ev rfl) (pv_cell k0 (fld_at hp (j := 9) (by omega)))) rfl fun a H => ?_
 refine kR 1 H rfl fun a H => ?_
 refine kV H (r_ld U3 rfl (H.ev rfl) (pv_cell k0 (fld_at hp (j := 10) (by omega)))) rfl fun a H => ?_
 refine kR 1 H rfl fun a H => ?_
 refine kV H (r_ld U3 rfl (H.ev rfl) (pv_cell k0 (fld_at hp (j := 11) (by omega)))) rfl fun a H => ?_
 refine op_litv 121 11 #[(0, .int .i64 (p.fld 1)), (1, .int .i64 (p.fld 2)), (2, .int .i64 (p.fld 3)), (3, .int .i64 (p.fld 4)), (4, .int .i64 (p.fld 5)), (5, .int .i64 (p.fld 6)), (6, .int .i64 (p.fld 7)), (7, .int .i64 (p.fld 8)), (8, .int .i64 (p.fld 9)), (9, .int .i64 (p.fld 10)), (10, .int .i64 (p.fld 11))] 3 #[.int .i64 (p.fld 1), .int .i64 (p.fld 2), .int .i64 (p.fld 3), .int .i64 (p.fld 4), .int .i64 (p.fld 5), .int .i64 (p.fld 6), .int .i64 (p.fld 7), .int .i64 (p.fld 8), .int .i64 (p.fld 9), .int .i64 (p.fld 10), .int .i64 (p.fld 11)] (by simp [evc, H.ev (j := 7) rfl, H.ev (j := 9) rfl, H.ev (j := 11) rfl, H.ev (j := 13) rfl, H.ev (j := 15) rfl, H.ev (j := 17) rfl, H.ev (j := 19) rfl, H.ev (j := 21) rfl, H.ev (j := 23) rfl, H.ev (j := 25) rfl, H.ev (j := 27) rfl]) (fun w => by kernel_rfl) fun w1 b1 hge hb k1 => ?_; have g1 := Nat.le_trans hall.size hge; replace k0 := Block.ups k0 hb; replace hall := hall.tr hb; clear hb; clear hge; refine kl H rfl fun a H => ?_
 refine kR 1 H rfl fun a H => ?_
 refine zA (zB (zC (zD ?_)))
 refine kR 2 H rfl fun a H => ?_
 refine kV H (r_idx (j := n) (q := 0 + n) U121 s3 (H.ev rfl) (H.ev rfl) (by omega) (by omega)) rfl fun a H => ?_
 refine kV H (r_ld U3 rfl (H.ev rfl) (get_cell k1 hn)) rfl fun a H => ?_
 refine kR 1 H rfl fun a H => ?_
 refine zA (zB (zF ?_))
 exact k_ret1 H rfl rfl ⟨rfl, hall⟩
def Pkt.set (p : Pkt) (j : Nat) (x : Int) : Pkt := ⟨p.n.set j x, p.sec, p.tg⟩
theorem set_ok {p : Pkt} {j : Nat} {x : Int} (hp : p.ok) (hx : -9223372036854775808 ≤ x ∧ x ≤ 9223372036854775807) : (p.set j x).ok := by
 refine ⟨by simp [Pkt.set, hp.1], hp.2.1, hp.2.2.1, fun y hy => ?_⟩
 rcases List.mem_or_eq_of_mem_set hy with h | h
 · exact hp.2.2.2 y h
 · subst h; exact hx
theorem pv_set {p : Pkt} {j : Nat} {x : Int} (hp : p.ok) (hj : j < 12) : setL (pv p) j (Value.int .i64 x).cells.toList = pv (p.set j x) := by
 show setL (pv p) j [Value.int .i64 x] = _
 rw [setL1]
 apply Array.ext'
 simp only [Pkt.set, pcell, List.setIfInBounds_toArray, List.toList_toArray]
 rw [List.append_assoc, List.append_assoc, List.set_append_left _ _ (by rw [List.length_map, hp.1]; exact hj), ← List.map_set]
set_option maxHeartbeats 8000000 in
theorem rwith_lit (w : World) (p : Pkt) (n : Nat) (q x : Int) (hq : q = (n : Int)) (hp : p.ok) (hn : n < 11) (hx : -9223372036854775808 ≤ x ∧ x ≤ 9223372036854775807) : Calls Tryz.prog 77 #[.agg (pv p), .int .i64 q, .int .i64 x] w fun e w' => e = .returned (.agg (pv (p.set (n + 1) x))) ∧ Below w.heap.size w w' := by
 subst hq
 match n, hn with
 | 0, _ =>
  have hall := Below.refl w.heap.size w
  refine K_enter 53 Tryz.func77 rfl rfl fun a H => ?_
  replace H := H.pick [0, 1, 2]
  refine zC (zD ?_)
  refine op_box 36 (.tmp 0) (pv p) (H.ev rfl) fun w0 b0 hge hb k0 => ?_; have g0 := Nat.le_trans hall.size hge; replace hall := hall.tr hb; clear hb hge; refine kl H rfl fun a H => ?_
  refine op_alloc 36 (pv pk0) z36 fun w1 b1 hge hb k1 => ?_; have g1 := Nat.le_trans hall.size hge; have h01 : b0 < b1 := Nat.lt_of_lt_of_le k0.lt hge; replace k0 := Block.ups k0 hb; replace hall := hall.tr hb; clear hb hge; refine kl H rfl fun a H => ?_
  refine zA (zB (zC (zC (zD ?_))))
  refine kR 1 H rfl fun a H => ?_
  refine zA (zB ?_)
  refine wp_block ?_
  refine zC (zD ?_)
  refine kV H (r_eq U3 (H.ev rfl) evc (dec_t (by omega))) rfl fun a H => ?_
  refine kR 1 H rfl fun a H => ?_
  refine zA (zB (zH H rfl (zD ?_)))
  refine kR 2 H rfl fun a H => ?_
  refine op_store1 3 (.tmp 11) (.tmp 10) b0 1 36 (.int .i64 x) _ (H.ev rfl) (H.ev rfl) k0 s3 (by rw [pv_size hp]; show 1 + 1 ≤ 36; omega) (by simp [Value.cells, Value.oneCell']) fun w' hb ho kq => ?_; clear k0; have k0 := kq; rw [pv_set hp (by omega)] at k0; replace k1 := block_same k1 (ho _ (by omega)); replace hall := hall.trans (hb _ g0); clear hb ho kq; refine kl0 H fun a H => ?_
  refine zA (n_block (zB (zC (zD ?_))))
  refine kV (v := .agg (pv (p.set 1 x))) H (run_load_row b0 36 _ _ (H.ev rfl) k0 U36 rfl (s36p (set_ok hp hx))) rfl fun a H => ?_
  refine op_store 36 (.tmp 6) (.tmp 52) b1 36 (pv (p.set 1 x)) _ (H.ev rfl) (H.ev rfl) k1 (s36p (set_ok hp hx)) (by rw [pv_size pk0_ok, pv_size (set_ok hp hx)]) (pv_one _) fun w' hb ho kq => ?_; clear k1; have k1 := kq; replace hall := hall.trans (hb _ g1); clear hb ho kq; refine kl0 H fun a H => ?_
  refine zA (zB (zF ?_))
  exact k_ret_cell H rfl rfl k1 U36 rfl (s36p (set_ok hp hx)) ⟨rfl, hall⟩
 | 1, _ =>
  have hall := Below.refl w.heap.size w
  refine K_enter 53 Tryz.func77 rfl rfl fun a H => ?_
  replace H := H.pick [0, 1, 2]
  refine zC (zD ?_)
  refine op_box 36 (.tmp 0) (pv p) (H.ev rfl) fun w0 b0 hge hb k0 => ?_; have g0 := Nat.le_trans hall.size hge; replace hall := hall.tr hb; clear hb hge; refine kl H rfl fun a H => ?_
  refine op_alloc 36 (pv pk0) z36 fun w1 b1 hge hb k1 => ?_; have g1 := Nat.le_trans hall.size hge; have h01 : b0 < b1 := Nat.lt_of_lt_of_le k0.lt hge; replace k0 := Block.ups k0 hb; replace hall := hall.tr hb; clear hb hge; refine kl H rfl fun a H => ?_
  refine zA (zB (zC (zC (zD ?_))))
  refine kR 1 H rfl fun a H => ?_
  refine zA (zB ?_)
  refine wp_block ?_
  refine zC (zD ?_)
  refine kV H (r_eq U3 (H.ev rfl) evc (dec_f (by omega))) rfl fun a H => ?_
  refine kR 1 H rfl fun a H => ?_
  refine zA (zB (zG H rfl (zC (zD ?_))))
  refine kV H (r_eq U3 (H.ev rfl) evc (dec_t (by omega))) rfl fun a H => ?_
  refine kR 1 H rfl fun a H => ?_
  refine zA (zB (zH H rfl (zD ?_)))
  refine kR 2 H rfl fun a H => ?_
  refine op_store1 3 (.tmp 15) (.tmp 14) b0 2 36 (.int .i64 x) _ (H.ev rfl) (H.ev rfl) k0 s3 (by rw [pv_size hp]; show 2 + 1 ≤ 36; omega) (by simp [Value.cells, Value.oneCell']) fun w' hb ho kq => ?_; clear k0; have k0 := kq; rw [pv_set hp (by omega)] at k0; replace k1 := block_same k1 (ho _ (by omega)); replace hall := hall.trans (hb _ g0); clear hb ho kq; refine kl0 H fun a H => ?_
  refine zA (n_block (zB (zC (zD ?_))))
  refine kV (v := .agg (pv (p.set 2 x))) H (run_load_row b0 36 _ _ (H.ev rfl) k0 U36 rfl (s36p (set_ok hp hx))) rfl fun a H => ?_
  refine op_store 36 (.tmp 6) (.tmp 52) b1 36 (pv (p.set 2 x)) _ (H.ev rfl) (H.ev rfl) k1 (s36p (set_ok hp hx)) (by rw [pv_size pk0_ok, pv_size (set_ok hp hx)]) (pv_one _) fun w' hb ho kq => ?_; clear k1; have k1 := kq; replace hall := hall.trans (hb _ g1); clear hb ho kq; refine kl0 H fun a H => ?_
  refine zA (zB (zF ?_))
  exact k_ret_cell H rfl rfl k1 U36 rfl (s36p (set_ok hp hx)) ⟨rfl, hall⟩
 | 2, _ =>
  have hall := Below.refl w.heap.size w
  refine K_enter 53 Tryz.func77 rfl rfl fun a H => ?_
  replace H := H.pick [0, 1, 2]
  refine zC (zD ?_)
  refine op_box 36 (.tmp 0) (pv p) (H.ev rfl) fun w0 b0 hge hb k0 => ?_; have g0 := Nat.le_trans hall.size hge; replace hall := hall.tr hb; clear hb hge; refine kl H rfl fun a H => ?_
  refine op_alloc 36 (pv pk0) z36 fun w1 b1 hge hb k1 => ?_; have g1 := Nat.le_trans hall.size hge; have h01 : b0 < b1 := Nat.lt_of_lt_of_le k0.lt hge; replace k0 := Block.ups k0 hb; replace hall := hall.tr hb; clear hb hge; refine kl H rfl fun a H => ?_
  refine zA (zB (zC (zC (zD ?_))))
  refine kR 1 H rfl fun a H => ?_
  refine zA (zB ?_)
  refine wp_block ?_
  refine zC (zD ?_)
  refine kV H (r_eq U3 (H.ev rfl) evc (dec_f (by omega))) rfl fun a H => ?_
  refine kR 1 H rfl fun a H => ?_
  refine zA (zB (zG H rfl (zC (zD ?_))))
  refine kV H (r_eq U3 (H.ev rfl) evc (dec_f (by omega))) rfl fun a H => ?_
  refine kR 1 H rfl fun a H => ?_
  refine zA (zB (zG H rfl (zC (zD ?_))))
  refine kV H (r_eq U3 (H.ev rfl) evc (dec_t (by omega))) rfl fun a H => ?_
  refine kR 1 H rfl fun a H => ?_
  refine zA (zB (zH H rfl (zD ?_)))
  refine kR 2 H rfl fun a H => ?_
  refine op_store1 3 (.tmp 19) (.tmp 18) b0 3 36 (.int .i64 x) _ (H.ev rfl) (H.ev rfl) k0 s3 (by rw [pv_size hp]; show 3 + 1 ≤ 36; omega) (by simp [Value.cells, Value.oneCell']) fun w' hb ho kq => ?_; clear k0; have k0 := kq; rw [pv_set hp (by omega)] at k0; replace k1 := block_same k1 (ho _ (by omega)); replace hall := hall.trans (hb _ g0); clear hb ho kq; refine kl0 H fun a H => ?_
  refine zA (n_block (zB (zC (zD ?_))))
  refine kV (v := .agg (pv (p.set 3 x))) H (run_load_row b0 36 _ _ (H.ev rfl) k0 U36 rfl (s36p (set_ok hp hx))) rfl fun a H => ?_
  refine op_store 36 (.tmp 6) (.tmp 52) b1 36 (pv (p.set 3 x)) _ (H.ev rfl) (H.ev rfl) k1 (s36p (set_ok hp hx)) (by rw [pv_size pk0_ok, pv_size (set_ok hp hx)]) (pv_one _) fun w' hb ho kq => ?_; clear k1; have k1 := kq; replace hall := hall.trans (hb _ g1); clear hb ho kq; refine kl0 H fun a H => ?_
  refine zA (zB (zF ?_))
  exact k_ret_cell H rfl rfl k1 U36 rfl (s36p (set_ok hp hx)) ⟨rfl, hall⟩
 | 3, _ =>
  have hall := Below.refl w.heap.size w
  refine K_enter 53 Tryz.func77 rfl rfl fun a H => ?_
  replace H := H.pick [0, 1, 2]
  refine zC (zD ?_)
  refine op_box 36 (.tmp 0) (pv p) (H.ev rfl) fun w0 b0 hge hb k0 => ?_; have g0 := Nat.le_trans hall.size hge; replace hall := hall.tr hb; clear hb hge; refine kl H rfl fun a H => ?_
  refine op_alloc 36 (pv pk0) z36 fun w1 b1 hge hb k1 => ?_; have g1 := Nat.le_trans hall.size hge; have h01 : b0 < b1 := Nat.lt_of_lt_of_le k0.lt hge; replace k0 := Block.ups k0 hb; replace hall := hall.tr hb; clear hb hge; refine kl H rfl fun a H => ?_
  refine zA (zB (zC (zC (zD ?_))))
  refine kR 1 H rfl fun a H => ?_
  refine zA (zB ?_)
  refine wp_block ?_
  refine zC (zD ?_)
  refine kV H (r_eq U3 (H.ev rfl) evc (dec_f (by omega))) rfl fun a H => ?_
  refine kR 1 H rfl fun a H => ?_
  refine zA (zB (zG H rfl (zC (zD ?_))))
  refine kV H (r_eq U3 (H.ev rfl) evc (dec_f (by omega))) rfl fun a H => ?_
  refine kR 1 H rfl fun a H => ?_
  refine zA (zB (zG H rfl (zC (zD ?_))))
  refine kV H (r_eq U3 (H.ev rfl) evc (dec_f (by omega))) rfl fun a H => ?_
  refine kR 1 H rfl fun a H => ?_
  refine zA (zB (zG H rfl (zC (zD ?_))))
  refine kV H (r_eq U3 (H.ev rfl) evc (dec_t (by omega))) rfl fun a H => ?_
  refine kR 1 H rfl fun a H => ?_
  refine zA (zB (zH H rfl (zD ?_)))
  refine kR 2 H rfl fun a H => ?_
  refine op_store1 3 (.tmp 23) (.tmp 22) b0 4 36 (.int .i64 x) _ (H.ev rfl) (H.ev rfl) k0 s3 (by rw [pv_size hp]; show 4 + 1 ≤ 36; omega) (by simp [Value.cells, Value.oneCell']) fun w' hb ho kq => ?_; clear k0; have k0 := kq; rw [pv_set hp (by omega)] at k0; replace k1 := block_same k1 (ho _ (by omega)); replace hall := hall.trans (hb _ g0); clear hb ho kq; refine kl0 H fun a H => ?_
  refine zA (n_block (zB (zC (zD ?_))))
  refine kV (v := .agg (pv (p.set 4 x))) H (run_load_row b0 36 _ _ (H.ev rfl) k0 U36 rfl (s36p (set_ok hp hx))) rfl fun a H => ?_
  refine op_store 36 (.tmp 6) (.tmp 52) b1 36 (pv (p.set 4 x)) _ (H.ev rfl) (H.ev rfl) k1 (s36p (set_ok hp hx)) (by rw [pv_size pk0_ok, pv_size (set_ok hp hx)]) (pv_one _) fun w' hb ho kq => ?_; clear k1; have k1 := kq; replace hall := hall.trans (hb _ g1); clear hb ho kq; refine kl0 H fun a H => ?_
  refine zA (zB (zF ?_))
  exact k_ret_cell H rfl rfl k1 U36 rfl (s36p (set_ok hp hx)) ⟨rfl, hall⟩
 | 4, _ =>
  have hall := Below.refl w.heap.size w
  refine K_enter 53 Tryz.func77 rfl rfl fun a H => ?_
  replace H := H.pick [0, 1, 2]
  refine zC (zD ?_)
  refine op_box 36 (.tmp 0) (pv p) (H.ev rfl) fun w0 b0 hge hb k0 => ?_; have g0 := Nat.le_trans hall.size hge; replace hall := hall.tr hb; clear hb hge; refine kl H rfl fun a H => ?_
  refine op_alloc 36 (pv pk0) z36 fun w1 b1 hge hb k1 => ?_; have g1 := Nat.le_trans hall.size hge; have h01 : b0 < b1 := Nat.lt_of_lt_of_le k0.lt hge; replace k0 := Block.ups k0 hb; replace hall := hall.tr hb; clear hb hge; refine kl H rfl fun a H => ?_
  refine zA (zB (zC (zC (zD ?_))))
  refine kR 1 H rfl fun a H => ?_
  refine zA (zB ?_)
  refine wp_block ?_
  refine zC (zD ?_)
  refine kV H (r_eq U3 (H.ev rfl) evc (dec_f (by omega))) rfl fun a H => ?_
  refine kR 1 H rfl fun a H => ?_
  refine zA (zB (zG H rfl (zC (zD ?_))))
  refine kV H (r_eq U3 (H.ev rfl) evc (dec_f (by omega))) rfl fun a H => ?_
  refine kR 1 H rfl fun a H => ?_
  refine zA (zB (zG H rfl (zC (zD ?_))))
  refine kV H (r_eq U3 (H.ev rfl) evc (dec_f (by omega))) rfl fun a H => ?_
  refine kR 1 H rfl fun a H => ?_
  refine zA (zB (zG H rfl (zC (zD ?_))))
  refine kV H (r_eq U3 (H.ev rfl) evc (dec_f (by omega))) rfl fun a H => ?_
  refine kR 1 H rfl fun a H => ?_
  refine zA (zB (zG H rfl (zC (zD ?_))))
  refine kV H (r_eq U3 (H.ev rfl) evc (dec_t (by omega))) rfl fun a H => ?_
  refine kR 1 H rfl fun a H => ?_
  refine zA (zB (zH H rfl (zD ?_)))
  refine kR 2 H rfl fun a H => ?_
  refine op_store1 3 (.tmp 27) (.tmp 26) b0 5 36 (.int .i64 x) _ (H.ev rfl) (H.ev rfl) k0 s3 (by rw [pv_size hp]; show 5 + 1 ≤ 36; omega) (by simp [Value.cells, Value.oneCell']) fun w' hb ho kq => ?_; clear k0; have k0 := kq; rw [pv_set hp (by omega)] at k0; replace k1 := block_same k1 (ho _ (by omega)); replace hall := hall.trans (hb _ g0); clear hb ho kq; refine kl0 H fun a H => ?_
  refine zA (n_block (zB (zC (zD ?_))))
  refine kV (v := .agg (pv (p.set 5 x))) H (run_load_row b0 36 _ _ (H.ev rfl) k0 U36 rfl (s36p (set_ok hp hx))) rfl fun a H => ?_
  refine op_store 36 (.tmp 6) (.tmp 52) b1 36 (pv (p.set 5 x)) _ (H.ev rfl) (H.ev rfl) k1 (s36p (set_ok hp hx)) (by rw [pv_size pk0_ok, pv_size (set_ok hp hx)]) (pv_one _) fun w' hb ho kq => ?_; clear k1; have k1 := kq; replace hall := hall.trans (hb _ g1); clear hb ho kq; refine kl0 H fun a H => ?_
  refine zA (zB (zF ?_))
  exact k_ret_cell H rfl rfl k1 U36 rfl (s36p (set_ok hp hx)) ⟨rfl, hall⟩
 | 5, _ =>
  have hall := Below.refl w.heap.size w
  refine K_enter 53 Tryz.func77 rfl rfl fun a H => ?_
  replace H := H.pick [0, 1, 2]
  refine zC (zD ?_)
  refine op_box 36 (.tmp 0) (pv p) (H.ev rfl) fun w0 b0 hge hb k0 => ?_; have g0 := Nat.le_trans hall.size hge; replace hall := hall.tr hb; clear hb hge; refine kl H rfl fun a H => ?_
  refine op_alloc 36 (pv pk0) z36 fun w1 b1 hge hb k1 => ?_; have g1 := Nat.le_trans hall.size hge; have h01 : b0 < b1 := Nat.lt_of_lt_of_le k0.lt hge; replace k0 := Block.ups k0 hb; replace hall := hall.tr hb; clear hb hge; refine kl H rfl fun a H => ?_
  refine zA (zB (zC (zC (zD ?_))))
  refine kR 1 H rfl fun a H => ?_
  refine zA (zB ?_)
  refine wp_block ?_
  refine zC (zD ?_)
  refine kV H (r_eq U3 (H.ev rfl) evc (dec_f (by omega))) rfl fun a H => ?_
  refine kR 1 H rfl fun a H => ?_
  refine zA (zB (zG H rfl (zC (zD ?_))))
  refine kV H (r_eq U3 (H.ev rfl) evc (dec_f (by omega))) rfl fun a H => ?_
  refine kR 1 H rfl fun a H => ?_
  refine zA (zB (zG H rfl (zC (zD ?_))))
  refine kV H (r_eq U3 (H.ev rfl) evc (dec_f (by omega))) rfl fun a H => ?_
  refine kR 1 H rfl fun a H => ?_
  refine zA (zB (zG H rfl (zC (zD ?_))))
  refine kV H (r_eq U3 (H.ev rfl) evc (dec_f (by omega))) rfl fun a H => ?_
  refine kR 1 H rfl fun a H => ?_
  refine zA (zB (zG H rfl (zC (zD ?_))))
  refine kV H (r_eq U3 (H.ev rfl) evc (dec_f (by omega))) rfl fun a H => ?_
  refine kR 1 H rfl fun a H => ?_
  refine zA (zB (zG H rfl (zC (zD ?_))))
  refine kV H (r_eq U3 (H.ev rfl) evc (dec_t (by omega))) rfl fun a H => ?_
  refine kR 1 H rfl fun a H => ?_
  refine zA (zB (zH H rfl (zD ?_)))
  refine kR 2 H rfl fun a H => ?_
  refine op_store1 3 (.tmp 31) (.tmp 30) b0 6 36 (.int .i64 x) _ (H.ev rfl) (H.ev rfl) k0 s3 (by rw [pv_size hp]; show 6 + 1 ≤ 36; omega) (by simp [Value.cells, Value.oneCell']) fun w' hb ho kq => ?_; clear k0; have k0 := kq; rw [pv_set hp (by omega)] at k0; replace k1 := block_same k1 (ho _ (by omega)); replace hall := hall.trans (hb _ g0); clear hb ho kq; refine kl0 H fun a H => ?_
  refine zA (n_block (zB (zC (zD ?_))))
  refine kV (v := .agg (pv (p.set 6 x))) H (run_load_row b0 36 _ _ (H.ev rfl) k0 U36 rfl (s36p (set_ok hp hx))) rfl fun a H => ?_
  refine op_store 36 (.tmp 6) (.tmp 52) b1 36 (pv (p.set 6 x)) _ (H.ev rfl) (H.ev rfl) k1 (s36p (set_ok hp hx)) (by rw [pv_size pk0_ok, pv_size (set_ok hp hx)]) (pv_one _) fun w' hb ho kq => ?_; clear k1; have k1 := kq; replace hall := hall.trans (hb _ g1); clear hb ho kq; refine kl0 H fun a H => ?_
  refine zA (zB (zF ?_))
  exact k_ret_cell H rfl rfl k1 U36 rfl (s36p (set_ok hp hx)) ⟨rfl, hall⟩
 | 6, _ =>
  have hall := Below.refl w.heap.size w
  refine K_enter 53 Tryz.func77 rfl rfl fun a H => ?_
  replace H := H.pick [0, 1, 2]
  refine zC (zD ?_)
  refine op_box 36 (.tmp 0) (pv p) (H.ev rfl) fun w0 b0 hge hb k0 => ?_; have g0 := Nat.le_trans hall.size hge; replace hall := hall.tr hb; clear hb hge; refine kl H rfl fun a H => ?_
  refine op_alloc 36 (pv pk0) z36 fun w1 b1 hge hb k1 => ?_; have g1 := Nat.le_trans hall.size hge; have h01 : b0 < b1 := Nat.lt_of_lt_of_le k0.lt hge; replace k0 := Block.ups k0 hb; replace hall := hall.tr hb; clear hb hge; refine kl H rfl fun a H => ?_
  refine zA (zB (zC (zC (zD ?_))))
  refine kR 1 H rfl fun a H => ?_
  refine zA (zB ?_)
  refine wp_block ?_
  refine zC (zD ?_)
  refine kV H (r_eq U3 (H.ev rfl) evc (dec_f (by omega))) rfl fun a H => ?_
  refine kR 1 H rfl fun a H => ?_
  refine zA (zB (zG H rfl (zC (zD ?_))))
  refine kV H (r_eq U3 (H.ev rfl) evc (dec_f (by omega))) rfl fun a H => ?_
  refine kR 1 H rfl fun a H => ?_
  refine zA (zB (zG H rfl (zC (zD ?_))))
  refine kV H (r_eq U3 (H.ev rfl) evc (dec_f (by omega))) rfl fun a H => ?_
  refine kR 1 H rfl fun a H => ?_
  refine zA (zB (zG H rfl (zC (zD ?_))))
  refine kV H (r_eq U3 (H.ev rfl) evc (dec_f (by omega))) rfl fun a H => ?_
  refine kR 1 H rfl fun a H => ?_
  refine zA (zB (zG H rfl (zC (zD ?_))))
  refine kV H (r_eq U3 (H.ev rfl) evc (dec_f (by omega))) rfl fun a H => ?_
  refine kR 1 H rfl fun a H => ?_
  refine zA (zB (zG H rfl (zC (zD ?_))))
  refine kV H (r_eq U3 (H.ev rfl) evc (dec_f (by omega))) rfl fun a H => ?_
  refine kR 1 H rfl fun a H => ?_
  refine zA (zB (zG H rfl (zC (zD ?_))))
  refine kV H (r_eq U3 (H.ev rfl) evc (dec_t (by omega))) rfl fun a H => ?_
  refine kR 1 H rfl fun a H => ?_
  refine zA (zB (zH H rfl (zD ?_)))
  refine kR 2 H rfl fun a H => ?_
  refine op_store1 3 (.tmp 35) (.tmp 34) b0 7 36 (.int .i64 x) _ (H.ev rfl) (H.ev rfl) k0 s3 (by rw [pv_size hp]; show 7 + 1 ≤ 36; omega) (by simp [Value.cells, Value.oneCell']) fun w' hb ho kq => ?_; clear k0; have k0 := kq; rw [pv_set hp (by omega)] at k0; replace k1 := block_same k1 (ho _ (by omega)); replace hall := hall.trans (hb _ g0); clear hb ho kq; refine kl0 H fun a H => ?_
  refine zA (n_block (zB (zC (zD ?_))))
  refine kV (v := .agg (pv (p.set 7 x))) H (run_load_row b0 36 _ _ (H.ev rfl) k0 U36 rfl (s36p (set_ok hp hx))) rfl fun a H => ?_
  refine op_store 36 (.tmp 6) (.tmp 52) b1 36 (pv (p.set 7 x)) _ (H.ev rfl) (H.ev rfl) k1 (s36p (set_ok hp hx)) (by rw [pv_size pk0_ok, pv_size (set_ok hp hx)]) (pv_one _) fun w' hb ho kq => ?_; clear k1; have k1 := kq; replace hall := hall.trans (hb _ g1); clear hb ho kq; refine kl0 H fun a H => ?_
  refine zA (zB (zF ?_))
  exact k_ret_cell H rfl rfl k1 U36 rfl (s36p (set_ok hp hx)) ⟨rfl, hall⟩
 | 7, _ =>
  have hall := Below.refl w.heap.size w
  refine K_enter 53 Tryz.func77 rfl rfl fun a H => ?_
  replace H := H.pick [0, 1, 2]
  refine zC (zD ?_)
  refine op_box 36 (.tmp 0) (pv p) (H.ev rfl) fun w0 b0 hge hb k0 => ?_; have g0 := Nat.le_trans hall.size hge; replace hall := hall.tr hb; clear hb hge; refine kl H rfl fun a H => ?_
  refine op_alloc 36 (pv pk0) z36 fun w1 b1 hge hb k1 => ?_; have g1 := Nat.le_trans hall.size hge; have h01 : b0 < b1 := Nat.lt_of_lt_of_le k0.lt hge; replace k0 := Block.ups k0 hb; replace hall := hall.tr hb; clear hb hge; refine kl H rfl fun a H => ?_
  refine zA (zB (zC (zC (zD ?_))))
  refine kR 1 H rfl fun a H => ?_
  refine zA (zB ?_)
  refine wp_block ?_
  refine zC (zD ?_)
  refine kV H (r_eq U3 (H.ev rfl) evc (dec_f (by omega))) rfl fun a H => ?_
  refine kR 1 H rfl fun a H => ?_
  refine zA (zB (zG H rfl (zC (zD ?_))))
  refine kV H (r_eq U3 (H.ev rfl) evc (dec_f (by omega))) rfl fun a H => ?_
  refine kR 1 H rfl fun a H => ?_
  refine zA (zB (zG H rfl (zC (zD ?_))))
  refine kV H (r_eq U3 (H.ev rfl) evc (dec_f (by omega))) rfl fun a H => ?_
  refine kR 1 H rfl fun a H => ?_
  refine zA (zB (zG H rfl (zC (zD ?_))))
  refine kV H (r_eq U3 (H.ev rfl) evc (dec_f (by omega))) rfl fun a H => ?_
  refine kR 1 H rfl fun a H => ?_
  refine zA (zB (zG H rfl (zC (zD ?_))))
  refine kV H (r_eq U3 (H.ev rfl) evc (dec_f (by omega))) rfl fun a H => ?_
  refine kR 1 H rfl fun a H => ?_
  refine zA (zB (zG H rfl (zC (zD ?_))))
  refine kV H (r_eq U3 (H.ev rfl) evc (dec_f (by omega))) rfl fun a H => ?_
  refine kR 1 H rfl fun a H => ?_
  refine zA (zB (zG H rfl (zC (zD ?_))))
  refine kV H (r_eq U3 (H.ev rfl) evc (dec_f (by omega))) rfl fun a H => ?_
  refine kR 1 H rfl fun a H => ?_
  refine zA (zB (zG H rfl (zC (zD ?_))))
  refine kV H (r_eq U3 (H.ev rfl) evc (dec_t (by omega))) rfl fun a H => ?_
  refine kR 1 H rfl fun a H => ?_
  refine zA (zB (zH H rfl (zD ?_)))
  refine kR 2 H rfl fun a H => ?_
  refine op_store1 3 (.tmp 39) (.tmp 38) b0 8 36 (.int .i64 x) _ (H.ev rfl) (H.ev rfl) k0 s3 (by rw [pv_size hp]; show 8 + 1 ≤ 36; omega) (by simp [Value.cells, Value.oneCell']) fun w' hb ho kq => ?_; clear k0; have k0 := kq; rw [pv_set hp (by omega)] at k0; replace k1 := block_same k1 (ho _ (by omega)); replace hall := hall.trans (hb _ g0); clear hb ho kq; refine kl0 H fun a H => ?_
  refine zA (n_block (zB (zC (zD ?_))))
  refine kV (v := .agg (pv (p.set 8 x))) H (run_load_row b0 36 _ _ (H.ev rfl) k0 U36 rfl (s36p (set_ok hp hx))) rfl fun a H => ?_
  refine op_store 36 (.tmp 6) (.tmp 52) b1 36 (pv (p.set 8 x)) _ (H.ev rfl) (H.ev rfl) k1 (s36p (set_ok hp hx)) (by rw [pv_size pk0_ok, pv_size (set_ok hp hx)]) (pv_one _) fun w' hb ho kq => ?_; clear k1; have k1 := kq; replace hall := hall.trans (hb _ g1); clear hb ho kq; refine kl0 H fun a H => ?_
  refine zA (zB (zF ?_))
  exact k_ret_cell H rfl rfl k1 U36 rfl (s36p (set_ok hp hx)) ⟨rfl, hall⟩
 | 8, _ =>
  have hall := Below.refl w.heap.size w
  refine K_enter 53 Tryz.func77 rfl rfl fun a H => ?_
  replace H := H.pick [0, 1, 2]
  refine zC (zD ?_)
  refine op_box 36 (.tmp 0) (pv p) (H.ev rfl) fun w0 b0 hge hb k0 => ?_; have g0 := Nat.le_trans hall.size hge; replace hall := hall.tr hb; clear hb hge; refine kl H rfl fun a H => ?_
  refine op_alloc 36 (pv pk0) z36 fun w1 b1 hge hb k1 => ?_; have g1 := Nat.le_trans hall.size hge; have h01 : b0 < b1 := Nat.lt_of_lt_of_le k0.lt hge; replace k0 := Block.ups k0 hb; replace hall := hall.tr hb; clear hb hge; refine kl H rfl fun a H => ?_
  refine zA (zB (zC (zC (zD ?_))))
  refine kR 1 H rfl fun a H => ?_
  refine zA (zB ?_)
  refine wp_block ?_
  refine zC (zD ?_)
  refine kV H (r_eq U3 (H.ev rfl) evc (dec_f (by omega))) rfl fun a H => ?_
  refine kR 1 H rfl fun a H => ?_
  refine zA (zB (zG H rfl (zC (zD ?_))))
  refine kV H (r_eq U3 (H.ev rfl) evc (dec_f (by omega))) rfl fun a H => ?_
  refine kR 1 H rfl fun a H => ?_
  refine zA (zB (zG H rfl (zC (zD ?_))))
  refine kV H (r_eq U3 (H.ev rfl) evc (dec_f (by omega))) rfl fun a H => ?_
  refine kR 1 H rfl fun a H => ?_
  refine zA (zB (zG H rfl (zC (zD ?_))))
  refine kV H (r_eq U3 (H.ev rfl) evc (dec_f (by omega))) rfl fun a H => ?_
  refine kR 1 H rfl fun a H => ?_
  refine zA (zB (zG H rfl (zC (zD ?_))))
  refine kV H (r_eq U3 (H.ev rfl) evc (dec_f (by omega))) rfl fun a H => ?_
  refine kR 1 H rfl fun a H => ?_
  refine zA (zB (zG H rfl (zC (zD ?_))))
  refine kV H (r_eq U3 (H.ev rfl) evc (dec_f (by omega))) rfl fun a H => ?_
  refine kR 1 H rfl fun a H => ?_
  refine zA (zB (zG H rfl (zC (zD ?_))))
  refine kV H (r_eq U3 (H.ev rfl) evc (dec_f (by omega))) rfl fun a H => ?_
  refine kR 1 H rfl fun a H => ?_
  refine zA (zB (zG H rfl (zC (zD ?_))))
  refine kV H (r_eq U3 (H.ev rfl) evc (dec_f (by omega))) rfl fun a H => ?_
  refine kR 1 H rfl fun a H => ?_
  refine zA (zB (zG H rfl (zC (zD ?_))))
  refine kV H (r_eq U3 (H.ev rfl) evc (dec_t (by omega))) rfl fun a H => ?_
  refine kR 1 H rfl fun a H => ?_
  refine zA (zB (zH H rfl (zD ?_)))
  refine kR 2 H rfl fun a H => ?_
  refine op_store1 3 (.tmp 43) (.tmp 42) b0 9 36 (.int .i64 x) _ (H.ev rfl) (H.ev rfl) k0 s3 (by rw [pv_size hp]; show 9 + 1 ≤ 36; omega) (by simp [Value.cells, Value.oneCell']) fun w' hb ho kq => ?_; clear k0; have k0 := kq; rw [pv_set hp (by omega)] at k0; replace k1 := block_same k1 (ho _ (by omega)); replace hall := hall.trans (hb _ g0); clear hb ho kq; refine kl0 H fun a H => ?_
  refine zA (n_block (zB (zC (zD ?_))))
  refine kV (v := .agg (pv (p.set 9 x))) H (run_load_row b0 36 _ _ (H.ev rfl) k0 U36 rfl (s36p (set_ok hp hx))) rfl fun a H => ?_
  refine op_store 36 (.tmp 6) (.tmp 52) b1 36 (pv (p.set 9 x)) _ (H.ev rfl) (H.ev rfl) k1 (s36p (set_ok hp hx)) (by rw [pv_size pk0_ok, pv_size (set_ok hp hx)]) (pv_one _) fun w' hb ho kq => ?_; clear k1; have k1 := kq; replace hall := hall.trans (hb _ g1); clear hb ho kq; refine kl0 H fun a H => ?_
  refine zA (zB (zF ?_))
  exact k_ret_cell H rfl rfl k1 U36 rfl (s36p (set_ok hp hx)) ⟨rfl, hall⟩
 | 9, _ =>
  have hall := Below.refl w.heap.size w
  refine K_enter 53 Tryz.func77 rfl rfl fun a H => ?_
  replace H := H.pick [0, 1, 2]
  refine zC (zD ?_)
  refine op_box 36 (.tmp 0) (pv p) (H.ev rfl) fun w0 b0 hge hb k0 => ?_; have g0 := Nat.le_trans hall.size hge; replace hall := hall.tr hb; clear hb hge; refine kl H rfl fun a H => ?_
  refine op_alloc 36 (pv pk0) z36 fun w1 b1 hge hb k1 => ?_; have g1 := Nat.le_trans hall.size hge; have h01 : b0 < b1 := Nat.lt_of_lt_of_le k0.lt hge; replace k0 := Block.ups k0 hb; replace hall := hall.tr hb; clear hb hge; refine kl H rfl fun a H => ?_
  refine zA (zB (zC (zC (zD ?_))))
  refine kR 1 H rfl fun a H => ?_
  refine zA (zB ?_)
  refine wp_block ?_
  refine zC (zD ?_)
  refine kV H (r_eq U3 (H.ev rfl) evc (dec_f (by omega))) rfl fun a H => ?_
  refine kR 1 H rfl fun a H => ?_
  refine zA (zB (zG H rfl (zC (zD ?_))))
  refine kV H (r_eq U3 (H.ev rfl) evc (dec_f (by omega))) rfl fun a H => ?_
  refine kR 1 H rfl fun a H => ?_
  refine zA (zB (zG H rfl (zC (zD ?_))))
  refine kV H (r_eq U3 (H.ev rfl) evc (dec_f (by omega))) rfl fun a H => ?_
  refine kR 1 H rfl fun a H => ?_
  refine zA (zB (zG H rfl (zC (zD ?_))))
  refine kV H (r_eq U3 (H.ev rfl) evc (dec_f (by omega))) rfl fun a H => ?_
  refine kR 1 H rfl fun a H => ?_
  refine zA (zB (zG H rfl (zC (zD ?_))))
  refine kV H (r_eq U3 (H.ev rfl) evc (dec_f (by omega))) rfl fun a H => ?_
  refine kR 1 H rfl fun a H => ?_
  refine zA (zB (zG H rfl (zC (zD ?_))))
  refine kV H (r_eq U3 (H.ev rfl) evc (dec_f (by omega))) rfl fun a H => ?_
  refine kR 1 H rfl fun a H => ?_
  refine zA (zB (zG H rfl (zC (zD ?_))))
  refine kV H (r_eq U3 (H.ev rfl) evc (dec_f (by omega))) rfl fun a H => ?_
  refine kR 1 H rfl fun a H => ?_
  refine zA (zB (zG H rfl (zC (zD ?_))))
  refine kV H (r_eq U3 (H.ev rfl) evc (dec_f (by omega))) rfl fun a H => ?_
  refine kR 1 H rfl fun a H => ?_
  refine zA (zB (zG H rfl (zC (zD ?_))))
  refine kV H (r_eq U3 (H.ev rfl) evc (dec_f (by omega))) rfl fun a H => ?_
  refine kR 1 H rfl fun a H => ?_
  refine zA (zB (zG H rfl (zC (zD ?_))))
  refine kV H (r_eq U3 (H.ev rfl) evc (dec_t (by omega))) rfl fun a H => ?_
  refine kR 1 H rfl fun a H => ?_
  refine zA (zB (zH H rfl (zD ?_)))
  refine kR 2 H rfl fun a H => ?_
  refine op_store1 3 (.tmp 47) (.tmp 46) b0 10 36 (.int .i64 x) _ (H.ev rfl) (H.ev rfl) k0 s3 (by rw [pv_size hp]; show 10 + 1 ≤ 36; omega) (by simp [Value.cells, Value.oneCell']) fun w' hb ho kq => ?_; clear k0; have k0 := kq; rw [pv_set hp (by omega)] at k0; replace k1 := block_same k1 (ho _ (by omega)); replace hall := hall.trans (hb _ g0); clear hb ho kq; refine kl0 H fun a H => ?_
  refine zA (n_block (zB (zC (zD ?_))))
  refine kV (v := .agg (pv (p.set 10 x))) H (run_load_row b0 36 _ _ (H.ev rfl) k0 U36 rfl (s36p (set_ok hp hx))) rfl fun a H => ?_
  refine op_store 36 (.tmp 6) (.tmp 52) b1 36 (pv (p.set 10 x)) _ (H.ev rfl) (H.ev rfl) k1 (s36p (set_ok hp hx)) (by rw [pv_size pk0_ok, pv_size (set_ok hp hx)]) (pv_one _) fun w' hb ho kq => ?_; clear k1; have k1 := kq; replace hall := hall.trans (hb _ g1); clear hb ho kq; refine kl0 H fun a H => ?_
  refine zA (zB (zF ?_))
  exact k_ret_cell H rfl rfl k1 U36 rfl (s36p (set_ok hp hx)) ⟨rfl, hall⟩
 | 10, _ =>
  have hall := Below.refl w.heap.size w
  refine K_enter 53 Tryz.func77 rfl rfl fun a H => ?_
  replace H := H.pick [0, 1, 2]
  refine zC (zD ?_)
  refine op_box 36 (.tmp 0) (pv p) (H.ev rfl) fun w0 b0 hge hb k0 => ?_; have g0 := Nat.le_trans hall.size hge; replace hall := hall.tr hb; clear hb hge; refine kl H rfl fun a H => ?_
  refine op_alloc 36 (pv pk0) z36 fun w1 b1 hge hb k1 => ?_; have g1 := Nat.le_trans hall.size hge; have h01 : b0 < b1 := Nat.lt_of_lt_of_le k0.lt hge; replace k0 := Block.ups k0 hb; replace hall := hall.tr hb; clear hb hge; refine kl H rfl fun a H => ?_
  refine zA (zB (zC (zC (zD ?_))))
  refine kR 1 H rfl fun a H => ?_
  refine zA (zB ?_)
  refine wp_block ?_
  refine zC (zD ?_)
  refine kV H (r_eq U3 (H.ev rfl) evc (dec_f (by omega))) rfl fun a H => ?_
  refine kR 1 H rfl fun a H => ?_
  refine zA (zB (zG H rfl (zC (zD ?_))))
  refine kV H (r_eq U3 (H.ev rfl) evc (dec_f (by omega))) rfl fun a H => ?_
  refine kR 1 H rfl fun a H => ?_
  refine zA (zB (zG H rfl (zC (zD ?_))))
  refine kV H (r_eq U3 (H.ev rfl) evc (dec_f (by omega))) rfl fun a H => ?_
  refine kR 1 H rfl fun a H => ?_
  refine zA (zB (zG H rfl (zC (zD ?_))))
  refine kV H (r_eq U3 (H.ev rfl) evc (dec_f (by omega))) rfl fun a H => ?_
  refine kR 1 H rfl fun a H => ?_
  refine zA (zB (zG H rfl (zC (zD ?_))))
  refine kV H (r_eq U3 (H.ev rfl) evc (dec_f (by omega))) rfl fun a H => ?_
  refine kR 1 H rfl fun a H => ?_
  refine zA (zB (zG H rfl (zC (zD ?_))))
  refine kV H (r_eq U3 (H.ev rfl) evc (dec_f (by omega))) rfl fun a H => ?_
  refine kR 1 H rfl fun a H => ?_
  refine zA (zB (zG H rfl (zC (zD ?_))))
  refine kV H (r_eq U3 (H.ev rfl) evc (dec_f (by omega))) rfl fun a H => ?_
  refine kR 1 H rfl fun a H => ?_
  refine zA (zB (zG H rfl (zC (zD ?_))))
  refine kV H (r_eq U3 (H.ev rfl) evc (dec_f (by omega))) rfl fun a H => ?_
  refine kR 1 H rfl fun a H => ?_
  refine zA (zB (zG H rfl (zC (zD ?_))))
  refine kV H (r_eq U3 (H.ev rfl) evc (dec_f (by omega))) rfl fun a H => ?_
  refine kR 1 H rfl fun a H => ?_
  refine zA (zB (zG H rfl (zC (zD ?_))))
  refine kV H (r_eq U3 (H.ev rfl) evc (dec_f (by omega))) rfl fun a H => ?_
  refine kR 1 H rfl fun a H => ?_
  refine zA (zB (zG H rfl (zC (zD ?_))))
  refine kV H (r_eq U3 (H.ev rfl) evc (dec_t (by omega))) rfl fun a H => ?_
  refine kR 1 H rfl fun a H => ?_
  refine zA (zB (zH H rfl (zD ?_)))
  refine kR 2 H rfl fun a H => ?_
  refine op_store1 3 (.tmp 51) (.tmp 50) b0 11 36 (.int .i64 x) _ (H.ev rfl) (H.ev rfl) k0 s3 (by rw [pv_size hp]; show 11 + 1 ≤ 36; omega) (by simp [Value.cells, Value.oneCell']) fun w' hb ho kq => ?_; clear k0; have k0 := kq; rw [pv_set hp (by omega)] at k0; replace k1 := block_same k1 (ho _ (by omega)); replace hall := hall.trans (hb _ g0); clear hb ho kq; refine kl0 H fun a H => ?_
  refine zA (n_block (zB (zC (zD ?_))))
  refine kV (v := .agg (pv (p.set 11 x))) H (run_load_row b0 36 _ _ (H.ev rfl) k0 U36 rfl (s36p (set_ok hp hx))) rfl fun a H => ?_
  refine op_store 36 (.tmp 6) (.tmp 52) b1 36 (pv (p.set 11 x)) _ (H.ev rfl) (H.ev rfl) k1 (s36p (set_ok hp hx)) (by rw [pv_size pk0_ok, pv_size (set_ok hp hx)]) (pv_one _) fun w' hb ho kq => ?_; clear k1; have k1 := kq; replace hall := hall.trans (hb _ g1); clear hb ho kq; refine kl0 H fun a H => ?_
  refine zA (zB (zF ?_))
  exact k_ret_cell H rfl rfl k1 U36 rfl (s36p (set_ok hp hx)) ⟨rfl, hall⟩
def GrownOf (b : Nat) (W w : World) : Prop := W.grownBy w (some b)
theorem grown_drew (b : Nat) (w : World) : GrownOf b w w.drew := ⟨rfl, rfl, rfl, Nat.le_refl _, fun _ _ _ => rfl⟩
theorem Rd.lt {w : World} {b : Nat} {T : TypeId} {l : List B8} {bad : Bool} (h : Rd w b T l bad) : b < w.heap.size := by
 obtain ⟨A, c, k, _⟩ := h
 exact k.lt
theorem grown_down {W w w' : World} {b : Nat} (h : Below W.heap.size W w) (hg : w.grownBy w' (some b)) (hb : W.heap.size ≤ b) : Below W.heap.size W w' :=
 ⟨hg.os.trans h.os, hg.tape.trans h.tape, hg.output.trans h.output, Nat.le_trans h.size hg.size, fun k hk => (hg.block k (Nat.lt_of_lt_of_le hk h.size) (by simp; omega)).trans (h.block k hk)⟩
theorem Holds.grown1 {w w' : World} {g o b : Nat} {xs : List Value} (h : Holds w (some ⟨g, o, none⟩) xs) (hg : w.grownBy w' (some b)) (hne : b < g) : Holds w' (some ⟨g, o, none⟩) xs := fun j hj => by
 obtain ⟨q, o', he, hc⟩ := h j hj
 refine ⟨q, o', he, ?_⟩
 injection he with he
 injection he with e1 e2
 subst e1 e2
 have hlt := World.block_lt_of_cell? w _ (hc.trans (List.getElem?_eq_getElem hj))
 rw [← hc]
 unfold World.cell?
 rw [hg.block g hlt (by simp; omega)]
theorem Holds.same1 {w w' : World} {g o : Nat} {xs : List Value} (h : Holds w (some ⟨g, o, none⟩) xs) (hs : w'.heap[g]? = w.heap[g]?) : Holds w' (some ⟨g, o, none⟩) xs := fun j hj => by
 obtain ⟨q, o', he, hc⟩ := h j hj
 refine ⟨q, o', he, ?_⟩
 injection he with he
 injection he with e1 e2
 subst e1 e2
 rw [← hc]
 unfold World.cell?
 rw [hs]
theorem sl_above {A : Option Addr} {n b : Nat} {L : List (Nat × Nat × Nat × Nat)} (h : (A = none ∧ L = []) ∨ ∃ g, A = some ⟨g, 0, none⟩ ∧ n ≤ g ∧ L ≠ []) (hb : b < n) : ∀ g o, A = some ⟨g, o, none⟩ → b < g := by
 rcases h with ⟨rfl, _⟩ | ⟨g, rfl, hg, _⟩
 ·
  intro g o e
  cases e
 ·
  intro g' o e
  injection e with e
  injection e with e1 e2
  omega
theorem k_ret_cell2 {P : Program} {a : Act} {w : World} {n : Nat} {l : List (Nat × Value)} {fn : Func} {R : Ending → World → Prop} {p u : Tmp} {ty : TypeId} {g : Nat} {t : TypeId} {C : Array Value} {x : Value} {ds : TypeDesc} (H : Kn a n l) (hf : fn.results = #[.cell p ty, .tmp u]) (hp : lk l p = some (.pointer (some ⟨g, 0, none⟩))) (hx : lk l u = some x)
  (hg : Block w g t C) (hu : P.underlying ty = some ds) (hd : (match ds with | .struct _ | .array _ _ => true | _ => false) = true) (hi : (P.info? ty).map (·.size) = some C.size) (h : R (.returned (.tuple #[.agg C, x])) w) : bodyPost P fn R .ret a w := by
 refine ⟨H.defers, _, res_row_tmp hf a.tmps w g t C ds (H.at_ p _ hp) hg hu hd hi, ?_⟩
 rw [H.at_ u x hx]
 exact h
/-- a packet of a kind alone -/
def kpk (k : Nat) : Pkt := ⟨[(k : Int), 0, 0, 0, 0, 0, 0, 0, 0, 0, 0, 0], List.replicate 16 0, List.replicate 8 0⟩
theorem kpk_ok {k : Nat} (h : k < 281474976710656) : (kpk k).ok := ⟨rfl, rfl, rfl, fun x hx => by
 simp only [kpk, List.mem_cons, List.not_mem_nil, or_false] at hx
 omega⟩
theorem r_kpk {d : Option Tmp} {tt : TypeId} {ps : String} {af : Array Edge} {gd : Option (Nat × Bool)} {a : Act} {w : World} {x : Operand} {k : Nat} (hx : a.eval x = .int .i64 (k : Nat)) :
  (execOp a.eval ⟨d, .build 36 #[(0, x)], tt, ps, af, gd⟩).run Tryz.prog w = .ok (.value (.agg (pv (kpk k)))) w :=
 r_build #[(0, .int .i64 (k : Nat))] (.agg (pv (kpk k))) (by simp [hx]) (fun w => by kernel_rfl)
/-- the reader's next state -/
def stepR (x : List B8 × Bool) (n : Nat) : List B8 × Bool := (tkL x.1 x.2 n, tkB x.1 x.2 n)
def dnx (x : (List B8 × Bool) × Pkt) (s : Nat × Nat × Nat × Nat) : (List B8 × Bool) × Pkt := (stepR x.1 s.2.1, x.2.set (atF s.1) (numF (tkO x.1.1 x.1.2 s.2.1) : Nat))
/-- what is read of a kind's first i slots -/
def dst (L : List (Nat × Nat × Nat × Nat)) (bs : List B8) (kd : Nat) (i : Nat) : (List B8 × Bool) × Pkt := (L.take i).foldl dnx (stepR (bs, false) 1, kpk kd)
theorem dst_next {L : List (Nat × Nat × Nat × Nat)} {bs : List B8} {kd i : Nat} {s : Nat × Nat × Nat × Nat} (h : L[i]? = some s) : dst L bs kd (i + 1) = dnx (dst L bs kd i) s := by
 obtain ⟨hi, rfl⟩ := List.getElem?_eq_some_iff.1 h
 simp only [dst, List.take_succ_eq_append_getElem hi, List.foldl_append, List.foldl_cons, List.foldl_nil]
theorem dst_le {L : List (Nat × Nat × Nat × Nat)} {bs : List B8} {kd : Nat} : ∀ i, (dst L bs kd i).1.1.length ≤ bs.length
 | 0 => tkL_le _ _ _
 | i + 1 => by
  cases h : L[i]? with
  | none =>
   have hl : L.length ≤ i := List.getElem?_eq_none_iff.1 h
   have := dst_le (L := L) (bs := bs) (kd := kd) i
   simp only [dst, List.take_of_length_le hl, List.take_of_length_le (Nat.le_succ_of_le hl)] at this ⊢
   exact this
  | some s => rw [dst_next h]; exact Nat.le_trans (tkL_le _ _ _) (dst_le i)
theorem dst_len {L : List (Nat × Nat × Nat × Nat)} {bs : List B8} {kd i : Nat} (hn : bs.length ≤ 1000000) : (dst L bs kd i).1.1.length ≤ 1000000 := Nat.le_trans (dst_le i) hn
theorem num_in (l : List B8) (bad : Bool) {n : Nat} (h : n ≤ 7) : -9223372036854775808 ≤ ((numF (tkO l bad n) : Nat) : Int) ∧ ((numF (tkO l bad n) : Nat) : Int) ≤ 9223372036854775807 := by
 have h1 := numF_pow (tkO l bad n)
 have h2 : 256 ^ (tkO l bad n).length ≤ 256 ^ 7 := Nat.pow_le_pow_right (by omega) (Nat.le_trans (tkO_len _ _ _) h)
 have h3 : (256 : Nat) ^ 7 = 72057594037927936 := by decide
 omega
theorem dst_ok {kd : Nat} {L : List (Nat × Nat × Nat × Nat)} {bs : List B8} (hL : slotsF ((kd : Nat) : Int) = L) (hk : kd < 281474976710656) : ∀ {i : Nat}, (dst L bs kd i).2.ok
 | 0 => kpk_ok hk
 | i + 1 => by
  have ih := dst_ok (i := i) (bs := bs) hL hk
  cases h : L[i]? with
  | none =>
   have hl : L.length ≤ i := List.getElem?_eq_none_iff.1 h
   simp only [dst, List.take_of_length_le hl, List.take_of_length_le (Nat.le_succ_of_le hl)] at ih ⊢
   exact ih
  | some s =>
   rw [dst_next h]
   exact set_ok ih (num_in _ _ (slot_size (kd := (kd : Nat)) (by rw [hL]; exact h)).2)
theorem at_pos {kd : Int} {k : Nat} {s : Nat × Nat × Nat × Nat} (h : (slotsF kd)[k]? = some s) : 1 ≤ atF s.1 := by
 rcases slot_fn h with e | e | e | e | e | e | e | e | e | e | e <;> rw [e] <;> decide
theorem set_kind {p : Pkt} {j : Nat} {x : Int} (hj : 1 ≤ j) : (p.set j x).fld 0 = p.fld 0 := by
 obtain ⟨i, rfl⟩ : ∃ i, j = i + 1 := ⟨j - 1, by omega⟩
 unfold Pkt.fld Pkt.set
 simp [List.getD_eq_getElem?_getD]
theorem dst_kind {kd : Nat} {L : List (Nat × Nat × Nat × Nat)} {bs : List B8} (hL : slotsF ((kd : Nat) : Int) = L) : ∀ i : Nat, (dst L bs kd i).2.fld 0 = (kd : Nat)
 | 0 => rfl
 | i + 1 => by
  have ih := dst_kind (bs := bs) hL i
  cases h : L[i]? with
  | none =>
   have hl : L.length ≤ i := List.getElem?_eq_none_iff.1 h
   simp only [dst, List.take_of_length_le hl, List.take_of_length_le (Nat.le_succ_of_le hl)] at ih ⊢
   exact ih
  | some s =>
   rw [dst_next h]
   exact (set_kind (at_pos (kd := (kd : Nat)) (by rw [hL]; exact h))).trans ih
theorem dnx_set {x : (List B8 × Bool) × Pkt} {s : Nat × Nat × Nat × Nat} (hp : x.2.ok) (hat : atF s.1 < 12) : setL (pv x.2) (atF s.1) (Value.int .i64 (numF (tkO x.1.1 x.1.2 s.2.1) : Nat)).cells.toList = pv (dnx x s).2 := pv_set hp hat
def sec16 (x : (List B8 × Bool) × Pkt) : (List B8 × Bool) × Pkt := (stepR x.1 16, ⟨x.2.n, tkO x.1.1 x.1.2 16 ++ x.2.sec.drop (tkO x.1.1 x.1.2 16).length, x.2.tg⟩)
def tg8 (x : (List B8 × Bool) × Pkt) : (List B8 × Bool) × Pkt := (stepR x.1 8, ⟨x.2.n, x.2.sec, tkO x.1.1 x.1.2 8 ++ x.2.tg.drop (tkO x.1.1 x.1.2 8).length⟩)
theorem sec16_ok {x : (List B8 × Bool) × Pkt} (h : x.2.ok) : (sec16 x).2.ok := by
 have := tkO_len x.1.1 x.1.2 16
 exact ⟨h.1, by simp only [sec16, List.length_append, List.length_drop, h.2.1]; omega, h.2.2.1, h.2.2.2⟩
theorem tg8_ok {x : (List B8 × Bool) × Pkt} (h : x.2.ok) : (tg8 x).2.ok := by
 have := tkO_len x.1.1 x.1.2 8
 exact ⟨h.1, h.2.1, by simp only [tg8, List.length_append, List.length_drop, h.2.2.1]; omega, h.2.2.2⟩
theorem sec_spl {p : Pkt} {out : List B8} (hp : p.ok) (h : out.length ≤ 16) : spl (pv p) 12 (out.map u8v) = pv ⟨p.n, out ++ p.sec.drop out.length, p.tg⟩ := by
 have h1 : (p.n.map (Value.int .i64)).length = 12 := by rw [List.length_map, hp.1]
 simp only [spl, pcell, List.length_map, List.append_assoc]
 rw [show (12 + out.length : Nat) = (p.n.map (Value.int .i64)).length + out.length by rw [h1], List.drop_append, List.drop_of_length_le (l := p.n.map (Value.int .i64)) (by omega)]
 rw [show (p.n.map (Value.int .i64)).length + out.length - (p.n.map (Value.int .i64)).length = out.length by omega]
 rw [List.take_append_of_le_length (by rw [h1]; omega), List.take_of_length_le (by rw [h1]; omega), List.drop_append_of_le_length (by rw [List.length_map, hp.2.1]; exact h)]
 simp only [pv, pcell, List.nil_append, List.map_append, List.map_drop, List.append_assoc]
theorem tg_spl {p : Pkt} {out : List B8} (hp : p.ok) (h : out.length ≤ 8) : spl (pv p) 28 (out.map u8v) = pv ⟨p.n, p.sec, out ++ p.tg.drop out.length⟩ := by
 have h1 : (p.n.map (Value.int .i64) ++ p.sec.map u8v).length = 28 := by rw [List.length_append, List.length_map, List.length_map, hp.1, hp.2.1]
 simp only [spl, pcell, List.length_map]
 rw [show (28 + out.length : Nat) = (p.n.map (Value.int .i64) ++ p.sec.map u8v).length + out.length by rw [h1], List.drop_append, List.drop_of_length_le (l := p.n.map (Value.int .i64) ++ p.sec.map u8v) (by omega)]
 rw [show (p.n.map (Value.int .i64) ++ p.sec.map u8v).length + out.length - (p.n.map (Value.int .i64) ++ p.sec.map u8v).length = out.length by omega]
 rw [List.take_append_of_le_length (by rw [h1]; omega), List.take_of_length_le (by rw [h1]; omega)]
 simp only [pv, pcell, List.nil_append, List.map_append, List.map_drop, List.append_assoc]
theorem brow_holds {w : World} {A : Option Addr} {n c : Nat} {bs : List B8} (h : BRow w (.slice A n c) bs) : Holds w A (bs.map u8v) := by
 obtain ⟨A', c', e, _, _, _, h⟩ := h
 injection e with e1 e2 e3
 subst e1
 exact h
/-- all that is read of bytes: what is left, and a packet -/
def decX (bs : List B8) : (List B8 × Bool) × Pkt :=
 (fun y => if 5 ≤ ((numF (tkO bs false 1) : Nat) : Int) ∧ ((numF (tkO bs false 1) : Nat) : Int) ≤ 11 then tg8 y else y) ((fun x => if 2 ≤ ((numF (tkO bs false 1) : Nat) : Int) ∧ ((numF (tkO bs false 1) : Nat) : Int) ≤ 4 then sec16 x else x) (dst (slotsF (numF (tkO bs false 1) : Nat)) bs (numF (tkO bs false 1)) (slotsF (numF (tkO bs false 1) : Nat)).length))
theorem decX_eq {bs : List B8} {kd : Nat} {L : List (Nat × Nat × Nat × Nat)} {x : (List B8 × Bool) × Pkt} (h1 : numF (tkO bs false 1) = kd) (h2 : slotsF ((kd : Nat) : Int) = L) (h3 : dst L bs kd L.length = x) : decX bs = if 5 ≤ ((kd : Nat) : Int) ∧ ((kd : Nat) : Int) ≤ 11 then tg8 (if 2 ≤ ((kd : Nat) : Int) ∧ ((kd : Nat) : Int) ≤ 4 then sec16 x else x) else (if 2 ≤ ((kd : Nat) : Int) ∧ ((kd : Nat) : Int) ≤ 4 then sec16 x else x) := by
 subst h1 h2 h3
 rfl
noncomputable def decOk (bs : List B8) : Bool := (!(decX bs).1.2 && decide ((decX bs).1.1.length = 0)) && rightF (decX bs).2
noncomputable def decP (bs : List B8) : Pkt := if decOk bs = true then (decX bs).2 else pk0
noncomputable def decE (bs : List B8) : Int := if decOk bs = true then 0 else 2
theorem dec_yes {bs : List B8} (h1 : (!(decX bs).1.2 && decide ((decX bs).1.1.length = 0)) = true) (h2 : rightF (decX bs).2 = true) : decP bs = (decX bs).2 := if_pos (by rw [decOk, h1, h2]; rfl)
theorem decE_yes {bs : List B8} (h1 : (!(decX bs).1.2 && decide ((decX bs).1.1.length = 0)) = true) (h2 : rightF (decX bs).2 = true) : decE bs = 0 := if_pos (by rw [decOk, h1, h2]; rfl)
theorem dec_no {bs : List B8} (h : (!(decX bs).1.2 && decide ((decX bs).1.1.length = 0)) = false ∨ rightF (decX bs).2 = false) : decP bs = pk0 ∧ decE bs = 2 := by
 have : ¬ decOk bs = true := by
  rw [decOk]
  rcases h with h | h <;> rw [h] <;> simp
 exact ⟨if_neg this, if_neg this⟩
def De1 (W : World) (bs : List B8) (kd : Nat) (L : List (Nat × Nat × Nat × Nat)) (A : Option Addr) (b0 br b1 : Nat) (a : Act) (w : World) : Prop :=
 ∃ i : Nat, Kn a 56 [(2, .pointer (some ⟨b0, 0, none⟩)), (3, .int .i64 0), (4, .pointer (some ⟨br, 0, none⟩)), (5, .pointer (some ⟨b1, 0, none⟩)), (15, .slice A L.length L.length), (16, .int .i64 (L.length : Nat)), (17, .int .i64 (i : Nat))] ∧ i ≤ L.length ∧ Block w b0 36 (pv pk0) ∧ Block w b1 36 (pv (dst L bs kd i).2) ∧ Rd w br 116 (dst L bs kd i).1.1 (dst L bs kd i).1.2 ∧ Holds w A (L.flatMap encS) ∧ Below W.heap.size W w
set_option maxRecDepth 100000 in
set_option maxHeartbeats 8000000 in
theorem dec_any (w : World) (v : Value) (bs : List B8) (hr : BRow w v bs) (hn : bs.length ≤ 1000000) : Calls Tryz.prog 37 #[v] w fun e w' => e = .returned (.tuple #[.agg (pv (decP bs)), .int .i64 (decE bs)]) ∧ Below w.heap.size w w' := by
 have hall := Below.refl w.heap.size w
 refine K_enter 56 Tryz.func37 rfl rfl fun a H => ?_
 replace H := H.pick [0]
 refine zC (zD ?_)
 refine op_alloc 36 (pv pk0) z36 fun w0 b0 hge hb k0 => ?_; have g0 := Nat.le_trans hall.size hge; replace hall := hall.tr hb; clear hb hge; refine kl H rfl fun a H => ?_
 refine kR 1 H rfl fun a H => ?_
 refine zA (zB (zC (zD ?_)))
 refine kR 1 H rfl fun a H => ?_
 refine wl_call _ _ _ (open_any _ v bs (BRow.up hr hall) hn) (r_call1 cf61 (H.ev rfl)) ?_; rintro e w9 ⟨⟨br, rfl, hge, hrd⟩, hb⟩; refine ⟨_, rfl, ?_⟩; have h0r : b0 < br := Nat.lt_of_lt_of_le k0.lt hge; have gr := Nat.le_trans hall.size hge; replace k0 := Block.ups k0 hb; replace hall := hall.tr hb; clear hb; clear hge; refine kl H rfl fun a H => ?_
 refine kR 1 H rfl fun a H => ?_
 refine zA (zB (zC (zD ?_)))
 refine kR 1 H rfl fun a H => ?_
 refine wl_call _ _ _ (num_lit _ br 1 bs false _ rfl hrd hn (by omega) (by omega)) (r_call2 cf62 (H.ev rfl) evc) ?_; rintro e w9 ⟨⟨rfl, hrd2⟩, hg⟩; refine ⟨_, rfl, ?_⟩; clear hrd; have hrd := hrd2; clear hrd2; replace k0 := Block.grown k0 hg (by simp; omega); replace hall := grown_down hall hg gr; clear hg; obtain ⟨kd, hkd⟩ : ∃ kd, numF (tkO bs false 1) = kd := ⟨_, rfl⟩; have hkb : kd < 281474976710656 := (by rw [← hkd]; exact numF_lt (Nat.le_trans (tkO_len _ _ _) (by omega))); rw [hkd]; have HKD := Lib.hid hkd; clear hkd; refine kl H rfl fun a H => ?_
 refine kV (v := .agg (pv (kpk kd))) H (r_kpk (H.ev rfl)) rfl fun a H => ?_
 refine op_alloc 36 (pv pk0) z36 fun w1 b1 hge hb k1 => ?_; have g1 := Nat.le_trans hall.size hge; have h01 : b0 < b1 := Nat.lt_of_lt_of_le k0.lt hge; have hr1 : br < b1 := Nat.lt_of_lt_of_le hrd.lt hge; replace k0 := Block.ups k0 hb; replace hrd := Rd.up hrd hb; replace hall := hall.tr hb; clear hb; clear hge; refine kl H rfl fun a H => ?_
 refine op_store 36 (.tmp 5) (.tmp 12) b1 36 (pv (kpk kd)) _ (H.ev rfl) (H.ev rfl) k1 (s36p (kpk_ok hkb)) (by rw [pv_size pk0_ok, pv_size (kpk_ok hkb)]) (pv_one _) fun w' hb ho kq => ?_; clear k1; have k1 := kq; replace k0 := block_same k0 (ho _ (by omega)); replace hrd := Rd.far hrd (hb _ (Nat.le_refl _)) hr1; replace hall := hall.trans (hb _ g1); clear hb ho kq; refine kl0 H fun a H => ?_
 refine zA (zB (zC (zC (zD ?_))))
 refine kR 1 H rfl fun a H => ?_
 refine kV H (r_ld U3 rfl (H.ev rfl) (pv_cell k1 rfl)) rfl fun a H => ?_
 refine wl_call _ _ _ (slots_any _ (kd : Nat)) (r_call1 cf63 (H.ev rfl)) ?_; rintro e w9 ⟨⟨A, rfl, hh, hA⟩, hb⟩; refine ⟨_, rfl, ?_⟩; have hA1 := sl_above hA k1.lt; replace k0 := Block.ups k0 hb; replace hrd := Rd.up hrd hb; replace k1 := Block.ups k1 hb; replace hall := hall.tr hb; clear hb; obtain ⟨L, hL⟩ : ∃ L, slotsF ((kd : Nat) : Int) = L := ⟨_, rfl⟩; rw [hL] at hh hA; have hLn : L.length ≤ 6 := (by rw [← hL]; exact slots_le _); have HL := Lib.hid hL; rw [hL]; clear hL; refine kl H rfl fun a H => ?_
 refine kV H (r_len U87 (H.ev rfl)) rfl fun a H => ?_
 refine kR 1 H rfl fun a H => ?_
 refine zA (zB ?_)
 refine wp_block ?_
 refine wp_loop (De1 w bs kd L A b0 br b1) (fun a _ => L.length - (intOf (a.eval (.tmp 17))).toNat) ⟨0, H.pick [2, 3, 4, 5, 15, 16, 17], by omega, k0, k1, hrd, hh, hall⟩ ?_
 clear H hall k0 k1 hh hrd
 rintro a w' ⟨i, H, hi, k0, k1, hrd, hh, hall⟩
 have H0 := H
 have hpo := dst_ok (bs := bs) (i := i) HL.out hkb
 have hxl := dst_len (kd := kd) (i := i) (L := L) hn
 by_cases hlt : i < L.length
 ·
  obtain ⟨s, hs⟩ : ∃ s, L[i]? = some s := ⟨_, List.getElem?_eq_getElem hlt⟩
  obtain ⟨g, hAe⟩ := fl_some hA hs
  subst hAe
  have hgb := hA1 g 0 rfl
  have hat := at_lt (show (slotsF ((kd : Nat) : Int))[i]? = some s by rw [HL.out]; exact hs)
  have hsz := slot_size (show (slotsF ((kd : Nat) : Int))[i]? = some s by rw [HL.out]; exact hs)
  have HS := Lib.hid (show (slotsF ((kd : Nat) : Int))[i]? = some s by rw [HL.out]; exact hs)
  have HLS := Lib.hid hs
  clear hs
  refine zC (zD ?_)
  refine kV H (r_lt U3 (H.ev rfl) (H.ev rfl) (dec_t (by omega))) rfl fun a H => ?_
  refine zA (zB (zC (zH H rfl (zE (zB (zC ?_))))))
  refine wp_block ?_
  refine zC (zD ?_)
  refine kV H (r_idx (j := i) (q := 0 + i * 4) U87 s91 (H.ev rfl) (H.ev rfl) (by omega) rfl) rfl fun a H => ?_
  refine kV H (r_row (cs := [.func (.func s.1) #[] #[], .int .i64 (s.2.1 : Nat), .int .i64 (s.2.2.1 : Nat), .int .i64 (s.2.2.2 : Nat)]) (H.ev rfl) (slots_range hh HLS.out) (by kernel_rfl) s91 rfl) rfl fun a H => ?_
  refine op_new 91 7 (.tmp 20) #[.func (.func s.1) #[] #[], .int .i64 (s.2.1 : Nat), .int .i64 (s.2.2.1 : Nat), .int .i64 (s.2.2.2 : Nat)] _ z91 s91 rfl (by simp [Value.cells, Value.oneCell']) (fun p => (H.put 7 p rfl).ev rfl) (fun p => (H.put 7 p rfl).ev rfl) fun w2 b2 hge hb k2 => ?_; have g2 := Nat.le_trans hall.size hge; have h2r : br < b2 := Nat.lt_of_lt_of_le hrd.lt hge; replace k0 := Block.ups k0 hb; replace k1 := Block.ups k1 hb; replace hh := holds_ups hh hb; replace hrd := Rd.up hrd hb; replace hall := hall.tr hb; clear hb; clear hge; refine kl H rfl fun a H => ?_
  refine zA (zB ?_)
  have hall6 := hall
  have hS : GrownOf br (BelowTo hall6) _ := grown_drew _ _
  refine region_tree (GrownOf br (BelowTo hall6)) 8 (.fl 0 (.fl 1 (.fl 3 (.fl 4 (.fl 5 (.one 2 (.one 6 (.fl 7 (.one 8 .done))))))))) (by kernel_rfl) (by kernel_rfl) rfl (by kernel_rfl) hS ?_
  replace hrd := Rd.up hrd (Below.drew (Below.refl _ _))
  refine kQ 1 H rfl fun a H => ?_
  refine kF H rfl rfl (fun w' hS' => r_ld U89 rfl (H.ev rfl) ((Block.cell (Block.grown k2 hS' (by simp; omega)) 0).trans rfl)) rfl fun a H => ?_
  refine kQ 2 H rfl fun a H => ?_
  refine kF H rfl rfl (fun w' hS' => r_ld U3 rfl (H.ev rfl) ((Block.cell (Block.grown k2 hS' (by simp; omega)) 1).trans rfl)) rfl fun a H => ?_
  refine pt_one (fun K hK => ?_)
  refine st_a0 rfl ?_; refine wpo_call _ _ _ (at_any _ b1 i HS.out) (r_callf (at_ent HS.out) (H.ev rfl) (H.ev rfl)) ?_; rintro e w9 ⟨rfl, hb⟩; refine ⟨_, rfl, ?_⟩; replace hrd := Rd.up hrd hb; replace hS := grown_below hS hb; clear hb; refine hK _ _ ⟨(fun _ => hS), ?_⟩; clear hK; clear K; refine kt H rfl fun a H => ?_
  refine pt_one (fun K hK => ?_)
  refine st_a0 rfl ?_; refine wpo_call _ _ _ (num_lit _ br s.2.1 (dst L bs kd i).1.1 (dst L bs kd i).1.2 _ rfl hrd hxl hsz.1 hsz.2) (r_call2 cf62 (H.ev rfl) (H.ev rfl)) ?_; rintro e w9 ⟨⟨rfl, hrd2⟩, hg⟩; refine ⟨_, rfl, ?_⟩; clear hrd; have hrd := hrd2; clear hrd2; replace hS := grown_trans hS hg; clear hg; refine hK _ _ ⟨(fun _ => hS), ?_⟩; clear hK; clear K; refine kt H rfl fun a H => ?_
  refine kQ 1 H rfl fun a H => ?_
  refine pt_one (fun K hK => ?_)
  replace k0 := Block.grown k0 hS (by simp; omega)
  replace k1 := Block.grown k1 hS (by simp; omega)
  replace hh := Holds.grown1 hh hS (by omega)
  replace k2 := Block.grown k2 hS (by simp; omega)
  replace hall := grown_down hall hS gr
  refine st_a0 rfl ?_; refine wpo_store1 3 (.tmp 28) (.tmp 27) b1 (atF s.1) 36 (.int .i64 (numF (tkO (dst L bs kd i).1.1 (dst L bs kd i).1.2 s.2.1) : Nat)) _ (H.ev rfl) (H.ev rfl) k1 s3 (by rw [pv_size hpo]; show atF s.1 + 1 ≤ 36; omega) (by simp [Value.cells, Value.oneCell']) fun w' hb ho kq => ?_; clear k1; have k1 := kq; rw [dnx_set hpo hat] at k1; replace k0 := block_same k0 (ho _ (by omega)); replace hh := Holds.same1 hh (ho _ (by omega)); replace hrd := Rd.far hrd (hb _ (Nat.le_refl _)) hr1; replace hall := hall.trans (hb _ g1); clear hb ho kq; refine hK _ _ ⟨(fun h => absurd rfl h), ?_⟩; clear hK; clear K; clear hS; skip
  refine pt_done (NoPanic.normal ?_)
  refine n_block (zB (zD ?_))
  refine kV H (r_add (q := ((i + 1 : Nat) : Int)) U3 (H.ev rfl) evc (by omega) (by omega)) rfl fun a H => ?_
  refine kR 1 H rfl fun a H => ?_
  refine zA ?_
  rw [← dst_next HLS.out] at k1
  refine zI ⟨⟨i + 1, H.pick [2, 3, 4, 5, 15, 16, 17], by omega, k0, k1, (by rw [dst_next HLS.out]; exact hrd), hh, hall⟩, ?_⟩
  rw [H.ev (j := 17) rfl, H0.ev (j := 17) rfl]
  simp only [intOf]
  omega
 ·
  obtain rfl : i = L.length := by omega
  clear hh
  have hk0 : (dst L bs kd L.length).2.fld 0 = (kd : Nat) := dst_kind HL.out _
  obtain ⟨x, hx⟩ : ∃ x, dst L bs kd L.length = x := ⟨_, rfl⟩
  rw [hx] at hk0 hpo hxl k1 hrd
  have HX := Lib.hid hx
  clear hx
  refine zC (zD ?_)
  refine kV H (r_lt U3 (H.ev rfl) (H.ev rfl) (dec_f (by omega))) rfl fun a H => ?_
  refine zA (zB (zC (zG H rfl (wp_exit (e_then (e_then ?_))))))
  refine e_here ?_
  refine zB (zC (zC ?_))
  by_cases hse : (2 ≤ ((kd : Nat) : Int) ∧ ((kd : Nat) : Int) ≤ 4)
  ·
   refine zD ?_
   refine kR 1 H rfl fun a H => ?_
   refine kV H (r_ld U3 rfl (H.ev rfl) ((pv_cell k1 (fld_at hpo (j := 0) (by omega))).trans (by rw [hk0]))) rfl fun a H => ?_
   refine wl_call _ _ _ (sealed_t _ _ hse) (r_call1 cf64 (H.ev rfl)) ?_; rintro e w9 ⟨rfl, hb⟩; refine ⟨_, rfl, ?_⟩; replace k0 := Block.ups k0 hb; replace k1 := Block.ups k1 hb; replace hrd := Rd.up hrd hb; replace hall := hall.tr hb; clear hb; refine kl H rfl fun a H => ?_
   refine zA (zB (zH H rfl ?_))
   have hall9 := hall
   have hS : GrownOf br (BelowTo hall9) _ := grown_drew _ _
   refine region_tree (GrownOf br (BelowTo hall9)) 4 (.fl 0 (.fl 1 (.fl 2 (.one 3 (.one 4 .done))))) (by kernel_rfl) (by kernel_rfl) rfl (by kernel_rfl) hS ?_
   replace hrd := Rd.up hrd (Below.drew (Below.refl _ _))
   refine kQ 1 H rfl fun a H => ?_
   refine kF (v := .slice (some ⟨b1, 12, none⟩) 16 16) H rfl rfl (fun w' hS' => r_slice_all (b := b1) (o := 12) U33 s5 (H.ev rfl) (by omega)) rfl fun a H => ?_
   refine kQ 1 H rfl fun a H => ?_
   refine pt_one (fun K hK => ?_)
   refine st_a0 rfl ?_; refine wpo_call _ _ _ (take_lit _ br 16 x.1.1 x.1.2 _ rfl hrd hxl) (r_call2 cf65 (H.ev rfl) evc) ?_; rintro e w9 ⟨⟨v1, rfl, hrow, hrd2⟩, hg⟩; refine ⟨_, rfl, ?_⟩; clear hrd; have hrd := hrd2; clear hrd2; replace hS := grown_trans hS hg; clear hg; obtain ⟨out, hout⟩ : ∃ out, tkO x.1.1 x.1.2 16 = out := ⟨_, rfl⟩; have hol : out.length ≤ 16 := (by rw [← hout]; exact tkO_len _ _ _); rw [hout] at hrow; have HO := Lib.hid hout; clear hout; obtain ⟨Ax, cx, hv⟩ := brow_shape hrow; subst hv; refine hK _ _ ⟨(fun _ => hS), ?_⟩; clear hK; clear K; refine kt H rfl fun a H => ?_
   refine pt_one (fun K hK => ?_)
   replace k0 := Block.grown k0 hS (by simp; omega)
   replace k1 := Block.grown k1 hS (by simp; omega)
   replace hall := grown_down hall hS gr
   refine st_a0 rfl ?_; refine wpo_row _ b1 36 (pv x.2) _ k1 (run_b2 (.slice (some ⟨b1, 12, none⟩) 16 16) (.slice Ax out.length cx) (H.ev rfl) (H.ev rfl) (b_copy (run_copy_blk _ _ _ _ 5 1 U30 s5 (by omega) b1 12 16 16 _ 36 k1 Ax out.length cx (out.map u8v) (by rw [List.length_map, Nat.mul_one]; exact (Nat.min_eq_left hol).symm) (brow_holds hrow) (u8s_one _) (by rw [List.length_map, pv_size hpo]; omega)))) fun w7 kq hb7 ho7 => ?_; clear k1; rw [sec_spl hpo hol] at kq; have k1 := kq; replace k0 := block_same k0 (ho7 _ (by omega)); replace hrd := Rd.far hrd (hb7 _ (Nat.le_refl _)) hr1; replace hall := hall.trans (hb7 _ g1); clear hb7 ho7 kq hrow; refine hK _ _ ⟨(fun h => absurd rfl h), ?_⟩; clear hK; clear K; clear hS; refine kt H rfl fun a H => ?_
   refine pt_done (NoPanic.normal ?_)
   refine zB (zC (zC ?_))
   obtain ⟨y, hy⟩ : ∃ y, sec16 x = y := ⟨_, rfl⟩
   have hyp : y.2.ok := by rw [← hy]; exact sec16_ok hpo
   have hyk : y.2.fld 0 = (kd : Nat) := by rw [← hy]; exact hk0
   have hyl : y.1.1.length ≤ 1000000 := by rw [← hy]; exact Nat.le_trans (tkL_le _ _ _) hxl
   rw [show (⟨x.2.n, out ++ x.2.sec.drop out.length, x.2.tg⟩ : Pkt) = y.2 by rw [← hy, sec16, HO.out]] at k1
   clear HO
   rw [show tkL x.1.1 x.1.2 16 = y.1.1 by rw [← hy]; rfl, show tkB x.1.1 x.1.2 16 = y.1.2 by rw [← hy]; rfl] at hrd
   have HY := Lib.hid hy
   clear hy
   by_cases htg : (5 ≤ ((kd : Nat) : Int) ∧ ((kd : Nat) : Int) ≤ 11)
   ·
    refine zD ?_
    refine kR 1 H rfl fun a H => ?_
    refine kV H (r_ld U3 rfl (H.ev rfl) ((pv_cell k1 (fld_at hyp (j := 0) (by omega))).trans (by rw [hyk]))) rfl fun a H => ?_
    refine wl_call _ _ _ (tagged_t _ _ htg) (r_call1 cf66 (H.ev rfl)) ?_; rintro e w9 ⟨rfl, hb⟩; refine ⟨_, rfl, ?_⟩; replace k0 := Block.ups k0 hb; replace k1 := Block.ups k1 hb; replace hrd := Rd.up hrd hb; replace hall := hall.tr hb; clear hb; refine kl H rfl fun a H => ?_
    refine zA (zB (zH H rfl ?_))
    have hall11 := hall
    have hS : GrownOf br (BelowTo hall11) _ := grown_drew _ _
    refine region_tree (GrownOf br (BelowTo hall11)) 4 (.fl 0 (.fl 1 (.fl 2 (.one 3 (.one 4 .done))))) (by kernel_rfl) (by kernel_rfl) rfl (by kernel_rfl) hS ?_
    replace hrd := Rd.up hrd (Below.drew (Below.refl _ _))
    refine kQ 1 H rfl fun a H => ?_
    refine kF (v := .slice (some ⟨b1, 28, none⟩) 8 8) H rfl rfl (fun w' hS' => r_slice_all (b := b1) (o := 28) U34 s5 (H.ev rfl) (by omega)) rfl fun a H => ?_
    refine kQ 1 H rfl fun a H => ?_
    refine pt_one (fun K hK => ?_)
    refine st_a0 rfl ?_; refine wpo_call _ _ _ (take_lit _ br 8 y.1.1 y.1.2 _ rfl hrd hyl) (r_call2 cf65 (H.ev rfl) evc) ?_; rintro e w9 ⟨⟨v1, rfl, hrow, hrd2⟩, hg⟩; refine ⟨_, rfl, ?_⟩; clear hrd; have hrd := hrd2; clear hrd2; replace hS := grown_trans hS hg; clear hg; obtain ⟨out, hout⟩ : ∃ out, tkO y.1.1 y.1.2 8 = out := ⟨_, rfl⟩; have hol : out.length ≤ 8 := (by rw [← hout]; exact tkO_len _ _ _); rw [hout] at hrow; have HO := Lib.hid hout; clear hout; obtain ⟨Ax, cx, hv⟩ := brow_shape hrow; subst hv; refine hK _ _ ⟨(fun _ => hS), ?_⟩; clear hK; clear K; refine kt H rfl fun a H => ?_
    refine pt_one (fun K hK => ?_)
    replace k0 := Block.grown k0 hS (by simp; omega)
    replace k1 := Block.grown k1 hS (by simp; omega)
    replace hall := grown_down hall hS gr
    refine st_a0 rfl ?_; refine wpo_row _ b1 36 (pv y.2) _ k1 (run_b2 (.slice (some ⟨b1, 28, none⟩) 8 8) (.slice Ax out.length cx) (H.ev rfl) (H.ev rfl) (b_copy (run_copy_blk _ _ _ _ 5 1 U30 s5 (by omega) b1 28 8 8 _ 36 k1 Ax out.length cx (out.map u8v) (by rw [List.length_map, Nat.mul_one]; exact (Nat.min_eq_left hol).symm) (brow_holds hrow) (u8s_one _) (by rw [List.length_map, pv_size hyp]; omega)))) fun w7 kq hb7 ho7 => ?_; clear k1; rw [tg_spl hyp hol] at kq; have k1 := kq; replace k0 := block_same k0 (ho7 _ (by omega)); replace hrd := Rd.far hrd (hb7 _ (Nat.le_refl _)) hr1; replace hall := hall.trans (hb7 _ g1); clear hb7 ho7 kq hrow; refine hK _ _ ⟨(fun h => absurd rfl h), ?_⟩; clear hK; clear K; clear hS; refine kt H rfl fun a H => ?_
    refine pt_done (NoPanic.normal ?_)
    refine zB (zC (zC ?_))
    obtain ⟨z, hz⟩ : ∃ z, tg8 y = z := ⟨_, rfl⟩
    have hzp : z.2.ok := by rw [← hz]; exact tg8_ok hyp
    rw [show (⟨y.2.n, y.2.sec, out ++ y.2.tg.drop out.length⟩ : Pkt) = z.2 by rw [← hz, tg8, HO.out]] at k1
    clear HO
    rw [show tkL y.1.1 y.1.2 8 = z.1.1 by rw [← hz]; rfl, show tkB y.1.1 y.1.2 8 = z.1.2 by rw [← hz]; rfl] at hrd
    have hdx : decX bs = z := by rw [decX_eq HKD.out HL.out HX.out, if_pos hse, HY.out, if_pos htg, hz]
    clear hz
    obtain ⟨dn, hdn⟩ : ∃ dn, (!z.1.2 && decide (z.1.1.length = 0)) = dn := ⟨_, rfl⟩
    have HDN := Lib.hid hdn
    clear hdn
    cases dn
    ·
     refine zD ?_
     refine kR 1 H rfl fun a H => ?_
     refine wl_call _ _ _ (done_any _ br z.1.1 z.1.2 hrd) (r_call1 cf67 (H.ev rfl)) ?_; rintro e w9 ⟨rfl, hb⟩; refine ⟨_, rfl, ?_⟩; rw [HDN.out]; replace k0 := Block.ups k0 hb; replace k1 := Block.ups k1 hb; replace hrd := Rd.up hrd hb; replace hall := hall.tr hb; clear hb; refine kl H rfl fun a H => ?_
     refine kV H (r_not (H.ev rfl) rfl) rfl fun a H => ?_
     refine kR 5 H rfl fun a H => ?_
     refine zA (zB (zH H rfl (zC (zD ?_))))
     refine kV (v := .agg (pv pk0)) H (r_build #[] (.agg (pv pk0)) (by simp) (fun w => by kernel_rfl)) rfl fun a H => ?_
     refine op_store 36 (.tmp 2) (.tmp 54) b0 36 (pv pk0) _ (H.ev rfl) (H.ev rfl) k0 (s36p pk0_ok) rfl (pv_one _) fun w' hb ho kq => ?_; clear k0 k1 hrd; have k0 := kq; replace hall := hall.trans (hb _ g0); clear hb ho kq; refine kl0 H fun a H => ?_
     refine kR 1 H rfl fun a H => ?_
     refine zA (zB (zF (zJ ?_)))
     rw [(dec_no (.inl (by rw [hdx]; exact HDN.out))).1, (dec_no (.inl (by rw [hdx]; exact HDN.out))).2]
     exact k_ret_cell2 H rfl rfl rfl k0 U36 rfl (s36p pk0_ok) ⟨rfl, hall⟩
    ·
     by_cases hR : rightF z.2 = true
     ·
      refine zD ?_
      refine kR 1 H rfl fun a H => ?_
      refine wl_call _ _ _ (done_any _ br z.1.1 z.1.2 hrd) (r_call1 cf67 (H.ev rfl)) ?_; rintro e w9 ⟨rfl, hb⟩; refine ⟨_, rfl, ?_⟩; rw [HDN.out]; replace k0 := Block.ups k0 hb; replace k1 := Block.ups k1 hb; replace hrd := Rd.up hrd hb; replace hall := hall.tr hb; clear hb; refine kl H rfl fun a H => ?_
      refine kV H (r_not (H.ev rfl) rfl) rfl fun a H => ?_
      refine kR 1 H rfl fun a H => ?_
      refine kG H rfl ?_; refine kV (v := .agg (pv z.2)) H (run_load_row b1 36 _ _ (H.ev rfl) k1 U36 rfl (s36p hzp)) rfl fun a H => ?_
      refine kG H rfl ?_; refine wl_call _ _ _ (pright_t _ z.2 hzp hR) (r_call1 cf68 (H.ev rfl)) ?_; rintro e w9 ⟨rfl, hb⟩; refine ⟨_, rfl, ?_⟩; replace k0 := Block.ups k0 hb; replace k1 := Block.ups k1 hb; replace hrd := Rd.up hrd hb; replace hall := hall.tr hb; clear hb; refine kl H rfl fun a H => ?_
      refine kW H rfl (r_not (H.ev rfl) rfl) rfl fun a H => ?_
      refine kR 1 H rfl fun a H => ?_
      refine zA (zB (zG H rfl (zE (zB (zC (zD ?_))))))
      refine kV (v := .agg (pv z.2)) H (run_load_row b1 36 _ _ (H.ev rfl) k1 U36 rfl (s36p hzp)) rfl fun a H => ?_
      refine op_store 36 (.tmp 2) (.tmp 55) b0 36 (pv z.2) _ (H.ev rfl) (H.ev rfl) k0 (s36p hzp) (by rw [pv_size pk0_ok, pv_size hzp]) (pv_one _) fun w' hb ho kq => ?_; clear k0 k1 hrd; have k0 := kq; replace hall := hall.trans (hb _ g0); clear hb ho kq; refine kl0 H fun a H => ?_
      refine kR 1 H rfl fun a H => ?_
      refine zA (zB (zF ?_))
      rw [show decP bs = z.2 by rw [dec_yes (by rw [hdx]; exact HDN.out) (by rw [hdx]; exact hR), hdx], show decE bs = 0 from decE_yes (by rw [hdx]; exact HDN.out) (by rw [hdx]; exact hR)]
      exact k_ret_cell2 H rfl rfl rfl k0 U36 rfl (s36p hzp) ⟨rfl, hall⟩
     ·
      refine zD ?_
      refine kR 1 H rfl fun a H => ?_
      refine wl_call _ _ _ (done_any _ br z.1.1 z.1.2 hrd) (r_call1 cf67 (H.ev rfl)) ?_; rintro e w9 ⟨rfl, hb⟩; refine ⟨_, rfl, ?_⟩; rw [HDN.out]; replace k0 := Block.ups k0 hb; replace k1 := Block.ups k1 hb; replace hrd := Rd.up hrd hb; replace hall := hall.tr hb; clear hb; refine kl H rfl fun a H => ?_
      refine kV H (r_not (H.ev rfl) rfl) rfl fun a H => ?_
      refine kR 1 H rfl fun a H => ?_
      refine kG H rfl ?_; refine kV (v := .agg (pv z.2)) H (run_load_row b1 36 _ _ (H.ev rfl) k1 U36 rfl (s36p hzp)) rfl fun a H => ?_
      refine kG H rfl ?_; refine wl_call _ _ _ (pright_f _ z.2 hzp hR) (r_call1 cf68 (H.ev rfl)) ?_; rintro e w9 ⟨rfl, hb⟩; refine ⟨_, rfl, ?_⟩; replace k0 := Block.ups k0 hb; replace k1 := Block.ups k1 hb; replace hrd := Rd.up hrd hb; replace hall := hall.tr hb; clear hb; refine kl H rfl fun a H => ?_
      refine kW H rfl (r_not (H.ev rfl) rfl) rfl fun a H => ?_
      refine kR 1 H rfl fun a H => ?_
      refine zA (zB (zH H rfl (zC (zD ?_))))
      refine kV (v := .agg (pv pk0)) H (r_build #[] (.agg (pv pk0)) (by simp) (fun w => by kernel_rfl)) rfl fun a H => ?_
      refine op_store 36 (.tmp 2) (.tmp 54) b0 36 (pv pk0) _ (H.ev rfl) (H.ev rfl) k0 (s36p pk0_ok) rfl (pv_one _) fun w' hb ho kq => ?_; clear k0 k1 hrd; have k0 := kq; replace hall := hall.trans (hb _ g0); clear hb ho kq; refine kl0 H fun a H => ?_
      refine kR 1 H rfl fun a H => ?_
      refine zA (zB (zF (zJ ?_)))
      rw [(dec_no (.inr (by rw [hdx]; simpa using hR))).1, (dec_no (.inr (by rw [hdx]; simpa using hR))).2]
      exact k_ret_cell2 H rfl rfl rfl k0 U36 rfl (s36p pk0_ok) ⟨rfl, hall⟩
   ·
    refine zD ?_
    refine kR 1 H rfl fun a H => ?_
    refine kV H (r_ld U3 rfl (H.ev rfl) ((pv_cell k1 (fld_at hyp (j := 0) (by omega))).trans (by rw [hyk]))) rfl fun a H => ?_
    refine wl_call _ _ _ (tagged_f _ _ htg) (r_call1 cf66 (H.ev rfl)) ?_; rintro e w9 ⟨rfl, hb⟩; refine ⟨_, rfl, ?_⟩; replace k0 := Block.ups k0 hb; replace k1 := Block.ups k1 hb; replace hrd := Rd.up hrd hb; replace hall := hall.tr hb; clear hb; refine kl H rfl fun a H => ?_
    refine zA (zB (zG H rfl (zE (zB (zC (zC ?_))))))
    obtain ⟨z, hz⟩ : ∃ z, y = z := ⟨_, rfl⟩
    have hzp : z.2.ok := by rw [← hz]; exact hyp
    rw [hz] at k1 hrd
    have hdx : decX bs = z := by rw [decX_eq HKD.out HL.out HX.out, if_pos hse, HY.out, if_neg htg, hz]
    clear hz
    obtain ⟨dn, hdn⟩ : ∃ dn, (!z.1.2 && decide (z.1.1.length = 0)) = dn := ⟨_, rfl⟩
    have HDN := Lib.hid hdn
    clear hdn
    cases dn
    ·
     refine zD ?_
     refine kR 1 H rfl fun a H => ?_
     refine wl_call _ _ _ (done_any _ br z.1.1 z.1.2 hrd) (r_call1 cf67 (H.ev rfl)) ?_; rintro e w9 ⟨rfl, hb⟩; refine ⟨_, rfl, ?_⟩; rw [HDN.out]; replace k0 := Block.ups k0 hb; replace k1 := Block.ups k1 hb; replace hrd := Rd.up hrd hb; replace hall := hall.tr hb; clear hb; refine kl H rfl fun a H => ?_
     refine kV H (r_not (H.ev rfl) rfl) rfl fun a H => ?_
     refine kR 5 H rfl fun a H => ?_
     refine zA (zB (zH H rfl (zC (zD ?_))))
     refine kV (v := .agg (pv pk0)) H (r_build #[] (.agg (pv pk0)) (by simp) (fun w => by kernel_rfl)) rfl fun a H => ?_
     refine op_store 36 (.tmp 2) (.tmp 54) b0 36 (pv pk0) _ (H.ev rfl) (H.ev rfl) k0 (s36p pk0_ok) rfl (pv_one _) fun w' hb ho kq => ?_; clear k0 k1 hrd; have k0 := kq; replace hall := hall.trans (hb _ g0); clear hb ho kq; refine kl0 H fun a H => ?_
     refine kR 1 H rfl fun a H => ?_
     refine zA (zB (zF (zJ ?_)))
     rw [(dec_no (.inl (by rw [hdx]; exact HDN.out))).1, (dec_no (.inl (by rw [hdx]; exact HDN.out))).2]
     exact k_ret_cell2 H rfl rfl rfl k0 U36 rfl (s36p pk0_ok) ⟨rfl, hall⟩
    ·
     by_cases hR : rightF z.2 = true
     ·
      refine zD ?_
      refine kR 1 H rfl fun a H => ?_
      refine wl_call _ _ _ (done_any _ br z.1.1 z.1.2 hrd) (r_call1 cf67 (H.ev rfl)) ?_; rintro e w9 ⟨rfl, hb⟩; refine ⟨_, rfl, ?_⟩; rw [HDN.out]; replace k0 := Block.ups k0 hb; replace k1 := Block.ups k1 hb; replace hrd := Rd.up hrd hb; replace hall := hall.tr hb; clear hb; refine kl H rfl fun a H => ?_
      refine kV H (r_not (H.ev rfl) rfl) rfl fun a H => ?_
      refine kR 1 H rfl fun a H => ?_
      refine kG H rfl ?_; refine kV (v := .agg (pv z.2)) H (run_load_row b1 36 _ _ (H.ev rfl) k1 U36 rfl (s36p hzp)) rfl fun a H => ?_
      refine kG H rfl ?_; refine wl_call _ _ _ (pright_t _ z.2 hzp hR) (r_call1 cf68 (H.ev rfl)) ?_; rintro e w9 ⟨rfl, hb⟩; refine ⟨_, rfl, ?_⟩; replace k0 := Block.ups k0 hb; replace k1 := Block.ups k1 hb; replace hrd := Rd.up hrd hb; replace hall := hall.tr hb; clear hb; refine kl H rfl fun a H => ?_
      refine kW H rfl (r_not (H.ev rfl) rfl) rfl fun a H => ?_
      refine kR 1 H rfl fun a H => ?_
      refine zA (zB (zG H rfl (zE (zB (zC (zD ?_))))))
      refine kV (v := .agg (pv z.2)) H (run_load_row b1 36 _ _ (H.ev rfl) k1 U36 rfl (s36p hzp)) rfl fun a H => ?_
      refine op_store 36 (.tmp 2) (.tmp 55) b0 36 (pv z.2) _ (H.ev rfl) (H.ev rfl) k0 (s36p hzp) (by rw [pv_size pk0_ok, pv_size hzp]) (pv_one _) fun w' hb ho kq => ?_; clear k0 k1 hrd; have k0 := kq; replace hall := hall.trans (hb _ g0); clear hb ho kq; refine kl0 H fun a H => ?_
      refine kR 1 H rfl fun a H => ?_
      refine zA (zB (zF ?_))
      rw [show decP bs = z.2 by rw [dec_yes (by rw [hdx]; exact HDN.out) (by rw [hdx]; exact hR), hdx], show decE bs = 0 from decE_yes (by rw [hdx]; exact HDN.out) (by rw [hdx]; exact hR)]
      exact k_ret_cell2 H rfl rfl rfl k0 U36 rfl (s36p hzp) ⟨rfl, hall⟩
     ·
      refine zD ?_
      refine kR 1 H rfl fun a H => ?_
      refine wl_call _ _ _ (done_any _ br z.1.1 z.1.2 hrd) (r_call1 cf67 (H.ev rfl)) ?_; rintro e w9 ⟨rfl, hb⟩; refine ⟨_, rfl, ?_⟩; rw [HDN.out]; replace k0 := Block.ups k0 hb; replace k1 := Block.ups k1 hb; replace hrd := Rd.up hrd hb; replace hall := hall.tr hb; clear hb; refine kl H rfl fun a H => ?_
      refine kV H (r_not (H.ev rfl) rfl) rfl fun a H => ?_
      refine kR 1 H rfl fun a H => ?_
      refine kG H rfl ?_; refine kV (v := .agg (pv z.2)) H (run_load_row b1 36 _ _ (H.ev rfl) k1 U36 rfl (s36p hzp)) rfl fun a H => ?_
      refine kG H rfl ?_; refine wl_call _ _ _ (pright_f _ z.2 hzp hR) (r_call1 cf68 (H.ev rfl)) ?_; rintro e w9 ⟨rfl, hb⟩; refine ⟨_, rfl, ?_⟩; replace k0 := Block.ups k0 hb; replace k1 := Block.ups k1 hb; replace hrd := Rd.up hrd hb; replace hall := hall.tr hb; clear hb; refine kl H rfl fun a H => ?_
      refine kW H rfl (r_not (H.ev rfl) rfl) rfl fun a H => ?_
      refine kR 1 H rfl fun a H => ?_
      refine zA (zB (zH H rfl (zC (zD ?_))))
      refine kV (v := .agg (pv pk0)) H (r_build #[] (.agg (pv pk0)) (by simp) (fun w => by kernel_rfl)) rfl fun a H => ?_
      refine op_store 36 (.tmp 2) (.tmp 54) b0 36 (pv pk0) _ (H.ev rfl) (H.ev rfl) k0 (s36p pk0_ok) rfl (pv_one _) fun w' hb ho kq => ?_; clear k0 k1 hrd; have k0 := kq; replace hall := hall.trans (hb _ g0); clear hb ho kq; refine kl0 H fun a H => ?_
      refine kR 1 H rfl fun a H => ?_
      refine zA (zB (zF (zJ ?_)))
      rw [(dec_no (.inr (by rw [hdx]; simpa using hR))).1, (dec_no (.inr (by rw [hdx]; simpa using hR))).2]
      exact k_ret_cell2 H rfl rfl rfl k0 U36 rfl (s36p pk0_ok) ⟨rfl, hall⟩
  ·
   refine zD ?_
   refine kR 1 H rfl fun a H => ?_
   refine kV H (r_ld U3 rfl (H.ev rfl) ((pv_cell k1 (fld_at hpo (j := 0) (by omega))).trans (by rw [hk0]))) rfl fun a H => ?_
   refine wl_call _ _ _ (sealed_f _ _ hse) (r_call1 cf64 (H.ev rfl)) ?_; rintro e w9 ⟨rfl, hb⟩; refine ⟨_, rfl, ?_⟩; replace k0 := Block.ups k0 hb; replace k1 := Block.ups k1 hb; replace hrd := Rd.up hrd hb; replace hall := hall.tr hb; clear hb; refine kl H rfl fun a H => ?_
   refine zA (zB (zG H rfl (zE (zB (zC (zC ?_))))))
   obtain ⟨y, hy⟩ : ∃ y, x = y := ⟨_, rfl⟩
   have hyp : y.2.ok := by rw [← hy]; exact hpo
   have hyk : y.2.fld 0 = (kd : Nat) := by rw [← hy]; exact hk0
   have hyl : y.1.1.length ≤ 1000000 := by rw [← hy]; exact hxl
   rw [hy] at k1 hrd
   have HY := Lib.hid hy
   clear hy
   by_cases htg : (5 ≤ ((kd : Nat) : Int) ∧ ((kd : Nat) : Int) ≤ 11)
   ·
    refine zD ?_
    refine kR 1 H rfl fun a H => ?_
    refine kV H (r_ld U3 rfl (H.ev rfl) ((pv_cell k1 (fld_at hyp (j := 0) (by omega))).trans (by rw [hyk]))) rfl fun a H => ?_
    refine wl_call _ _ _ (tagged_t _ _ htg) (r_call1 cf66 (H.ev rfl)) ?_; rintro e w9 ⟨rfl, hb⟩; refine ⟨_, rfl, ?_⟩; replace k0 := Block.ups k0 hb; replace k1 := Block.ups k1 hb; replace hrd := Rd.up hrd hb; replace hall := hall.tr hb; clear hb; refine kl H rfl fun a H => ?_
    refine zA (zB (zH H rfl ?_))
    have hall11 := hall
    have hS : GrownOf br (BelowTo hall11) _ := grown_drew _ _
    refine region_tree (GrownOf br (BelowTo hall11)) 4 (.fl 0 (.fl 1 (.fl 2 (.one 3 (.one 4 .done))))) (by kernel_rfl) (by kernel_rfl) rfl (by kernel_rfl) hS ?_
    replace hrd := Rd.up hrd (Below.drew (Below.refl _ _))
    refine kQ 1 H rfl fun a H => ?_
    refine kF (v := .slice (some ⟨b1, 28, none⟩) 8 8) H rfl rfl (fun w' hS' => r_slice_all (b := b1) (o := 28) U34 s5 (H.ev rfl) (by omega)) rfl fun a H => ?_
    refine kQ 1 H rfl fun a H => ?_
    refine pt_one (fun K hK => ?_)
    refine st_a0 rfl ?_; refine wpo_call _ _ _ (take_lit _ br 8 y.1.1 y.1.2 _ rfl hrd hyl) (r_call2 cf65 (H.ev rfl) evc) ?_; rintro e w9 ⟨⟨v1, rfl, hrow, hrd2⟩, hg⟩; refine ⟨_, rfl, ?_⟩; clear hrd; have hrd := hrd2; clear hrd2; replace hS := grown_trans hS hg; clear hg; obtain ⟨out, hout⟩ : ∃ out, tkO y.1.1 y.1.2 8 = out := ⟨_, rfl⟩; have hol : out.length ≤ 8 := (by rw [← hout]; exact tkO_len _ _ _); rw [hout] at hrow; have HO := Lib.hid hout; clear hout; obtain ⟨Ax, cx, hv⟩ := brow_shape hrow; subst hv; refine hK _ _ ⟨(fun _ => hS), ?_⟩; clear hK; clear K; refine kt H rfl fun a H => ?_
    refine pt_one (fun K hK => ?_)
    replace k0 := Block.grown k0 hS (by simp; omega)
    replace k1 := Block.grown k1 hS (by simp; omega)
    replace hall := grown_down hall hS gr
    refine st_a0 rfl ?_; refine wpo_row _ b1 36 (pv y.2) _ k1 (run_b2 (.slice (some ⟨b1, 28, none⟩) 8 8) (.slice Ax out.length cx) (H.ev rfl) (H.ev rfl) (b_copy (run_copy_blk _ _ _ _ 5 1 U30 s5 (by omega) b1 28 8 8 _ 36 k1 Ax out.length cx (out.map u8v) (by rw [List.length_map, Nat.mul_one]; exact (Nat.min_eq_left hol).symm) (brow_holds hrow) (u8s_one _) (by rw [List.length_map, pv_size hyp]; omega)))) fun w7 kq hb7 ho7 => ?_; clear k1; rw [tg_spl hyp hol] at kq; have k1 := kq; replace k0 := block_same k0 (ho7 _ (by omega)); replace hrd := Rd.far hrd (hb7 _ (Nat.le_refl _)) hr1; replace hall := hall.trans (hb7 _ g1); clear hb7 ho7 kq hrow; refine hK _ _ ⟨(fun h => absurd rfl h), ?_⟩; clear hK; clear K; clear hS; refine kt H rfl fun a H => ?_
    refine pt_done (NoPanic.normal ?_)
    refine zB (zC (zC ?_))
    obtain ⟨z, hz⟩ : ∃ z, tg8 y = z := ⟨_, rfl⟩
    have hzp : z.2.ok := by rw [← hz]; exact tg8_ok hyp
    rw [show (⟨y.2.n, y.2.sec, out ++ y.2.tg.drop out.length⟩ : Pkt) = z.2 by rw [← hz, tg8, HO.out]] at k1
    clear HO
    rw [show tkL y.1.1 y.1.2 8 = z.1.1 by rw [← hz]; rfl, show tkB y.1.1 y.1.2 8 = z.1.2 by rw [← hz]; rfl] at hrd
    have hdx : decX bs = z := by rw [decX_eq HKD.out HL.out HX.out, if_neg hse, HY.out, if_pos htg, hz]
    clear hz
    obtain ⟨dn, hdn⟩ : ∃ dn, (!z.1.2 && decide (z.1.1.length = 0)) = dn := ⟨_, rfl⟩
    have HDN := Lib.hid hdn
    clear hdn
    cases dn
    ·
     refine zD ?_
     refine kR 1 H rfl fun a H => ?_
     refine wl_call _ _ _ (done_any _ br z.1.1 z.1.2 hrd) (r_call1 cf67 (H.ev rfl)) ?_; rintro e w9 ⟨rfl, hb⟩; refine ⟨_, rfl, ?_⟩; rw [HDN.out]; replace k0 := Block.ups k0 hb; replace k1 := Block.ups k1 hb; replace hrd := Rd.up hrd hb; replace hall := hall.tr hb; clear hb; refine kl H rfl fun a H => ?_
     refine kV H (r_not (H.ev rfl) rfl) rfl fun a H => ?_
     refine kR 5 H rfl fun a H => ?_
     refine zA (zB (zH H rfl (zC (zD ?_))))
     refine kV (v := .agg (pv pk0)) H (r_build #[] (.agg (pv pk0)) (by simp) (fun w => by kernel_rfl)) rfl fun a H => ?_
     refine op_store 36 (.tmp 2) (.tmp 54) b0 36 (pv pk0) _ (H.ev rfl) (H.ev rfl) k0 (s36p pk0_ok) rfl (pv_one _) fun w' hb ho kq => ?_; clear k0 k1 hrd; have k0 := kq; replace hall := hall.trans (hb _ g0); clear hb ho kq; refine kl0 H fun a H => ?_
     refine kR 1 H rfl fun a H => ?_
     refine zA (zB (zF (zJ ?_)))
     rw [(dec_no (.inl (by rw [hdx]; exact HDN.out))).1, (dec_no (.inl (by rw [hdx]; exact HDN.out))).2]
     exact k_ret_cell2 H rfl rfl rfl k0 U36 rfl (s36p pk0_ok) ⟨rfl, hall⟩
    ·
     by_cases hR : rightF z.2 = true
     ·
      refine zD ?_
      refine kR 1 H rfl fun a H => ?_
      refine wl_call _ _ _ (done_any _ br z.1.1 z.1.2 hrd) (r_call1 cf67 (H.ev rfl)) ?_; rintro e w9 ⟨rfl, hb⟩; refine ⟨_, rfl, ?_⟩; rw [HDN.out]; replace k0 := Block.ups k0 hb; replace k1 := Block.ups k1 hb; replace hrd := Rd.up hrd hb; replace hall := hall.tr hb; clear hb; refine kl H rfl fun a H => ?_
      refine kV H (r_not (H.ev rfl) rfl) rfl fun a H => ?_
      refine kR 1 H rfl fun a H => ?_
      refine kG H rfl ?_; refine kV (v := .agg (pv z.2)) H (run_load_row b1 36 _ _ (H.ev rfl) k1 U36 rfl (s36p hzp)) rfl fun a H => ?_
      refine kG H rfl ?_; refine wl_call _ _ _ (pright_t _ z.2 hzp hR) (r_call1 cf68 (H.ev rfl)) ?_; rintro e w9 ⟨rfl, hb⟩; refine ⟨_, rfl, ?_⟩; replace k0 := Block.ups k0 hb; replace k1 := Block.ups k1 hb; replace hrd := Rd.up hrd hb; replace hall := hall.tr hb; clear hb; refine kl H rfl fun a H => ?_
      refine kW H rfl (r_not (H.ev rfl) rfl) rfl fun a H => ?_
      refine kR 1 H rfl fun a H => ?_
      refine zA (zB (zG H rfl (zE (zB (zC (zD ?_))))))
      refine kV (v := .agg (pv z.2)) H (run_load_row b1 36 _ _ (H.ev rfl) k1 U36 rfl (s36p hzp)) rfl fun a H => ?_
      refine op_store 36 (.tmp 2) (.tmp 55) b0 36 (pv z.2) _ (H.ev rfl) (H.ev rfl) k0 (s36p hzp) (by rw [pv_size pk0_ok, pv_size hzp]) (pv_one _) fun w' hb ho kq => ?_; clear k0 k1 hrd; have k0 := kq; replace hall := hall.trans (hb _ g0); clear hb ho kq; refine kl0 H fun a H => ?_
      refine kR 1 H rfl fun a H => ?_
      refine zA (zB (zF ?_))
      rw [show decP bs = z.2 by rw [dec_yes (by rw [hdx]; exact HDN.out) (by rw [hdx]; exact hR), hdx], show decE bs = 0 from decE_yes (by rw [hdx]; exact HDN.out) (by rw [hdx]; exact hR)]
      exact k_ret_cell2 H rfl rfl rfl k0 U36 rfl (s36p hzp) ⟨rfl, hall⟩
     ·
      refine zD ?_
      refine kR 1 H rfl fun a H => ?_
      refine wl_call _ _ _ (done_any _ br z.1.1 z.1.2 hrd) (r_call1 cf67 (H.ev rfl)) ?_; rintro e w9 ⟨rfl, hb⟩; refine ⟨_, rfl, ?_⟩; rw [HDN.out]; replace k0 := Block.ups k0 hb; replace k1 := Block.ups k1 hb; replace hrd := Rd.up hrd hb; replace hall := hall.tr hb; clear hb; refine kl H rfl fun a H => ?_
      refine kV H (r_not (H.ev rfl) rfl) rfl fun a H => ?_
      refine kR 1 H rfl fun a H => ?_
      refine kG H rfl ?_; refine kV (v := .agg (pv z.2)) H (run_load_row b1 36 _ _ (H.ev rfl) k1 U36 rfl (s36p hzp)) rfl fun a H => ?_
      refine kG H rfl ?_; refine wl_call _ _ _ (pright_f _ z.2 hzp hR) (r_call1 cf68 (H.ev rfl)) ?_; rintro e w9 ⟨rfl, hb⟩; refine ⟨_, rfl, ?_⟩; replace k0 := Block.ups k0 hb; replace k1 := Block.ups k1 hb; replace hrd := Rd.up hrd hb; replace hall := hall.tr hb; clear hb; refine kl H rfl fun a H => ?_
      refine kW H rfl (r_not (H.ev rfl) rfl) rfl fun a H => ?_
      refine kR 1 H rfl fun a H => ?_
      refine zA (zB (zH H rfl (zC (zD ?_))))
      refine kV (v := .agg (pv pk0)) H (r_build #[] (.agg (pv pk0)) (by simp) (fun w => by kernel_rfl)) rfl fun a H => ?_
      refine op_store 36 (.tmp 2) (.tmp 54) b0 36 (pv pk0) _ (H.ev rfl) (H.ev rfl) k0 (s36p pk0_ok) rfl (pv_one _) fun w' hb ho kq => ?_; clear k0 k1 hrd; have k0 := kq; replace hall := hall.trans (hb _ g0); clear hb ho kq; refine kl0 H fun a H => ?_
      refine kR 1 H rfl fun a H => ?_
      refine zA (zB (zF (zJ ?_)))
      rw [(dec_no (.inr (by rw [hdx]; simpa using hR))).1, (dec_no (.inr (by rw [hdx]; simpa using hR))).2]
      exact k_ret_cell2 H rfl rfl rfl k0 U36 rfl (s36p pk0_ok) ⟨rfl, hall⟩
   ·
    refine zD ?_
    refine kR 1 H rfl fun a H => ?_
    refine kV H (r_ld U3 rfl (H.ev rfl) ((pv_cell k1 (fld_at hyp (j := 0) (by omega))).trans (by rw [hyk]))) rfl fun a H => ?_
    refine wl_call _ _ _ (tagged_f _ _ htg) (r_call1 cf66 (H.ev rfl)) ?_; rintro e w9 ⟨rfl, hb⟩; refine ⟨_, rfl, ?_⟩; replace k0 := Block.ups k0 hb; replace k1 := Block.ups k1 hb; replace hrd := Rd.up hrd hb; replace hall := hall.tr hb; clear hb; refine kl H rfl fun a H => ?_
    refine zA (zB (zG H rfl (zE (zB (zC (zC ?_))))))
    obtain ⟨z, hz⟩ : ∃ z, y = z := ⟨_, rfl⟩
    have hzp : z.2.ok := by rw [← hz]; exact hyp
    rw [hz] at k1 hrd
    have hdx : decX bs = z := by rw [decX_eq HKD.out HL.out HX.out, if_neg hse, HY.out, if_neg htg, hz]
    clear hz
    obtain ⟨dn, hdn⟩ : ∃ dn, (!z.1.2 && decide (z.1.1.length = 0)) = dn := ⟨_, rfl⟩
    have HDN := Lib.hid hdn
    clear hdn
    cases dn
    ·
     refine zD ?_
     refine kR 1 H rfl fun a H => ?_
     refine wl_call _ _ _ (done_any _ br z.1.1 z.1.2 hrd) (r_call1 cf67 (H.ev rfl)) ?_; rintro e w9 ⟨rfl, hb⟩; refine ⟨_, rfl, ?_⟩; rw [HDN.out]; replace k0 := Block.ups k0 hb; replace k1 := Block.ups k1 hb; replace hrd := Rd.up hrd hb; replace hall := hall.tr hb; clear hb; refine kl H rfl fun a H => ?_
     refine kV H (r_not (H.ev rfl) rfl) rfl fun a H => ?_
     refine kR 5 H rfl fun a H => ?_
     refine zA (zB (zH H rfl (zC (zD ?_))))
     refine kV (v := .agg (pv pk0)) H (r_build #[] (.agg (pv pk0)) (by simp) (fun w => by kernel_rfl)) rfl fun a H => ?_
     refine op_store 36 (.tmp 2) (.tmp 54) b0 36 (pv pk0) _ (H.ev rfl) (H.ev rfl) k0 (s36p pk0_ok) rfl (pv_one _) fun w' hb ho kq => ?_; clear k0 k1 hrd; have k0 := kq; replace hall := hall.trans (hb _ g0); clear hb ho kq; refine kl0 H fun a H => ?_
     refine kR 1 H rfl fun a H => ?_
     refine zA (zB (zF (zJ ?_)))
     rw [(dec_no (.inl (by rw [hdx]; exact HDN.out))).1, (dec_no (.inl (by rw [hdx]; exact HDN.out))).2]
     exact k_ret_cell2 H rfl rfl rfl k0 U36 rfl (s36p pk0_ok) ⟨rfl, hall⟩
    ·
     by_cases hR : rightF z.2 = true
     ·
      refine zD ?_
      refine kR 1 H rfl fun a H => ?_
      refine wl_call _ _ _ (done_any _ br z.1.1 z.1.2 hrd) (r_call1 cf67 (H.ev rfl)) ?_; rintro e w9 ⟨rfl, hb⟩; refine ⟨_, rfl, ?_⟩; rw [HDN.out]; replace k0 := Block.ups k0 hb; replace k1 := Block.ups k1 hb; replace hrd := Rd.up hrd hb; replace hall := hall.tr hb; clear hb; refine kl H rfl fun a H => ?_
      refine kV H (r_not (H.ev rfl) rfl) rfl fun a H => ?_
      refine kR 1 H rfl fun a H => ?_
      refine kG H rfl ?_; refine kV (v := .agg (pv z.2)) H (run_load_row b1 36 _ _ (H.ev rfl) k1 U36 rfl (s36p hzp)) rfl fun a H => ?_
      refine kG H rfl ?_; refine wl_call _ _ _ (pright_t _ z.2 hzp hR) (r_call1 cf68 (H.ev rfl)) ?_; rintro e w9 ⟨rfl, hb⟩; refine ⟨_, rfl, ?_⟩; replace k0 := Block.ups k0 hb; replace k1 := Block.ups k1 hb; replace hrd := Rd.up hrd hb; replace hall := hall.tr hb; clear hb; refine kl H rfl fun a H => ?_
      refine kW H rfl (r_not (H.ev rfl) rfl) rfl fun a H => ?_
      refine kR 1 H rfl fun a H => ?_
      refine zA (zB (zG H rfl (zE (zB (zC (zD ?_))))))
      refine kV (v := .agg (pv z.2)) H (run_load_row b1 36 _ _ (H.ev rfl) k1 U36 rfl (s36p hzp)) rfl fun a H => ?_
      refine op_store 36 (.tmp 2) (.tmp 55) b0 36 (pv z.2) _ (H.ev rfl) (H.ev rfl) k0 (s36p hzp) (by rw [pv_size pk0_ok, pv_size hzp]) (pv_one _) fun w' hb ho kq => ?_; clear k0 k1 hrd; have k0 := kq; replace hall := hall.trans (hb _ g0); clear hb ho kq; refine kl0 H fun a H => ?_
      refine kR 1 H rfl fun a H => ?_
      refine zA (zB (zF ?_))
      rw [show decP bs = z.2 by rw [dec_yes (by rw [hdx]; exact HDN.out) (by rw [hdx]; exact hR), hdx], show decE bs = 0 from decE_yes (by rw [hdx]; exact HDN.out) (by rw [hdx]; exact hR)]
      exact k_ret_cell2 H rfl rfl rfl k0 U36 rfl (s36p hzp) ⟨rfl, hall⟩
     ·
      refine zD ?_
      refine kR 1 H rfl fun a H => ?_
      refine wl_call _ _ _ (done_any _ br z.1.1 z.1.2 hrd) (r_call1 cf67 (H.ev rfl)) ?_; rintro e w9 ⟨rfl, hb⟩; refine ⟨_, rfl, ?_⟩; rw [HDN.out]; replace k0 := Block.ups k0 hb; replace k1 := Block.ups k1 hb; replace hrd := Rd.up hrd hb; replace hall := hall.tr hb; clear hb; refine kl H rfl fun a H => ?_
      refine kV H (r_not (H.ev rfl) rfl) rfl fun a H => ?_
      refine kR 1 H rfl fun a H => ?_
      refine kG H rfl ?_; refine kV (v := .agg (pv z.2)) H (run_load_row b1 36 _ _ (H.ev rfl) k1 U36 rfl (s36p hzp)) rfl fun a H => ?_
      refine kG H rfl ?_; refine wl_call _ _ _ (pright_f _ z.2 hzp hR) (r_call1 cf68 (H.ev rfl)) ?_; rintro e w9 ⟨rfl, hb⟩; refine ⟨_, rfl, ?_⟩; replace k0 := Block.ups k0 hb; replace k1 := Block.ups k1 hb; replace hrd := Rd.up hrd hb; replace hall := hall.tr hb; clear hb; refine kl H rfl fun a H => ?_
      refine kW H rfl (r_not (H.ev rfl) rfl) rfl fun a H => ?_
      refine kR 1 H rfl fun a H => ?_
      refine zA (zB (zH H rfl (zC (zD ?_))))
      refine kV (v := .agg (pv pk0)) H (r_build #[] (.agg (pv pk0)) (by simp) (fun w => by kernel_rfl)) rfl fun a H => ?_
      refine op_store 36 (.tmp 2) (.tmp 54) b0 36 (pv pk0) _ (H.ev rfl) (H.ev rfl) k0 (s36p pk0_ok) rfl (pv_one _) fun w' hb ho kq => ?_; clear k0 k1 hrd; have k0 := kq; replace hall := hall.trans (hb _ g0); clear hb ho kq; refine kl0 H fun a H => ?_
      refine kR 1 H rfl fun a H => ?_
      refine zA (zB (zF (zJ ?_)))
      rw [(dec_no (.inr (by rw [hdx]; simpa using hR))).1, (dec_no (.inr (by rw [hdx]; simpa using hR))).2]
      exact k_ret_cell2 H rfl rfl rfl k0 U36 rfl (s36p pk0_ok) ⟨rfl, hall⟩
end Go.Proofs.YtbnmpoonkjlkjaaGreat
