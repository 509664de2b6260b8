/- Client: part D of the proof. -/
import Derived.Test.YtbnmpoonkjlkjaaGreatXC
import Derived.DeepKeys
namespace Go.Proofs.YtbnmpoonkjlkjaaGreat
open Go.RowKit
set_option linter.unusedVariables false
set_option linter.unusedSimpArgs false
section
section
variable {P : Program} {d : Option Tmp} {tt : TypeId} {ps : String} {af : Array Edge} {gd : Option (Nat × Bool)} {a : Act} {w : World} {x y : Operand} {t t2 : TypeId}
theorem r_eqnil {e : TypeId} {A : Option Addr} {n c : Nat} (ht : P.underlying t = some (.slice e)) (hx : a.eval x = .slice A n c) {b : Bool} (hb : A.isNone = b) :
  (execOp a.eval ⟨d, .binOp .eql t x (.const (.slice none 0 0)) t2, tt, ps, af, gd⟩).run P w = .ok (.value (.bool b)) w := by
 subst hb
 have h := Lib.run_eql_slice_nil (P := P) w t e A n c 0 0 ht
 unfold execOp
 simp only [hx]
 go_simp
theorem r_max {m n q : Int} {ts : Array TypeId} (hx : a.eval x = .int .i64 m) (hy : a.eval y = .int .i64 n) (hq : (if n > m then n else m) = q) : (execOp a.eval ⟨d, .call { callee := .builtin .max, args := #[x, y], argTypes := ts }, tt, ps, af, gd⟩).run P w = .ok (.value (.int .i64 q)) w := by
 subst hq
 unfold execOp
 simp [resolve, invoke, hx, hy, builtin, run_max_int2]
theorem r_min {m n q : Int} {ts : Array TypeId} (hx : a.eval x = .int .i64 m) (hy : a.eval y = .int .i64 n) (hq : (if n < m then n else m) = q) : (execOp a.eval ⟨d, .call { callee := .builtin .min, args := #[x, y], argTypes := ts }, tt, ps, af, gd⟩).run P w = .ok (.value (.int .i64 q)) w := by
 subst hq
 unfold execOp
 simp [resolve, invoke, hx, hy, builtin, run_min_int2]
theorem r_shr_i {n : Int} {k : Nat} (ht : P.underlying t = some (.int .i64)) (hx : a.eval x = .int .i64 n) (hy : a.eval y = .int .i64 (k : Nat)) (hk : k ≤ 63) : (execOp a.eval ⟨d, .binOp .shr t x y t2, tt, ps, af, gd⟩).run P w = .ok (.value (.int .i64 (n >>> k))) w := by
 unfold execOp
 simp only [hx, hy]
 go_simp
 rw [Int.shiftRight_eq_div_pow]
 simp
end
/-- byte k of a number -/
def byteAt (n : Int) (k : Nat) : B8 := BitVec.ofInt 8 (n >>> (8 * k))
/-- the first j bytes of a number of s bytes -/
def putN (n : Int) (s j : Nat) : List B8 := (List.range j).map fun t => byteAt n (s - 1 - t)
theorem putN_zero (n : Int) (s : Nat) (bs : List B8) : bs ++ putN n s 0 = bs := by simp [putN]
theorem putN_len (n : Int) (s j : Nat) : (putN n s j).length = j := by simp [putN]
theorem putN_next {n : Int} {s j : Nat} : putN n s (j + 1) = putN n s j ++ [byteAt n (s - 1 - j)] := by simp [putN, List.range_succ]
theorem clone_any (w : World) (v : Value) (bs : List B8) (hr : BRow w v bs) (hn : bs.length ≤ 1000000) :
  Calls Tryz.prog 94 #[v] w fun e w' => (∃ D A c, D = w.heap.size ∧ e = .returned (.slice A bs.length c) ∧ BOwn w' D (.slice A bs.length c) bs) ∧ Below w.heap.size w w' := by
 obtain ⟨A, c, rfl, h1, h2, h3, hh⟩ := hr
 replace hh := Lib.hid hh
 match A with
 | none =>
  have h0 : bs = [] := List.eq_nil_of_length_eq_zero (by have := h3 rfl; omega)
  have hall := Below.refl w.heap.size w
  refine K_enter 8 Tryz.func94 rfl rfl fun a H => ?_
  replace H := H.pick [0]
  refine zC (zD ?_)
  refine kR 1 H rfl fun a H => ?_
  refine zA (zB (zC (zC (zD ?_))))
  refine kR 1 H rfl fun a H => ?_
  refine kV (v := .bool true) H (r_eqnil U30 (H.ev rfl) rfl) rfl fun a H => ?_
  refine zA (zB (zH H rfl (zC (zD ?_))))
  refine kR 1 H rfl fun a H => ?_
  refine zA (zB (zF (zJ ?_)))
  exact k_ret1 H rfl rfl ⟨⟨_, none, 0, rfl, by rw [h0]; rfl, by rw [h0]; exact World.ownsRow_nil _ _ _ _⟩, hall⟩
 | some ad =>
  have hall := Below.refl w.heap.size w
  refine K_enter 8 Tryz.func94 rfl rfl fun a H => ?_
  replace H := H.pick [0]
  refine zC (zD ?_)
  refine kR 1 H rfl fun a H => ?_
  refine zA (zB (zC (zC (zD ?_))))
  refine kR 1 H rfl fun a H => ?_
  refine kV (v := .bool false) H (r_eqnil U30 (H.ev rfl) rfl) rfl fun a H => ?_
  refine zA (zB (zG H rfl (zE (zB (zC (zD ?_))))))
  refine op_litv 30 0 #[] 5 #[] (by simp) (fun w => by kernel_rfl) fun w1 bl hge hb kk => ?_; have hown : BOwn _ w.heap.size (.slice (some ⟨bl, 0, none⟩) 0 0) [] := own_empty kk (Nat.le_trans hall.size hge); replace hall := hall.tr hb; clear hb hge kk; refine kl H rfl fun a H => ?_
  refine kR 1 H rfl fun a H => ?_
  have hDs2 := hall.size; refine op_append 30 5 (.tmp 5) (.tmp 6) w.heap.size (.int .u8 0) 1 1 _ _ _ (some ad) bs.length c (bs.map u8v) (H.ev rfl) (H.ev rfl) U30 i5 rfl (by omega) hown (by simp) (hh.out.up hall) (u8s_one _) (by unfold maxLen; simp; omega) (by simp; omega) hDs2 fun o2 w9 hown2 hg9 hv9 hb2 => ?_; have hown3 := bown_app hown2; rw [List.nil_append] at hown3; replace hall := hall.trans hb2; clear hDs2; clear hown hown2 hg9 hv9 hb2; have hown := hown3; clear hown3; obtain ⟨A2, c2, hov⟩ := own_sliceB hown; subst hov; refine kl H rfl fun a H => ?_
  refine kR 1 H rfl fun a H => ?_
  refine zA (zB (zF ?_))
  exact k_ret1 H rfl rfl ⟨⟨_, A2, c2, rfl, rfl, hown⟩, hall⟩
theorem fit_lit (s : Nat) (q : Int) (w : World) (hq : q = (s : Int)) (h1 : 1 ≤ s) (h7 : s ≤ 7) :
  Calls Tryz.prog 95 #[.int .i64 q] w fun e w' => e = .returned (.int .i64 (s : Nat)) ∧ Below w.heap.size w w' := by
 subst hq
 have hall := Below.refl w.heap.size w
 refine K_enter 6 Tryz.func95 rfl rfl fun a H => ?_
 replace H := H.pick [0]
 refine zC (zD ?_)
 refine kR 1 H rfl fun a H => ?_
 refine zA (zB (zC (zD ?_)))
 refine kR 1 H rfl fun a H => ?_
 refine kV (v := .int .i64 (s : Nat)) H (r_max (H.ev rfl) evc (by split <;> omega)) rfl fun a H => ?_
 refine kV (v := .int .i64 (s : Nat)) H (r_min (H.ev rfl) evc (by split <;> omega)) rfl fun a H => ?_
 refine kR 1 H rfl fun a H => ?_
 refine zA (zB (zF ?_))
 exact k_ret1 H rfl rfl ⟨rfl, hall⟩
theorem clamp_lit (s : Nat) (q : Int) (w : World) (hq : q = (s : Int)) (h1 : 1 ≤ s) (h7 : s ≤ 7) :
  Calls Tryz.prog 111 #[.int .i64 q] w fun e w' => e = .returned (.int .i64 (s : Nat)) ∧ Below w.heap.size w w' := by
 subst hq
 have hall := Below.refl w.heap.size w
 refine K_enter 6 Tryz.func111 rfl rfl fun a H => ?_
 replace H := H.pick [0]
 refine zC (zD ?_)
 refine kR 1 H rfl fun a H => ?_
 refine zA (zB (zC (zD ?_)))
 refine kR 1 H rfl fun a H => ?_
 refine kV (v := .int .i64 (s : Nat)) H (r_min (H.ev rfl) evc (by split <;> omega)) rfl fun a H => ?_
 refine kV (v := .int .i64 (s : Nat)) H (r_max evc (H.ev rfl) (by split <;> omega)) rfl fun a H => ?_
 refine kR 1 H rfl fun a H => ?_
 refine zA (zB (zF ?_))
 exact k_ret1 H rfl rfl ⟨rfl, hall⟩
def Pt122 (W : World) (n : Int) (s : Nat) (bs : List B8) (a : Act) (w : World) : Prop :=
 ∃ (j : Nat) (A1 : Option Addr) (c1 : Nat), Kn a 27 [(1, .int .i64 n), (7, .slice A1 (bs ++ putN n s j).length c1), (8, .int .i64 (((s : Nat) : Int) - 1 - ((j : Nat) : Int)))] ∧ j ≤ s ∧ BOwn w W.heap.size (.slice A1 (bs ++ putN n s j).length c1) (bs ++ putN n s j) ∧ Below W.heap.size W w
set_option maxHeartbeats 4000000 in
theorem put_lit (w : World) (v : Value) (bs : List B8) (n : Int) (s : Nat) (q : Int) (hq : q = (s : Int)) (hr : BRow w v bs) (hn : bs.length ≤ 900000) (h1 : 1 ≤ s) (h7 : s ≤ 7) :
  Calls Tryz.prog 122 #[v, .int .i64 n, .int .i64 q] w fun e w' => (∃ D A c, D = w.heap.size ∧ e = .returned (.slice A (bs ++ putN n s s).length c) ∧ BOwn w' D (.slice A (bs ++ putN n s s).length c) (bs ++ putN n s s)) ∧ Below w.heap.size w w' := by
 subst hq
 have hall := Below.refl w.heap.size w
 refine K_enter 27 Tryz.func122 rfl rfl fun a H => ?_
 replace H := H.pick [0, 1, 2]
 refine zC (zD ?_)
 refine kR 1 H rfl fun a H => ?_
 refine zA (zB (zC (zD ?_)))
 refine kR 1 H rfl fun a H => ?_
 refine wl_call _ _ _ (clone_any _ _ bs hr (by omega)) (r_call1 cf94 (H.ev rfl)) ?_; rintro e w9 ⟨⟨D, A1, c1, hDe, rfl, hown⟩, hb⟩; refine ⟨_, rfl, ?_⟩; subst hDe; replace hall := hall.tr hb; clear hb hr; refine kl H rfl fun a H => ?_
 refine kR 1 H rfl fun a H => ?_
 refine zA (zB (zC (zC (zD ?_))))
 refine kR 1 H rfl fun a H => ?_
 refine wl_call _ _ _ (fit_lit s s _ rfl h1 h7) (r_call1 cf95 (H.ev rfl)) ?_; rintro e w9 ⟨rfl, hb⟩; refine ⟨_, rfl, ?_⟩; replace hown := own_ups hown hb; replace hall := hall.tr hb; clear hb; refine kl H rfl fun a H => ?_
 refine kV H (r_sub (q := ((s : Nat) : Int) - 1 - ((0 : Nat) : Int)) U3 (H.ev rfl) evc (by omega) (by omega)) rfl fun a H => ?_
 refine kR 1 H rfl fun a H => ?_
 refine zA (zB ?_)
 refine wp_block ?_
 rw [← putN_zero n s bs] at H hown
 refine wp_loop (Pt122 w n s bs) (fun a _ => (intOf (a.eval (.tmp 8)) + 1).toNat) ⟨0, A1, c1, H.pick [1, 7, 8], by omega, hown, hall⟩ ?_
 clear H hall hown
 rintro a w' ⟨j, A1, c1, H, hj, hown, hall⟩
 have H0 := H
 have hpl := putN_len n s j
 by_cases hlt : j < s
 ·
  refine zC (zC (zD ?_))
  refine kR 1 H rfl fun a H => ?_
  refine kV H (r_ge U3 (H.ev rfl) evc (dec_t (by omega))) rfl fun a H => ?_
  refine zA (zB (zH H rfl (zE (zB (zC ?_)))))
  refine wp_block ?_
  refine zD ?_
  refine kR 3 H rfl fun a H => ?_
  refine kV (v := .int .i64 (8 * (s - 1 - j) : Nat)) H (r_mul (r := ((8 * (s - 1 - j) : Nat) : Int)) U3 evc (H.ev rfl) (by omega) (by omega)) rfl fun a H => ?_
  refine kV (v := .int .i64 (n >>> (8 * (s - 1 - j)))) H (r_shr_i U3 (H.ev rfl) (H.ev rfl) (by omega)) rfl fun a H => ?_
  refine kV (v := u8v (byteAt n (s - 1 - j))) H (r_cvi_8 U3 U5 (H.ev rfl)) rfl fun a H => ?_
  refine op_litv 30 1 #[(0, u8v (byteAt n (s - 1 - j)))] 5 #[u8v (byteAt n (s - 1 - j))] (by simp [evc, H.ev (j := 23) rfl]) (fun w => by kernel_rfl) fun w0 b0 hge hb k0 => ?_; have g0 := Nat.le_trans hall.size hge; replace hown := own_ups hown hb; replace hall := hall.tr hb; clear hb; clear hge; refine kl H rfl fun a H => ?_
  have hDs2 := hall.size; refine op_append 30 5 (.tmp 18) (.tmp 24) w.heap.size (.int .u8 0) 1 1 _ _ _ (some ⟨b0, 0, none⟩) 1 1 ([byteAt n (s - 1 - j)].map u8v) (H.ev rfl) (H.ev rfl) U30 i5 rfl (by omega) hown rfl (Block.holds k0) (u8s_one _) (by unfold maxLen; rw [List.length_append]; omega) (by rw [List.length_append]; omega) hDs2 fun o2 w9 hown2 hg9 hv9 hb2 => ?_; have hown3 := bown_app hown2; replace hall := hall.trans hb2; clear k0 hDs2; clear hown hown2 hg9 hv9 hb2; have hown := hown3; clear hown3; obtain ⟨A2, c2, hov⟩ := own_sliceB hown; subst hov; refine kl H rfl fun a H => ?_
  refine kR 1 H rfl fun a H => ?_
  refine zA (n_block (zB (zD ?_)))
  refine kR 1 H rfl fun a H => ?_
  refine kV H (r_sub (q := ((s : Nat) : Int) - 1 - ((j + 1 : Nat) : Int)) U3 (H.ev rfl) evc (by omega) (by omega)) rfl fun a H => ?_
  refine kR 1 H rfl fun a H => ?_
  refine zA ?_
  rw [List.append_assoc, ← putN_next] at H hown
  replace H := H.pick [1, 7, 8]
  refine zI ⟨⟨j + 1, _, _, H, by omega, hown, hall⟩, ?_⟩
  rw [H.ev (j := 8) rfl, H0.ev (j := 8) rfl]
  simp only [intOf]
  omega
 ·
  obtain rfl : j = s := by omega
  refine zC (zC (zD ?_))
  refine kR 1 H rfl fun a H => ?_
  refine kV H (r_ge U3 (H.ev rfl) evc (dec_f (by omega))) rfl fun a H => ?_
  refine zA (zB (zG H rfl (wp_exit (e_then (e_then ?_)))))
  refine e_here ?_
  refine zB (zC (zD ?_))
  refine kR 2 H rfl fun a H => ?_
  refine zA (zB (zF ?_))
  exact k_ret1 H rfl rfl ⟨⟨_, A1, c1, rfl, rfl, hown⟩, hall⟩
def Pt72 (W : World) (n : Int) (s : Nat) (bs : List B8) (a : Act) (w : World) : Prop :=
 ∃ (j : Nat) (A1 : Option Addr) (c1 : Nat), Kn a 28 [(1, .int .i64 n), (7, .slice A1 (bs ++ putN n s j).length c1), (8, .int .i64 (((s : Nat) : Int) - 1 - ((j : Nat) : Int)))] ∧ j ≤ s ∧ BOwn w W.heap.size (.slice A1 (bs ++ putN n s j).length c1) (bs ++ putN n s j) ∧ Below W.heap.size W w
set_option maxHeartbeats 4000000 in
theorem rput_lit (w : World) (v : Value) (bs : List B8) (n : Int) (s : Nat) (q : Int) (hq : q = (s : Int)) (hr : BRow w v bs) (hn : bs.length ≤ 900000) (h1 : 1 ≤ s) (h7 : s ≤ 7) :
  Calls Tryz.prog 72 #[v, .int .i64 n, .int .i64 q] w fun e w' => (∃ D A c, D = w.heap.size ∧ e = .returned (.slice A (bs ++ putN n s s).length c) ∧ BOwn w' D (.slice A (bs ++ putN n s s).length c) (bs ++ putN n s s)) ∧ Below w.heap.size w w' := by
 subst hq
 obtain ⟨A, c, rfl, g1, g2, g3, hh⟩ := hr
 replace hh := Lib.hid hh
 have hall := Below.refl w.heap.size w
 refine K_enter 28 Tryz.func72 rfl rfl fun a H => ?_
 replace H := H.pick [0, 1, 2]
 refine zC (zD ?_)
 refine kR 1 H rfl fun a H => ?_
 refine zA (zB (zC (zD ?_)))
 refine op_litv 30 0 #[] 5 #[] (by simp) (fun w => by kernel_rfl) fun w1 bl hge hb kk => ?_; have hown : BOwn _ w.heap.size (.slice (some ⟨bl, 0, none⟩) 0 0) [] := own_empty kk (Nat.le_trans hall.size hge); replace hall := hall.tr hb; clear hb hge kk; refine kl H rfl fun a H => ?_
 refine kR 1 H rfl fun a H => ?_
 have hDs2 := hall.size; refine op_append 30 5 (.tmp 9) (.tmp 10) w.heap.size (.int .u8 0) 1 1 _ _ _ A bs.length c (bs.map u8v) (H.ev rfl) (H.ev rfl) U30 i5 rfl (by omega) hown (by simp) (hh.out.up hall) (u8s_one _) (by unfold maxLen; simp; omega) (by simp; omega) hDs2 fun o2 w9 hown2 hg9 hv9 hb2 => ?_; have hown3 := bown_app hown2; rw [List.nil_append] at hown3; replace hall := hall.trans hb2; clear hDs2; clear hown hown2 hg9 hv9 hb2; have hown := hown3; clear hown3; obtain ⟨A1, c1, hov⟩ := own_sliceB hown; subst hov; refine kl H rfl fun a H => ?_
 refine kR 1 H rfl fun a H => ?_
 refine zA (zB (zC (zC (zD ?_))))
 refine kR 1 H rfl fun a H => ?_
 refine wl_call _ _ _ (clamp_lit s s _ rfl h1 h7) (r_call1 cf111 (H.ev rfl)) ?_; rintro e w9 ⟨rfl, hb⟩; refine ⟨_, rfl, ?_⟩; replace hown := own_ups hown hb; replace hall := hall.tr hb; clear hb; refine kl H rfl fun a H => ?_
 refine kV H (r_sub (q := ((s : Nat) : Int) - 1 - ((0 : Nat) : Int)) U3 (H.ev rfl) evc (by omega) (by omega)) rfl fun a H => ?_
 refine kR 1 H rfl fun a H => ?_
 refine zA (zB ?_)
 refine wp_block ?_
 rw [← putN_zero n s bs] at H hown
 refine wp_loop (Pt72 w n s bs) (fun a _ => (intOf (a.eval (.tmp 8)) + 1).toNat) ⟨0, A1, c1, H.pick [1, 7, 8], by omega, hown, hall⟩ ?_
 clear H hall hown
 rintro a w' ⟨j, A1, c1, H, hj, hown, hall⟩
 have H0 := H
 have hpl := putN_len n s j
 by_cases hlt : j < s
 ·
  refine zC (zC (zD ?_))
  refine kR 1 H rfl fun a H => ?_
  refine kV H (r_ge U3 (H.ev rfl) evc (dec_t (by omega))) rfl fun a H => ?_
  refine zA (zB (zH H rfl (zE (zB (zC ?_)))))
  refine wp_block ?_
  refine zD ?_
  refine kR 3 H rfl fun a H => ?_
  refine kV (v := .int .i64 (8 * (s - 1 - j) : Nat)) H (r_mul (r := ((8 * (s - 1 - j) : Nat) : Int)) U3 evc (H.ev rfl) (by omega) (by omega)) rfl fun a H => ?_
  refine kV (v := .int .i64 (n >>> (8 * (s - 1 - j)))) H (r_shr_i U3 (H.ev rfl) (H.ev rfl) (by omega)) rfl fun a H => ?_
  refine kV (v := u8v (byteAt n (s - 1 - j))) H (r_cvi_8 U3 U5 (H.ev rfl)) rfl fun a H => ?_
  refine op_litv 30 1 #[(0, u8v (byteAt n (s - 1 - j)))] 5 #[u8v (byteAt n (s - 1 - j))] (by simp [evc, H.ev (j := 24) rfl]) (fun w => by kernel_rfl) fun w0 b0 hge hb k0 => ?_; have g0 := Nat.le_trans hall.size hge; replace hown := own_ups hown hb; replace hall := hall.tr hb; clear hb; clear hge; refine kl H rfl fun a H => ?_
  have hDs2 := hall.size; refine op_append 30 5 (.tmp 19) (.tmp 25) w.heap.size (.int .u8 0) 1 1 _ _ _ (some ⟨b0, 0, none⟩) 1 1 ([byteAt n (s - 1 - j)].map u8v) (H.ev rfl) (H.ev rfl) U30 i5 rfl (by omega) hown rfl (Block.holds k0) (u8s_one _) (by unfold maxLen; rw [List.length_append]; omega) (by rw [List.length_append]; omega) hDs2 fun o2 w9 hown2 hg9 hv9 hb2 => ?_; have hown3 := bown_app hown2; replace hall := hall.trans hb2; clear k0 hDs2; clear hown hown2 hg9 hv9 hb2; have hown := hown3; clear hown3; obtain ⟨A2, c2, hov⟩ := own_sliceB hown; subst hov; refine kl H rfl fun a H => ?_
  refine kR 1 H rfl fun a H => ?_
  refine zA (n_block (zB (zD ?_)))
  refine kR 1 H rfl fun a H => ?_
  refine kV H (r_sub (q := ((s : Nat) : Int) - 1 - ((j + 1 : Nat) : Int)) U3 (H.ev rfl) evc (by omega) (by omega)) rfl fun a H => ?_
  refine kR 1 H rfl fun a H => ?_
  refine zA ?_
  rw [List.append_assoc, ← putN_next] at H hown
  replace H := H.pick [1, 7, 8]
  refine zI ⟨⟨j + 1, _, _, H, by omega, hown, hall⟩, ?_⟩
  rw [H.ev (j := 8) rfl, H0.ev (j := 8) rfl]
  simp only [intOf]
  omega
 ·
  obtain rfl : j = s := by omega
  refine zC (zC (zD ?_))
  refine kR 1 H rfl fun a H => ?_
  refine kV H (r_ge U3 (H.ev rfl) evc (dec_f (by omega))) rfl fun a H => ?_
  refine zA (zB (zG H rfl (wp_exit (e_then (e_then ?_)))))
  refine e_here ?_
  refine zB (zC (zD ?_))
  refine kR 2 H rfl fun a H => ?_
  refine zA (zB (zF ?_))
  exact k_ret1 H rfl rfl ⟨⟨_, A1, c1, rfl, rfl, hown⟩, hall⟩
end
/-- a row's address: none, or below b -/
def Fl (A : Option Addr) (b : Nat) : Prop := A = none ∨ ∃ q o, A = some ⟨q, o, none⟩ ∧ q < b
theorem Fl.lt {A : Option Addr} {b q o : Nat} (h : Fl A b) (e : A = some ⟨q, o, none⟩) : q < b := by
 rcases h with h | ⟨q', o', h, hl⟩
 · rw [h] at e; cases e
 · rw [h] at e; injection e with e; injection e with e; omega
theorem Fl.le {A : Option Addr} {b b' : Nat} (h : Fl A b) (hb : b ≤ b') : Fl A b' := by
 rcases h with h | ⟨q, o, h, hl⟩
 · exact .inl h
 · exact .inr ⟨q, o, h, by omega⟩
theorem Fl.zero {A : Option Addr} {b c : Nat} (h : Fl A b) : slAt A c 0 1 = A := by
 rcases h with rfl | ⟨q, o, rfl, hl⟩
 · simp [slAt]
 · simp [slAt, add_flat]
theorem Fl.slAt {A : Option Addr} {b c n : Nat} (h : Fl A b) : Fl (Go.Proofs.YtbnmpoonkjlkjaaGreat.slAt A c n 1) b := by
 unfold Go.Proofs.YtbnmpoonkjlkjaaGreat.slAt
 split
 · exact h
 ·
  rcases h with rfl | ⟨q, o, rfl, hl⟩
  · exact .inl rfl
  · exact .inr ⟨q, o + n * 1, by simp [add_flat], hl⟩
theorem own_fl {w : World} {D : Nat} {A : Option Addr} {c : Nat} {bs : List B8} (h : BOwn w D (.slice A bs.length c) bs) : Fl A w.heap.size := by
 have h0 := h
 obtain ⟨_, ⟨e, _⟩ | ⟨g, cap, cur, e, _⟩⟩ := h
 · injection e with e1; exact .inl e1
 ·
  injection e with e1
  subst e1
  exact .inr ⟨g, 0, rfl, (World.ownsRow.lt h0 g rfl).2⟩
theorem brow_nil (w : World) : BRow w (.slice none 0 0) [] := ⟨none, 0, rfl, Nat.le_refl _, by simp [maxLen], fun _ => rfl, fun j hj => by simp at hj⟩
theorem brow_drop {w : World} {A : Option Addr} {b m n c : Nat} {bs : List B8} (hf : Fl A b) (h : BRow w (.slice A m c) bs) (hn : n ≤ bs.length) : BRow w (.slice (slAt A c n 1) (bs.drop n).length (c - n)) (bs.drop n) := by
 obtain ⟨A', c', e, h1, h2, h3, hh⟩ := h
 injection e with e1 e2 e3
 subst e1 e3
 refine ⟨_, _, rfl, by rw [List.length_drop]; omega, by omega, fun e => ?_, fun j hj => ?_⟩
 ·
  rcases hf with rfl | ⟨q, o, rfl, _⟩
  · have := h3 rfl; omega
  ·
   unfold slAt at e
   split at e
   · omega
   · simp at e
 ·
  have hj' : j < bs.length - n := by simpa using hj
  obtain ⟨b, o', he, hc⟩ := hh (n + j) (by simp; omega)
  subst he
  refine ⟨b, o' + n * 1, ?_, ?_⟩
  · rw [slAt_some (by omega)]
  · rw [Nat.mul_one, Nat.add_assoc, hc, List.getElem?_map, List.getElem?_map, List.getElem?_drop]
theorem bown_tk {w : World} {B n : Nat} {v : Value} {bs : List B8} (hl : bs.length = n) (h : w.ownsRow B 5 1 v (0 + n) ([] ++ bs.map u8v)) : BOwn w B v bs := by
 subst hl
 rw [Nat.zero_add, List.nil_append] at h
 exact h
theorem grown_below2 {w0 w w' : World} {r : Option Nat} {D : Nat} (h : w0.grownBy w r) (hb : Below D w w') (hD : w0.heap.size ≤ D) : w0.grownBy w' r :=
 ⟨hb.os.trans h.os, hb.tape.trans h.tape, hb.output.trans h.output, Nat.le_trans h.size hb.size, fun k hk hne => (hb.block k (Nat.lt_of_lt_of_le hk hD)).trans (h.block k hk hne)⟩
/-- a slice's memory is not below B -/
def FreshB (B : Nat) (v : Value) : Prop := ∀ q o n c, v = .slice (some ⟨q, o, none⟩) n c → B ≤ q
theorem nil_freshB {B : Nat} : FreshB B (.slice none 0 0) := fun q o n c e => by injection e with e; cases e
theorem bown_fresh {w : World} {D B : Nat} {v : Value} {bs : List B8} (h : BOwn w D v bs) (hB : B ≤ D) : FreshB B v := fun q o n c e => by
 obtain ⟨_, ⟨e2, _⟩ | ⟨g, cap, cur, e2, hg, _⟩⟩ := h
 · rw [e] at e2; injection e2 with e2; cases e2
 · rw [e] at e2; injection e2 with e2; injection e2 with e2; injection e2 with e3 e4; omega
/-- a reader -/
def Rd (w : World) (b : Nat) (T : TypeId) (l : List B8) (bad : Bool) : Prop := ∃ A c, Block w b T #[.slice A l.length c, .bool bad] ∧ BRow w (.slice A l.length c) l ∧ Fl A b
/-- what is taken, what is left, whether it failed -/
def tkO (l : List B8) (bad : Bool) (n : Nat) : List B8 := if bad || decide (l.length < n) then [] else l.take n
def tkL (l : List B8) (bad : Bool) (n : Nat) : List B8 := if bad || decide (l.length < n) then [] else l.drop n
def tkB (l : List B8) (bad : Bool) (n : Nat) : Bool := bad || decide (l.length < n)
theorem tk_no {l : List B8} {bad : Bool} {n : Nat} (h : (bad || decide (l.length < n)) = true) : tkO l bad n = [] := if_pos h
theorem tkL_no {l : List B8} {bad : Bool} {n : Nat} (h : (bad || decide (l.length < n)) = true) : tkL l bad n = [] := if_pos h
theorem tkB_no {l : List B8} {bad : Bool} {n : Nat} (h : (bad || decide (l.length < n)) = true) : tkB l bad n = true := h
theorem tk_yes {l : List B8} {bad : Bool} {n : Nat} (h : (bad || decide (l.length < n)) = false) : tkO l bad n = l.take n := if_neg (by rw [h]; simp)
theorem tkL_yes {l : List B8} {bad : Bool} {n : Nat} (h : (bad || decide (l.length < n)) = false) : tkL l bad n = l.drop n := if_neg (by rw [h]; simp)
theorem tkB_yes {l : List B8} {bad : Bool} {n : Nat} (h : (bad || decide (l.length < n)) = false) : tkB l bad n = false := h
theorem fld116_0 : fldAt Tryz.prog 116 0 0 := fun b o w => by go_simp
theorem fld116_1 : fldAt Tryz.prog 116 1 1 := fun b o w => by go_simp
theorem fld123_0 : fldAt Tryz.prog 123 0 0 := fun b o w => by go_simp
theorem fld123_1 : fldAt Tryz.prog 123 1 1 := fun b o w => by go_simp
theorem open_any (w : World) (v : Value) (bs : List B8) (hr : BRow w v bs) (hn : bs.length ≤ 1000000) :
  Calls Tryz.prog 61 #[v] w fun e w' => (∃ b, e = .returned (.pointer (some ⟨b, 0, none⟩)) ∧ w.heap.size ≤ b ∧ Rd w' b 116 bs false) ∧ Below w.heap.size w w' := by
 have hall := Below.refl w.heap.size w
 refine K_enter 7 Tryz.func61 rfl rfl fun a H => ?_
 replace H := H.pick [0]
 refine zC (zD ?_)
 refine kR 1 H rfl fun a H => ?_
 refine zA (zB (zC (zD ?_)))
 refine kR 1 H rfl fun a H => ?_
 refine wl_call _ _ _ (clone_any _ _ bs hr hn) (r_call1 cf94 (H.ev rfl)) ?_; rintro e w9 ⟨⟨D, A1, c1, hDe, rfl, hown⟩, hb⟩; refine ⟨_, rfl, ?_⟩; clear hDe; replace hall := hall.tr hb; clear hb hr; have hrow := BOwn.row hown; have hfl := own_fl hown; clear hown; refine kl H rfl fun a H => ?_
 refine kV H (r_build #[(0, .slice A1 bs.length c1)] (.agg #[.slice A1 bs.length c1, .bool false]) (by simp [evc, H.ev (j := 4) rfl]) (fun w => by kernel_rfl)) rfl fun a H => ?_
 refine op_box 116 (.tmp 5) #[.slice A1 bs.length c1, .bool false] (H.ev rfl) fun w5 b hge hb kr => ?_; have gr := Nat.le_trans hall.size hge; have hfl2 := hfl.le hge; replace hrow := BRow.up hrow hb; replace hall := hall.tr hb; clear hb hge hfl; refine kl H rfl fun a H => ?_
 refine kR 1 H rfl fun a H => ?_
 refine zA (zB (zF ?_))
 exact k_ret1 H rfl rfl ⟨⟨b, rfl, gr, A1, c1, kr, hrow, hfl2⟩, hall⟩
theorem ropen_any (w : World) (v : Value) (bs : List B8) (hr : BRow w v bs) (hn : bs.length ≤ 1000000) :
  Calls Tryz.prog 74 #[v] w fun e w' => (∃ b, e = .returned (.pointer (some ⟨b, 0, none⟩)) ∧ w.heap.size ≤ b ∧ Rd w' b 123 bs false) ∧ Below w.heap.size w w' := by
 obtain ⟨A, c, rfl, g1, g2, g3, hh⟩ := hr
 replace hh := Lib.hid hh
 have hall := Below.refl w.heap.size w
 refine K_enter 8 Tryz.func74 rfl rfl fun a H => ?_
 replace H := H.pick [0]
 refine zC (zD ?_)
 refine kR 1 H rfl fun a H => ?_
 refine zA (zB (zC (zD ?_)))
 refine op_litv 30 0 #[] 5 #[] (by simp) (fun w => by kernel_rfl) fun w1 bl hge hb kk => ?_; have hown : BOwn _ w.heap.size (.slice (some ⟨bl, 0, none⟩) 0 0) [] := own_empty kk (Nat.le_trans hall.size hge); replace hall := hall.tr hb; clear hb hge kk; refine kl H rfl fun a H => ?_
 refine kR 1 H rfl fun a H => ?_
 have hDs2 := hall.size; refine op_append 30 5 (.tmp 3) (.tmp 4) w.heap.size (.int .u8 0) 1 1 _ _ _ A bs.length c (bs.map u8v) (H.ev rfl) (H.ev rfl) U30 i5 rfl (by omega) hown (by simp) (hh.out.up hall) (u8s_one _) (by unfold maxLen; simp; omega) (by simp; omega) hDs2 fun o2 w9 hown2 hg9 hv9 hb2 => ?_; have hown3 := bown_app hown2; rw [List.nil_append] at hown3; replace hall := hall.trans hb2; clear hDs2; clear hown hown2 hg9 hv9 hb2; have hown := hown3; clear hown3; obtain ⟨A1, c1, hov⟩ := own_sliceB hown; subst hov; have hrow := BOwn.row hown; have hfl := own_fl hown; clear hown; refine kl H rfl fun a H => ?_
 refine kV H (r_build #[(0, .slice A1 bs.length c1)] (.agg #[.slice A1 bs.length c1, .bool false]) (by simp [evc, H.ev (j := 5) rfl]) (fun w => by kernel_rfl)) rfl fun a H => ?_
 refine op_box 123 (.tmp 6) #[.slice A1 bs.length c1, .bool false] (H.ev rfl) fun w5 b hge hb kr => ?_; have gr := Nat.le_trans hall.size hge; have hfl2 := hfl.le hge; replace hrow := BRow.up hrow hb; replace hall := hall.tr hb; clear hb hge hfl; refine kl H rfl fun a H => ?_
 refine kR 1 H rfl fun a H => ?_
 refine zA (zB (zF ?_))
 exact k_ret1 H rfl rfl ⟨⟨b, rfl, gr, A1, c1, kr, hrow, hfl2⟩, hall⟩
set_option maxHeartbeats 4000000 in
theorem take_lit (w : World) (b n : Nat) (l : List B8) (bad : Bool) (q : Int) (hq : q = (n : Int)) (h : Rd w b 116 l bad) (hl : l.length ≤ 1000000) :
  Calls Tryz.prog 65 #[.pointer (some ⟨b, 0, none⟩), .int .i64 q] w fun e w' => (∃ v, e = .returned v ∧ BRow w' v (tkO l bad n) ∧ Rd w' b 116 (tkL l bad n) (tkB l bad n)) ∧ w.grownBy w' (some b) := by
 subst hq
 obtain ⟨A, c, kr, hrow, hfl⟩ := h
 have hcap := brow_cap hrow
 cases bad with
 | true =>
  have hall := grown_refl w (some b)
  have hall0 := hall
  refine K_enter 46 Tryz.func65 rfl rfl fun a H => ?_
  replace H := H.pick [0, 1]
  refine zC (zD ?_)
  refine kR 1 H rfl fun a H => ?_
  refine zA (zB (zC (zC (zD ?_))))
  refine kR 3 H rfl fun a H => ?_
  refine kV H (r_ld U4 rfl (H.ev rfl) ((Block.cell kr 1).trans rfl)) rfl fun a H => ?_
  refine kR 13 H rfl fun a H => ?_
  refine zA (zB (zH H rfl (zC (zD ?_))))
  refine kR 4 H rfl fun a H => ?_
  refine op_store1 30 (.tmp 26) (.const (.slice none 0 0)) b 0 116 (.slice none 0 0) _ (H.ev rfl) evc kr s30 (by simp [Value.cells]) (by simp [Value.cells, Value.oneCell']) fun w' hb ho kq => ?_; clear kr; have kr : Block _ b 116 #[.slice none 0 0, .bool true] := kq; clear kq; replace hall := grown_store hall hb ho (.inl rfl); clear hb ho; refine kl0 H fun a H => ?_
  refine kR 2 H rfl fun a H => ?_
  refine op_store1 4 (.tmp 28) (.const (.bool true)) b 1 116 (.bool true) _ (H.ev rfl) evc kr s4 (by simp [Value.cells]) (by simp [Value.cells, Value.oneCell']) fun w' hb ho kq => ?_; clear kr; have kr : Block _ b 116 #[.slice none 0 0, .bool true] := kq; clear kq; replace hall := grown_store hall hb ho (.inl rfl); clear hb ho; refine kl0 H fun a H => ?_
  refine zA (zB (zC (zD ?_)))
  refine kR 1 H rfl fun a H => ?_
  refine zA (zB (zF (zJ ?_)))
  exact k_ret1 H rfl rfl ⟨⟨_, rfl, by rw [tk_no (by simp)]; exact brow_nil _, by rw [tkL_no (by simp), tkB_no (by simp)]; exact ⟨none, 0, kr, brow_nil _, .inl rfl⟩⟩, hall⟩
 | false =>
  by_cases hnl : n ≤ l.length
  ·
   have hall := grown_refl w (some b)
   have hall0 := hall
   refine K_enter 46 Tryz.func65 rfl rfl fun a H => ?_
   replace H := H.pick [0, 1]
   refine zC (zD ?_)
   refine kR 1 H rfl fun a H => ?_
   refine zA (zB (zC (zC (zD ?_))))
   refine kR 3 H rfl fun a H => ?_
   refine kV H (r_ld U4 rfl (H.ev rfl) ((Block.cell kr 1).trans rfl)) rfl fun a H => ?_
   refine kR 2 H rfl fun a H => ?_
   refine kW H rfl (r_lt U3 (H.ev rfl) evc (dec_f (by omega))) rfl fun a H => ?_
   refine kR 6 H rfl fun a H => ?_
   refine kW H rfl (r_ld U30 rfl (H.ev rfl) ((Block.cell kr 0).trans rfl)) rfl fun a H => ?_
   refine kW H rfl (r_len U30 (H.ev rfl)) rfl fun a H => ?_
   refine kW H rfl (r_gt U3 (H.ev rfl) (H.ev rfl) (dec_f (by omega))) rfl fun a H => ?_
   refine kR 1 H rfl fun a H => ?_
   refine zA (zB (zG H rfl (zE (zB (zC (zD ?_))))))
   refine kR 3 H rfl fun a H => ?_
   refine kV H (r_ld U30 rfl (H.ev rfl) ((Block.cell kr 0).trans rfl)) rfl fun a H => ?_
   refine kR 1 H rfl fun a H => ?_
   refine kV (v := .slice A n c) H (run_op_slice U30 (.slice A l.length c) none (some (.int .i64 (n : Nat))) none (H.ev rfl) rfl (congrArg some (H.ev rfl)) rfl (slice_any 0 n U30 s5 _ _ (.inl ⟨rfl, rfl⟩) (.inr rfl) (by omega) (by omega) hfl.zero (by omega) (by omega))) rfl fun a H => ?_
   refine wl_call _ _ _ (clone_any _ _ (l.take n) (BRow.take hrow hnl) (by rw [List.length_take]; omega)) (r_call1 cf94 (H.ev rfl)) ?_; rintro e w9 ⟨⟨D, A2, c2, hDe, rfl, hown⟩, hb⟩; refine ⟨_, rfl, ?_⟩; have hbD := kr.lt; rw [← hDe] at hbD; clear hDe; replace kr := Block.ups kr hb; replace hrow := BRow.up hrow hb; replace hall := grown_below hall hb; clear hb; refine kl H rfl fun a H => ?_
   refine kR 1 H rfl fun a H => ?_
   refine zA (zB (zC (zD ?_)))
   refine kR 4 H rfl fun a H => ?_
   refine kV H (r_ld U30 rfl (H.ev rfl) ((Block.cell kr 0).trans rfl)) rfl fun a H => ?_
   refine kR 1 H rfl fun a H => ?_
   refine wl_v (.slice (slAt A c n 1) (l.drop n).length (c - n)) (run_op_slice U30 (.slice A l.length c) (some (.int .i64 (n : Nat))) none none (H.ev rfl) (congrArg some (H.ev rfl)) rfl rfl (slice_any n l.length U30 s5 _ _ (.inr rfl) (.inl ⟨rfl, rfl⟩) (by omega) (by omega) rfl (by rw [List.length_drop]) rfl)) ?_; refine kl H rfl fun a H => ?_
   refine kR 2 H rfl fun a H => ?_
   refine op_store1 30 (.tmp 44) (.tmp 42) b 0 116 (.slice (slAt A c n 1) (l.drop n).length (c - n)) _ (H.ev rfl) (H.ev rfl) kr s30 (by simp [Value.cells]) (by simp [Value.cells, Value.oneCell']) fun w' hb ho kq => ?_; clear kr; have kr : Block _ b 116 #[.slice (slAt A c n 1) (l.drop n).length (c - n), .bool false] := kq; clear kq; replace hrow := BRow.far hrow (hb _ (Nat.le_refl _)) (fun q o e => hfl.lt e); replace hown := own_block hown (fun q hq => ho _ (fun e => by have := (World.ownsRow.lt hown q hq).1; omega)); replace hall := grown_store hall hb ho (.inl rfl); clear hb ho; refine kl0 H fun a H => ?_
   refine zA (zB (zC (zD ?_)))
   refine kR 2 H rfl fun a H => ?_
   refine zA (zB (zF ?_))
   exact k_ret1 H rfl rfl ⟨⟨_, rfl, by rw [tk_yes (by simp; omega)]; exact BOwn.row hown, by rw [tkL_yes (by simp; omega), tkB_yes (by simp; omega)]; exact ⟨_, _, kr, brow_drop hfl hrow hnl, hfl.slAt⟩⟩, hall⟩
  ·
   have hall := grown_refl w (some b)
   have hall0 := hall
   refine K_enter 46 Tryz.func65 rfl rfl fun a H => ?_
   replace H := H.pick [0, 1]
   refine zC (zD ?_)
   refine kR 1 H rfl fun a H => ?_
   refine zA (zB (zC (zC (zD ?_))))
   refine kR 3 H rfl fun a H => ?_
   refine kV H (r_ld U4 rfl (H.ev rfl) ((Block.cell kr 1).trans rfl)) rfl fun a H => ?_
   refine kR 2 H rfl fun a H => ?_
   refine kW H rfl (r_lt U3 (H.ev rfl) evc (dec_f (by omega))) rfl fun a H => ?_
   refine kR 6 H rfl fun a H => ?_
   refine kW H rfl (r_ld U30 rfl (H.ev rfl) ((Block.cell kr 0).trans rfl)) rfl fun a H => ?_
   refine kW H rfl (r_len U30 (H.ev rfl)) rfl fun a H => ?_
   refine kW H rfl (r_gt U3 (H.ev rfl) (H.ev rfl) (dec_t (by omega))) rfl fun a H => ?_
   refine kR 1 H rfl fun a H => ?_
   refine zA (zB (zH H rfl (zC (zD ?_))))
   refine kR 4 H rfl fun a H => ?_
   refine op_store1 30 (.tmp 26) (.const (.slice none 0 0)) b 0 116 (.slice none 0 0) _ (H.ev rfl) evc kr s30 (by simp [Value.cells]) (by simp [Value.cells, Value.oneCell']) fun w' hb ho kq => ?_; clear kr; have kr : Block _ b 116 #[.slice none 0 0, .bool false] := kq; clear kq; replace hall := grown_store hall hb ho (.inl rfl); clear hb ho; refine kl0 H fun a H => ?_
   refine kR 2 H rfl fun a H => ?_
   refine op_store1 4 (.tmp 28) (.const (.bool true)) b 1 116 (.bool true) _ (H.ev rfl) evc kr s4 (by simp [Value.cells]) (by simp [Value.cells, Value.oneCell']) fun w' hb ho kq => ?_; clear kr; have kr : Block _ b 116 #[.slice none 0 0, .bool true] := kq; clear kq; replace hall := grown_store hall hb ho (.inl rfl); clear hb ho; refine kl0 H fun a H => ?_
   refine zA (zB (zC (zD ?_)))
   refine kR 1 H rfl fun a H => ?_
   refine zA (zB (zF (zJ ?_)))
   exact k_ret1 H rfl rfl ⟨⟨_, rfl, by rw [tk_no (by simp; omega)]; exact brow_nil _, by rw [tkL_no (by simp; omega), tkB_no (by simp; omega)]; exact ⟨none, 0, kr, brow_nil _, .inl rfl⟩⟩, hall⟩
set_option maxHeartbeats 4000000 in
theorem rtakeF_lit (w : World) (b n : Nat) (l : List B8) (bad : Bool) (q : Int) (hq : q = (n : Int)) (h : Rd w b 123 l bad) (hl : l.length ≤ 1000000) :
  Calls Tryz.prog 76 #[.pointer (some ⟨b, 0, none⟩), .int .i64 q] w fun e w' => (∃ v, e = .returned v ∧ BRow w' v (tkO l bad n) ∧ Rd w' b 123 (tkL l bad n) (tkB l bad n) ∧ FreshB w.heap.size v) ∧ w.grownBy w' (some b) := by
 subst hq
 obtain ⟨A, c, kr, hrow, hfl⟩ := h
 have hcap := brow_cap hrow
 cases bad with
 | true =>
  have hall := grown_refl w (some b)
  have hall0 := hall
  refine K_enter 47 Tryz.func76 rfl rfl fun a H => ?_
  replace H := H.pick [0, 1]
  refine zC (zD ?_)
  refine kR 1 H rfl fun a H => ?_
  refine zA (zB (zC (zC (zD ?_))))
  refine kR 3 H rfl fun a H => ?_
  refine kV H (r_ld U4 rfl (H.ev rfl) ((Block.cell kr 1).trans rfl)) rfl fun a H => ?_
  refine kR 13 H rfl fun a H => ?_
  refine zA (zB (zH H rfl (zC (zD ?_))))
  refine kR 3 H rfl fun a H => ?_
  refine op_store1 4 (.tmp 25) (.const (.bool true)) b 1 123 (.bool true) _ (H.ev rfl) evc kr s4 (by simp [Value.cells]) (by simp [Value.cells, Value.oneCell']) fun w' hb ho kq => ?_; clear kr; have kr : Block _ b 123 #[.slice A l.length c, .bool true] := kq; clear kq; replace hall := grown_store hall hb ho (.inl rfl); clear hb ho; refine kl0 H fun a H => ?_
  refine zA (zB (zC (zD ?_)))
  refine kR 3 H rfl fun a H => ?_
  refine op_store1 30 (.tmp 28) (.const (.slice none 0 0)) b 0 123 (.slice none 0 0) _ (H.ev rfl) evc kr s30 (by simp [Value.cells]) (by simp [Value.cells, Value.oneCell']) fun w' hb ho kq => ?_; clear kr; have kr : Block _ b 123 #[.slice none 0 0, .bool true] := kq; clear kq; replace hall := grown_store hall hb ho (.inl rfl); clear hb ho; refine kl0 H fun a H => ?_
  refine zA (zB (zC (zD ?_)))
  refine kR 1 H rfl fun a H => ?_
  refine zA (zB (zF (zJ ?_)))
  exact k_ret1 H rfl rfl ⟨⟨_, rfl, by rw [tk_no (by simp)]; exact brow_nil _, by rw [tkL_no (by simp), tkB_no (by simp)]; exact ⟨none, 0, kr, brow_nil _, .inl rfl⟩, nil_freshB⟩, hall⟩
 | false =>
  by_cases hnl : n ≤ l.length
  ·
   have hall := grown_refl w (some b)
   have hall0 := hall
   refine K_enter 47 Tryz.func76 rfl rfl fun a H => ?_
   replace H := H.pick [0, 1]
   refine zC (zD ?_)
   refine kR 1 H rfl fun a H => ?_
   refine zA (zB (zC (zC (zD ?_))))
   refine kR 3 H rfl fun a H => ?_
   refine kV H (r_ld U4 rfl (H.ev rfl) ((Block.cell kr 1).trans rfl)) rfl fun a H => ?_
   refine kR 2 H rfl fun a H => ?_
   refine kW H rfl (r_lt U3 (H.ev rfl) evc (dec_f (by omega))) rfl fun a H => ?_
   refine kR 6 H rfl fun a H => ?_
   refine kW H rfl (r_ld U30 rfl (H.ev rfl) ((Block.cell kr 0).trans rfl)) rfl fun a H => ?_
   refine kW H rfl (r_len U30 (H.ev rfl)) rfl fun a H => ?_
   refine kW H rfl (r_gt U3 (H.ev rfl) (H.ev rfl) (dec_f (by omega))) rfl fun a H => ?_
   refine kR 1 H rfl fun a H => ?_
   refine zA (zB (zG H rfl (zE (zB (zC (zD ?_))))))
   refine op_litv 30 0 #[] 5 #[] (by simp) (fun w => by kernel_rfl) fun w1 bl hge hb kk => ?_; have hown := own_empty (base := bl) (size := 1) kk (Nat.le_refl _); have hbD : b < bl := Nat.lt_of_lt_of_le kr.lt hge; have hDs := Nat.le_of_lt kk.lt; replace kr := Block.ups kr hb; replace hrow := BRow.up hrow hb; replace hall := grown_below hall hb; have hgl := Nat.le_trans hall0.size hge; clear hb hge kk; refine kl H rfl fun a H => ?_
   refine kR 3 H rfl fun a H => ?_
   refine kV H (r_ld U30 rfl (H.ev rfl) ((Block.cell kr 0).trans rfl)) rfl fun a H => ?_
   refine kR 1 H rfl fun a H => ?_
   refine kV (v := .slice A n c) H (run_op_slice U30 (.slice A l.length c) none (some (.int .i64 (n : Nat))) none (H.ev rfl) rfl (congrArg some (H.ev rfl)) rfl (slice_any 0 n U30 s5 _ _ (.inl ⟨rfl, rfl⟩) (.inr rfl) (by omega) (by omega) hfl.zero (by omega) (by omega))) rfl fun a H => ?_
   have hlt := BRow.take hrow hnl; obtain ⟨Aq, cq, hq1, hq2, hq3, hq4, hq5⟩ := hlt; injection hq1 with e1 e2 e3; subst e1 e3; have hnn : (l.take n).length = n := (by rw [List.length_take]; omega); refine op_append 30 5 (.tmp 29) (.tmp 35) bl (.int .u8 0) 1 1 _ _ _ A n c ((l.take n).map u8v) (H.ev rfl) (H.ev rfl) U30 i5 rfl (by omega) hown (by rw [List.length_map, hnn]; omega) hq5 (u8s_one _) (by unfold maxLen; simp; omega) (by simp; omega) hDs fun o2 w9 hown2 hg9 hv9 hb2 => ?_; have hown3 := bown_tk hnn hown2; replace kr := Block.up kr hb2 hbD; replace hrow := BRow.far hrow hb2 (fun q o e => by have := hfl.lt e; omega); replace hall := grown_below2 hall hb2 hgl; clear hown hown2 hg9 hv9 hb2 hDs; have hown := hown3; clear hown3; obtain ⟨A2, c2, hov⟩ := own_sliceB hown; subst hov; refine kl H rfl fun a H => ?_
   refine kR 1 H rfl fun a H => ?_
   refine zA (zB (zC (zD ?_)))
   refine kR 4 H rfl fun a H => ?_
   refine kV H (r_ld U30 rfl (H.ev rfl) ((Block.cell kr 0).trans rfl)) rfl fun a H => ?_
   refine kR 1 H rfl fun a H => ?_
   refine wl_v (.slice (slAt A c n 1) (l.drop n).length (c - n)) (run_op_slice U30 (.slice A l.length c) (some (.int .i64 (n : Nat))) none none (H.ev rfl) (congrArg some (H.ev rfl)) rfl rfl (slice_any n l.length U30 s5 _ _ (.inr rfl) (.inl ⟨rfl, rfl⟩) (by omega) (by omega) rfl (by rw [List.length_drop]) rfl)) ?_; refine kl H rfl fun a H => ?_
   refine kR 2 H rfl fun a H => ?_
   refine op_store1 30 (.tmp 45) (.tmp 43) b 0 123 (.slice (slAt A c n 1) (l.drop n).length (c - n)) _ (H.ev rfl) (H.ev rfl) kr s30 (by simp [Value.cells]) (by simp [Value.cells, Value.oneCell']) fun w' hb ho kq => ?_; clear kr; have kr : Block _ b 123 #[.slice (slAt A c n 1) (l.drop n).length (c - n), .bool false] := kq; clear kq; replace hrow := BRow.far hrow (hb _ (Nat.le_refl _)) (fun q o e => hfl.lt e); replace hown := own_block hown (fun q hq => ho _ (fun e => by have := (World.ownsRow.lt hown q hq).1; omega)); replace hall := grown_store hall hb ho (.inl rfl); clear hb ho; refine kl0 H fun a H => ?_
   refine zA (zB (zC (zD ?_)))
   refine kR 2 H rfl fun a H => ?_
   refine zA (zB (zF ?_))
   exact k_ret1 H rfl rfl ⟨⟨_, rfl, by rw [tk_yes (by simp; omega)]; exact BOwn.row hown, by rw [tkL_yes (by simp; omega), tkB_yes (by simp; omega)]; exact ⟨_, _, kr, brow_drop hfl hrow hnl, hfl.slAt⟩, bown_fresh hown hgl⟩, hall⟩
  ·
   have hall := grown_refl w (some b)
   have hall0 := hall
   refine K_enter 47 Tryz.func76 rfl rfl fun a H => ?_
   replace H := H.pick [0, 1]
   refine zC (zD ?_)
   refine kR 1 H rfl fun a H => ?_
   refine zA (zB (zC (zC (zD ?_))))
   refine kR 3 H rfl fun a H => ?_
   refine kV H (r_ld U4 rfl (H.ev rfl) ((Block.cell kr 1).trans rfl)) rfl fun a H => ?_
   refine kR 2 H rfl fun a H => ?_
   refine kW H rfl (r_lt U3 (H.ev rfl) evc (dec_f (by omega))) rfl fun a H => ?_
   refine kR 6 H rfl fun a H => ?_
   refine kW H rfl (r_ld U30 rfl (H.ev rfl) ((Block.cell kr 0).trans rfl)) rfl fun a H => ?_
   refine kW H rfl (r_len U30 (H.ev rfl)) rfl fun a H => ?_
   refine kW H rfl (r_gt U3 (H.ev rfl) (H.ev rfl) (dec_t (by omega))) rfl fun a H => ?_
   refine kR 1 H rfl fun a H => ?_
   refine zA (zB (zH H rfl (zC (zD ?_))))
   refine kR 3 H rfl fun a H => ?_
   refine op_store1 4 (.tmp 25) (.const (.bool true)) b 1 123 (.bool true) _ (H.ev rfl) evc kr s4 (by simp [Value.cells]) (by simp [Value.cells, Value.oneCell']) fun w' hb ho kq => ?_; clear kr; have kr : Block _ b 123 #[.slice A l.length c, .bool true] := kq; clear kq; replace hall := grown_store hall hb ho (.inl rfl); clear hb ho; refine kl0 H fun a H => ?_
   refine zA (zB (zC (zD ?_)))
   refine kR 3 H rfl fun a H => ?_
   refine op_store1 30 (.tmp 28) (.const (.slice none 0 0)) b 0 123 (.slice none 0 0) _ (H.ev rfl) evc kr s30 (by simp [Value.cells]) (by simp [Value.cells, Value.oneCell']) fun w' hb ho kq => ?_; clear kr; have kr : Block _ b 123 #[.slice none 0 0, .bool true] := kq; clear kq; replace hall := grown_store hall hb ho (.inl rfl); clear hb ho; refine kl0 H fun a H => ?_
   refine zA (zB (zC (zD ?_)))
   refine kR 1 H rfl fun a H => ?_
   refine zA (zB (zF (zJ ?_)))
   exact k_ret1 H rfl rfl ⟨⟨_, rfl, by rw [tk_no (by simp; omega)]; exact brow_nil _, by rw [tkL_no (by simp; omega), tkB_no (by simp; omega)]; exact ⟨none, 0, kr, brow_nil _, .inl rfl⟩, nil_freshB⟩, hall⟩
theorem rtake_lit (w : World) (b n : Nat) (l : List B8) (bad : Bool) (q : Int) (hq : q = (n : Int)) (h : Rd w b 123 l bad) (hl : l.length ≤ 1000000) :
  Calls Tryz.prog 76 #[.pointer (some ⟨b, 0, none⟩), .int .i64 q] w fun e w' => (∃ v, e = .returned v ∧ BRow w' v (tkO l bad n) ∧ Rd w' b 123 (tkL l bad n) (tkB l bad n)) ∧ w.grownBy w' (some b) :=
 (rtakeF_lit w b n l bad q hq h hl).mono fun e w' ⟨⟨v, h1, h2, h3, _⟩, h4⟩ => ⟨⟨v, h1, h2, h3⟩, h4⟩
section
theorem Rd.up {w w' : World} {b : Nat} {T : TypeId} {l : List B8} {bad : Bool} (h : Rd w b T l bad) (hb : Below w.heap.size w w') : Rd w' b T l bad := by
 obtain ⟨A, c, kr, hrow, hfl⟩ := h
 exact ⟨A, c, kr.ups hb, hrow.up hb, hfl⟩
theorem Rd.far {w w' : World} {b p : Nat} {T : TypeId} {l : List B8} {bad : Bool} (h : Rd w b T l bad) (hb : Below p w w') (hp : b < p) : Rd w' b T l bad := by
 obtain ⟨A, c, kr, hrow, hfl⟩ := h
 exact ⟨A, c, kr.up hb hp, BRow.far hrow hb (fun q o e => by have := hfl.lt e; omega), hfl⟩
theorem grown_trans {w0 w w' : World} {r : Option Nat} (h : w0.grownBy w r) (hg : w.grownBy w' r) : w0.grownBy w' r :=
 ⟨hg.os.trans h.os, hg.tape.trans h.tape, hg.output.trans h.output, Nat.le_trans h.size hg.size, fun k hk hne => (hg.block k (Nat.lt_of_lt_of_le hk h.size) hne).trans (h.block k hk hne)⟩
theorem tkO_len (l : List B8) (bad : Bool) (n : Nat) : (tkO l bad n).length ≤ n := by
 unfold tkO
 split
 · simp
 · rw [List.length_take]; omega
theorem tkL_le (l : List B8) (bad : Bool) (n : Nat) : (tkL l bad n).length ≤ l.length := by
 unfold tkL
 split
 · simp
 · rw [List.length_drop]; omega
theorem brow_shape {w : World} {v : Value} {bs : List B8} (h : BRow w v bs) : ∃ A c, v = .slice A bs.length c := by
 obtain ⟨A, c, e, _⟩ := h
 exact ⟨A, c, e⟩
/-- the number that bytes make -/
def numF (l : List B8) : Nat := l.foldl (fun n c => 256 * n + c.toNat) 0
theorem numF_snoc (l : List B8) (y : B8) : numF (l ++ [y]) = 256 * numF l + y.toNat := by simp [numF]
theorem numF_next {l : List B8} {i N : Nat} {y : B8} (hy : l[i]? = some y) (hN : numF (l.take i) = N) : 256 * N + y.toNat = numF (l.take (i + 1)) := by
 obtain ⟨hi, rfl⟩ := List.getElem?_eq_some_iff.1 hy
 rw [List.take_succ_eq_append_getElem hi, numF_snoc, hN]
theorem numF_go : ∀ (l : List B8) (acc k : Nat), acc < 256 ^ k → l.foldl (fun n c => 256 * n + c.toNat) acc < 256 ^ (k + l.length)
 | [], acc, k, h => by simpa using h
 | y :: l, acc, k, h => by
  have hy := y.isLt
  have := numF_go l (256 * acc + y.toNat) (k + 1) (by rw [Nat.pow_succ]; omega)
  rw [List.foldl_cons, List.length_cons, show k + (l.length + 1) = k + 1 + l.length by omega]
  exact this
theorem numF_pow (l : List B8) : numF l < 256 ^ l.length := by
 have := numF_go l 0 0 (by simp)
 rw [Nat.zero_add] at this
 exact this
theorem numF_lt {l : List B8} (h : l.length ≤ 6) : numF l < 281474976710656 :=
 Nat.lt_of_lt_of_le (numF_pow l) (Nat.le_trans (Nat.pow_le_pow_right (by omega) h) (by decide))
section
variable {P : Program} {d : Option Tmp} {tt : TypeId} {ps : String} {af : Array Edge} {gd : Option (Nat × Bool)} {a : Act} {w : World} {x y : Operand} {t t2 : TypeId}
theorem r_shl_i8 {n : Nat} (ht : P.underlying t = some (.int .i64)) (hx : a.eval x = .int .i64 (n : Nat)) (hy : a.eval y = .int .u64 8) (hn : 256 * n < 9223372036854775808) : (execOp a.eval ⟨d, .binOp .shl t x y t2, tt, ps, af, gd⟩).run P w = .ok (.value (.int .i64 (256 * n : Nat))) w := by
 have h := IntWalk.i64_in ((n : Int) * 256) (by omega)
 have e : ((256 * n : Nat) : Int) = (n : Int) * 256 := by omega
 rw [e]
 unfold execOp
 simp only [hx, hy]
 go_simp
theorem or_i8 {m n : Nat} (hm : 256 * m < 9223372036854775808) (hn : n < 256) : bits .or .i64 ((256 * m : Nat) : Int) ((n : Nat) : Int) = ((256 * m + n : Nat) : Int) := by
 have e : 256 * m ||| n = 256 * m + n := by
  have := Nat.two_pow_add_eq_or_of_lt (i := 8) (b := n) (by omega) m
  simpa using this.symm
 unfold bits
 have e1 : BitVec.ofInt IntKind.i64.bits ((256 * m : Nat) : Int) = BitVec.ofNat 64 (256 * m) := BitVec.ofInt_natCast _ _
 have e2 : BitVec.ofInt IntKind.i64.bits ((n : Nat) : Int) = BitVec.ofNat 64 n := BitVec.ofInt_natCast _ _
 simp only [e1, e2]
 have e3 : (BitVec.ofNat 64 (256 * m) ||| BitVec.ofNat 64 n).toNat = 256 * m + n := by
  rw [BitVec.toNat_or, BitVec.toNat_ofNat, BitVec.toNat_ofNat, Nat.mod_eq_of_lt (by omega), Nat.mod_eq_of_lt (by omega), e]
 show IntKind.i64.wrap (((BitVec.ofNat 64 (256 * m) ||| BitVec.ofNat 64 n).toNat : Nat) : Int) = _
 rw [e3]
 exact IntWalk.i64_in _ (by omega)
theorem r_or_i8 {m n : Nat} (ht : P.underlying t = some (.int .i64)) (hx : a.eval x = .int .i64 ((256 * m : Nat) : Int)) (hy : a.eval y = .int .i64 (n : Nat)) (hm : 256 * m < 9223372036854775808) (hn : n < 256) : (execOp a.eval ⟨d, .binOp .or t x y t2, tt, ps, af, gd⟩).run P w = .ok (.value (.int .i64 (256 * m + n : Nat))) w := by
 have h := or_i8 hm hn
 unfold execOp
 simp only [hx, hy]
 simp only [← h]
 generalize ((256 * m : Nat) : Int) = M at *
 go_simp
end
def Nm62 (W : World) (b : Nat) (l : List B8) (bad : Bool) (s : Nat) (Ax : Option Addr) (cx : Nat) (out : List B8) (a : Act) (w : World) : Prop :=
 ∃ i : Nat, Kn a 23 [(4, .int .i64 (numF (out.take i) : Nat)), (10, .slice Ax out.length cx), (11, .int .i64 (out.length : Nat)), (12, .int .i64 (i : Nat))] ∧ i ≤ out.length ∧ BRow w (.slice Ax out.length cx) out ∧ Rd w b 116 (tkL l bad s) (tkB l bad s) ∧ W.grownBy w (some b)
set_option maxHeartbeats 4000000 in
theorem num_lit (w : World) (b s : Nat) (l : List B8) (bad : Bool) (q : Int) (hq : q = (s : Int)) (hrd : Rd w b 116 l bad) (hl : l.length ≤ 1000000) (h1 : 1 ≤ s) (h7 : s ≤ 7) :
  Calls Tryz.prog 62 #[.pointer (some ⟨b, 0, none⟩), .int .i64 q] w fun e w' => (e = .returned (.int .i64 (numF (tkO l bad s) : Nat)) ∧ Rd w' b 116 (tkL l bad s) (tkB l bad s)) ∧ w.grownBy w' (some b) := by
 subst hq
 have hall := grown_refl w (some b)
 refine K_enter 23 Tryz.func62 rfl rfl fun a H => ?_
 replace H := H.pick [0, 1]
 refine zC (zD ?_)
 refine kR 1 H rfl fun a H => ?_
 refine zA (zB (zC (zC (zD ?_))))
 refine kR 2 H rfl fun a H => ?_
 refine wl_call _ _ _ (fit_lit s s _ rfl h1 h7) (r_call1 cf95 (H.ev rfl)) ?_; rintro e w9 ⟨rfl, hb⟩; refine ⟨_, rfl, ?_⟩; replace hrd := Rd.up hrd hb; replace hall := grown_below hall hb; clear hb; refine kl H rfl fun a H => ?_
 refine wl_call _ _ _ (take_lit _ b s l bad _ rfl hrd hl) (r_call2 cf65 (H.ev rfl) (H.ev rfl)) ?_; rintro e w9 ⟨⟨v, rfl, hrow, hrd2⟩, hg⟩; refine ⟨_, rfl, ?_⟩; clear hrd; have hrd := hrd2; clear hrd2; replace hall := grown_trans hall hg; clear hg; obtain ⟨out, hout⟩ : ∃ out, tkO l bad s = out := ⟨_, rfl⟩; have hol : out.length ≤ s := (by rw [← hout]; exact tkO_len _ _ _); rw [hout] at hrow; have HO := Lib.hid hout; clear hout; obtain ⟨Ax, cx, hv⟩ := brow_shape hrow; subst hv; refine kl H rfl fun a H => ?_
 refine kV H (r_len U30 (H.ev rfl)) rfl fun a H => ?_
 refine kR 1 H rfl fun a H => ?_
 refine zA (zB ?_)
 refine wp_block ?_
 refine wp_loop (Nm62 w b l bad s Ax cx out) (fun a _ => out.length - (intOf (a.eval (.tmp 12))).toNat) ⟨0, H.pick [4, 10, 11, 12], by omega, hrow, hrd, hall⟩ ?_
 clear H hall hrow hrd
 rintro a w' ⟨i, H, hi, hrow, hrd, hall⟩
 have H0 := H
 by_cases hlt : i < out.length
 ·
  obtain ⟨x0, o, hAx⟩ := brow_addr hrow (by omega)
  subst hAx
  obtain ⟨y, hy⟩ : ∃ y, out[i]? = some y := ⟨_, List.getElem?_eq_getElem hlt⟩
  have HY := Lib.hid hy
  clear hy
  obtain ⟨N, hN⟩ : ∃ N, numF (out.take i) = N := ⟨_, rfl⟩
  have hNb : N < 281474976710656 := by rw [← hN]; exact numF_lt (by rw [List.length_take]; omega)
  have hyb := y.isLt
  rw [hN] at H
  have HN := Lib.hid hN
  clear hN
  refine zC (zD ?_)
  refine kV H (r_lt U3 (H.ev rfl) (H.ev rfl) (dec_t (by omega))) rfl fun a H => ?_
  refine zA (zB (zC (zH H rfl (zE (zB (zC ?_))))))
  refine wp_block ?_
  refine zC (zD ?_)
  refine kV H (r_idx (j := i) (q := o + i) U30 s5 (H.ev rfl) (H.ev rfl) (by omega) (by omega)) rfl fun a H => ?_
  refine kV H (r_ld U5 rfl (H.ev rfl) (brow_cell hrow HY.out (by omega))) rfl fun a H => ?_
  refine kR 1 H rfl fun a H => ?_
  refine zA (zB (zD ?_))
  refine kR 1 H rfl fun a H => ?_
  refine kV (v := .int .i64 (256 * N : Nat)) H (r_shl_i8 U3 (H.ev rfl) evc (by omega)) rfl fun a H => ?_
  refine kR 1 H rfl fun a H => ?_
  refine kV H (r_cv8_i U5 U3 (H.ev rfl)) rfl fun a H => ?_
  refine kV (v := .int .i64 (256 * N + y.toNat : Nat)) H (r_or_i8 U3 (H.ev rfl) (H.ev rfl) (by omega) (by omega)) rfl fun a H => ?_
  refine kR 1 H rfl fun a H => ?_
  refine zA (n_block (zB (zD ?_)))
  refine kV H (r_add (q := ((i + 1 : Nat) : Int)) U3 (H.ev rfl) evc (by omega) (by omega)) rfl fun a H => ?_
  refine kR 1 H rfl fun a H => ?_
  refine zA ?_
  replace H := H.pick [4, 10, 11, 12]
  rw [numF_next HY.out HN.out] at H
  refine zI ⟨⟨i + 1, H, by omega, hrow, hrd, hall⟩, ?_⟩
  rw [H.ev (j := 12) rfl, H0.ev (j := 12) rfl]
  simp only [intOf]
  omega
 ·
  obtain rfl : i = out.length := by omega
  rw [List.take_length] at H0 H
  refine zC (zD ?_)
  refine kV H (r_lt U3 (H.ev rfl) (H.ev rfl) (dec_f (by omega))) rfl fun a H => ?_
  refine zA (zB (zC (zG H rfl (wp_exit (e_then (e_then ?_))))))
  refine e_here ?_
  refine zB (zC (zD ?_))
  refine kR 2 H rfl fun a H => ?_
  refine zA (zB (zF ?_))
  exact k_ret1 H rfl rfl ⟨⟨by rw [HO.out], hrd⟩, hall⟩
def Nm75 (W : World) (b : Nat) (l : List B8) (bad : Bool) (s : Nat) (Ax : Option Addr) (cx : Nat) (out : List B8) (a : Act) (w : World) : Prop :=
 ∃ i : Nat, Kn a 27 [(5, .slice Ax out.length cx), (6, .int .i64 (numF (out.take i) : Nat)), (7, .int .i64 (i : Nat))] ∧ i ≤ out.length ∧ BRow w (.slice Ax out.length cx) out ∧ Rd w b 123 (tkL l bad s) (tkB l bad s) ∧ W.grownBy w (some b)
set_option maxHeartbeats 4000000 in
theorem rnum_lit (w : World) (b s : Nat) (l : List B8) (bad : Bool) (q : Int) (hq : q = (s : Int)) (hrd : Rd w b 123 l bad) (hl : l.length ≤ 1000000) (h1 : 1 ≤ s) (h7 : s ≤ 7) :
  Calls Tryz.prog 75 #[.pointer (some ⟨b, 0, none⟩), .int .i64 q] w fun e w' => (e = .returned (.int .i64 (numF (tkO l bad s) : Nat)) ∧ Rd w' b 123 (tkL l bad s) (tkB l bad s)) ∧ w.grownBy w' (some b) := by
 subst hq
 have hall := grown_refl w (some b)
 refine K_enter 27 Tryz.func75 rfl rfl fun a H => ?_
 replace H := H.pick [0, 1]
 refine zC (zD ?_)
 refine kR 1 H rfl fun a H => ?_
 refine zA (zB (zC (zD ?_)))
 refine kR 2 H rfl fun a H => ?_
 refine wl_call _ _ _ (clamp_lit s s _ rfl h1 h7) (r_call1 cf111 (H.ev rfl)) ?_; rintro e w9 ⟨rfl, hb⟩; refine ⟨_, rfl, ?_⟩; replace hrd := Rd.up hrd hb; replace hall := grown_below hall hb; clear hb; refine kl H rfl fun a H => ?_
 refine wl_call _ _ _ (rtake_lit _ b s l bad _ rfl hrd hl) (r_call2 cf76 (H.ev rfl) (H.ev rfl)) ?_; rintro e w9 ⟨⟨v, rfl, hrow, hrd2⟩, hg⟩; refine ⟨_, rfl, ?_⟩; clear hrd; have hrd := hrd2; clear hrd2; replace hall := grown_trans hall hg; clear hg; obtain ⟨out, hout⟩ : ∃ out, tkO l bad s = out := ⟨_, rfl⟩; have hol : out.length ≤ s := (by rw [← hout]; exact tkO_len _ _ _); rw [hout] at hrow; have HO := Lib.hid hout; clear hout; obtain ⟨Ax, cx, hv⟩ := brow_shape hrow; subst hv; refine kl H rfl fun a H => ?_
 refine kR 1 H rfl fun a H => ?_
 refine zA (zB (zC (zD ?_)))
 refine kR 1 H rfl fun a H => ?_
 refine zA (zB (zC (zC (zD ?_))))
 refine kR 1 H rfl fun a H => ?_
 refine zA (zB ?_)
 refine wp_block ?_
 refine wp_loop (Nm75 w b l bad s Ax cx out) (fun a _ => out.length - (intOf (a.eval (.tmp 7))).toNat) ⟨0, H.pick [5, 6, 7], by omega, hrow, hrd, hall⟩ ?_
 clear H hall hrow hrd
 rintro a w' ⟨i, H, hi, hrow, hrd, hall⟩
 have H0 := H
 by_cases hlt : i < out.length
 ·
  obtain ⟨x0, o, hAx⟩ := brow_addr hrow (by omega)
  subst hAx
  obtain ⟨y, hy⟩ : ∃ y, out[i]? = some y := ⟨_, List.getElem?_eq_getElem hlt⟩
  have HY := Lib.hid hy
  clear hy
  obtain ⟨N, hN⟩ : ∃ N, numF (out.take i) = N := ⟨_, rfl⟩
  have hNb : N < 281474976710656 := by rw [← hN]; exact numF_lt (by rw [List.length_take]; omega)
  have hyb := y.isLt
  rw [hN] at H
  have HN := Lib.hid hN
  clear hN
  refine zC (zC (zD ?_))
  refine kR 2 H rfl fun a H => ?_
  refine kV H (r_len U30 (H.ev rfl)) rfl fun a H => ?_
  refine kV H (r_lt U3 (H.ev rfl) (H.ev rfl) (dec_t (by omega))) rfl fun a H => ?_
  refine zA (zB (zH H rfl (zE (zB (zC ?_)))))
  refine wp_block ?_
  refine zD ?_
  refine kR 1 H rfl fun a H => ?_
  refine kV (v := .int .i64 (256 * N : Nat)) H (r_mul (r := ((256 * N : Nat) : Int)) U3 evc (H.ev rfl) (by omega) (by omega)) rfl fun a H => ?_
  refine kR 2 H rfl fun a H => ?_
  refine kV H (r_idx (j := i) (q := o + i) U30 s5 (H.ev rfl) (H.ev rfl) (by omega) (by omega)) rfl fun a H => ?_
  refine kV H (r_ld U5 rfl (H.ev rfl) (brow_cell hrow HY.out (by omega))) rfl fun a H => ?_
  refine kV H (r_cv8_i U5 U3 (H.ev rfl)) rfl fun a H => ?_
  refine kV (v := .int .i64 (256 * N + y.toNat : Nat)) H (r_add (q := ((256 * N + y.toNat : Nat) : Int)) U3 (H.ev rfl) (H.ev rfl) (by omega) (by omega)) rfl fun a H => ?_
  refine kR 1 H rfl fun a H => ?_
  refine zA (n_block (zB (zD ?_)))
  refine kR 1 H rfl fun a H => ?_
  refine kV H (r_add (q := ((i + 1 : Nat) : Int)) U3 (H.ev rfl) evc (by omega) (by omega)) rfl fun a H => ?_
  refine kR 1 H rfl fun a H => ?_
  refine zA ?_
  replace H := H.pick [5, 6, 7]
  rw [numF_next HY.out HN.out] at H
  refine zI ⟨⟨i + 1, H, by omega, hrow, hrd, hall⟩, ?_⟩
  rw [H.ev (j := 7) rfl, H0.ev (j := 7) rfl]
  simp only [intOf]
  omega
 ·
  obtain rfl : i = out.length := by omega
  rw [List.take_length] at H0 H
  refine zC (zC (zD ?_))
  refine kR 2 H rfl fun a H => ?_
  refine kV H (r_len U30 (H.ev rfl)) rfl fun a H => ?_
  refine kV H (r_lt U3 (H.ev rfl) (H.ev rfl) (dec_f (by omega))) rfl fun a H => ?_
  refine zA (zB (zG H rfl (wp_exit (e_then (e_then ?_)))))
  refine e_here ?_
  refine zB (zC (zD ?_))
  refine kR 2 H rfl fun a H => ?_
  refine zA (zB (zF ?_))
  exact k_ret1 H rfl rfl ⟨⟨by rw [HO.out], hrd⟩, hall⟩
theorem done_any (w : World) (b : Nat) (l : List B8) (bad : Bool) (hrd : Rd w b 116 l bad) :
  Calls Tryz.prog 67 #[.pointer (some ⟨b, 0, none⟩)] w fun e w' => e = .returned (.bool (!bad && decide (l.length = 0))) ∧ Below w.heap.size w w' := by
 obtain ⟨A, c, kr, hrow, hfl⟩ := hrd
 cases bad with
 | true =>
  have hall := Below.refl w.heap.size w
  refine K_enter 16 Tryz.func67 rfl rfl fun a H => ?_
  replace H := H.pick [0]
  refine zC (zD ?_)
  refine kR 1 H rfl fun a H => ?_
  refine zA (zB (zC (zD ?_)))
  refine kR 3 H rfl fun a H => ?_
  refine kV H (r_ld U4 rfl (H.ev rfl) ((Block.cell kr 1).trans rfl)) rfl fun a H => ?_
  refine kV H (r_not (H.ev rfl) rfl) rfl fun a H => ?_
  refine kR 9 H rfl fun a H => ?_
  refine zA (zB (zF ?_))
  exact k_ret1 H rfl rfl ⟨by simp, hall⟩
 | false =>
  by_cases hz : l.length = 0
  ·
   have hall := Below.refl w.heap.size w
   refine K_enter 16 Tryz.func67 rfl rfl fun a H => ?_
   replace H := H.pick [0]
   refine zC (zD ?_)
   refine kR 1 H rfl fun a H => ?_
   refine zA (zB (zC (zD ?_)))
   refine kR 3 H rfl fun a H => ?_
   refine kV H (r_ld U4 rfl (H.ev rfl) ((Block.cell kr 1).trans rfl)) rfl fun a H => ?_
   refine kV H (r_not (H.ev rfl) rfl) rfl fun a H => ?_
   refine kR 4 H rfl fun a H => ?_
   refine kW H rfl (r_ld U30 rfl (H.ev rfl) ((Block.cell kr 0).trans rfl)) rfl fun a H => ?_
   refine kW H rfl (r_len U30 (H.ev rfl)) rfl fun a H => ?_
   refine kW H rfl (r_eq U3 (H.ev rfl) evc (dec_t (by omega))) rfl fun a H => ?_
   refine kR 2 H rfl fun a H => ?_
   refine zA (zB (zF ?_))
   exact k_ret1 H rfl rfl ⟨by simp [hz], hall⟩
  ·
   have hall := Below.refl w.heap.size w
   refine K_enter 16 Tryz.func67 rfl rfl fun a H => ?_
   replace H := H.pick [0]
   refine zC (zD ?_)
   refine kR 1 H rfl fun a H => ?_
   refine zA (zB (zC (zD ?_)))
   refine kR 3 H rfl fun a H => ?_
   refine kV H (r_ld U4 rfl (H.ev rfl) ((Block.cell kr 1).trans rfl)) rfl fun a H => ?_
   refine kV H (r_not (H.ev rfl) rfl) rfl fun a H => ?_
   refine kR 4 H rfl fun a H => ?_
   refine kW H rfl (r_ld U30 rfl (H.ev rfl) ((Block.cell kr 0).trans rfl)) rfl fun a H => ?_
   refine kW H rfl (r_len U30 (H.ev rfl)) rfl fun a H => ?_
   refine kW H rfl (r_eq U3 (H.ev rfl) evc (dec_f (by omega))) rfl fun a H => ?_
   refine kR 2 H rfl fun a H => ?_
   refine zA (zB (zF ?_))
   exact k_ret1 H rfl rfl ⟨by simp [hz], hall⟩
theorem rdone_any (w : World) (b : Nat) (l : List B8) (bad : Bool) (hrd : Rd w b 123 l bad) :
  Calls Tryz.prog 78 #[.pointer (some ⟨b, 0, none⟩)] w fun e w' => e = .returned (.bool (!bad && decide (l.length = 0))) ∧ Below w.heap.size w w' := by
 obtain ⟨A, c, kr, hrow, hfl⟩ := hrd
 cases bad with
 | true =>
  have hall := Below.refl w.heap.size w
  refine K_enter 16 Tryz.func78 rfl rfl fun a H => ?_
  replace H := H.pick [0]
  refine zC (zD ?_)
  refine kR 1 H rfl fun a H => ?_
  refine zA (zB (zC (zD ?_)))
  refine kR 3 H rfl fun a H => ?_
  refine kV H (r_ld U4 rfl (H.ev rfl) ((Block.cell kr 1).trans rfl)) rfl fun a H => ?_
  refine kV H (r_not (H.ev rfl) rfl) rfl fun a H => ?_
  refine kR 9 H rfl fun a H => ?_
  refine zA (zB (zF ?_))
  exact k_ret1 H rfl rfl ⟨by simp, hall⟩
 | false =>
  by_cases hz : l.length = 0
  ·
   have hall := Below.refl w.heap.size w
   refine K_enter 16 Tryz.func78 rfl rfl fun a H => ?_
   replace H := H.pick [0]
   refine zC (zD ?_)
   refine kR 1 H rfl fun a H => ?_
   refine zA (zB (zC (zD ?_)))
   refine kR 3 H rfl fun a H => ?_
   refine kV H (r_ld U4 rfl (H.ev rfl) ((Block.cell kr 1).trans rfl)) rfl fun a H => ?_
   refine kV H (r_not (H.ev rfl) rfl) rfl fun a H => ?_
   refine kR 4 H rfl fun a H => ?_
   refine kW H rfl (r_ld U30 rfl (H.ev rfl) ((Block.cell kr 0).trans rfl)) rfl fun a H => ?_
   refine kW H rfl (r_len U30 (H.ev rfl)) rfl fun a H => ?_
   refine kW H rfl (r_eq U3 (H.ev rfl) evc (dec_t (by omega))) rfl fun a H => ?_
   refine kR 2 H rfl fun a H => ?_
   refine zA (zB (zF ?_))
   exact k_ret1 H rfl rfl ⟨by simp [hz], hall⟩
  ·
   have hall := Below.refl w.heap.size w
   refine K_enter 16 Tryz.func78 rfl rfl fun a H => ?_
   replace H := H.pick [0]
   refine zC (zD ?_)
   refine kR 1 H rfl fun a H => ?_
   refine zA (zB (zC (zD ?_)))
   refine kR 3 H rfl fun a H => ?_
   refine kV H (r_ld U4 rfl (H.ev rfl) ((Block.cell kr 1).trans rfl)) rfl fun a H => ?_
   refine kV H (r_not (H.ev rfl) rfl) rfl fun a H => ?_
   refine kR 4 H rfl fun a H => ?_
   refine kW H rfl (r_ld U30 rfl (H.ev rfl) ((Block.cell kr 0).trans rfl)) rfl fun a H => ?_
   refine kW H rfl (r_len U30 (H.ev rfl)) rfl fun a H => ?_
   refine kW H rfl (r_eq U3 (H.ev rfl) evc (dec_f (by omega))) rfl fun a H => ?_
   refine kR 2 H rfl fun a H => ?_
   refine zA (zB (zF ?_))
   exact k_ret1 H rfl rfl ⟨by simp [hz], hall⟩
end
/-- a slot: the function that finds it, its size, what it may be -/
def encS (s : Nat × Nat × Nat × Nat) : List Value := [.func (.func s.1) #[] #[], .int .i64 (s.2.1 : Nat), .int .i64 (s.2.2.1 : Nat), .int .i64 (s.2.2.2 : Nat)]
def slotsF (k : Int) : List (Nat × Nat × Nat × Nat) :=
 if k = 1 then [(98, 4, 0, 1073741824)] else
 if k = 2 then [(98, 4, 0, 1073741824), (99, 4, 0, 1073741824)] else
 if k = 3 then [(101, 1, 1, 16), (98, 4, 0, 1073741824), (99, 4, 0, 1073741824)] else
 if k = 4 then [(96, 4, 1, 1073741824), (98, 4, 0, 1073741824)] else
 if k = 5 then [(96, 4, 1, 1073741824), (97, 4, 1, 1073741824)] else
 if k = 10 then [(96, 4, 1, 1073741824), (97, 4, 1, 1073741824)] else
 if k = 6 then [(96, 4, 1, 1073741824), (97, 4, 1, 1073741824), (102, 1, 1, 3)] else
 if k = 7 then [(96, 4, 1, 1073741824), (97, 4, 1, 1073741824), (100, 1, 1, 7), (101, 1, 1, 16)] else
 if k = 8 then [(96, 4, 1, 1073741824), (97, 4, 1, 1073741824), (101, 1, 0, 16), (103, 4, 0, 1073741824), (102, 1, 0, 3), (104, 1, 0, 4)] else
 if k = 9 then [(96, 4, 1, 1073741824), (105, 4, 0, 1073741824), (106, 1, 0, 255)] else
 if k = 11 then [(96, 4, 1, 1073741824), (97, 4, 1, 1073741824), (100, 1, 0, 15)] else
 if k = 12 then [(98, 4, 0, 1073741824), (100, 1, 0, 15)] else
 []
theorem slots_no {k : Int} (h1 : ¬ k = 1) (h2 : ¬ k = 2) (h3 : ¬ k = 3) (h4 : ¬ k = 4) (h5 : ¬ k = 5) (h10 : ¬ k = 10) (h6 : ¬ k = 6) (h7 : ¬ k = 7) (h8 : ¬ k = 8) (h9 : ¬ k = 9) (h11 : ¬ k = 11) (h12 : ¬ k = 12) : slotsF k = [] := by
 unfold slotsF
 simp only [if_neg h1, if_neg h2, if_neg h3, if_neg h4, if_neg h5, if_neg h10, if_neg h6, if_neg h7, if_neg h8, if_neg h9, if_neg h11, if_neg h12]
abbrev slot0 : Array Value := #[.nilFunc, .int .i64 0, .int .i64 0, .int .i64 0]
theorem z91 : (Tryz.prog.info? 91).map (·.zero) = some (some (.agg slot0)) := by kernel_rfl
theorem s91 : (Tryz.prog.info? 91).map (·.size) = some 4 := by kernel_rfl
theorem r_slot {d : Option Tmp} {tt : TypeId} {ps : String} {af : Array Edge} {gd : Option (Nat × Bool)} {a : Act} {w : World} {f : FuncId} {s lo hi : Int} : (execOp a.eval ⟨d, .build 91 #[(0, .func f), (1, .const (.int .i64 s)), (2, .const (.int .i64 lo)), (3, .const (.int .i64 hi))], tt, ps, af, gd⟩).run Tryz.prog w = .ok (.value (.agg #[.func (.func f) #[] #[], .int .i64 s, .int .i64 lo, .int .i64 hi])) w := by
 kernel_rfl
set_option maxRecDepth 100000 in
set_option maxHeartbeats 8000000 in
theorem slots_any (w : World) (k : Int) :
  Calls Tryz.prog 63 #[.int .i64 k] w fun e w' => (∃ A, e = .returned (.slice A (slotsF k).length (slotsF k).length) ∧ Holds w' A ((slotsF k).flatMap encS) ∧ ((A = none ∧ slotsF k = []) ∨ ∃ g, A = some ⟨g, 0, none⟩ ∧ w.heap.size ≤ g ∧ slotsF k ≠ [])) ∧ Below w.heap.size w w' := by
 have hall := Below.refl w.heap.size w
 refine K_enter 81 Tryz.func63 rfl rfl fun a H => ?_
 replace H := H.pick [0]
 refine zC (zD ?_)
 refine kR 1 H rfl fun a H => ?_
 refine zA (zB (zC (zD ?_)))
 refine wl_v (.agg #[.func (.func 96) #[] #[], .int .i64 4, .int .i64 1, .int .i64 1073741824]) r_slot ?_; refine kl H rfl fun a H => ?_
 refine wl_v (.agg #[.func (.func 97) #[] #[], .int .i64 4, .int .i64 1, .int .i64 1073741824]) r_slot ?_; refine kl H rfl fun a H => ?_
 refine op_alloc 91 slot0 z91 fun w0 b0 hge hb k0 => ?_; have g0 := Nat.le_trans hall.size hge; replace hall := hall.tr hb; clear hb; clear hge; refine kl H rfl fun a H => ?_
 refine op_alloc 91 slot0 z91 fun w1 b1 hge hb k1 => ?_; have g1 := Nat.le_trans hall.size hge; have d0_1 : b0 < b1 := Nat.lt_of_lt_of_le k0.lt hge; replace k0 := Block.ups k0 hb; replace hall := hall.tr hb; clear hb; clear hge; refine kl H rfl fun a H => ?_
 refine op_store 91 (.tmp 3) (.tmp 9) b0 91 #[.func (.func 96) #[] #[], .int .i64 4, .int .i64 1, .int .i64 1073741824] _ (H.ev rfl) (H.ev rfl) k0 s91 rfl (by simp [Value.oneCell']) fun w' hb ho kq => ?_; clear k0; have k0 : Block _ b0 91 #[.func (.func 96) #[] #[], .int .i64 4, .int .i64 1, .int .i64 1073741824] := kq; clear kq; replace k1 := block_same k1 (ho _ (by omega)); replace hall := hall.trans (hb _ g0); clear hb ho; refine kl0 H fun a H => ?_
 refine op_store 91 (.tmp 4) (.tmp 10) b1 91 #[.func (.func 97) #[] #[], .int .i64 4, .int .i64 1, .int .i64 1073741824] _ (H.ev rfl) (H.ev rfl) k1 s91 rfl (by simp [Value.oneCell']) fun w' hb ho kq => ?_; clear k1; have k1 : Block _ b1 91 #[.func (.func 97) #[] #[], .int .i64 4, .int .i64 1, .int .i64 1073741824] := kq; clear kq; replace k0 := block_same k0 (ho _ (by omega)); replace hall := hall.trans (hb _ g1); clear hb ho; refine kl0 H fun a H => ?_
 refine zA (zB (zC (zD ?_)))
 refine wl_v (.agg #[.func (.func 98) #[] #[], .int .i64 4, .int .i64 0, .int .i64 1073741824]) r_slot ?_; refine kl H rfl fun a H => ?_
 refine op_new 91 5 (.tmp 11) #[.func (.func 98) #[] #[], .int .i64 4, .int .i64 0, .int .i64 1073741824] _ z91 s91 rfl (by simp [Value.cells, Value.oneCell']) (fun p => (H.put 5 p rfl).ev rfl) (fun p => (H.put 5 p rfl).ev rfl) fun w2 b2 hge hb k2 => ?_; have g2 := Nat.le_trans hall.size hge; have d0_2 : b0 < b2 := Nat.lt_of_lt_of_le k0.lt hge; have d1_2 : b1 < b2 := Nat.lt_of_lt_of_le k1.lt hge; replace k0 := Block.ups k0 hb; replace k1 := Block.ups k1 hb; replace hall := hall.tr hb; clear hb; clear hge; refine kl H rfl fun a H => ?_
 refine zA (zB (zC (zD ?_)))
 refine wl_v (.agg #[.func (.func 99) #[] #[], .int .i64 4, .int .i64 0, .int .i64 1073741824]) r_slot ?_; refine kl H rfl fun a H => ?_
 refine op_new 91 6 (.tmp 12) #[.func (.func 99) #[] #[], .int .i64 4, .int .i64 0, .int .i64 1073741824] _ z91 s91 rfl (by simp [Value.cells, Value.oneCell']) (fun p => (H.put 6 p rfl).ev rfl) (fun p => (H.put 6 p rfl).ev rfl) fun w3 b3 hge hb k3 => ?_; have g3 := Nat.le_trans hall.size hge; have d0_3 : b0 < b3 := Nat.lt_of_lt_of_le k0.lt hge; have d1_3 : b1 < b3 := Nat.lt_of_lt_of_le k1.lt hge; have d2_3 : b2 < b3 := Nat.lt_of_lt_of_le k2.lt hge; replace k0 := Block.ups k0 hb; replace k1 := Block.ups k1 hb; replace k2 := Block.ups k2 hb; replace hall := hall.tr hb; clear hb; clear hge; refine kl H rfl fun a H => ?_
 refine zA (zB (zC (zD ?_)))
 refine wl_v (.agg #[.func (.func 100) #[] #[], .int .i64 1, .int .i64 0, .int .i64 15]) r_slot ?_; refine kl H rfl fun a H => ?_
 refine op_new 91 7 (.tmp 13) #[.func (.func 100) #[] #[], .int .i64 1, .int .i64 0, .int .i64 15] _ z91 s91 rfl (by simp [Value.cells, Value.oneCell']) (fun p => (H.put 7 p rfl).ev rfl) (fun p => (H.put 7 p rfl).ev rfl) fun w4 b4 hge hb k4 => ?_; have g4 := Nat.le_trans hall.size hge; have d0_4 : b0 < b4 := Nat.lt_of_lt_of_le k0.lt hge; have d1_4 : b1 < b4 := Nat.lt_of_lt_of_le k1.lt hge; have d2_4 : b2 < b4 := Nat.lt_of_lt_of_le k2.lt hge; have d3_4 : b3 < b4 := Nat.lt_of_lt_of_le k3.lt hge; replace k0 := Block.ups k0 hb; replace k1 := Block.ups k1 hb; replace k2 := Block.ups k2 hb; replace k3 := Block.ups k3 hb; replace hall := hall.tr hb; clear hb; clear hge; refine kl H rfl fun a H => ?_
 refine zA (zB (zC (zD ?_)))
 refine wl_v (.agg #[.func (.func 101) #[] #[], .int .i64 1, .int .i64 1, .int .i64 16]) r_slot ?_; refine kl H rfl fun a H => ?_
 refine op_new 91 8 (.tmp 14) #[.func (.func 101) #[] #[], .int .i64 1, .int .i64 1, .int .i64 16] _ z91 s91 rfl (by simp [Value.cells, Value.oneCell']) (fun p => (H.put 8 p rfl).ev rfl) (fun p => (H.put 8 p rfl).ev rfl) fun w5 b5 hge hb k5 => ?_; have g5 := Nat.le_trans hall.size hge; have d0_5 : b0 < b5 := Nat.lt_of_lt_of_le k0.lt hge; have d1_5 : b1 < b5 := Nat.lt_of_lt_of_le k1.lt hge; have d2_5 : b2 < b5 := Nat.lt_of_lt_of_le k2.lt hge; have d3_5 : b3 < b5 := Nat.lt_of_lt_of_le k3.lt hge; have d4_5 : b4 < b5 := Nat.lt_of_lt_of_le k4.lt hge; replace k0 := Block.ups k0 hb; replace k1 := Block.ups k1 hb; replace k2 := Block.ups k2 hb; replace k3 := Block.ups k3 hb; replace k4 := Block.ups k4 hb; replace hall := hall.tr hb; clear hb; clear hge; refine kl H rfl fun a H => ?_
 refine zA (zB (zC (zC (zD ?_))))
 refine kR 1 H rfl fun a H => ?_
 refine zA (zB ?_)
 refine wp_block ?_
 refine zC (zD ?_)
 by_cases hcc0 : k = 1
 ·
  refine kV H (r_eq U3 (H.ev rfl) evc (dec_t (hcc0))) rfl fun a H => ?_
  refine kR 1 H rfl fun a H => ?_
  refine zA (zB (zH H rfl (zC (zD ?_))))
  refine kV H (r_row (cs := [.func (.func 98) #[] #[], .int .i64 4, .int .i64 0, .int .i64 1073741824]) (H.ev rfl) (block_range k2) (by kernel_rfl) s91 rfl) rfl fun a H => ?_
  refine op_litv 87 1 #[(0, .agg #[.func (.func 98) #[] #[], .int .i64 4, .int .i64 0, .int .i64 1073741824])] 91 #[.func (.func 98) #[] #[], .int .i64 4, .int .i64 0, .int .i64 1073741824] (by simp [evc, H.ev (j := 18) rfl]) (fun w => by kernel_rfl) fun w6 b6 hge hb k6 => ?_; have g6 := Nat.le_trans hall.size hge; have d0_6 : b0 < b6 := Nat.lt_of_lt_of_le k0.lt hge; have d1_6 : b1 < b6 := Nat.lt_of_lt_of_le k1.lt hge; have d2_6 : b2 < b6 := Nat.lt_of_lt_of_le k2.lt hge; have d3_6 : b3 < b6 := Nat.lt_of_lt_of_le k3.lt hge; have d4_6 : b4 < b6 := Nat.lt_of_lt_of_le k4.lt hge; have d5_6 : b5 < b6 := Nat.lt_of_lt_of_le k5.lt hge; replace k0 := Block.ups k0 hb; replace k1 := Block.ups k1 hb; replace k2 := Block.ups k2 hb; replace k3 := Block.ups k3 hb; replace k4 := Block.ups k4 hb; replace k5 := Block.ups k5 hb; replace hall := hall.tr hb; clear hb; clear hge; refine kl H rfl fun a H => ?_
  refine kR 1 H rfl fun a H => ?_
  refine zA (zB (zF (r_block (zJ ?_))))
  have hL : slotsF k = [(98, 4, 0, 1073741824)] := by rw [show k = 1 by assumption]; rfl
  exact k_ret1 H rfl rfl ⟨⟨some ⟨b6, 0, none⟩, by rw [hL]; rfl, by rw [hL]; exact Block.holds k6, .inr ⟨b6, rfl, g6, by rw [hL]; simp⟩⟩, hall⟩
 ·
  refine kV H (r_eq U3 (H.ev rfl) evc (dec_f (hcc0))) rfl fun a H => ?_
  refine kR 1 H rfl fun a H => ?_
  refine zA (zB (zG H rfl (zC (zD ?_))))
  by_cases hcc1 : k = 2
  ·
   refine kV H (r_eq U3 (H.ev rfl) evc (dec_t (hcc1))) rfl fun a H => ?_
   refine kR 1 H rfl fun a H => ?_
   refine zA (zB (zH H rfl (zC (zD ?_))))
   refine kV H (r_row (cs := [.func (.func 98) #[] #[], .int .i64 4, .int .i64 0, .int .i64 1073741824]) (H.ev rfl) (block_range k2) (by kernel_rfl) s91 rfl) rfl fun a H => ?_
   refine kV H (r_row (cs := [.func (.func 99) #[] #[], .int .i64 4, .int .i64 0, .int .i64 1073741824]) (H.ev rfl) (block_range k3) (by kernel_rfl) s91 rfl) rfl fun a H => ?_
   refine op_litv 87 2 #[(0, .agg #[.func (.func 98) #[] #[], .int .i64 4, .int .i64 0, .int .i64 1073741824]), (1, .agg #[.func (.func 99) #[] #[], .int .i64 4, .int .i64 0, .int .i64 1073741824])] 91 #[.func (.func 98) #[] #[], .int .i64 4, .int .i64 0, .int .i64 1073741824, .func (.func 99) #[] #[], .int .i64 4, .int .i64 0, .int .i64 1073741824] (by simp [evc, H.ev (j := 22) rfl, H.ev (j := 23) rfl]) (fun w => by kernel_rfl) fun w7 b7 hge hb k7 => ?_; have g7 := Nat.le_trans hall.size hge; have d0_7 : b0 < b7 := Nat.lt_of_lt_of_le k0.lt hge; have d1_7 : b1 < b7 := Nat.lt_of_lt_of_le k1.lt hge; have d2_7 : b2 < b7 := Nat.lt_of_lt_of_le k2.lt hge; have d3_7 : b3 < b7 := Nat.lt_of_lt_of_le k3.lt hge; have d4_7 : b4 < b7 := Nat.lt_of_lt_of_le k4.lt hge; have d5_7 : b5 < b7 := Nat.lt_of_lt_of_le k5.lt hge; replace k0 := Block.ups k0 hb; replace k1 := Block.ups k1 hb; replace k2 := Block.ups k2 hb; replace k3 := Block.ups k3 hb; replace k4 := Block.ups k4 hb; replace k5 := Block.ups k5 hb; replace hall := hall.tr hb; clear hb; clear hge; refine kl H rfl fun a H => ?_
   refine kR 1 H rfl fun a H => ?_
   refine zA (zB (zF (r_block (zJ ?_))))
   have hL : slotsF k = [(98, 4, 0, 1073741824), (99, 4, 0, 1073741824)] := by rw [show k = 2 by assumption]; rfl
   exact k_ret1 H rfl rfl ⟨⟨some ⟨b7, 0, none⟩, by rw [hL]; rfl, by rw [hL]; exact Block.holds k7, .inr ⟨b7, rfl, g7, by rw [hL]; simp⟩⟩, hall⟩
  ·
   refine kV H (r_eq U3 (H.ev rfl) evc (dec_f (hcc1))) rfl fun a H => ?_
   refine kR 1 H rfl fun a H => ?_
   refine zA (zB (zG H rfl (zC (zD ?_))))
   by_cases hcc2 : k = 3
   ·
    refine kV H (r_eq U3 (H.ev rfl) evc (dec_t (hcc2))) rfl fun a H => ?_
    refine kR 1 H rfl fun a H => ?_
    refine zA (zB (zH H rfl (zC (zD ?_))))
    refine kV H (r_row (cs := [.func (.func 101) #[] #[], .int .i64 1, .int .i64 1, .int .i64 16]) (H.ev rfl) (block_range k5) (by kernel_rfl) s91 rfl) rfl fun a H => ?_
    refine kV H (r_row (cs := [.func (.func 98) #[] #[], .int .i64 4, .int .i64 0, .int .i64 1073741824]) (H.ev rfl) (block_range k2) (by kernel_rfl) s91 rfl) rfl fun a H => ?_
    refine kV H (r_row (cs := [.func (.func 99) #[] #[], .int .i64 4, .int .i64 0, .int .i64 1073741824]) (H.ev rfl) (block_range k3) (by kernel_rfl) s91 rfl) rfl fun a H => ?_
    refine op_litv 87 3 #[(0, .agg #[.func (.func 101) #[] #[], .int .i64 1, .int .i64 1, .int .i64 16]), (1, .agg #[.func (.func 98) #[] #[], .int .i64 4, .int .i64 0, .int .i64 1073741824]), (2, .agg #[.func (.func 99) #[] #[], .int .i64 4, .int .i64 0, .int .i64 1073741824])] 91 #[.func (.func 101) #[] #[], .int .i64 1, .int .i64 1, .int .i64 16, .func (.func 98) #[] #[], .int .i64 4, .int .i64 0, .int .i64 1073741824, .func (.func 99) #[] #[], .int .i64 4, .int .i64 0, .int .i64 1073741824] (by simp [evc, H.ev (j := 27) rfl, H.ev (j := 28) rfl, H.ev (j := 29) rfl]) (fun w => by kernel_rfl) fun w8 b8 hge hb k8 => ?_; have g8 := Nat.le_trans hall.size hge; have d0_8 : b0 < b8 := Nat.lt_of_lt_of_le k0.lt hge; have d1_8 : b1 < b8 := Nat.lt_of_lt_of_le k1.lt hge; have d2_8 : b2 < b8 := Nat.lt_of_lt_of_le k2.lt hge; have d3_8 : b3 < b8 := Nat.lt_of_lt_of_le k3.lt hge; have d4_8 : b4 < b8 := Nat.lt_of_lt_of_le k4.lt hge; have d5_8 : b5 < b8 := Nat.lt_of_lt_of_le k5.lt hge; replace k0 := Block.ups k0 hb; replace k1 := Block.ups k1 hb; replace k2 := Block.ups k2 hb; replace k3 := Block.ups k3 hb; replace k4 := Block.ups k4 hb; replace k5 := Block.ups k5 hb; replace hall := hall.tr hb; clear hb; clear hge; refine kl H rfl fun a H => ?_
    refine kR 1 H rfl fun a H => ?_
    refine zA (zB (zF (r_block (zJ ?_))))
    have hL : slotsF k = [(101, 1, 1, 16), (98, 4, 0, 1073741824), (99, 4, 0, 1073741824)] := by rw [show k = 3 by assumption]; rfl
    exact k_ret1 H rfl rfl ⟨⟨some ⟨b8, 0, none⟩, by rw [hL]; rfl, by rw [hL]; exact Block.holds k8, .inr ⟨b8, rfl, g8, by rw [hL]; simp⟩⟩, hall⟩
   ·
    refine kV H (r_eq U3 (H.ev rfl) evc (dec_f (hcc2))) rfl fun a H => ?_
    refine kR 1 H rfl fun a H => ?_
    refine zA (zB (zG H rfl (zC (zD ?_))))
    by_cases hcc3 : k = 4
    ·
     refine kV H (r_eq U3 (H.ev rfl) evc (dec_t (hcc3))) rfl fun a H => ?_
     refine kR 1 H rfl fun a H => ?_
     refine zA (zB (zH H rfl (zC (zD ?_))))
     refine kV H (r_row (cs := [.func (.func 96) #[] #[], .int .i64 4, .int .i64 1, .int .i64 1073741824]) (H.ev rfl) (block_range k0) (by kernel_rfl) s91 rfl) rfl fun a H => ?_
     refine kV H (r_row (cs := [.func (.func 98) #[] #[], .int .i64 4, .int .i64 0, .int .i64 1073741824]) (H.ev rfl) (block_range k2) (by kernel_rfl) s91 rfl) rfl fun a H => ?_
     refine op_litv 87 2 #[(0, .agg #[.func (.func 96) #[] #[], .int .i64 4, .int .i64 1, .int .i64 1073741824]), (1, .agg #[.func (.func 98) #[] #[], .int .i64 4, .int .i64 0, .int .i64 1073741824])] 91 #[.func (.func 96) #[] #[], .int .i64 4, .int .i64 1, .int .i64 1073741824, .func (.func 98) #[] #[], .int .i64 4, .int .i64 0, .int .i64 1073741824] (by simp [evc, H.ev (j := 33) rfl, H.ev (j := 34) rfl]) (fun w => by kernel_rfl) fun w9 b9 hge hb k9 => ?_; have g9 := Nat.le_trans hall.size hge; have d0_9 : b0 < b9 := Nat.lt_of_lt_of_le k0.lt hge; have d1_9 : b1 < b9 := Nat.lt_of_lt_of_le k1.lt hge; have d2_9 : b2 < b9 := Nat.lt_of_lt_of_le k2.lt hge; have d3_9 : b3 < b9 := Nat.lt_of_lt_of_le k3.lt hge; have d4_9 : b4 < b9 := Nat.lt_of_lt_of_le k4.lt hge; have d5_9 : b5 < b9 := Nat.lt_of_lt_of_le k5.lt hge; replace k0 := Block.ups k0 hb; replace k1 := Block.ups k1 hb; replace k2 := Block.ups k2 hb; replace k3 := Block.ups k3 hb; replace k4 := Block.ups k4 hb; replace k5 := Block.ups k5 hb; replace hall := hall.tr hb; clear hb; clear hge; refine kl H rfl fun a H => ?_
     refine kR 1 H rfl fun a H => ?_
     refine zA (zB (zF (r_block (zJ ?_))))
     have hL : slotsF k = [(96, 4, 1, 1073741824), (98, 4, 0, 1073741824)] := by rw [show k = 4 by assumption]; rfl
     exact k_ret1 H rfl rfl ⟨⟨some ⟨b9, 0, none⟩, by rw [hL]; rfl, by rw [hL]; exact Block.holds k9, .inr ⟨b9, rfl, g9, by rw [hL]; simp⟩⟩, hall⟩
    ·
     refine kV H (r_eq U3 (H.ev rfl) evc (dec_f (hcc3))) rfl fun a H => ?_
     refine kR 1 H rfl fun a H => ?_
     refine zA (zB (zG H rfl (zC (zC (zD ?_)))))
     by_cases hcc4 : k = 5
     ·
      refine kV H (r_eq U3 (H.ev rfl) evc (dec_t (hcc4))) rfl fun a H => ?_
      refine kR 1 H rfl fun a H => ?_
      refine zA (zB (zH H rfl (zE (zB (zH H rfl (zC (zD ?_)))))))
      refine kV H (r_row (cs := [.func (.func 96) #[] #[], .int .i64 4, .int .i64 1, .int .i64 1073741824]) (H.ev rfl) (block_range k0) (by kernel_rfl) s91 rfl) rfl fun a H => ?_
      refine kV H (r_row (cs := [.func (.func 97) #[] #[], .int .i64 4, .int .i64 1, .int .i64 1073741824]) (H.ev rfl) (block_range k1) (by kernel_rfl) s91 rfl) rfl fun a H => ?_
      refine op_litv 87 2 #[(0, .agg #[.func (.func 96) #[] #[], .int .i64 4, .int .i64 1, .int .i64 1073741824]), (1, .agg #[.func (.func 97) #[] #[], .int .i64 4, .int .i64 1, .int .i64 1073741824])] 91 #[.func (.func 96) #[] #[], .int .i64 4, .int .i64 1, .int .i64 1073741824, .func (.func 97) #[] #[], .int .i64 4, .int .i64 1, .int .i64 1073741824] (by simp [evc, H.ev (j := 39) rfl, H.ev (j := 40) rfl]) (fun w => by kernel_rfl) fun w10 b10 hge hb k10 => ?_; have g10 := Nat.le_trans hall.size hge; have d0_10 : b0 < b10 := Nat.lt_of_lt_of_le k0.lt hge; have d1_10 : b1 < b10 := Nat.lt_of_lt_of_le k1.lt hge; have d2_10 : b2 < b10 := Nat.lt_of_lt_of_le k2.lt hge; have d3_10 : b3 < b10 := Nat.lt_of_lt_of_le k3.lt hge; have d4_10 : b4 < b10 := Nat.lt_of_lt_of_le k4.lt hge; have d5_10 : b5 < b10 := Nat.lt_of_lt_of_le k5.lt hge; replace k0 := Block.ups k0 hb; replace k1 := Block.ups k1 hb; replace k2 := Block.ups k2 hb; replace k3 := Block.ups k3 hb; replace k4 := Block.ups k4 hb; replace k5 := Block.ups k5 hb; replace hall := hall.tr hb; clear hb; clear hge; refine kl H rfl fun a H => ?_
      refine kR 1 H rfl fun a H => ?_
      refine zA (zB (zF (r_block (zJ ?_))))
      have hL : slotsF k = [(96, 4, 1, 1073741824), (97, 4, 1, 1073741824)] := by rw [show k = 5 by assumption]; rfl
      exact k_ret1 H rfl rfl ⟨⟨some ⟨b10, 0, none⟩, by rw [hL]; rfl, by rw [hL]; exact Block.holds k10, .inr ⟨b10, rfl, g10, by rw [hL]; simp⟩⟩, hall⟩
     ·
      refine kV H (r_eq U3 (H.ev rfl) evc (dec_f (hcc4))) rfl fun a H => ?_
      refine kR 1 H rfl fun a H => ?_
      refine zA (zB (zG H rfl (zD ?_)))
      by_cases hcc5 : k = 10
      ·
       refine kV H (r_eq U3 (H.ev rfl) evc (dec_t (hcc5))) rfl fun a H => ?_
       refine kR 1 H rfl fun a H => ?_
       refine zA (zB (zH H rfl (zC (zD ?_))))
       refine kV H (r_row (cs := [.func (.func 96) #[] #[], .int .i64 4, .int .i64 1, .int .i64 1073741824]) (H.ev rfl) (block_range k0) (by kernel_rfl) s91 rfl) rfl fun a H => ?_
       refine kV H (r_row (cs := [.func (.func 97) #[] #[], .int .i64 4, .int .i64 1, .int .i64 1073741824]) (H.ev rfl) (block_range k1) (by kernel_rfl) s91 rfl) rfl fun a H => ?_
       refine op_litv 87 2 #[(0, .agg #[.func (.func 96) #[] #[], .int .i64 4, .int .i64 1, .int .i64 1073741824]), (1, .agg #[.func (.func 97) #[] #[], .int .i64 4, .int .i64 1, .int .i64 1073741824])] 91 #[.func (.func 96) #[] #[], .int .i64 4, .int .i64 1, .int .i64 1073741824, .func (.func 97) #[] #[], .int .i64 4, .int .i64 1, .int .i64 1073741824] (by simp [evc, H.ev (j := 39) rfl, H.ev (j := 40) rfl]) (fun w => by kernel_rfl) fun w11 b11 hge hb k11 => ?_; have g11 := Nat.le_trans hall.size hge; have d0_11 : b0 < b11 := Nat.lt_of_lt_of_le k0.lt hge; have d1_11 : b1 < b11 := Nat.lt_of_lt_of_le k1.lt hge; have d2_11 : b2 < b11 := Nat.lt_of_lt_of_le k2.lt hge; have d3_11 : b3 < b11 := Nat.lt_of_lt_of_le k3.lt hge; have d4_11 : b4 < b11 := Nat.lt_of_lt_of_le k4.lt hge; have d5_11 : b5 < b11 := Nat.lt_of_lt_of_le k5.lt hge; replace k0 := Block.ups k0 hb; replace k1 := Block.ups k1 hb; replace k2 := Block.ups k2 hb; replace k3 := Block.ups k3 hb; replace k4 := Block.ups k4 hb; replace k5 := Block.ups k5 hb; replace hall := hall.tr hb; clear hb; clear hge; refine kl H rfl fun a H => ?_
       refine kR 1 H rfl fun a H => ?_
       refine zA (zB (zF (r_block (zJ ?_))))
       have hL : slotsF k = [(96, 4, 1, 1073741824), (97, 4, 1, 1073741824)] := by rw [show k = 10 by assumption]; rfl
       exact k_ret1 H rfl rfl ⟨⟨some ⟨b11, 0, none⟩, by rw [hL]; rfl, by rw [hL]; exact Block.holds k11, .inr ⟨b11, rfl, g11, by rw [hL]; simp⟩⟩, hall⟩
      ·
       refine kV H (r_eq U3 (H.ev rfl) evc (dec_f (hcc5))) rfl fun a H => ?_
       refine kR 1 H rfl fun a H => ?_
       refine zA (zB (zG H rfl (zC (zD ?_))))
       by_cases hcc6 : k = 6
       ·
        refine kV H (r_eq U3 (H.ev rfl) evc (dec_t (hcc6))) rfl fun a H => ?_
        refine kR 1 H rfl fun a H => ?_
        refine zA (zB (zH H rfl (zC (zD ?_))))
        refine kV H (r_row (cs := [.func (.func 96) #[] #[], .int .i64 4, .int .i64 1, .int .i64 1073741824]) (H.ev rfl) (block_range k0) (by kernel_rfl) s91 rfl) rfl fun a H => ?_
        refine kV H (r_row (cs := [.func (.func 97) #[] #[], .int .i64 4, .int .i64 1, .int .i64 1073741824]) (H.ev rfl) (block_range k1) (by kernel_rfl) s91 rfl) rfl fun a H => ?_
        refine wl_v (.agg #[.func (.func 102) #[] #[], .int .i64 1, .int .i64 1, .int .i64 3]) r_slot ?_; refine kl H rfl fun a H => ?_
        refine op_litv 87 3 #[(0, .agg #[.func (.func 96) #[] #[], .int .i64 4, .int .i64 1, .int .i64 1073741824]), (1, .agg #[.func (.func 97) #[] #[], .int .i64 4, .int .i64 1, .int .i64 1073741824]), (2, .agg #[.func (.func 102) #[] #[], .int .i64 1, .int .i64 1, .int .i64 3])] 91 #[.func (.func 96) #[] #[], .int .i64 4, .int .i64 1, .int .i64 1073741824, .func (.func 97) #[] #[], .int .i64 4, .int .i64 1, .int .i64 1073741824, .func (.func 102) #[] #[], .int .i64 1, .int .i64 1, .int .i64 3] (by simp [evc, H.ev (j := 44) rfl, H.ev (j := 45) rfl, H.ev (j := 46) rfl]) (fun w => by kernel_rfl) fun w12 b12 hge hb k12 => ?_; have g12 := Nat.le_trans hall.size hge; have d0_12 : b0 < b12 := Nat.lt_of_lt_of_le k0.lt hge; have d1_12 : b1 < b12 := Nat.lt_of_lt_of_le k1.lt hge; have d2_12 : b2 < b12 := Nat.lt_of_lt_of_le k2.lt hge; have d3_12 : b3 < b12 := Nat.lt_of_lt_of_le k3.lt hge; have d4_12 : b4 < b12 := Nat.lt_of_lt_of_le k4.lt hge; have d5_12 : b5 < b12 := Nat.lt_of_lt_of_le k5.lt hge; replace k0 := Block.ups k0 hb; replace k1 := Block.ups k1 hb; replace k2 := Block.ups k2 hb; replace k3 := Block.ups k3 hb; replace k4 := Block.ups k4 hb; replace k5 := Block.ups k5 hb; replace hall := hall.tr hb; clear hb; clear hge; refine kl H rfl fun a H => ?_
        refine kR 1 H rfl fun a H => ?_
        refine zA (zB (zF (r_block (zJ ?_))))
        have hL : slotsF k = [(96, 4, 1, 1073741824), (97, 4, 1, 1073741824), (102, 1, 1, 3)] := by rw [show k = 6 by assumption]; rfl
        exact k_ret1 H rfl rfl ⟨⟨some ⟨b12, 0, none⟩, by rw [hL]; rfl, by rw [hL]; exact Block.holds k12, .inr ⟨b12, rfl, g12, by rw [hL]; simp⟩⟩, hall⟩
       ·
        refine kV H (r_eq U3 (H.ev rfl) evc (dec_f (hcc6))) rfl fun a H => ?_
        refine kR 1 H rfl fun a H => ?_
        refine zA (zB (zG H rfl (zC (zD ?_))))
        by_cases hcc7 : k = 7
        ·
         refine kV H (r_eq U3 (H.ev rfl) evc (dec_t (hcc7))) rfl fun a H => ?_
         refine kR 1 H rfl fun a H => ?_
         refine zA (zB (zH H rfl (zC (zD ?_))))
         refine kV H (r_row (cs := [.func (.func 96) #[] #[], .int .i64 4, .int .i64 1, .int .i64 1073741824]) (H.ev rfl) (block_range k0) (by kernel_rfl) s91 rfl) rfl fun a H => ?_
         refine kV H (r_row (cs := [.func (.func 97) #[] #[], .int .i64 4, .int .i64 1, .int .i64 1073741824]) (H.ev rfl) (block_range k1) (by kernel_rfl) s91 rfl) rfl fun a H => ?_
         refine wl_v (.agg #[.func (.func 100) #[] #[], .int .i64 1, .int .i64 1, .int .i64 7]) r_slot ?_; refine kl H rfl fun a H => ?_
         refine kV H (r_row (cs := [.func (.func 101) #[] #[], .int .i64 1, .int .i64 1, .int .i64 16]) (H.ev rfl) (block_range k5) (by kernel_rfl) s91 rfl) rfl fun a H => ?_
         refine op_litv 87 4 #[(0, .agg #[.func (.func 96) #[] #[], .int .i64 4, .int .i64 1, .int .i64 1073741824]), (1, .agg #[.func (.func 97) #[] #[], .int .i64 4, .int .i64 1, .int .i64 1073741824]), (2, .agg #[.func (.func 100) #[] #[], .int .i64 1, .int .i64 1, .int .i64 7]), (3, .agg #[.func (.func 101) #[] #[], .int .i64 1, .int .i64 1, .int .i64 16])] 91 #[.func (.func 96) #[] #[], .int .i64 4, .int .i64 1, .int .i64 1073741824, .func (.func 97) #[] #[], .int .i64 4, .int .i64 1, .int .i64 1073741824, .func (.func 100) #[] #[], .int .i64 1, .int .i64 1, .int .i64 7, .func (.func 101) #[] #[], .int .i64 1, .int .i64 1, .int .i64 16] (by simp [evc, H.ev (j := 50) rfl, H.ev (j := 51) rfl, H.ev (j := 52) rfl, H.ev (j := 53) rfl]) (fun w => by kernel_rfl) fun w13 b13 hge hb k13 => ?_; have g13 := Nat.le_trans hall.size hge; have d0_13 : b0 < b13 := Nat.lt_of_lt_of_le k0.lt hge; have d1_13 : b1 < b13 := Nat.lt_of_lt_of_le k1.lt hge; have d2_13 : b2 < b13 := Nat.lt_of_lt_of_le k2.lt hge; have d3_13 : b3 < b13 := Nat.lt_of_lt_of_le k3.lt hge; have d4_13 : b4 < b13 := Nat.lt_of_lt_of_le k4.lt hge; have d5_13 : b5 < b13 := Nat.lt_of_lt_of_le k5.lt hge; replace k0 := Block.ups k0 hb; replace k1 := Block.ups k1 hb; replace k2 := Block.ups k2 hb; replace k3 := Block.ups k3 hb; replace k4 := Block.ups k4 hb; replace k5 := Block.ups k5 hb; replace hall := hall.tr hb; clear hb; clear hge; refine kl H rfl fun a H => ?_
         refine kR 1 H rfl fun a H => ?_
         refine zA (zB (zF (r_block (zJ ?_))))
         have hL : slotsF k = [(96, 4, 1, 1073741824), (97, 4, 1, 1073741824), (100, 1, 1, 7), (101, 1, 1, 16)] := by rw [show k = 7 by assumption]; rfl
         exact k_ret1 H rfl rfl ⟨⟨some ⟨b13, 0, none⟩, by rw [hL]; rfl, by rw [hL]; exact Block.holds k13, .inr ⟨b13, rfl, g13, by rw [hL]; simp⟩⟩, hall⟩
        ·
         refine kV H (r_eq U3 (H.ev rfl) evc (dec_f (hcc7))) rfl fun a H => ?_
         refine kR 1 H rfl fun a H => ?_
         refine zA (zB (zG H rfl (zC (zD ?_))))
         by_cases hcc8 : k = 8
         ·
          refine kV H (r_eq U3 (H.ev rfl) evc (dec_t (hcc8))) rfl fun a H => ?_
          refine kR 1 H rfl fun a H => ?_
          refine zA (zB (zH H rfl (zC (zD ?_))))
          refine kV H (r_row (cs := [.func (.func 96) #[] #[], .int .i64 4, .int .i64 1, .int .i64 1073741824]) (H.ev rfl) (block_range k0) (by kernel_rfl) s91 rfl) rfl fun a H => ?_
          refine kV H (r_row (cs := [.func (.func 97) #[] #[], .int .i64 4, .int .i64 1, .int .i64 1073741824]) (H.ev rfl) (block_range k1) (by kernel_rfl) s91 rfl) rfl fun a H => ?_
          refine wl_v (.agg #[.func (.func 101) #[] #[], .int .i64 1, .int .i64 0, .int .i64 16]) r_slot ?_; refine kl H rfl fun a H => ?_
          refine wl_v (.agg #[.func (.func 103) #[] #[], .int .i64 4, .int .i64 0, .int .i64 1073741824]) r_slot ?_; refine kl H rfl fun a H => ?_
          refine wl_v (.agg #[.func (.func 102) #[] #[], .int .i64 1, .int .i64 0, .int .i64 3]) r_slot ?_; refine kl H rfl fun a H => ?_
          refine wl_v (.agg #[.func (.func 104) #[] #[], .int .i64 1, .int .i64 0, .int .i64 4]) r_slot ?_; refine kl H rfl fun a H => ?_
          refine op_litv 87 6 #[(0, .agg #[.func (.func 96) #[] #[], .int .i64 4, .int .i64 1, .int .i64 1073741824]), (1, .agg #[.func (.func 97) #[] #[], .int .i64 4, .int .i64 1, .int .i64 1073741824]), (2, .agg #[.func (.func 101) #[] #[], .int .i64 1, .int .i64 0, .int .i64 16]), (3, .agg #[.func (.func 103) #[] #[], .int .i64 4, .int .i64 0, .int .i64 1073741824]), (4, .agg #[.func (.func 102) #[] #[], .int .i64 1, .int .i64 0, .int .i64 3]), (5, .agg #[.func (.func 104) #[] #[], .int .i64 1, .int .i64 0, .int .i64 4])] 91 #[.func (.func 96) #[] #[], .int .i64 4, .int .i64 1, .int .i64 1073741824, .func (.func 97) #[] #[], .int .i64 4, .int .i64 1, .int .i64 1073741824, .func (.func 101) #[] #[], .int .i64 1, .int .i64 0, .int .i64 16, .func (.func 103) #[] #[], .int .i64 4, .int .i64 0, .int .i64 1073741824, .func (.func 102) #[] #[], .int .i64 1, .int .i64 0, .int .i64 3, .func (.func 104) #[] #[], .int .i64 1, .int .i64 0, .int .i64 4] (by simp [evc, H.ev (j := 57) rfl, H.ev (j := 58) rfl, H.ev (j := 59) rfl, H.ev (j := 60) rfl, H.ev (j := 61) rfl, H.ev (j := 62) rfl]) (fun w => by kernel_rfl) fun w14 b14 hge hb k14 => ?_; have g14 := Nat.le_trans hall.size hge; have d0_14 : b0 < b14 := Nat.lt_of_lt_of_le k0.lt hge; have d1_14 : b1 < b14 := Nat.lt_of_lt_of_le k1.lt hge; have d2_14 : b2 < b14 := Nat.lt_of_lt_of_le k2.lt hge; have d3_14 : b3 < b14 := Nat.lt_of_lt_of_le k3.lt hge; have d4_14 : b4 < b14 := Nat.lt_of_lt_of_le k4.lt hge; have d5_14 : b5 < b14 := Nat.lt_of_lt_of_le k5.lt hge; replace k0 := Block.ups k0 hb; replace k1 := Block.ups k1 hb; replace k2 := Block.ups k2 hb; replace k3 := Block.ups k3 hb; replace k4 := Block.ups k4 hb; replace k5 := Block.ups k5 hb; replace hall := hall.tr hb; clear hb; clear hge; refine kl H rfl fun a H => ?_
          refine kR 1 H rfl fun a H => ?_
          refine zA (zB (zF (r_block (zJ ?_))))
          have hL : slotsF k = [(96, 4, 1, 1073741824), (97, 4, 1, 1073741824), (101, 1, 0, 16), (103, 4, 0, 1073741824), (102, 1, 0, 3), (104, 1, 0, 4)] := by rw [show k = 8 by assumption]; rfl
          exact k_ret1 H rfl rfl ⟨⟨some ⟨b14, 0, none⟩, by rw [hL]; rfl, by rw [hL]; exact Block.holds k14, .inr ⟨b14, rfl, g14, by rw [hL]; simp⟩⟩, hall⟩
         ·
          refine kV H (r_eq U3 (H.ev rfl) evc (dec_f (hcc8))) rfl fun a H => ?_
          refine kR 1 H rfl fun a H => ?_
          refine zA (zB (zG H rfl (zC (zD ?_))))
          by_cases hcc9 : k = 9
          ·
           refine kV H (r_eq U3 (H.ev rfl) evc (dec_t (hcc9))) rfl fun a H => ?_
           refine kR 1 H rfl fun a H => ?_
           refine zA (zB (zH H rfl (zC (zD ?_))))
           refine kV H (r_row (cs := [.func (.func 96) #[] #[], .int .i64 4, .int .i64 1, .int .i64 1073741824]) (H.ev rfl) (block_range k0) (by kernel_rfl) s91 rfl) rfl fun a H => ?_
           refine wl_v (.agg #[.func (.func 105) #[] #[], .int .i64 4, .int .i64 0, .int .i64 1073741824]) r_slot ?_; refine kl H rfl fun a H => ?_
           refine wl_v (.agg #[.func (.func 106) #[] #[], .int .i64 1, .int .i64 0, .int .i64 255]) r_slot ?_; refine kl H rfl fun a H => ?_
           refine op_litv 87 3 #[(0, .agg #[.func (.func 96) #[] #[], .int .i64 4, .int .i64 1, .int .i64 1073741824]), (1, .agg #[.func (.func 105) #[] #[], .int .i64 4, .int .i64 0, .int .i64 1073741824]), (2, .agg #[.func (.func 106) #[] #[], .int .i64 1, .int .i64 0, .int .i64 255])] 91 #[.func (.func 96) #[] #[], .int .i64 4, .int .i64 1, .int .i64 1073741824, .func (.func 105) #[] #[], .int .i64 4, .int .i64 0, .int .i64 1073741824, .func (.func 106) #[] #[], .int .i64 1, .int .i64 0, .int .i64 255] (by simp [evc, H.ev (j := 66) rfl, H.ev (j := 67) rfl, H.ev (j := 68) rfl]) (fun w => by kernel_rfl) fun w15 b15 hge hb k15 => ?_; have g15 := Nat.le_trans hall.size hge; have d0_15 : b0 < b15 := Nat.lt_of_lt_of_le k0.lt hge; have d1_15 : b1 < b15 := Nat.lt_of_lt_of_le k1.lt hge; have d2_15 : b2 < b15 := Nat.lt_of_lt_of_le k2.lt hge; have d3_15 : b3 < b15 := Nat.lt_of_lt_of_le k3.lt hge; have d4_15 : b4 < b15 := Nat.lt_of_lt_of_le k4.lt hge; have d5_15 : b5 < b15 := Nat.lt_of_lt_of_le k5.lt hge; replace k0 := Block.ups k0 hb; replace k1 := Block.ups k1 hb; replace k2 := Block.ups k2 hb; replace k3 := Block.ups k3 hb; replace k4 := Block.ups k4 hb; replace k5 := Block.ups k5 hb; replace hall := hall.tr hb; clear hb; clear hge; refine kl H rfl fun a H => ?_
           refine kR 1 H rfl fun a H => ?_
           refine zA (zB (zF (r_block (zJ ?_))))
           have hL : slotsF k = [(96, 4, 1, 1073741824), (105, 4, 0, 1073741824), (106, 1, 0, 255)] := by rw [show k = 9 by assumption]; rfl
           exact k_ret1 H rfl rfl ⟨⟨some ⟨b15, 0, none⟩, by rw [hL]; rfl, by rw [hL]; exact Block.holds k15, .inr ⟨b15, rfl, g15, by rw [hL]; simp⟩⟩, hall⟩
          ·
           refine kV H (r_eq U3 (H.ev rfl) evc (dec_f (hcc9))) rfl fun a H => ?_
           refine kR 1 H rfl fun a H => ?_
           refine zA (zB (zG H rfl (zC (zD ?_))))
           by_cases hcc10 : k = 11
           ·
            refine kV H (r_eq U3 (H.ev rfl) evc (dec_t (hcc10))) rfl fun a H => ?_
            refine kR 1 H rfl fun a H => ?_
            refine zA (zB (zH H rfl (zC (zD ?_))))
            refine kV H (r_row (cs := [.func (.func 96) #[] #[], .int .i64 4, .int .i64 1, .int .i64 1073741824]) (H.ev rfl) (block_range k0) (by kernel_rfl) s91 rfl) rfl fun a H => ?_
            refine kV H (r_row (cs := [.func (.func 97) #[] #[], .int .i64 4, .int .i64 1, .int .i64 1073741824]) (H.ev rfl) (block_range k1) (by kernel_rfl) s91 rfl) rfl fun a H => ?_
            refine kV H (r_row (cs := [.func (.func 100) #[] #[], .int .i64 1, .int .i64 0, .int .i64 15]) (H.ev rfl) (block_range k4) (by kernel_rfl) s91 rfl) rfl fun a H => ?_
            refine op_litv 87 3 #[(0, .agg #[.func (.func 96) #[] #[], .int .i64 4, .int .i64 1, .int .i64 1073741824]), (1, .agg #[.func (.func 97) #[] #[], .int .i64 4, .int .i64 1, .int .i64 1073741824]), (2, .agg #[.func (.func 100) #[] #[], .int .i64 1, .int .i64 0, .int .i64 15])] 91 #[.func (.func 96) #[] #[], .int .i64 4, .int .i64 1, .int .i64 1073741824, .func (.func 97) #[] #[], .int .i64 4, .int .i64 1, .int .i64 1073741824, .func (.func 100) #[] #[], .int .i64 1, .int .i64 0, .int .i64 15] (by simp [evc, H.ev (j := 72) rfl, H.ev (j := 73) rfl, H.ev (j := 74) rfl]) (fun w => by kernel_rfl) fun w16 b16 hge hb k16 => ?_; have g16 := Nat.le_trans hall.size hge; have d0_16 : b0 < b16 := Nat.lt_of_lt_of_le k0.lt hge; have d1_16 : b1 < b16 := Nat.lt_of_lt_of_le k1.lt hge; have d2_16 : b2 < b16 := Nat.lt_of_lt_of_le k2.lt hge; have d3_16 : b3 < b16 := Nat.lt_of_lt_of_le k3.lt hge; have d4_16 : b4 < b16 := Nat.lt_of_lt_of_le k4.lt hge; have d5_16 : b5 < b16 := Nat.lt_of_lt_of_le k5.lt hge; replace k0 := Block.ups k0 hb; replace k1 := Block.ups k1 hb; replace k2 := Block.ups k2 hb; replace k3 := Block.ups k3 hb; replace k4 := Block.ups k4 hb; replace k5 := Block.ups k5 hb; replace hall := hall.tr hb; clear hb; clear hge; refine kl H rfl fun a H => ?_
            refine kR 1 H rfl fun a H => ?_
            refine zA (zB (zF (r_block (zJ ?_))))
            have hL : slotsF k = [(96, 4, 1, 1073741824), (97, 4, 1, 1073741824), (100, 1, 0, 15)] := by rw [show k = 11 by assumption]; rfl
            exact k_ret1 H rfl rfl ⟨⟨some ⟨b16, 0, none⟩, by rw [hL]; rfl, by rw [hL]; exact Block.holds k16, .inr ⟨b16, rfl, g16, by rw [hL]; simp⟩⟩, hall⟩
           ·
            refine kV H (r_eq U3 (H.ev rfl) evc (dec_f (hcc10))) rfl fun a H => ?_
            refine kR 1 H rfl fun a H => ?_
            refine zA (zB (zG H rfl (zC (zD ?_))))
            by_cases hcc11 : k = 12
            ·
             refine kV H (r_eq U3 (H.ev rfl) evc (dec_t (hcc11))) rfl fun a H => ?_
             refine kR 1 H rfl fun a H => ?_
             refine zA (zB (zH H rfl (zC (zD ?_))))
             refine kV H (r_row (cs := [.func (.func 98) #[] #[], .int .i64 4, .int .i64 0, .int .i64 1073741824]) (H.ev rfl) (block_range k2) (by kernel_rfl) s91 rfl) rfl fun a H => ?_
             refine kV H (r_row (cs := [.func (.func 100) #[] #[], .int .i64 1, .int .i64 0, .int .i64 15]) (H.ev rfl) (block_range k4) (by kernel_rfl) s91 rfl) rfl fun a H => ?_
             refine op_litv 87 2 #[(0, .agg #[.func (.func 98) #[] #[], .int .i64 4, .int .i64 0, .int .i64 1073741824]), (1, .agg #[.func (.func 100) #[] #[], .int .i64 1, .int .i64 0, .int .i64 15])] 91 #[.func (.func 98) #[] #[], .int .i64 4, .int .i64 0, .int .i64 1073741824, .func (.func 100) #[] #[], .int .i64 1, .int .i64 0, .int .i64 15] (by simp [evc, H.ev (j := 78) rfl, H.ev (j := 79) rfl]) (fun w => by kernel_rfl) fun w17 b17 hge hb k17 => ?_; have g17 := Nat.le_trans hall.size hge; have d0_17 : b0 < b17 := Nat.lt_of_lt_of_le k0.lt hge; have d1_17 : b1 < b17 := Nat.lt_of_lt_of_le k1.lt hge; have d2_17 : b2 < b17 := Nat.lt_of_lt_of_le k2.lt hge; have d3_17 : b3 < b17 := Nat.lt_of_lt_of_le k3.lt hge; have d4_17 : b4 < b17 := Nat.lt_of_lt_of_le k4.lt hge; have d5_17 : b5 < b17 := Nat.lt_of_lt_of_le k5.lt hge; replace k0 := Block.ups k0 hb; replace k1 := Block.ups k1 hb; replace k2 := Block.ups k2 hb; replace k3 := Block.ups k3 hb; replace k4 := Block.ups k4 hb; replace k5 := Block.ups k5 hb; replace hall := hall.tr hb; clear hb; clear hge; refine kl H rfl fun a H => ?_
             refine kR 1 H rfl fun a H => ?_
             refine zA (zB (zF (r_block (zJ ?_))))
             have hL : slotsF k = [(98, 4, 0, 1073741824), (100, 1, 0, 15)] := by rw [show k = 12 by assumption]; rfl
             exact k_ret1 H rfl rfl ⟨⟨some ⟨b17, 0, none⟩, by rw [hL]; rfl, by rw [hL]; exact Block.holds k17, .inr ⟨b17, rfl, g17, by rw [hL]; simp⟩⟩, hall⟩
            ·
             refine kV H (r_eq U3 (H.ev rfl) evc (dec_f (hcc11))) rfl fun a H => ?_
             refine kR 1 H rfl fun a H => ?_
             refine zA (zB (zG H rfl (zE (n_block (zB (zC (zD ?_)))))))
             refine kR 1 H rfl fun a H => ?_
             refine zA (zB (zF ?_))
             exact k_ret1 H rfl rfl ⟨⟨none, by rw [slots_no (by assumption) (by assumption) (by assumption) (by assumption) (by assumption) (by assumption) (by assumption) (by assumption) (by assumption) (by assumption) (by assumption) (by assumption)]; rfl, by rw [slots_no (by assumption) (by assumption) (by assumption) (by assumption) (by assumption) (by assumption) (by assumption) (by assumption) (by assumption) (by assumption) (by assumption) (by assumption)]; exact fun j hj => by simp at hj, .inl ⟨rfl, slots_no (by assumption) (by assumption) (by assumption) (by assumption) (by assumption) (by assumption) (by assumption) (by assumption) (by assumption) (by assumption) (by assumption) (by assumption)⟩⟩, hall⟩
theorem fld36_0 : fldAt Tryz.prog 36 0 0 := fun b o w => by go_simp
theorem fld36_1 : fldAt Tryz.prog 36 1 1 := fun b o w => by go_simp
theorem fld36_2 : fldAt Tryz.prog 36 2 2 := fun b o w => by go_simp
theorem fld36_3 : fldAt Tryz.prog 36 3 3 := fun b o w => by go_simp
theorem fld36_4 : fldAt Tryz.prog 36 4 4 := fun b o w => by go_simp
theorem fld36_5 : fldAt Tryz.prog 36 5 5 := fun b o w => by go_simp
theorem fld36_6 : fldAt Tryz.prog 36 6 6 := fun b o w => by go_simp
theorem fld36_7 : fldAt Tryz.prog 36 7 7 := fun b o w => by go_simp
theorem fld36_8 : fldAt Tryz.prog 36 8 8 := fun b o w => by go_simp
theorem fld36_9 : fldAt Tryz.prog 36 9 9 := fun b o w => by go_simp
theorem fld36_10 : fldAt Tryz.prog 36 10 10 := fun b o w => by go_simp
theorem fld36_11 : fldAt Tryz.prog 36 11 11 := fun b o w => by go_simp
theorem fld36_12 : fldAt Tryz.prog 36 12 12 := fun b o w => by go_simp
theorem fld36_13 : fldAt Tryz.prog 36 13 28 := fun b o w => by go_simp
theorem at96_any (w : World) (b : Nat) : Calls Tryz.prog 96 #[.pointer (some ⟨b, 0, none⟩)] w fun e w' => e = .returned (.pointer (some ⟨b, 1, none⟩)) ∧ Below w.heap.size w w' := by
 have hall := Below.refl w.heap.size w
 refine K_enter 6 Tryz.func96 rfl rfl fun a H => ?_
 replace H := H.pick [0]
 refine zC (zD ?_)
 refine kR 1 H rfl fun a H => ?_
 refine zA (zB (zC (zD ?_)))
 refine kR 4 H rfl fun a H => ?_
 refine zA (zB (zF ?_))
 exact k_ret1 H rfl rfl ⟨rfl, hall⟩
theorem at97_any (w : World) (b : Nat) : Calls Tryz.prog 97 #[.pointer (some ⟨b, 0, none⟩)] w fun e w' => e = .returned (.pointer (some ⟨b, 2, none⟩)) ∧ Below w.heap.size w w' := by
 have hall := Below.refl w.heap.size w
 refine K_enter 6 Tryz.func97 rfl rfl fun a H => ?_
 replace H := H.pick [0]
 refine zC (zD ?_)
 refine kR 1 H rfl fun a H => ?_
 refine zA (zB (zC (zD ?_)))
 refine kR 4 H rfl fun a H => ?_
 refine zA (zB (zF ?_))
 exact k_ret1 H rfl rfl ⟨rfl, hall⟩
theorem at98_any (w : World) (b : Nat) : Calls Tryz.prog 98 #[.pointer (some ⟨b, 0, none⟩)] w fun e w' => e = .returned (.pointer (some ⟨b, 10, none⟩)) ∧ Below w.heap.size w w' := by
 have hall := Below.refl w.heap.size w
 refine K_enter 6 Tryz.func98 rfl rfl fun a H => ?_
 replace H := H.pick [0]
 refine zC (zD ?_)
 refine kR 1 H rfl fun a H => ?_
 refine zA (zB (zC (zD ?_)))
 refine kR 4 H rfl fun a H => ?_
 refine zA (zB (zF ?_))
 exact k_ret1 H rfl rfl ⟨rfl, hall⟩
theorem at99_any (w : World) (b : Nat) : Calls Tryz.prog 99 #[.pointer (some ⟨b, 0, none⟩)] w fun e w' => e = .returned (.pointer (some ⟨b, 11, none⟩)) ∧ Below w.heap.size w w' := by
 have hall := Below.refl w.heap.size w
 refine K_enter 6 Tryz.func99 rfl rfl fun a H => ?_
 replace H := H.pick [0]
 refine zC (zD ?_)
 refine kR 1 H rfl fun a H => ?_
 refine zA (zB (zC (zD ?_)))
 refine kR 4 H rfl fun a H => ?_
 refine zA (zB (zF ?_))
 exact k_ret1 H rfl rfl ⟨rfl, hall⟩
theorem at100_any (w : World) (b : Nat) : Calls Tryz.prog 100 #[.pointer (some ⟨b, 0, none⟩)] w fun e w' => e = .returned (.pointer (some ⟨b, 4, none⟩)) ∧ Below w.heap.size w w' := by
 have hall := Below.refl w.heap.size w
 refine K_enter 6 Tryz.func100 rfl rfl fun a H => ?_
 replace H := H.pick [0]
 refine zC (zD ?_)
 refine kR 1 H rfl fun a H => ?_
 refine zA (zB (zC (zD ?_)))
 refine kR 4 H rfl fun a H => ?_
 refine zA (zB (zF ?_))
 exact k_ret1 H rfl rfl ⟨rfl, hall⟩
theorem at101_any (w : World) (b : Nat) : Calls Tryz.prog 101 #[.pointer (some ⟨b, 0, none⟩)] w fun e w' => e = .returned (.pointer (some ⟨b, 3, none⟩)) ∧ Below w.heap.size w w' := by
 have hall := Below.refl w.heap.size w
 refine K_enter 6 Tryz.func101 rfl rfl fun a H => ?_
 replace H := H.pick [0]
 refine zC (zD ?_)
 refine kR 1 H rfl fun a H => ?_
 refine zA (zB (zC (zD ?_)))
 refine kR 4 H rfl fun a H => ?_
 refine zA (zB (zF ?_))
 exact k_ret1 H rfl rfl ⟨rfl, hall⟩
theorem at102_any (w : World) (b : Nat) : Calls Tryz.prog 102 #[.pointer (some ⟨b, 0, none⟩)] w fun e w' => e = .returned (.pointer (some ⟨b, 5, none⟩)) ∧ Below w.heap.size w w' := by
 have hall := Below.refl w.heap.size w
 refine K_enter 6 Tryz.func102 rfl rfl fun a H => ?_
 replace H := H.pick [0]
 refine zC (zD ?_)
 refine kR 1 H rfl fun a H => ?_
 refine zA (zB (zC (zD ?_)))
 refine kR 4 H rfl fun a H => ?_
 refine zA (zB (zF ?_))
 exact k_ret1 H rfl rfl ⟨rfl, hall⟩
theorem at103_any (w : World) (b : Nat) : Calls Tryz.prog 103 #[.pointer (some ⟨b, 0, none⟩)] w fun e w' => e = .returned (.pointer (some ⟨b, 7, none⟩)) ∧ Below w.heap.size w w' := by
 have hall := Below.refl w.heap.size w
 refine K_enter 6 Tryz.func103 rfl rfl fun a H => ?_
 replace H := H.pick [0]
 refine zC (zD ?_)
 refine kR 1 H rfl fun a H => ?_
 refine zA (zB (zC (zD ?_)))
 refine kR 4 H rfl fun a H => ?_
 refine zA (zB (zF ?_))
 exact k_ret1 H rfl rfl ⟨rfl, hall⟩
theorem at104_any (w : World) (b : Nat) : Calls Tryz.prog 104 #[.pointer (some ⟨b, 0, none⟩)] w fun e w' => e = .returned (.pointer (some ⟨b, 6, none⟩)) ∧ Below w.heap.size w w' := by
 have hall := Below.refl w.heap.size w
 refine K_enter 6 Tryz.func104 rfl rfl fun a H => ?_
 replace H := H.pick [0]
 refine zC (zD ?_)
 refine kR 1 H rfl fun a H => ?_
 refine zA (zB (zC (zD ?_)))
 refine kR 4 H rfl fun a H => ?_
 refine zA (zB (zF ?_))
 exact k_ret1 H rfl rfl ⟨rfl, hall⟩
theorem at105_any (w : World) (b : Nat) : Calls Tryz.prog 105 #[.pointer (some ⟨b, 0, none⟩)] w fun e w' => e = .returned (.pointer (some ⟨b, 8, none⟩)) ∧ Below w.heap.size w w' := by
 have hall := Below.refl w.heap.size w
 refine K_enter 6 Tryz.func105 rfl rfl fun a H => ?_
 replace H := H.pick [0]
 refine zC (zD ?_)
 refine kR 1 H rfl fun a H => ?_
 refine zA (zB (zC (zD ?_)))
 refine kR 4 H rfl fun a H => ?_
 refine zA (zB (zF ?_))
 exact k_ret1 H rfl rfl ⟨rfl, hall⟩
theorem at106_any (w : World) (b : Nat) : Calls Tryz.prog 106 #[.pointer (some ⟨b, 0, none⟩)] w fun e w' => e = .returned (.pointer (some ⟨b, 9, none⟩)) ∧ Below w.heap.size w w' := by
 have hall := Below.refl w.heap.size w
 refine K_enter 6 Tryz.func106 rfl rfl fun a H => ?_
 replace H := H.pick [0]
 refine zC (zD ?_)
 refine kR 1 H rfl fun a H => ?_
 refine zA (zB (zC (zD ?_)))
 refine kR 4 H rfl fun a H => ?_
 refine zA (zB (zF ?_))
 exact k_ret1 H rfl rfl ⟨rfl, hall⟩
theorem sealed_any (w : World) (k : Int) : Calls Tryz.prog 64 #[.int .i64 k] w fun e w' => e = .returned (.bool (decide (2 ≤ k ∧ k ≤ 4))) ∧ Below w.heap.size w w' := by
 by_cases h1 : 2 ≤ k
 ·
  by_cases h2 : k ≤ 4
  ·
   have hall := Below.refl w.heap.size w
   refine K_enter 9 Tryz.func64 rfl rfl fun a H => ?_
   replace H := H.pick [0]
   refine zC (zD ?_)
   refine kR 1 H rfl fun a H => ?_
   refine zA (zB (zC (zD ?_)))
   refine kR 1 H rfl fun a H => ?_
   refine kV H (r_ge U3 (H.ev rfl) evc (dec_t (by omega))) rfl fun a H => ?_
   refine kR 2 H rfl fun a H => ?_
   refine kW H rfl (r_le U3 (H.ev rfl) evc (dec_t (by omega))) rfl fun a H => ?_
   refine kR 2 H rfl fun a H => ?_
   refine zA (zB (zF ?_))
   exact k_ret1 H rfl rfl ⟨by simp; omega, hall⟩
  ·
   have hall := Below.refl w.heap.size w
   refine K_enter 9 Tryz.func64 rfl rfl fun a H => ?_
   replace H := H.pick [0]
   refine zC (zD ?_)
   refine kR 1 H rfl fun a H => ?_
   refine zA (zB (zC (zD ?_)))
   refine kR 1 H rfl fun a H => ?_
   refine kV H (r_ge U3 (H.ev rfl) evc (dec_t (by omega))) rfl fun a H => ?_
   refine kR 2 H rfl fun a H => ?_
   refine kW H rfl (r_le U3 (H.ev rfl) evc (dec_f (by omega))) rfl fun a H => ?_
   refine kR 2 H rfl fun a H => ?_
   refine zA (zB (zF ?_))
   exact k_ret1 H rfl rfl ⟨by simp; omega, hall⟩
 ·
  have hall := Below.refl w.heap.size w
  refine K_enter 9 Tryz.func64 rfl rfl fun a H => ?_
  replace H := H.pick [0]
  refine zC (zD ?_)
  refine kR 1 H rfl fun a H => ?_
  refine zA (zB (zC (zD ?_)))
  refine kR 1 H rfl fun a H => ?_
  refine kV H (r_ge U3 (H.ev rfl) evc (dec_f (by omega))) rfl fun a H => ?_
  refine kR 5 H rfl fun a H => ?_
  refine zA (zB (zF ?_))
  exact k_ret1 H rfl rfl ⟨by simp; omega, hall⟩
theorem tagged_any (w : World) (k : Int) : Calls Tryz.prog 66 #[.int .i64 k] w fun e w' => e = .returned (.bool (decide (5 ≤ k ∧ k ≤ 11))) ∧ Below w.heap.size w w' := by
 by_cases h1 : 5 ≤ k
 ·
  by_cases h2 : k ≤ 11
  ·
   have hall := Below.refl w.heap.size w
   refine K_enter 9 Tryz.func66 rfl rfl fun a H => ?_
   replace H := H.pick [0]
   refine zC (zD ?_)
   refine kR 1 H rfl fun a H => ?_
   refine zA (zB (zC (zD ?_)))
   refine kR 1 H rfl fun a H => ?_
   refine kV H (r_ge U3 (H.ev rfl) evc (dec_t (by omega))) rfl fun a H => ?_
   refine kR 2 H rfl fun a H => ?_
   refine kW H rfl (r_le U3 (H.ev rfl) evc (dec_t (by omega))) rfl fun a H => ?_
   refine kR 2 H rfl fun a H => ?_
   refine zA (zB (zF ?_))
   exact k_ret1 H rfl rfl ⟨by simp; omega, hall⟩
  ·
   have hall := Below.refl w.heap.size w
   refine K_enter 9 Tryz.func66 rfl rfl fun a H => ?_
   replace H := H.pick [0]
   refine zC (zD ?_)
   refine kR 1 H rfl fun a H => ?_
   refine zA (zB (zC (zD ?_)))
   refine kR 1 H rfl fun a H => ?_
   refine kV H (r_ge U3 (H.ev rfl) evc (dec_t (by omega))) rfl fun a H => ?_
   refine kR 2 H rfl fun a H => ?_
   refine kW H rfl (r_le U3 (H.ev rfl) evc (dec_f (by omega))) rfl fun a H => ?_
   refine kR 2 H rfl fun a H => ?_
   refine zA (zB (zF ?_))
   exact k_ret1 H rfl rfl ⟨by simp; omega, hall⟩
 ·
  have hall := Below.refl w.heap.size w
  refine K_enter 9 Tryz.func66 rfl rfl fun a H => ?_
  replace H := H.pick [0]
  refine zC (zD ?_)
  refine kR 1 H rfl fun a H => ?_
  refine zA (zB (zC (zD ?_)))
  refine kR 1 H rfl fun a H => ?_
  refine kV H (r_ge U3 (H.ev rfl) evc (dec_f (by omega))) rfl fun a H => ?_
  refine kR 5 H rfl fun a H => ?_
  refine zA (zB (zF ?_))
  exact k_ret1 H rfl rfl ⟨by simp; omega, hall⟩
/-- where the slot of function f lies -/
def atF (f : Nat) : Nat := if f = 96 then 1 else if f = 97 then 2 else if f = 98 then 10 else if f = 99 then 11 else if f = 100 then 4 else if f = 101 then 3 else if f = 102 then 5 else if f = 103 then 7 else if f = 104 then 6 else if f = 105 then 8 else if f = 106 then 9 else 0
theorem at_any (w : World) (b k : Nat) {kd : Int} {s : Nat × Nat × Nat × Nat} (h : (slotsF kd)[k]? = some s) : Calls Tryz.prog s.1 #[.pointer (some ⟨b, 0, none⟩)] w fun e w' => e = .returned (.pointer (some ⟨b, atF s.1, none⟩)) ∧ Below w.heap.size w w' := by
 have hm : s ∈ slotsF kd := List.mem_of_getElem? h
 have hs : s.1 = 96 ∨ s.1 = 97 ∨ s.1 = 98 ∨ s.1 = 99 ∨ s.1 = 100 ∨ s.1 = 101 ∨ s.1 = 102 ∨ s.1 = 103 ∨ s.1 = 104 ∨ s.1 = 105 ∨ s.1 = 106 := by
  clear h
  unfold slotsF at hm
  by_cases h1 : kd = 1
  ·
   rw [if_pos h1] at hm
   simp only [List.mem_cons, List.not_mem_nil, or_false] at hm
   rcases hm with rfl <;> simp
  rw [if_neg h1] at hm
  by_cases h2 : kd = 2
  ·
   rw [if_pos h2] at hm
   simp only [List.mem_cons, List.not_mem_nil, or_false] at hm
   rcases hm with rfl | rfl <;> simp
  rw [if_neg h2] at hm
  by_cases h3 : kd = 3
  ·
   rw [if_pos h3] at hm
   simp only [List.mem_cons, List.not_mem_nil, or_false] at hm
   rcases hm with rfl | rfl | rfl <;> simp
  rw [if_neg h3] at hm
  by_cases h4 : kd = 4
  ·
   rw [if_pos h4] at hm
   simp only [List.mem_cons, List.not_mem_nil, or_false] at hm
   rcases hm with rfl | rfl <;> simp
  rw [if_neg h4] at hm
  by_cases h5 : kd = 5
  ·
   rw [if_pos h5] at hm
   simp only [List.mem_cons, List.not_mem_nil, or_false] at hm
   rcases hm with rfl | rfl <;> simp
  rw [if_neg h5] at hm
  by_cases h10 : kd = 10
  ·
   rw [if_pos h10] at hm
   simp only [List.mem_cons, List.not_mem_nil, or_false] at hm
   rcases hm with rfl | rfl <;> simp
  rw [if_neg h10] at hm
  by_cases h6 : kd = 6
  ·
   rw [if_pos h6] at hm
   simp only [List.mem_cons, List.not_mem_nil, or_false] at hm
   rcases hm with rfl | rfl | rfl <;> simp
  rw [if_neg h6] at hm
  by_cases h7 : kd = 7
  ·
   rw [if_pos h7] at hm
   simp only [List.mem_cons, List.not_mem_nil, or_false] at hm
   rcases hm with rfl | rfl | rfl | rfl <;> simp
  rw [if_neg h7] at hm
  by_cases h8 : kd = 8
  ·
   rw [if_pos h8] at hm
   simp only [List.mem_cons, List.not_mem_nil, or_false] at hm
   rcases hm with rfl | rfl | rfl | rfl | rfl | rfl <;> simp
  rw [if_neg h8] at hm
  by_cases h9 : kd = 9
  ·
   rw [if_pos h9] at hm
   simp only [List.mem_cons, List.not_mem_nil, or_false] at hm
   rcases hm with rfl | rfl | rfl <;> simp
  rw [if_neg h9] at hm
  by_cases h11 : kd = 11
  ·
   rw [if_pos h11] at hm
   simp only [List.mem_cons, List.not_mem_nil, or_false] at hm
   rcases hm with rfl | rfl | rfl <;> simp
  rw [if_neg h11] at hm
  by_cases h12 : kd = 12
  ·
   rw [if_pos h12] at hm
   simp only [List.mem_cons, List.not_mem_nil, or_false] at hm
   rcases hm with rfl | rfl <;> simp
  rw [if_neg h12] at hm
  cases hm
 rcases hs with e | e | e | e | e | e | e | e | e | e | e <;> rw [e]
 · exact at96_any w b
 · exact at97_any w b
 · exact at98_any w b
 · exact at99_any w b
 · exact at100_any w b
 · exact at101_any w b
 · exact at102_any w b
 · exact at103_any w b
 · exact at104_any w b
 · exact at105_any w b
 · exact at106_any w b
structure Pkt where
 n : List Int
 sec : List B8
 tg : List B8
deriving DecidableEq
def Pkt.ok (p : Pkt) : Prop := p.n.length = 12 ∧ p.sec.length = 16 ∧ p.tg.length = 8 ∧ ∀ x ∈ p.n, -9223372036854775808 ≤ x ∧ x ≤ 9223372036854775807
def pcell (p : Pkt) : List Value := p.n.map (.int .i64) ++ p.sec.map u8v ++ p.tg.map u8v
abbrev pv (p : Pkt) : Array Value := (pcell p).toArray
def plit (p : Pkt) : List Lit := p.n.map (.int .i64) ++ p.sec.map (fun x => .int .u8 (x.toNat : Int)) ++ p.tg.map (fun x => .int .u8 (x.toNat : Int))
theorem pcell_len {p : Pkt} (h : p.ok) : (pcell p).length = 36 := by
 obtain ⟨h1, h2, h3, _⟩ := h
 simp [pcell, h1, h2, h3]
theorem pv_size {p : Pkt} (h : p.ok) : (pv p).size = 36 := by simpa using pcell_len h
theorem s36 : (Tryz.prog.info? 36).map (·.size) = some 36 := by kernel_rfl
theorem s36p {p : Pkt} (h : p.ok) : (Tryz.prog.info? 36).map (·.size) = some (pv p).size := by rw [pv_size h]; exact s36
theorem pv_one (p : Pkt) : (pv p).all (·.oneCell') = true := by simp [pcell, Value.oneCell']
theorem len12 {α : Type} {l : List α} (h : l.length = 12) : ∃ a0 a1 a2 a3 a4 a5 a6 a7 a8 a9 a10 a11, l = [a0, a1, a2, a3, a4, a5, a6, a7, a8, a9, a10, a11] := by
 match l, h with
 | [a0, a1, a2, a3, a4, a5, a6, a7, a8, a9, a10, a11], _ => exact ⟨a0, a1, a2, a3, a4, a5, a6, a7, a8, a9, a10, a11, rfl⟩
theorem len16 {α : Type} {l : List α} (h : l.length = 16) : ∃ s0 s1 s2 s3 s4 s5 s6 s7 s8 s9 s10 s11 s12 s13 s14 s15, l = [s0, s1, s2, s3, s4, s5, s6, s7, s8, s9, s10, s11, s12, s13, s14, s15] := by
 match l, h with
 | [s0, s1, s2, s3, s4, s5, s6, s7, s8, s9, s10, s11, s12, s13, s14, s15], _ => exact ⟨s0, s1, s2, s3, s4, s5, s6, s7, s8, s9, s10, s11, s12, s13, s14, s15, rfl⟩
theorem len8 {α : Type} {l : List α} (h : l.length = 8) : ∃ t0 t1 t2 t3 t4 t5 t6 t7, l = [t0, t1, t2, t3, t4, t5, t6, t7] := by
 match l, h with
 | [t0, t1, t2, t3, t4, t5, t6, t7], _ => exact ⟨t0, t1, t2, t3, t4, t5, t6, t7, rfl⟩
theorem wf_i64 {x : Int} (h : -9223372036854775808 ≤ x ∧ x ≤ 9223372036854775807) : (Lit.int .i64 x).wf = true := by
 simp [Lit.wf, IntKind.min, IntKind.max, IntKind.signed, IntKind.bits]
 omega
theorem wf_u8 (x : B8) : (Lit.int .u8 (x.toNat : Int)).wf = true := by
 have := x.isLt
 simp [Lit.wf, IntKind.min, IntKind.max, IntKind.signed, IntKind.bits]
 omega
theorem k3 (d : Nat) {a : Int} (h : (Lit.int .i64 a).wf = true) : Tryz.prog.keyLits (d + 1) 3 [.int .i64 a] = some [.int .i64 a] := by
 simp [Program.keyLits, U3, h]
theorem k5 (d : Nat) (x : B8) : Tryz.prog.keyLits (d + 1) 5 [u8v x] = some [.int .u8 (x.toNat : Int)] := by
 have h := wf_u8 x
 simp [Program.keyLits, U5, u8v, h]
theorem c3 : Tryz.prog.cellsOf 3 = 1 := by kernel_rfl
theorem c5 : Tryz.prog.cellsOf 5 = 1 := by kernel_rfl
theorem c33 : Tryz.prog.cellsOf 33 = 16 := by kernel_rfl
theorem c34 : Tryz.prog.cellsOf 34 = 8 := by kernel_rfl
theorem c36 : Tryz.prog.cellsOf 36 = 36 := by kernel_rfl
set_option maxRecDepth 100000 in
theorem k33 (d : Nat) (s0 s1 s2 s3 s4 s5 s6 s7 s8 s9 s10 s11 s12 s13 s14 s15 : B8) : Tryz.prog.keyLits (d + 2) 33 [u8v s0, u8v s1, u8v s2, u8v s3, u8v s4, u8v s5, u8v s6, u8v s7, u8v s8, u8v s9, u8v s10, u8v s11, u8v s12, u8v s13, u8v s14, u8v s15] = some [.int .u8 s0.toNat, .int .u8 s1.toNat, .int .u8 s2.toNat, .int .u8 s3.toNat, .int .u8 s4.toNat, .int .u8 s5.toNat, .int .u8 s6.toNat, .int .u8 s7.toNat, .int .u8 s8.toNat, .int .u8 s9.toNat, .int .u8 s10.toNat, .int .u8 s11.toNat, .int .u8 s12.toNat, .int .u8 s13.toNat, .int .u8 s14.toNat, .int .u8 s15.toNat] := by
 unfold Program.keyLits
 simp only [U33]
 simp [U33, c33, c5, show List.range 16 = [0, 1, 2, 3, 4, 5, 6, 7, 8, 9, 10, 11, 12, 13, 14, 15] from rfl, k5]
set_option maxRecDepth 100000 in
theorem k34 (d : Nat) (t0 t1 t2 t3 t4 t5 t6 t7 : B8) : Tryz.prog.keyLits (d + 2) 34 [u8v t0, u8v t1, u8v t2, u8v t3, u8v t4, u8v t5, u8v t6, u8v t7] = some [.int .u8 t0.toNat, .int .u8 t1.toNat, .int .u8 t2.toNat, .int .u8 t3.toNat, .int .u8 t4.toNat, .int .u8 t5.toNat, .int .u8 t6.toNat, .int .u8 t7.toNat] := by
 unfold Program.keyLits
 simp only [U34]
 simp [U34, c34, c5, show List.range 8 = [0, 1, 2, 3, 4, 5, 6, 7] from rfl, k5]
set_option maxRecDepth 100000 in
set_option maxHeartbeats 4000000 in
theorem pk_lits (a0 a1 a2 a3 a4 a5 a6 a7 a8 a9 a10 a11 : Int) (s0 s1 s2 s3 s4 s5 s6 s7 s8 s9 s10 s11 s12 s13 s14 s15 t0 t1 t2 t3 t4 t5 t6 t7 : B8) (ha0 : (Lit.int .i64 a0).wf = true) (ha1 : (Lit.int .i64 a1).wf = true) (ha2 : (Lit.int .i64 a2).wf = true) (ha3 : (Lit.int .i64 a3).wf = true) (ha4 : (Lit.int .i64 a4).wf = true) (ha5 : (Lit.int .i64 a5).wf = true) (ha6 : (Lit.int .i64 a6).wf = true) (ha7 : (Lit.int .i64 a7).wf = true) (ha8 : (Lit.int .i64 a8).wf = true) (ha9 : (Lit.int .i64 a9).wf = true) (ha10 : (Lit.int .i64 a10).wf = true) (ha11 : (Lit.int .i64 a11).wf = true) : Tryz.prog.keyLits 9 36 [.int .i64 a0, .int .i64 a1, .int .i64 a2, .int .i64 a3, .int .i64 a4, .int .i64 a5, .int .i64 a6, .int .i64 a7, .int .i64 a8, .int .i64 a9, .int .i64 a10, .int .i64 a11, u8v s0, u8v s1, u8v s2, u8v s3, u8v s4, u8v s5, u8v s6, u8v s7, u8v s8, u8v s9, u8v s10, u8v s11, u8v s12, u8v s13, u8v s14, u8v s15, u8v t0, u8v t1, u8v t2, u8v t3, u8v t4, u8v t5, u8v t6, u8v t7] = some [.int .i64 a0, .int .i64 a1, .int .i64 a2, .int .i64 a3, .int .i64 a4, .int .i64 a5, .int .i64 a6, .int .i64 a7, .int .i64 a8, .int .i64 a9, .int .i64 a10, .int .i64 a11, .int .u8 s0.toNat, .int .u8 s1.toNat, .int .u8 s2.toNat, .int .u8 s3.toNat, .int .u8 s4.toNat, .int .u8 s5.toNat, .int .u8 s6.toNat, .int .u8 s7.toNat, .int .u8 s8.toNat, .int .u8 s9.toNat, .int .u8 s10.toNat, .int .u8 s11.toNat, .int .u8 s12.toNat, .int .u8 s13.toNat, .int .u8 s14.toNat, .int .u8 s15.toNat, .int .u8 t0.toNat, .int .u8 t1.toNat, .int .u8 t2.toNat, .int .u8 t3.toNat, .int .u8 t4.toNat, .int .u8 t5.toNat, .int .u8 t6.toNat, .int .u8 t7.toNat] := by
 unfold Program.keyLits
 simp only [U36]
 simp [U36, c36, c3, c33, c34, k33, k34, k3 7 ha0, k3 7 ha1, k3 7 ha2, k3 7 ha3, k3 7 ha4, k3 7 ha5, k3 7 ha6, k3 7 ha7, k3 7 ha8, k3 7 ha9, k3 7 ha10, k3 7 ha11]
theorem plit_of {p : Pkt} (h : p.ok) : Tryz.prog.keyLits 9 36 (pv p).toList = some (plit p) := by
 obtain ⟨n, sec, tg⟩ := p
 obtain ⟨h1, h2, h3, h4⟩ := h
 obtain ⟨a0, a1, a2, a3, a4, a5, a6, a7, a8, a9, a10, a11, rfl⟩ := len12 h1
 obtain ⟨s0, s1, s2, s3, s4, s5, s6, s7, s8, s9, s10, s11, s12, s13, s14, s15, rfl⟩ := len16 h2
 obtain ⟨t0, t1, t2, t3, t4, t5, t6, t7, rfl⟩ := len8 h3
 exact pk_lits a0 a1 a2 a3 a4 a5 a6 a7 a8 a9 a10 a11 s0 s1 s2 s3 s4 s5 s6 s7 s8 s9 s10 s11 s12 s13 s14 s15 t0 t1 t2 t3 t4 t5 t6 t7 (wf_i64 (h4 a0 (by simp))) (wf_i64 (h4 a1 (by simp))) (wf_i64 (h4 a2 (by simp))) (wf_i64 (h4 a3 (by simp))) (wf_i64 (h4 a4 (by simp))) (wf_i64 (h4 a5 (by simp))) (wf_i64 (h4 a6 (by simp))) (wf_i64 (h4 a7 (by simp))) (wf_i64 (h4 a8 (by simp))) (wf_i64 (h4 a9 (by simp))) (wf_i64 (h4 a10 (by simp))) (wf_i64 (h4 a11 (by simp)))
theorem bytes_inj : ∀ {l m : List B8}, l.map (fun x => Lit.int .u8 (x.toNat : Int)) = m.map (fun x => Lit.int .u8 (x.toNat : Int)) → l = m
 | [], [], _ => rfl
 | [], _ :: _, h => by simp at h
 | _ :: _, [], h => by simp at h
 | x :: l, y :: m, h => by
  simp only [List.map_cons, List.cons.injEq, Lit.int.injEq, true_and] at h
  have e : x = y := BitVec.eq_of_toNat_eq (by omega)
  rw [e, bytes_inj h.2]
theorem ints_inj : ∀ {l m : List Int}, l.map (Lit.int .i64) = m.map (Lit.int .i64) → l = m
 | [], [], _ => rfl
 | [], _ :: _, h => by simp at h
 | _ :: _, [], h => by simp at h
 | x :: l, y :: m, h => by
  simp only [List.map_cons, List.cons.injEq, Lit.int.injEq, true_and] at h
  rw [h.1, ints_inj h.2]
theorem plit_inj {p q : Pkt} (hp : p.ok) (hq : q.ok) : plit p = plit q ↔ p = q := by
 refine ⟨fun h => ?_, fun h => by rw [h]⟩
 obtain ⟨n, sec, tg⟩ := p
 obtain ⟨n', sec', tg'⟩ := q
 obtain ⟨h1, h2, h3, _⟩ := hp
 obtain ⟨g1, g2, g3, _⟩ := hq
 unfold plit at h
 obtain ⟨h4, h5⟩ := List.append_inj h (by simp at *; omega)
 obtain ⟨h6, h7⟩ := List.append_inj h4 (by simp at *; omega)
 simp only at h5 h6 h7
 rw [ints_inj h6, bytes_inj h7, bytes_inj h5]
set_option maxRecDepth 100000 in
theorem pk_equal (w : World) {p q : Pkt} (hp : p.ok) (hq : q.ok) : (Op.equalIn 10000 36 (.agg (pv p)) (.agg (pv q))).run Tryz.prog w = .ok (decide (p = q)) w := by
 have fp : ∀ {p : Pkt}, p.ok → (Value.agg (pv p)).formed Tryz.prog 36 = true := fun {p} h => by
  have hs := pv_size h
  simp only [Value.formed, U36, c36, hs]
  rfl
 have hk : Tryz.prog.keyTypeAt 9 36 = true := by kernel_rfl
 have E : EqAt Tryz.prog 10000 36 := run_equalIn_deep (P := Tryz.prog) 9991 9 36 hk
 obtain ⟨r, hr, hi⟩ := E w 9 9 (.agg (pv p)) (.agg (pv q)) (plit p) (plit q) (fp hp) (fp hq) (plit_of hp) (plit_of hq)
 rw [hr]
 rw [plit_inj hp hq] at hi
 have e : r = decide (p = q) := by
  by_cases h : p = q
  · rw [hi.2 h, decide_eq_true h]
  ·
   cases r with
   | true => exact absurd (hi.1 rfl) h
   | false => rw [decide_eq_false h]
 rw [e]
set_option maxRecDepth 100000 in
theorem r_eqpk {d : Option Tmp} {tt : TypeId} {ps : String} {af : Array Edge} {gd : Option (Nat × Bool)} {a : Act} {w : World} {x y : Operand} {t2 : TypeId} {p q : Pkt} (hp : p.ok) (hq : q.ok) (hx : a.eval x = .agg (pv p)) (hy : a.eval y = .agg (pv q)) :
  (execOp a.eval ⟨d, .binOp .eql 36 x y t2, tt, ps, af, gd⟩).run Tryz.prog w = .ok (.value (.bool (decide (p = q)))) w := by
 have h := fun w => pk_equal w hp hq
 have hg : Tryz.prog.eqGuardType Tryz.prog.depth 36 = false := by kernel_rfl
 unfold execOp
 simp only [hx, hy]
 go_simp
theorem slot_fn {kd : Int} {k : Nat} {s : Nat × Nat × Nat × Nat} (h : (slotsF kd)[k]? = some s) : s.1 = 96 ∨ s.1 = 97 ∨ s.1 = 98 ∨ s.1 = 99 ∨ s.1 = 100 ∨ s.1 = 101 ∨ s.1 = 102 ∨ s.1 = 103 ∨ s.1 = 104 ∨ s.1 = 105 ∨ s.1 = 106 := by
  have hm : s ∈ slotsF kd := List.mem_of_getElem? h
  clear h
  unfold slotsF at hm
  by_cases h1 : kd = 1
  ·
   rw [if_pos h1] at hm
   simp only [List.mem_cons, List.not_mem_nil, or_false] at hm
   rcases hm with rfl <;> simp
  rw [if_neg h1] at hm
  by_cases h2 : kd = 2
  ·
   rw [if_pos h2] at hm
   simp only [List.mem_cons, List.not_mem_nil, or_false] at hm
   rcases hm with rfl | rfl <;> simp
  rw [if_neg h2] at hm
  by_cases h3 : kd = 3
  ·
   rw [if_pos h3] at hm
   simp only [List.mem_cons, List.not_mem_nil, or_false] at hm
   rcases hm with rfl | rfl | rfl <;> simp
  rw [if_neg h3] at hm
  by_cases h4 : kd = 4
  ·
   rw [if_pos h4] at hm
   simp only [List.mem_cons, List.not_mem_nil, or_false] at hm
   rcases hm with rfl | rfl <;> simp
  rw [if_neg h4] at hm
  by_cases h5 : kd = 5
  ·
   rw [if_pos h5] at hm
   simp only [List.mem_cons, List.not_mem_nil, or_false] at hm
   rcases hm with rfl | rfl <;> simp
  rw [if_neg h5] at hm
  by_cases h10 : kd = 10
  ·
   rw [if_pos h10] at hm
   simp only [List.mem_cons, List.not_mem_nil, or_false] at hm
   rcases hm with rfl | rfl <;> simp
  rw [if_neg h10] at hm
  by_cases h6 : kd = 6
  ·
   rw [if_pos h6] at hm
   simp only [List.mem_cons, List.not_mem_nil, or_false] at hm
   rcases hm with rfl | rfl | rfl <;> simp
  rw [if_neg h6] at hm
  by_cases h7 : kd = 7
  ·
   rw [if_pos h7] at hm
   simp only [List.mem_cons, List.not_mem_nil, or_false] at hm
   rcases hm with rfl | rfl | rfl | rfl <;> simp
  rw [if_neg h7] at hm
  by_cases h8 : kd = 8
  ·
   rw [if_pos h8] at hm
   simp only [List.mem_cons, List.not_mem_nil, or_false] at hm
   rcases hm with rfl | rfl | rfl | rfl | rfl | rfl <;> simp
  rw [if_neg h8] at hm
  by_cases h9 : kd = 9
  ·
   rw [if_pos h9] at hm
   simp only [List.mem_cons, List.not_mem_nil, or_false] at hm
   rcases hm with rfl | rfl | rfl <;> simp
  rw [if_neg h9] at hm
  by_cases h11 : kd = 11
  ·
   rw [if_pos h11] at hm
   simp only [List.mem_cons, List.not_mem_nil, or_false] at hm
   rcases hm with rfl | rfl | rfl <;> simp
  rw [if_neg h11] at hm
  by_cases h12 : kd = 12
  ·
   rw [if_pos h12] at hm
   simp only [List.mem_cons, List.not_mem_nil, or_false] at hm
   rcases hm with rfl | rfl <;> simp
  rw [if_neg h12] at hm
  cases hm
theorem at_lt {kd : Int} {k : Nat} {s : Nat × Nat × Nat × Nat} (h : (slotsF kd)[k]? = some s) : atF s.1 < 12 := by
 rcases slot_fn h with e | e | e | e | e | e | e | e | e | e | e <;> rw [e] <;> decide
theorem at_ent {kd : Int} {k : Nat} {s : Nat × Nat × Nat × Nat} (h : (slotsF kd)[k]? = some s) : entF Tryz.prog s.1 := by
 rcases slot_fn h with e | e | e | e | e | e | e | e | e | e | e <;> rw [e]
 · exact cf96
 · exact cf97
 · exact cf98
 · exact cf99
 · exact cf100
 · exact cf101
 · exact cf102
 · exact cf103
 · exact cf104
 · exact cf105
 · exact cf106
theorem holds_ups {w w' : World} {A : Option Addr} {xs : List Value} (h : Holds w A xs) (hb : Below w.heap.size w w') : Holds w' A xs := h.up hb
theorem holds_far {w w' : World} {A : Option Addr} {b : Nat} {xs : List Value} (h : Holds w A xs) (hb : Below b w w') (hf : Fl A b) : Holds w' A xs := fun j hj => by
 obtain ⟨q, o, he, hc⟩ := h j hj
 refine ⟨q, o, he, ?_⟩
 rw [← hc]
 exact hb.cell (p := ⟨q, o + j, none⟩) (hf.lt he)
theorem none_iff {A : Option Addr} {n : Nat} {L : List (Nat × Nat × Nat × Nat)} (h : (A = none ∧ L = []) ∨ ∃ g, A = some ⟨g, 0, none⟩ ∧ n ≤ g ∧ L ≠ []) : A.isNone = decide (L = []) := by
 rcases h with ⟨rfl, rfl⟩ | ⟨g, rfl, _, hl⟩
 · rfl
 · simp [hl]
theorem slots_range {w : World} {g i : Nat} {L : List (Nat × Nat × Nat × Nat)} {s : Nat × Nat × Nat × Nat} (h : Holds w (some ⟨g, 0, none⟩) (L.flatMap encS)) (hs : L[i]? = some s) : w.rangeAt g (0 + i * 4) (encS s) := by
 intro j v hv
 have hj : j < 4 := by
  have := (List.getElem?_eq_some_iff.1 hv).1
  simpa [encS] using this
 have hx : (L.flatMap encS)[i * 4 + j]? = some v := by
  clear h
  induction L generalizing i with
  | nil => simp at hs
  | cons x L ih =>
   rw [List.flatMap_cons]
   cases i with
   | zero =>
    simp only [List.getElem?_cons_zero, Option.some.injEq] at hs
    subst hs
    rw [List.getElem?_append_left (by simp [encS]; omega), Nat.zero_mul, Nat.zero_add]
    exact hv
   | succ i =>
    rw [List.getElem?_append_right (by simp [encS]; omega)]
    have := ih (i := i) (by simpa using hs)
    rw [← this]
    congr 1
    simp [encS]
    omega
 obtain ⟨hl, _⟩ := List.getElem?_eq_some_iff.1 hx
 obtain ⟨b, o, he, hc⟩ := h (i * 4 + j) hl
 injection he with he
 injection he with e1 e2
 subst e1 e2
 rw [show 0 + i * 4 + j = 0 + (i * 4 + j) by omega, hc, hx]
theorem fl_of {w : World} {A : Option Addr} {n : Nat} {L : List (Nat × Nat × Nat × Nat)} (h : (A = none ∧ L = []) ∨ ∃ g, A = some ⟨g, 0, none⟩ ∧ n ≤ g ∧ L ≠ []) (hh : Holds w A (L.flatMap encS)) : Fl A w.heap.size := by
 rcases h with ⟨rfl, _⟩ | ⟨g, rfl, _, hl⟩
 · exact .inl rfl
 ·
  refine .inr ⟨g, 0, rfl, Holds.lt hh rfl ?_⟩
  cases L with
  | nil => exact absurd rfl hl
  | cons x L => simp [encS]
theorem fl_some {A : Option Addr} {n i : Nat} {L : List (Nat × Nat × Nat × Nat)} {s : Nat × Nat × Nat × Nat} (h : (A = none ∧ L = []) ∨ ∃ g, A = some ⟨g, 0, none⟩ ∧ n ≤ g ∧ L ≠ []) (hs : L[i]? = some s) : ∃ g, A = some ⟨g, 0, none⟩ := by
 rcases h with ⟨_, rfl⟩ | ⟨g, h, _⟩
 · simp at hs
 · exact ⟨g, h⟩
def Pkt.fld (p : Pkt) (j : Nat) : Int := p.n.getD j 0
theorem fld_at {p : Pkt} {j : Nat} (hp : p.ok) (hj : j < 12) : p.n[j]? = some (p.fld j) := by
 have : j < p.n.length := by rw [hp.1]; exact hj
 simp [Pkt.fld, List.getD_eq_getElem?_getD, List.getElem?_eq_getElem this]
theorem pv_cell {w : World} {b j : Nat} {t : TypeId} {p : Pkt} {x : Int} (h : Block w b t (pv p)) (hx : p.n[j]? = some x) : w.cell? ⟨b, j, none⟩ = some (.int .i64 x) := by
 rw [h.cell]
 obtain ⟨hj, rfl⟩ := List.getElem?_eq_some_iff.1 hx
 simp [pcell, List.getElem?_append, hj]
/-- a packet's kind and the first i of its slots -/
def bareN (p : Pkt) (L : List (Nat × Nat × Nat × Nat)) (i : Nat) : List Int := (List.range 12).map fun j => if j = 0 ∨ (L.take i).any (fun s => atF s.1 == j) = true then p.fld j else 0
def bare (p : Pkt) (L : List (Nat × Nat × Nat × Nat)) (i : Nat) : Pkt := ⟨bareN p L i, List.replicate 16 0, List.replicate 8 0⟩
theorem bare_ok {p : Pkt} {L : List (Nat × Nat × Nat × Nat)} {i : Nat} (hp : p.ok) : (bare p L i).ok := by
 refine ⟨by simp [bare, bareN], by simp [bare], by simp [bare], fun x hx => ?_⟩
 simp only [bare, bareN, List.mem_map, List.mem_range] at hx
 obtain ⟨j, hj, rfl⟩ := hx
 split
 · exact hp.2.2.2 _ (List.mem_of_getElem? (fld_at hp hj))
 · omega
theorem bareN_zero (p : Pkt) (L : List (Nat × Nat × Nat × Nat)) : bareN p L 0 = [p.fld 0, 0, 0, 0, 0, 0, 0, 0, 0, 0, 0, 0] := by
 simp [bareN, show List.range 12 = [0, 1, 2, 3, 4, 5, 6, 7, 8, 9, 10, 11] from rfl]
theorem bare_next {p : Pkt} {L : List (Nat × Nat × Nat × Nat)} {i : Nat} {s : Nat × Nat × Nat × Nat} (hs : L[i]? = some s) (hat : atF s.1 < 12) : setL (pv (bare p L i)) (atF s.1) (Value.int .i64 (p.fld (atF s.1))).cells.toList = pv (bare p L (i + 1)) := by
 show setL (pv (bare p L i)) (atF s.1) [Value.int .i64 (p.fld (atF s.1))] = _
 rw [setL1]
 apply Array.ext'
 have hN : (bareN p L i).set (atF s.1) (p.fld (atF s.1)) = bareN p L (i + 1) := by
  obtain ⟨hi, hse⟩ := List.getElem?_eq_some_iff.1 hs
  apply List.ext_getElem (by simp [bareN])
  intro m h1 h2
  have hm : m < 12 := by simpa [bareN] using h2
  rw [List.getElem_set]
  simp only [bareN, List.getElem_map, List.getElem_range, List.take_succ_eq_append_getElem hi, List.any_append, hse]
  by_cases e : atF s.1 = m
  · simp [e]
  ·
   have e2 : (atF s.1 == m) = false := beq_eq_false_iff_ne.2 e
   rw [if_neg e]
   by_cases h0 : m = 0 ∨ ((L.take i).any fun s => atF s.1 == m) = true
   ·
    rw [if_pos h0, if_pos]
    rcases h0 with h0 | h0
    · exact .inl h0
    · exact .inr (by rw [h0]; rfl)
   ·
    rw [if_neg h0, if_neg]
    intro hc
    apply h0
    rcases hc with hc | hc
    · exact .inl hc
    ·
     refine .inr ?_
     rcases Bool.or_eq_true_iff.1 hc with hc | hc
     · exact hc
     · exact absurd (show atF s.1 = m by simpa using hc) e
 simp only [bare, pcell, List.setIfInBounds_toArray, List.toList_toArray]
 rw [← hN]
 rw [List.append_assoc, List.append_assoc, List.set_append_left _ _ (by simp [bareN]; omega), ← List.map_set]
abbrev pk0 : Pkt := ⟨List.replicate 12 0, List.replicate 16 0, List.replicate 8 0⟩
theorem pk0_ok : pk0.ok := ⟨rfl, rfl, rfl, fun x hx => by have := (List.mem_replicate.1 hx).2; omega⟩
theorem z36 : (Tryz.prog.info? 36).map (·.zero) = some (some (.agg (pv pk0))) := by kernel_rfl
theorem r_bare {d : Option Tmp} {tt : TypeId} {ps : String} {af : Array Edge} {gd : Option (Nat × Bool)} {a : Act} {w : World} {x : Operand} {p : Pkt} {L : List (Nat × Nat × Nat × Nat)} (hx : a.eval x = .int .i64 (p.fld 0)) :
  (execOp a.eval ⟨d, .build 36 #[(0, x)], tt, ps, af, gd⟩).run Tryz.prog w = .ok (.value (.agg (pv (bare p L 0)))) w := by
 have e : bare p L 0 = ⟨[p.fld 0, 0, 0, 0, 0, 0, 0, 0, 0, 0, 0, 0], List.replicate 16 0, List.replicate 8 0⟩ := by rw [bare, bareN_zero]
 rw [e]
 exact r_build #[(0, .int .i64 (p.fld 0))] (.agg (pv ⟨[p.fld 0, 0, 0, 0, 0, 0, 0, 0, 0, 0, 0, 0], List.replicate 16 0, List.replicate 8 0⟩)) (by simp [hx]) (fun w => by kernel_rfl)
end Go.Proofs.YtbnmpoonkjlkjaaGreat
