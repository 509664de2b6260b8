/- Client: part F of the proof. -/
import Derived.Test.YtbnmpoonkjlkjaaGreatXE
import Derived.Test.YtbnmpoonkjlkjaaGreatXC
namespace Go.Proofs.YtbnmpoonkjlkjaaGreat
open Go.RowKit
set_option linter.unusedVariables false
set_option linter.unusedSimpArgs false
set_option maxRecDepth 100000
set_option maxHeartbeats 8000000
theorem L6 (w : World) (k : Int) : Calls Tryz.prog 79 #[J k] w fun e w' => e = .returned (.bool (decide (5 ≤ k ∧ k ≤ 11))) ∧ Below w.heap.size w w' := by
 by_cases h1 : 5 ≤ k
 ·
  by_cases h2 : k ≤ 11
  ·
   have Aa := Below.refl w.heap.size w
   exact Az 9 Tryz.func79 R R λ a H => zC (zD (kR 1 H R λ a H => zA (zB (zC (zD (kR 1 H R λ a H => kX 2 H (CV U3 (H.e R) Am dT) R λ a H => kY 2 H R (Fv U3 (H.e R) Am dT) R λ a H => zA (zB (zF (Ag H R R ⟨by simp; omega, Aa⟩)))))))))
  ·
   have Aa := Below.refl w.heap.size w
   exact Az 9 Tryz.func79 R R λ a H => zC (zD (kR 1 H R λ a H => zA (zB (zC (zD (kR 1 H R λ a H => kX 2 H (CV U3 (H.e R) Am dT) R λ a H => kY 2 H R (Fv U3 (H.e R) Am dF) R λ a H => zA (zB (zF (Ag H R R ⟨by simp; omega, Aa⟩)))))))))
 ·
  have Aa := Below.refl w.heap.size w
  exact Az 9 Tryz.func79 R R λ a H => zC (zD (kR 1 H R λ a H => zA (zB (zC (zD (kR 1 H R λ a H => kX 5 H (CV U3 (H.e R) Am dF) R λ a H => zA (zB (zF (Ag H R R ⟨by simp; omega, Aa⟩)))))))))
theorem mG : (Tryz.prog.info? 99).map (·.zero) = some (some (.agg #[J 0, J 0, J 0, J 0])) := by kernel_rfl
theorem J7 : (Tryz.prog.info? 99).map (·.size) = some 4 := by kernel_rfl
theorem Dh (w : World) (x lo : Int) : Calls Tryz.prog 109 #[J x, J lo] w fun e w' => e = .returned (.agg #[J x, J 4, J lo, J 1073741824]) ∧ Below w.heap.size w w' := by
 have Aa := Below.refl w.heap.size w
 refine Az 8 Tryz.func109 R R λ a H => zC (zD (Bj 99 #[J 0, J 0, J 0, J 0] mG fun w0 b0 Ak hb k0 => ?_))
 have g0 := Nat.le_trans Aa.size Ak; replace Aa := Aa.tr hb; clear hb Ak; refine kl H rfl λ a H => zA (zB (zC (zD (kR 2 H rfl λ a H => kV H (Bl #[(0, J x), (1, J 4), (2, J lo), (3, J 1073741824)] (.agg #[J x, J 4, J lo, J 1073741824]) (by simp [Am, H.ev (j := 5) rfl, H.ev (j := 6) rfl]) (fun w => by kernel_rfl)) rfl λ a H => AT 99 (.tmp 4) (.tmp 7) b0 99 #[J x, J 4, J lo, J 1073741824] _ (H.ev rfl) (H.ev rfl) k0 J7 rfl (by simp [Value.oneCell']) fun w' hb ho kq => ?_))))
 clear k0; have k0 := kq; replace Aa := Aa.trans (hb _ g0); clear hb ho kq; exact Dz H λ a H => zA (zB (zF (Cw H rfl rfl k0 xP rfl J7 ⟨rfl, Aa⟩)))
theorem Eh (w : World) (x lo hi : Int) : Calls Tryz.prog 110 #[J x, J lo, J hi] w fun e w' => e = .returned (.agg #[J x, J 1, J lo, J hi]) ∧ Below w.heap.size w w' := by
 have Aa := Below.refl w.heap.size w
 refine Az 11 Tryz.func110 R R λ a H => zC (zD (Bj 99 #[J 0, J 0, J 0, J 0] mG fun w0 b0 Ak hb k0 => ?_))
 have g0 := Nat.le_trans Aa.size Ak; replace Aa := Aa.tr hb; clear hb Ak; refine kl H rfl λ a H => zA (zB (zC (zD (kR 3 H rfl λ a H => kV H (Bl #[(0, J x), (1, J 1), (2, J lo), (3, J hi)] (.agg #[J x, J 1, J lo, J hi]) (by simp [Am, H.ev (j := 7) rfl, H.ev (j := 8) rfl, H.ev (j := 9) rfl]) (fun w => by kernel_rfl)) rfl λ a H => AT 99 (.tmp 6) (.tmp 10) b0 99 #[J x, J 1, J lo, J hi] _ (H.ev rfl) (H.ev rfl) k0 J7 rfl (by simp [Value.oneCell']) fun w' hb ho kq => ?_))))
 clear k0; have k0 := kq; replace Aa := Aa.trans (hb _ g0); clear hb ho kq; exact Dz H λ a H => zA (zB (zF (Cw H rfl rfl k0 xP rfl J7 ⟨rfl, Aa⟩)))
theorem X1 {w : World} {b n : Nat} {t : TypeId} {p : AZ} (h : Ad w b t #[J (p.fld 1), J (p.fld 2), J (p.fld 3), J (p.fld 4), J (p.fld 5), J (p.fld 6), J (p.fld 7), J (p.fld 8), J (p.fld 9), J (p.fld 10), J (p.fld 11)]) (hn : n < 11) : w.cell? ⟨b, 0 + n, none⟩ = some (J (p.fld (n + 1))) := by
 rw [Nat.zero_add, h.cell]
 match n, hn with
 | 0, _ => rfl
 | 1, _ => rfl
 | 2, _ => rfl
 | 3, _ => rfl
 | 4, _ => rfl
 | 5, _ => rfl
 | 6, _ => rfl
 | 7, _ => rfl
 | 8, _ => rfl
 | 9, _ => rfl
 | 10, _ => rfl
theorem Qq (w : World) (p : AZ) (n : Nat) (q : Int) (hq : q = (n : Int)) (hp : p.ok) (hn : n < 11) : Calls Tryz.prog 73 #[.agg (pv p), J q] w fun e w' => e = .returned (J (p.fld (n + 1))) ∧ Below w.heap.size w w' := by
 subst hq
 have Aa := Below.refl w.heap.size w
 refine Az 33 Tryz.func73 R R λ a H => zC (zD (B7 36 (.tmp 0) (pv p) (H.e R) fun w0 b0 Ak hb k0 => ?_))
 have g0 := Nat.le_trans Aa.size Ak; replace Aa := Aa.tr hb; clear hb Ak; refine kL 1 H rfl λ a H => zA (zB (zC (zD (kR 1 H rfl λ a H => kX 1 H (Ai U3 rfl (H.ev rfl) (AB k0 (AQ hp (j := 1) (by omega)))) rfl λ a H => kX 1 H (Ai U3 rfl (H.ev rfl) (AB k0 (AQ hp (j := 2) (by omega)))) rfl λ a H => kX 1 H (Ai U3 rfl (H.ev rfl) (AB k0 (AQ hp (j := 3) (by omega)))) rfl λ a H => kX 1 H (Ai U3 rfl (H.ev rfl) (AB k0 (AQ hp (j := 4) (by omega)))) rfl λ a H => kX 1 H (Ai U3 rfl (H.ev rfl) (AB k0 (AQ hp (j := 5) (by omega)))) rfl λ a H => kX 1 H (Ai U3 rfl (H.ev rfl) (AB k0 (AQ hp (j := 6) (by omega)))) rfl λ a H => kX 1 H (Ai U3 rfl (H.ev rfl) (AB k0 (AQ hp (j := 7) (by omega)))) rfl λ a H => kX 1 H (Ai U3 rfl (H.ev rfl) (AB k0 (AQ hp (j := 8) (by omega)))) rfl λ a H => kX 1 H (Ai U3 rfl (H.ev rfl) (AB k0 (AQ hp (j := 9) (by omega)))) rfl λ a H => kX 1 H (Ai U3 rfl (H.ev rfl) (AB k0 (AQ hp (j := 10) (by omega)))) rfl λ a H => kV H (Ai U3 rfl (H.ev rfl) (AB k0 (AQ hp (j := 11) (by omega)))) rfl λ a H => BP 121 11 #[(0, J (p.fld 1)), (1, J (p.fld 2)), (2, J (p.fld 3)), (3, J (p.fld 4)), (4, J (p.fld 5)), (5, J (p.fld 6)), (6, J (p.fld 7)), (7, J (p.fld 8)), (8, J (p.fld 9)), (9, J (p.fld 10)), (10, J (p.fld 11))] 3 #[J (p.fld 1), J (p.fld 2), J (p.fld 3), J (p.fld 4), J (p.fld 5), J (p.fld 6), J (p.fld 7), J (p.fld 8), J (p.fld 9), J (p.fld 10), J (p.fld 11)] (by simp [Am, H.ev (j := 7) rfl, H.ev (j := 9) rfl, H.ev (j := 11) rfl, H.ev (j := 13) rfl, H.ev (j := 15) rfl, H.ev (j := 17) rfl, H.ev (j := 19) rfl, H.ev (j := 21) rfl, H.ev (j := 23) rfl, H.ev (j := 25) rfl, H.ev (j := 27) rfl]) (fun w => by kernel_rfl) fun w1 b1 Ak hb k1 => ?_))))
 have g1 := Nat.le_trans Aa.size Ak; replace k0 := k0.ups hb; replace Aa := Aa.tr hb; clear hb; clear Ak; exact kL 1 H rfl λ a H => zA (zB (zC (zD (kR 2 H rfl λ a H => kV H (Bq (j := n) (q := 0 + n) tX s3 (H.ev rfl) (H.ev rfl) (by omega) (by omega)) rfl λ a H => kX 1 H (Ai U3 rfl (H.ev rfl) (X1 k1 hn)) rfl λ a H => zA (zB (zF (Ag H rfl rfl ⟨rfl, Aa⟩)))))))
def AZ.set (p : AZ) (j : Nat) (x : Int) : AZ := ⟨p.n.set j x, p.sec, p.tg⟩
theorem Cg {p : AZ} {j : Nat} {x : Int} (hp : p.ok) (hx : -9223372036854775808 ≤ x ∧ x ≤ 9223372036854775807) : (p.set j x).ok := by
 refine ⟨by simp [AZ.set, hp.1], hp.2.1, hp.2.2.1, fun y hy => ?_⟩
 rcases List.mem_or_eq_of_mem_set hy with h | h
 · exact hp.2.2.2 y h
 · subst h; exact hx
theorem FA {p : AZ} {j : Nat} {x : Int} (hp : p.ok) (hj : j < 12) : C3 (pv p) j (J x).cells.toList = pv (p.set j x) := by
 show C3 (pv p) j [J x] = _
 rw [FL]
 apply Array.ext'
 simp only [AZ.set, EI, List.setIfInBounds_toArray, List.toList_toArray]
 rw [List.append_assoc, List.append_assoc, List.set_append_left _ _ (by rw [List.length_map, hp.1]; exact hj), ← List.map_set]
theorem NK (w : World) (p : AZ) (n : Nat) (q x : Int) (hq : q = (n : Int)) (hp : p.ok) (hn : n < 11) (hx : -9223372036854775808 ≤ x ∧ x ≤ 9223372036854775807) : Calls Tryz.prog 77 #[.agg (pv p), J q, J x] w fun e w' => e = .returned (.agg (pv (p.set (n + 1) x))) ∧ Below w.heap.size w w' := by
 subst hq
 match n, hn with
 | 0, _ =>
  have Aa := Below.refl w.heap.size w
  refine Az 53 Tryz.func77 R R λ a H => zC (zD (B7 36 (.tmp 0) (pv p) (H.e R) fun w0 b0 Ak hb k0 => ?_))
  have g0 := Nat.le_trans Aa.size Ak; replace Aa := Aa.tr hb; clear hb Ak; refine kl H rfl λ a H => Bj 36 (pv Ec) Jn fun w1 b1 Ak hb k1 => ?_
  have g1 := Nat.le_trans Aa.size Ak; have TK : b0 < b1 := Nat.lt_of_lt_of_le k0.lt Ak; replace k0 := k0.ups hb; replace Aa := Aa.tr hb; clear hb Ak; refine kl H rfl λ a H => zA (zB (zC (zC (zD (kR 1 H rfl λ a H => zA (zB (wp_block (zC (zD (kX 1 H (A9 U3 (H.ev rfl) Am dT) rfl λ a H => zA (zB (zH H rfl (zD (kR 2 H rfl λ a H => AP 3 (.tmp 11) (.tmp 10) b0 1 36 (J x) _ (H.ev rfl) (H.ev rfl) k0 s3 (by rw [AI hp]; show 1 + 1 ≤ 36; omega) (by simp [Value.cells, Value.oneCell']) fun w' hb ho kq => ?_))))))))))))))
  clear k0; have k0 := kq; rw [FA hp (by omega)] at k0; replace k1 := Ae k1 (ho _ (by omega)); replace Aa := Aa.trans (hb _ g0); clear hb ho kq; refine Dz H λ a H => zA (AC (zB (zC (zD (kV (v := .agg (pv (p.set 1 x))) H (Af b0 36 _ _ (H.ev rfl) k0 C1 rfl (AR (Cg hp hx))) rfl λ a H => AT 36 (.tmp 6) (.tmp 52) b1 36 (pv (p.set 1 x)) _ (H.ev rfl) (H.ev rfl) k1 (AR (Cg hp hx)) (by rw [AI Bz, AI (Cg hp hx)]) (BU _) fun w' hb ho kq => ?_)))))
  clear k1; have k1 := kq; replace Aa := Aa.trans (hb _ g1); clear hb ho kq; exact Dz H λ a H => zA (zB (zF (Cw H rfl rfl k1 C1 rfl (AR (Cg hp hx)) ⟨rfl, Aa⟩)))
 | 1, _ =>
  have Aa := Below.refl w.heap.size w
  refine Az 53 Tryz.func77 R R λ a H => zC (zD (B7 36 (.tmp 0) (pv p) (H.e R) fun w0 b0 Ak hb k0 => ?_))
  have g0 := Nat.le_trans Aa.size Ak; replace Aa := Aa.tr hb; clear hb Ak; refine kl H rfl λ a H => Bj 36 (pv Ec) Jn fun w1 b1 Ak hb k1 => ?_
  have g1 := Nat.le_trans Aa.size Ak; have TK : b0 < b1 := Nat.lt_of_lt_of_le k0.lt Ak; replace k0 := k0.ups hb; replace Aa := Aa.tr hb; clear hb Ak; refine kl H rfl λ a H => zA (zB (zC (zC (zD (kR 1 H rfl λ a H => zA (zB (wp_block (zC (zD (kX 1 H (A9 U3 (H.ev rfl) Am dF) rfl λ a H => zA (zB (zG H rfl (zC (zD (kX 1 H (A9 U3 (H.ev rfl) Am dT) rfl λ a H => zA (zB (zH H rfl (zD (kR 2 H rfl λ a H => AP 3 (.tmp 15) (.tmp 14) b0 2 36 (J x) _ (H.ev rfl) (H.ev rfl) k0 s3 (by rw [AI hp]; show 2 + 1 ≤ 36; omega) (by simp [Value.cells, Value.oneCell']) fun w' hb ho kq => ?_)))))))))))))))))))
  clear k0; have k0 := kq; rw [FA hp (by omega)] at k0; replace k1 := Ae k1 (ho _ (by omega)); replace Aa := Aa.trans (hb _ g0); clear hb ho kq; refine Dz H λ a H => zA (AC (zB (zC (zD (kV (v := .agg (pv (p.set 2 x))) H (Af b0 36 _ _ (H.ev rfl) k0 C1 rfl (AR (Cg hp hx))) rfl λ a H => AT 36 (.tmp 6) (.tmp 52) b1 36 (pv (p.set 2 x)) _ (H.ev rfl) (H.ev rfl) k1 (AR (Cg hp hx)) (by rw [AI Bz, AI (Cg hp hx)]) (BU _) fun w' hb ho kq => ?_)))))
  clear k1; have k1 := kq; replace Aa := Aa.trans (hb _ g1); clear hb ho kq; exact Dz H λ a H => zA (zB (zF (Cw H rfl rfl k1 C1 rfl (AR (Cg hp hx)) ⟨rfl, Aa⟩)))
 | 2, _ =>
  have Aa := Below.refl w.heap.size w
  refine Az 53 Tryz.func77 R R λ a H => zC (zD (B7 36 (.tmp 0) (pv p) (H.e R) fun w0 b0 Ak hb k0 => ?_))
  have g0 := Nat.le_trans Aa.size Ak; replace Aa := Aa.tr hb; clear hb Ak; refine kl H rfl λ a H => Bj 36 (pv Ec) Jn fun w1 b1 Ak hb k1 => ?_
  have g1 := Nat.le_trans Aa.size Ak; have TK : b0 < b1 := Nat.lt_of_lt_of_le k0.lt Ak; replace k0 := k0.ups hb; replace Aa := Aa.tr hb; clear hb Ak; refine kl H rfl λ a H => zA (zB (zC (zC (zD (kR 1 H rfl λ a H => zA (zB (wp_block (zC (zD (kX 1 H (A9 U3 (H.ev rfl) Am dF) rfl λ a H => zA (zB (zG H rfl (zC (zD (kX 1 H (A9 U3 (H.ev rfl) Am dF) rfl λ a H => zA (zB (zG H rfl (zC (zD (kX 1 H (A9 U3 (H.ev rfl) Am dT) rfl λ a H => zA (zB (zH H rfl (zD (kR 2 H rfl λ a H => AP 3 (.tmp 19) (.tmp 18) b0 3 36 (J x) _ (H.ev rfl) (H.ev rfl) k0 s3 (by rw [AI hp]; show 3 + 1 ≤ 36; omega) (by simp [Value.cells, Value.oneCell']) fun w' hb ho kq => ?_))))))))))))))))))))))))
  clear k0; have k0 := kq; rw [FA hp (by omega)] at k0; replace k1 := Ae k1 (ho _ (by omega)); replace Aa := Aa.trans (hb _ g0); clear hb ho kq; refine Dz H λ a H => zA (AC (zB (zC (zD (kV (v := .agg (pv (p.set 3 x))) H (Af b0 36 _ _ (H.ev rfl) k0 C1 rfl (AR (Cg hp hx))) rfl λ a H => AT 36 (.tmp 6) (.tmp 52) b1 36 (pv (p.set 3 x)) _ (H.ev rfl) (H.ev rfl) k1 (AR (Cg hp hx)) (by rw [AI Bz, AI (Cg hp hx)]) (BU _) fun w' hb ho kq => ?_)))))
  clear k1; have k1 := kq; replace Aa := Aa.trans (hb _ g1); clear hb ho kq; exact Dz H λ a H => zA (zB (zF (Cw H rfl rfl k1 C1 rfl (AR (Cg hp hx)) ⟨rfl, Aa⟩)))
 | 3, _ =>
  have Aa := Below.refl w.heap.size w
  refine Az 53 Tryz.func77 R R λ a H => zC (zD (B7 36 (.tmp 0) (pv p) (H.e R) fun w0 b0 Ak hb k0 => ?_))
  have g0 := Nat.le_trans Aa.size Ak; replace Aa := Aa.tr hb; clear hb Ak; refine kl H rfl λ a H => Bj 36 (pv Ec) Jn fun w1 b1 Ak hb k1 => ?_
  have g1 := Nat.le_trans Aa.size Ak; have TK : b0 < b1 := Nat.lt_of_lt_of_le k0.lt Ak; replace k0 := k0.ups hb; replace Aa := Aa.tr hb; clear hb Ak; refine kl H rfl λ a H => zA (zB (zC (zC (zD (kR 1 H rfl λ a H => zA (zB (wp_block (zC (zD (kX 1 H (A9 U3 (H.ev rfl) Am dF) rfl λ a H => zA (zB (zG H rfl (zC (zD (kX 1 H (A9 U3 (H.ev rfl) Am dF) rfl λ a H => zA (zB (zG H rfl (zC (zD (kX 1 H (A9 U3 (H.ev rfl) Am dF) rfl λ a H => zA (zB (zG H rfl (zC (zD (kX 1 H (A9 U3 (H.ev rfl) Am dT) rfl λ a H => zA (zB (zH H rfl (zD (kR 2 H rfl λ a H => AP 3 (.tmp 23) (.tmp 22) b0 4 36 (J x) _ (H.ev rfl) (H.ev rfl) k0 s3 (by rw [AI hp]; show 4 + 1 ≤ 36; omega) (by simp [Value.cells, Value.oneCell']) fun w' hb ho kq => ?_)))))))))))))))))))))))))))))
  clear k0; have k0 := kq; rw [FA hp (by omega)] at k0; replace k1 := Ae k1 (ho _ (by omega)); replace Aa := Aa.trans (hb _ g0); clear hb ho kq; refine Dz H λ a H => zA (AC (zB (zC (zD (kV (v := .agg (pv (p.set 4 x))) H (Af b0 36 _ _ (H.ev rfl) k0 C1 rfl (AR (Cg hp hx))) rfl λ a H => AT 36 (.tmp 6) (.tmp 52) b1 36 (pv (p.set 4 x)) _ (H.ev rfl) (H.ev rfl) k1 (AR (Cg hp hx)) (by rw [AI Bz, AI (Cg hp hx)]) (BU _) fun w' hb ho kq => ?_)))))
  clear k1; have k1 := kq; replace Aa := Aa.trans (hb _ g1); clear hb ho kq; exact Dz H λ a H => zA (zB (zF (Cw H rfl rfl k1 C1 rfl (AR (Cg hp hx)) ⟨rfl, Aa⟩)))
 | 4, _ =>
  have Aa := Below.refl w.heap.size w
  refine Az 53 Tryz.func77 R R λ a H => zC (zD (B7 36 (.tmp 0) (pv p) (H.e R) fun w0 b0 Ak hb k0 => ?_))
  have g0 := Nat.le_trans Aa.size Ak; replace Aa := Aa.tr hb; clear hb Ak; refine kl H rfl λ a H => Bj 36 (pv Ec) Jn fun w1 b1 Ak hb k1 => ?_
  have g1 := Nat.le_trans Aa.size Ak; have TK : b0 < b1 := Nat.lt_of_lt_of_le k0.lt Ak; replace k0 := k0.ups hb; replace Aa := Aa.tr hb; clear hb Ak; refine kl H rfl λ a H => zA (zB (zC (zC (zD (kR 1 H rfl λ a H => zA (zB (wp_block (zC (zD (kX 1 H (A9 U3 (H.ev rfl) Am dF) rfl λ a H => zA (zB (zG H rfl (zC (zD (kX 1 H (A9 U3 (H.ev rfl) Am dF) rfl λ a H => zA (zB (zG H rfl (zC (zD (kX 1 H (A9 U3 (H.ev rfl) Am dF) rfl λ a H => zA (zB (zG H rfl (zC (zD (kX 1 H (A9 U3 (H.ev rfl) Am dF) rfl λ a H => zA (zB (zG H rfl (zC (zD (kX 1 H (A9 U3 (H.ev rfl) Am dT) rfl λ a H => zA (zB (zH H rfl (zD (kR 2 H rfl λ a H => AP 3 (.tmp 27) (.tmp 26) b0 5 36 (J x) _ (H.ev rfl) (H.ev rfl) k0 s3 (by rw [AI hp]; show 5 + 1 ≤ 36; omega) (by simp [Value.cells, Value.oneCell']) fun w' hb ho kq => ?_))))))))))))))))))))))))))))))))))
  clear k0; have k0 := kq; rw [FA hp (by omega)] at k0; replace k1 := Ae k1 (ho _ (by omega)); replace Aa := Aa.trans (hb _ g0); clear hb ho kq; refine Dz H λ a H => zA (AC (zB (zC (zD (kV (v := .agg (pv (p.set 5 x))) H (Af b0 36 _ _ (H.ev rfl) k0 C1 rfl (AR (Cg hp hx))) rfl λ a H => AT 36 (.tmp 6) (.tmp 52) b1 36 (pv (p.set 5 x)) _ (H.ev rfl) (H.ev rfl) k1 (AR (Cg hp hx)) (by rw [AI Bz, AI (Cg hp hx)]) (BU _) fun w' hb ho kq => ?_)))))
  clear k1; have k1 := kq; replace Aa := Aa.trans (hb _ g1); clear hb ho kq; exact Dz H λ a H => zA (zB (zF (Cw H rfl rfl k1 C1 rfl (AR (Cg hp hx)) ⟨rfl, Aa⟩)))
 | 5, _ =>
  have Aa := Below.refl w.heap.size w
  refine Az 53 Tryz.func77 R R λ a H => zC (zD (B7 36 (.tmp 0) (pv p) (H.e R) fun w0 b0 Ak hb k0 => ?_))
  have g0 := Nat.le_trans Aa.size Ak; replace Aa := Aa.tr hb; clear hb Ak; refine kl H rfl λ a H => Bj 36 (pv Ec) Jn fun w1 b1 Ak hb k1 => ?_
  have g1 := Nat.le_trans Aa.size Ak; have TK : b0 < b1 := Nat.lt_of_lt_of_le k0.lt Ak; replace k0 := k0.ups hb; replace Aa := Aa.tr hb; clear hb Ak; refine kl H rfl λ a H => zA (zB (zC (zC (zD (kR 1 H rfl λ a H => zA (zB (wp_block (zC (zD (kX 1 H (A9 U3 (H.ev rfl) Am dF) rfl λ a H => zA (zB (zG H rfl (zC (zD (kX 1 H (A9 U3 (H.ev rfl) Am dF) rfl λ a H => zA (zB (zG H rfl (zC (zD (kX 1 H (A9 U3 (H.ev rfl) Am dF) rfl λ a H => zA (zB (zG H rfl (zC (zD (kX 1 H (A9 U3 (H.ev rfl) Am dF) rfl λ a H => zA (zB (zG H rfl (zC (zD (kX 1 H (A9 U3 (H.ev rfl) Am dF) rfl λ a H => zA (zB (zG H rfl (zC (zD (kX 1 H (A9 U3 (H.ev rfl) Am dT) rfl λ a H => zA (zB (zH H rfl (zD (kR 2 H rfl λ a H => AP 3 (.tmp 31) (.tmp 30) b0 6 36 (J x) _ (H.ev rfl) (H.ev rfl) k0 s3 (by rw [AI hp]; show 6 + 1 ≤ 36; omega) (by simp [Value.cells, Value.oneCell']) fun w' hb ho kq => ?_)))))))))))))))))))))))))))))))))))))))
  clear k0; have k0 := kq; rw [FA hp (by omega)] at k0; replace k1 := Ae k1 (ho _ (by omega)); replace Aa := Aa.trans (hb _ g0); clear hb ho kq; refine Dz H λ a H => zA (AC (zB (zC (zD (kV (v := .agg (pv (p.set 6 x))) H (Af b0 36 _ _ (H.ev rfl) k0 C1 rfl (AR (Cg hp hx))) rfl λ a H => AT 36 (.tmp 6) (.tmp 52) b1 36 (pv (p.set 6 x)) _ (H.ev rfl) (H.ev rfl) k1 (AR (Cg hp hx)) (by rw [AI Bz, AI (Cg hp hx)]) (BU _) fun w' hb ho kq => ?_)))))
  clear k1; have k1 := kq; replace Aa := Aa.trans (hb _ g1); clear hb ho kq; exact Dz H λ a H => zA (zB (zF (Cw H rfl rfl k1 C1 rfl (AR (Cg hp hx)) ⟨rfl, Aa⟩)))
 | 6, _ =>
  have Aa := Below.refl w.heap.size w
  refine Az 53 Tryz.func77 R R λ a H => zC (zD (B7 36 (.tmp 0) (pv p) (H.e R) fun w0 b0 Ak hb k0 => ?_))
  have g0 := Nat.le_trans Aa.size Ak; replace Aa := Aa.tr hb; clear hb Ak; refine kl H rfl λ a H => Bj 36 (pv Ec) Jn fun w1 b1 Ak hb k1 => ?_
  have g1 := Nat.le_trans Aa.size Ak; have TK : b0 < b1 := Nat.lt_of_lt_of_le k0.lt Ak; replace k0 := k0.ups hb; replace Aa := Aa.tr hb; clear hb Ak; refine kl H rfl λ a H => zA (zB (zC (zC (zD (kR 1 H rfl λ a H => zA (zB (wp_block (zC (zD (kX 1 H (A9 U3 (H.ev rfl) Am dF) rfl λ a H => zA (zB (zG H rfl (zC (zD (kX 1 H (A9 U3 (H.ev rfl) Am dF) rfl λ a H => zA (zB (zG H rfl (zC (zD (kX 1 H (A9 U3 (H.ev rfl) Am dF) rfl λ a H => zA (zB (zG H rfl (zC (zD (kX 1 H (A9 U3 (H.ev rfl) Am dF) rfl λ a H => zA (zB (zG H rfl (zC (zD (kX 1 H (A9 U3 (H.ev rfl) Am dF) rfl λ a H => zA (zB (zG H rfl (zC (zD (kX 1 H (A9 U3 (H.ev rfl) Am dF) rfl λ a H => zA (zB (zG H rfl (zC (zD (kX 1 H (A9 U3 (H.ev rfl) Am dT) rfl λ a H => zA (zB (zH H rfl (zD (kR 2 H rfl λ a H => AP 3 (.tmp 35) (.tmp 34) b0 7 36 (J x) _ (H.ev rfl) (H.ev rfl) k0 s3 (by rw [AI hp]; show 7 + 1 ≤ 36; omega) (by simp [Value.cells, Value.oneCell']) fun w' hb ho kq => ?_))))))))))))))))))))))))))))))))))))))))))))
  clear k0; have k0 := kq; rw [FA hp (by omega)] at k0; replace k1 := Ae k1 (ho _ (by omega)); replace Aa := Aa.trans (hb _ g0); clear hb ho kq; refine Dz H λ a H => zA (AC (zB (zC (zD (kV (v := .agg (pv (p.set 7 x))) H (Af b0 36 _ _ (H.ev rfl) k0 C1 rfl (AR (Cg hp hx))) rfl λ a H => AT 36 (.tmp 6) (.tmp 52) b1 36 (pv (p.set 7 x)) _ (H.ev rfl) (H.ev rfl) k1 (AR (Cg hp hx)) (by rw [AI Bz, AI (Cg hp hx)]) (BU _) fun w' hb ho kq => ?_)))))
  clear k1; have k1 := kq; replace Aa := Aa.trans (hb _ g1); clear hb ho kq; exact Dz H λ a H => zA (zB (zF (Cw H rfl rfl k1 C1 rfl (AR (Cg hp hx)) ⟨rfl, Aa⟩)))
 | 7, _ =>
  have Aa := Below.refl w.heap.size w
  refine Az 53 Tryz.func77 R R λ a H => zC (zD (B7 36 (.tmp 0) (pv p) (H.e R) fun w0 b0 Ak hb k0 => ?_))
  have g0 := Nat.le_trans Aa.size Ak; replace Aa := Aa.tr hb; clear hb Ak; refine kl H rfl λ a H => Bj 36 (pv Ec) Jn fun w1 b1 Ak hb k1 => ?_
  have g1 := Nat.le_trans Aa.size Ak; have TK : b0 < b1 := Nat.lt_of_lt_of_le k0.lt Ak; replace k0 := k0.ups hb; replace Aa := Aa.tr hb; clear hb Ak; refine kl H rfl λ a H => zA (zB (zC (zC (zD (kR 1 H rfl λ a H => zA (zB (wp_block (zC (zD (kX 1 H (A9 U3 (H.ev rfl) Am dF) rfl λ a H => zA (zB (zG H rfl (zC (zD (kX 1 H (A9 U3 (H.ev rfl) Am dF) rfl λ a H => zA (zB (zG H rfl (zC (zD (kX 1 H (A9 U3 (H.ev rfl) Am dF) rfl λ a H => zA (zB (zG H rfl (zC (zD (kX 1 H (A9 U3 (H.ev rfl) Am dF) rfl λ a H => zA (zB (zG H rfl (zC (zD (kX 1 H (A9 U3 (H.ev rfl) Am dF) rfl λ a H => zA (zB (zG H rfl (zC (zD (kX 1 H (A9 U3 (H.ev rfl) Am dF) rfl λ a H => zA (zB (zG H rfl (zC (zD (kX 1 H (A9 U3 (H.ev rfl) Am dF) rfl λ a H => zA (zB (zG H rfl (zC (zD (kX 1 H (A9 U3 (H.ev rfl) Am dT) rfl λ a H => zA (zB (zH H rfl (zD (kR 2 H rfl λ a H => AP 3 (.tmp 39) (.tmp 38) b0 8 36 (J x) _ (H.ev rfl) (H.ev rfl) k0 s3 (by rw [AI hp]; show 8 + 1 ≤ 36; omega) (by simp [Value.cells, Value.oneCell']) fun w' hb ho kq => ?_)))))))))))))))))))))))))))))))))))))))))))))))))
  clear k0; have k0 := kq; rw [FA hp (by omega)] at k0; replace k1 := Ae k1 (ho _ (by omega)); replace Aa := Aa.trans (hb _ g0); clear hb ho kq; refine Dz H λ a H => zA (AC (zB (zC (zD (kV (v := .agg (pv (p.set 8 x))) H (Af b0 36 _ _ (H.ev rfl) k0 C1 rfl (AR (Cg hp hx))) rfl λ a H => AT 36 (.tmp 6) (.tmp 52) b1 36 (pv (p.set 8 x)) _ (H.ev rfl) (H.ev rfl) k1 (AR (Cg hp hx)) (by rw [AI Bz, AI (Cg hp hx)]) (BU _) fun w' hb ho kq => ?_)))))
  clear k1; have k1 := kq; replace Aa := Aa.trans (hb _ g1); clear hb ho kq; exact Dz H λ a H => zA (zB (zF (Cw H rfl rfl k1 C1 rfl (AR (Cg hp hx)) ⟨rfl, Aa⟩)))
 | 8, _ =>
  have Aa := Below.refl w.heap.size w
  refine Az 53 Tryz.func77 R R λ a H => zC (zD (B7 36 (.tmp 0) (pv p) (H.e R) fun w0 b0 Ak hb k0 => ?_))
  have g0 := Nat.le_trans Aa.size Ak; replace Aa := Aa.tr hb; clear hb Ak; refine kl H rfl λ a H => Bj 36 (pv Ec) Jn fun w1 b1 Ak hb k1 => ?_
  have g1 := Nat.le_trans Aa.size Ak; have TK : b0 < b1 := Nat.lt_of_lt_of_le k0.lt Ak; replace k0 := k0.ups hb; replace Aa := Aa.tr hb; clear hb Ak; refine kl H rfl λ a H => zA (zB (zC (zC (zD (kR 1 H rfl λ a H => zA (zB (wp_block (zC (zD (kX 1 H (A9 U3 (H.ev rfl) Am dF) rfl λ a H => zA (zB (zG H rfl (zC (zD (kX 1 H (A9 U3 (H.ev rfl) Am dF) rfl λ a H => zA (zB (zG H rfl (zC (zD (kX 1 H (A9 U3 (H.ev rfl) Am dF) rfl λ a H => zA (zB (zG H rfl (zC (zD (kX 1 H (A9 U3 (H.ev rfl) Am dF) rfl λ a H => zA (zB (zG H rfl (zC (zD (kX 1 H (A9 U3 (H.ev rfl) Am dF) rfl λ a H => zA (zB (zG H rfl (zC (zD (kX 1 H (A9 U3 (H.ev rfl) Am dF) rfl λ a H => zA (zB (zG H rfl (zC (zD (kX 1 H (A9 U3 (H.ev rfl) Am dF) rfl λ a H => zA (zB (zG H rfl (zC (zD (kX 1 H (A9 U3 (H.ev rfl) Am dF) rfl λ a H => zA (zB (zG H rfl (zC (zD (kX 1 H (A9 U3 (H.ev rfl) Am dT) rfl λ a H => zA (zB (zH H rfl (zD (kR 2 H rfl λ a H => AP 3 (.tmp 43) (.tmp 42) b0 9 36 (J x) _ (H.ev rfl) (H.ev rfl) k0 s3 (by rw [AI hp]; show 9 + 1 ≤ 36; omega) (by simp [Value.cells, Value.oneCell']) fun w' hb ho kq => ?_))))))))))))))))))))))))))))))))))))))))))))))))))))))
  clear k0; have k0 := kq; rw [FA hp (by omega)] at k0; replace k1 := Ae k1 (ho _ (by omega)); replace Aa := Aa.trans (hb _ g0); clear hb ho kq; refine Dz H λ a H => zA (AC (zB (zC (zD (kV (v := .agg (pv (p.set 9 x))) H (Af b0 36 _ _ (H.ev rfl) k0 C1 rfl (AR (Cg hp hx))) rfl λ a H => AT 36 (.tmp 6) (.tmp 52) b1 36 (pv (p.set 9 x)) _ (H.ev rfl) (H.ev rfl) k1 (AR (Cg hp hx)) (by rw [AI Bz, AI (Cg hp hx)]) (BU _) fun w' hb ho kq => ?_)))))
  clear k1; have k1 := kq; replace Aa := Aa.trans (hb _ g1); clear hb ho kq; exact Dz H λ a H => zA (zB (zF (Cw H rfl rfl k1 C1 rfl (AR (Cg hp hx)) ⟨rfl, Aa⟩)))
 | 9, _ =>
  have Aa := Below.refl w.heap.size w
  refine Az 53 Tryz.func77 R R λ a H => zC (zD (B7 36 (.tmp 0) (pv p) (H.e R) fun w0 b0 Ak hb k0 => ?_))
  have g0 := Nat.le_trans Aa.size Ak; replace Aa := Aa.tr hb; clear hb Ak; refine kl H rfl λ a H => Bj 36 (pv Ec) Jn fun w1 b1 Ak hb k1 => ?_
  have g1 := Nat.le_trans Aa.size Ak; have TK : b0 < b1 := Nat.lt_of_lt_of_le k0.lt Ak; replace k0 := k0.ups hb; replace Aa := Aa.tr hb; clear hb Ak; refine kl H rfl λ a H => zA (zB (zC (zC (zD (kR 1 H rfl λ a H => zA (zB (wp_block (zC (zD (kX 1 H (A9 U3 (H.ev rfl) Am dF) rfl λ a H => zA (zB (zG H rfl (zC (zD (kX 1 H (A9 U3 (H.ev rfl) Am dF) rfl λ a H => zA (zB (zG H rfl (zC (zD (kX 1 H (A9 U3 (H.ev rfl) Am dF) rfl λ a H => zA (zB (zG H rfl (zC (zD (kX 1 H (A9 U3 (H.ev rfl) Am dF) rfl λ a H => zA (zB (zG H rfl (zC (zD (kX 1 H (A9 U3 (H.ev rfl) Am dF) rfl λ a H => zA (zB (zG H rfl (zC (zD (kX 1 H (A9 U3 (H.ev rfl) Am dF) rfl λ a H => zA (zB (zG H rfl (zC (zD (kX 1 H (A9 U3 (H.ev rfl) Am dF) rfl λ a H => zA (zB (zG H rfl (zC (zD (kX 1 H (A9 U3 (H.ev rfl) Am dF) rfl λ a H => zA (zB (zG H rfl (zC (zD (kX 1 H (A9 U3 (H.ev rfl) Am dF) rfl λ a H => zA (zB (zG H rfl (zC (zD (kX 1 H (A9 U3 (H.ev rfl) Am dT) rfl λ a H => zA (zB (zH H rfl (zD (kR 2 H rfl λ a H => AP 3 (.tmp 47) (.tmp 46) b0 10 36 (J x) _ (H.ev rfl) (H.ev rfl) k0 s3 (by rw [AI hp]; show 10 + 1 ≤ 36; omega) (by simp [Value.cells, Value.oneCell']) fun w' hb ho kq => ?_)))))))))))))))))))))))))))))))))))))))))))))))))))))))))))
  clear k0; have k0 := kq; rw [FA hp (by omega)] at k0; replace k1 := Ae k1 (ho _ (by omega)); replace Aa := Aa.trans (hb _ g0); clear hb ho kq; refine Dz H λ a H => zA (AC (zB (zC (zD (kV (v := .agg (pv (p.set 10 x))) H (Af b0 36 _ _ (H.ev rfl) k0 C1 rfl (AR (Cg hp hx))) rfl λ a H => AT 36 (.tmp 6) (.tmp 52) b1 36 (pv (p.set 10 x)) _ (H.ev rfl) (H.ev rfl) k1 (AR (Cg hp hx)) (by rw [AI Bz, AI (Cg hp hx)]) (BU _) fun w' hb ho kq => ?_)))))
  clear k1; have k1 := kq; replace Aa := Aa.trans (hb _ g1); clear hb ho kq; exact Dz H λ a H => zA (zB (zF (Cw H rfl rfl k1 C1 rfl (AR (Cg hp hx)) ⟨rfl, Aa⟩)))
 | 10, _ =>
  have Aa := Below.refl w.heap.size w
  refine Az 53 Tryz.func77 R R λ a H => zC (zD (B7 36 (.tmp 0) (pv p) (H.e R) fun w0 b0 Ak hb k0 => ?_))
  have g0 := Nat.le_trans Aa.size Ak; replace Aa := Aa.tr hb; clear hb Ak; refine kl H rfl λ a H => Bj 36 (pv Ec) Jn fun w1 b1 Ak hb k1 => ?_
  have g1 := Nat.le_trans Aa.size Ak; have TK : b0 < b1 := Nat.lt_of_lt_of_le k0.lt Ak; replace k0 := k0.ups hb; replace Aa := Aa.tr hb; clear hb Ak; refine kl H rfl λ a H => zA (zB (zC (zC (zD (kR 1 H rfl λ a H => zA (zB (wp_block (zC (zD (kX 1 H (A9 U3 (H.ev rfl) Am dF) rfl λ a H => zA (zB (zG H rfl (zC (zD (kX 1 H (A9 U3 (H.ev rfl) Am dF) rfl λ a H => zA (zB (zG H rfl (zC (zD (kX 1 H (A9 U3 (H.ev rfl) Am dF) rfl λ a H => zA (zB (zG H rfl (zC (zD (kX 1 H (A9 U3 (H.ev rfl) Am dF) rfl λ a H => zA (zB (zG H rfl (zC (zD (kX 1 H (A9 U3 (H.ev rfl) Am dF) rfl λ a H => zA (zB (zG H rfl (zC (zD (kX 1 H (A9 U3 (H.ev rfl) Am dF) rfl λ a H => zA (zB (zG H rfl (zC (zD (kX 1 H (A9 U3 (H.ev rfl) Am dF) rfl λ a H => zA (zB (zG H rfl (zC (zD (kX 1 H (A9 U3 (H.ev rfl) Am dF) rfl λ a H => zA (zB (zG H rfl (zC (zD (kX 1 H (A9 U3 (H.ev rfl) Am dF) rfl λ a H => zA (zB (zG H rfl (zC (zD (kX 1 H (A9 U3 (H.ev rfl) Am dF) rfl λ a H => zA (zB (zG H rfl (zC (zD (kX 1 H (A9 U3 (H.ev rfl) Am dT) rfl λ a H => zA (zB (zH H rfl (zD (kR 2 H rfl λ a H => AP 3 (.tmp 51) (.tmp 50) b0 11 36 (J x) _ (H.ev rfl) (H.ev rfl) k0 s3 (by rw [AI hp]; show 11 + 1 ≤ 36; omega) (by simp [Value.cells, Value.oneCell']) fun w' hb ho kq => ?_))))))))))))))))))))))))))))))))))))))))))))))))))))))))))))))))
  clear k0; have k0 := kq; rw [FA hp (by omega)] at k0; replace k1 := Ae k1 (ho _ (by omega)); replace Aa := Aa.trans (hb _ g0); clear hb ho kq; refine Dz H λ a H => zA (AC (zB (zC (zD (kV (v := .agg (pv (p.set 11 x))) H (Af b0 36 _ _ (H.ev rfl) k0 C1 rfl (AR (Cg hp hx))) rfl λ a H => AT 36 (.tmp 6) (.tmp 52) b1 36 (pv (p.set 11 x)) _ (H.ev rfl) (H.ev rfl) k1 (AR (Cg hp hx)) (by rw [AI Bz, AI (Cg hp hx)]) (BU _) fun w' hb ho kq => ?_)))))
  clear k1; have k1 := kq; replace Aa := Aa.trans (hb _ g1); clear hb ho kq; exact Dz H λ a H => zA (zB (zF (Cw H rfl rfl k1 C1 rfl (AR (Cg hp hx)) ⟨rfl, Aa⟩)))
def Dq (b : Nat) (W w : World) : Prop := W.grownBy w (some b)
theorem Fx (b : Nat) (w : World) : Dq b w w.drew := ⟨rfl, rfl, rfl, Nat.le_refl _, fun _ _ _ => rfl⟩
theorem Rd.lt {w : World} {b : Nat} {T : TypeId} {l : List B8} {bad : Bool} (h : Rd w b T l bad) : b < w.heap.size := by
 obtain ⟨A, c, k, _⟩ := h
 exact k.lt
theorem DB {W w w' : World} {b : Nat} (h : Below W.heap.size W w) (hg : w.grownBy w' (some b)) (hb : W.heap.size ≤ b) : Below W.heap.size W w' :=
 ⟨hg.os.trans h.os, hg.tape.trans h.tape, hg.output.trans h.output, Nat.le_trans h.size hg.size, fun k hk => (hg.block k (Nat.lt_of_lt_of_le hk h.size) (by simp; omega)).trans (h.block k hk)⟩
theorem BJ.grown1 {w w' : World} {g o b : Nat} {xs : List Value} (h : BJ w (some ⟨g, o, none⟩) xs) (hg : w.grownBy w' (some b)) (Fh : b < g) : BJ w' (some ⟨g, o, none⟩) xs := fun j hj => by
 obtain ⟨q, o', he, hc⟩ := h j hj
 refine ⟨q, o', he, ?_⟩
 injection he with he
 injection he with e1 e2
 subst e1 e2
 have CM := World.block_lt_of_cell? w _ (hc.trans (List.getElem?_eq_getElem hj))
 rw [← hc]
 unfold World.cell?
 rw [hg.block g CM (by simp; omega)]
theorem BJ.same1 {w w' : World} {g o : Nat} {xs : List Value} (h : BJ w (some ⟨g, o, none⟩) xs) (hs : w'.heap[g]? = w.heap[g]?) : BJ w' (some ⟨g, o, none⟩) xs := fun j hj => by
 obtain ⟨q, o', he, hc⟩ := h j hj
 refine ⟨q, o', he, ?_⟩
 injection he with he
 injection he with e1 e2
 subst e1 e2
 rw [← hc]
 unfold World.cell?
 rw [hs]
theorem Wk {A : Option Addr} {n b : Nat} {L : List (Nat × Nat × Nat × Nat)} (h : (A = none ∧ L = []) ∨ ∃ g, A = some ⟨g, 0, none⟩ ∧ n ≤ g ∧ L ≠ []) (hb : b < n) : ∀ g o, A = some ⟨g, o, none⟩ → b < g := by
 rcases h with ⟨rfl, _⟩ | ⟨g, rfl, hg, _⟩
 ·
  intro g o e
  cases e
 ·
  intro g' o e
  injection e with e
  injection e with e1 e2
  omega
theorem BF {P : Program} {a : Act} {w : World} {n : Nat} {l : List (Nat × Value)} {fn : Func} {R : Ending → World → Prop} {p u : Tmp} {ty : TypeId} {g : Nat} {t : TypeId} {C : Array Value} {x : Value} {ds : TypeDesc} (H : Kn a n l) (hf : fn.results = #[.cell p ty, .tmp u]) (hp : lk l p = some (.pointer (some ⟨g, 0, none⟩))) (hx : lk l u = some x)
  (hg : Ad w g t C) (hu : P.underlying ty = some ds) (hd : (match ds with | .struct _ | .array _ _ => true | _ => false) = true) (hi : (P.info? ty).map (·.size) = some C.size) (h : R (.returned (.tuple #[.agg C, x])) w) : bodyPost P fn R .ret a w := by
 refine ⟨H.defers, _, L9 hf a.tmps w g t C ds (H.at_ p _ hp) hg hu hd hi, ?_⟩
 rw [H.at_ u x hx]
 exact h
/-- a packet of a kind alone -/
def XX (k : Nat) : AZ := ⟨[(k : Int), 0, 0, 0, 0, 0, 0, 0, 0, 0, 0, 0], List.replicate 16 0, List.replicate 8 0⟩
theorem MT {k : Nat} (h : k < 281474976710656) : (XX k).ok := ⟨rfl, rfl, rfl, fun x hx => by
 simp only [XX, List.mem_cons, List.not_mem_nil, or_false] at hx
 omega⟩
theorem ZR {d : Option Tmp} {tt : TypeId} {ps : String} {af : Array Edge} {gd : Option (Nat × Bool)} {a : Act} {w : World} {x : Operand} {k : Nat} (hx : a.eval x = J (k : Nat)) :
  (execOp a.eval ⟨d, .build 36 #[(0, x)], tt, ps, af, gd⟩).run Tryz.prog w = .ok (.value (.agg (pv (XX k)))) w :=
 Bl #[(0, J (k : Nat))] (.agg (pv (XX k))) (by simp [hx]) (fun w => by kernel_rfl)
/-- the reader's next state -/
def IJ (x : List B8 × Bool) (n : Nat) : List B8 × Bool := (RA x.1 x.2 n, Ta x.1 x.2 n)
def Zs (x : (List B8 × Bool) × AZ) (s : Nat × Nat × Nat × Nat) : (List B8 × Bool) × AZ := (IJ x.1 s.2.1, x.2.set (DW s.1) (E0 (GZ x.1.1 x.1.2 s.2.1) : Nat))
/-- what is read of a kind's first i slots -/
def LG (L : List (Nat × Nat × Nat × Nat)) (bs : List B8) (kd : Nat) (i : Nat) : (List B8 × Bool) × AZ := (L.take i).foldl Zs (IJ (bs, false) 1, XX kd)
theorem GP {L : List (Nat × Nat × Nat × Nat)} {bs : List B8} {kd i : Nat} {s : Nat × Nat × Nat × Nat} (h : L[i]? = some s) : LG L bs kd (i + 1) = Zs (LG L bs kd i) s := by
 obtain ⟨hi, rfl⟩ := List.getElem?_eq_some_iff.1 h
 simp only [LG, List.take_succ_eq_append_getElem hi, List.foldl_append, List.foldl_cons, List.foldl_nil]
theorem SK {L : List (Nat × Nat × Nat × Nat)} {bs : List B8} {kd : Nat} : ∀ i, (LG L bs kd i).1.1.length ≤ bs.length
 | 0 => RL _ _ _
 | i + 1 => by
  cases h : L[i]? with
  | none =>
   have hl : L.length ≤ i := List.getElem?_eq_none_iff.1 h
   have := SK (L := L) (bs := bs) (kd := kd) i
   simp only [LG, List.take_of_length_le hl, List.take_of_length_le (Nat.le_succ_of_le hl)] at this ⊢
   exact this
  | some s => rw [GP h]; exact Nat.le_trans (RL _ _ _) (SK i)
theorem TT {L : List (Nat × Nat × Nat × Nat)} {bs : List B8} {kd i : Nat} (hn : bs.length ≤ 1000000) : (LG L bs kd i).1.1.length ≤ 1000000 := Nat.le_trans (SK i) hn
theorem Sq (l : List B8) (bad : Bool) {n : Nat} (h : n ≤ 7) : -9223372036854775808 ≤ ((E0 (GZ l bad n) : Nat) : Int) ∧ ((E0 (GZ l bad n) : Nat) : Int) ≤ 9223372036854775807 := by
 have h1 := QM (GZ l bad n)
 have h2 : 256 ^ (GZ l bad n).length ≤ 256 ^ 7 := Nat.pow_le_pow_right (by omega) (Nat.le_trans (EU _ _ _) h)
 have h3 : (256 : Nat) ^ 7 = 72057594037927936 := by decide
 omega
theorem P1 {kd : Nat} {L : List (Nat × Nat × Nat × Nat)} {bs : List B8} (hL : AH ((kd : Nat) : Int) = L) (hk : kd < 281474976710656) : ∀ {i : Nat}, (LG L bs kd i).2.ok
 | 0 => MT hk
 | i + 1 => by
  have ih := P1 (i := i) (bs := bs) hL hk
  cases h : L[i]? with
  | none =>
   have hl : L.length ≤ i := List.getElem?_eq_none_iff.1 h
   simp only [LG, List.take_of_length_le hl, List.take_of_length_le (Nat.le_succ_of_le hl)] at ih ⊢
   exact ih
  | some s =>
   rw [GP h]
   exact Cg ih (Sq _ _ (Gz (kd := (kd : Nat)) (by rw [hL]; exact h)).2)
theorem Nq {kd : Int} {k : Nat} {s : Nat × Nat × Nat × Nat} (h : (AH kd)[k]? = some s) : 1 ≤ DW s.1 := by
 rcases OS h with e | e | e | e | e | e | e | e | e | e | e <;> rw [e] <;> decide
theorem Wm {p : AZ} {j : Nat} {x : Int} (hj : 1 ≤ j) : (p.set j x).fld 0 = p.fld 0 := by
 obtain ⟨i, rfl⟩ : ∃ i, j = i + 1 := ⟨j - 1, by omega⟩
 unfold AZ.fld AZ.set
 simp [List.getD_eq_getElem?_getD]
theorem Rn {kd : Nat} {L : List (Nat × Nat × Nat × Nat)} {bs : List B8} (hL : AH ((kd : Nat) : Int) = L) : ∀ i : Nat, (LG L bs kd i).2.fld 0 = (kd : Nat)
 | 0 => rfl
 | i + 1 => by
  have ih := Rn (bs := bs) hL i
  cases h : L[i]? with
  | none =>
   have hl : L.length ≤ i := List.getElem?_eq_none_iff.1 h
   simp only [LG, List.take_of_length_le hl, List.take_of_length_le (Nat.le_succ_of_le hl)] at ih ⊢
   exact ih
  | some s =>
   rw [GP h]
   exact (Wm (Nq (kd := (kd : Nat)) (by rw [hL]; exact h))).trans ih
theorem Zr {x : (List B8 × Bool) × AZ} {s : Nat × Nat × Nat × Nat} (hp : x.2.ok) (KA : DW s.1 < 12) : C3 (pv x.2) (DW s.1) (J (E0 (GZ x.1.1 x.1.2 s.2.1) : Nat)).cells.toList = pv (Zs x s).2 := FA hp KA
def JD (x : (List B8 × Bool) × AZ) : (List B8 × Bool) × AZ := (IJ x.1 16, ⟨x.2.n, GZ x.1.1 x.1.2 16 ++ x.2.sec.drop (GZ x.1.1 x.1.2 16).length, x.2.tg⟩)
def VQ (x : (List B8 × Bool) × AZ) : (List B8 × Bool) × AZ := (IJ x.1 8, ⟨x.2.n, x.2.sec, GZ x.1.1 x.1.2 8 ++ x.2.tg.drop (GZ x.1.1 x.1.2 8).length⟩)
theorem M5 {x : (List B8 × Bool) × AZ} (h : x.2.ok) : (JD x).2.ok := by
 have := EU x.1.1 x.1.2 16
 exact ⟨h.1, by simp only [JD, List.length_append, List.length_drop, h.2.1]; omega, h.2.2.1, h.2.2.2⟩
theorem OL {x : (List B8 × Bool) × AZ} (h : x.2.ok) : (VQ x).2.ok := by
 have := EU x.1.1 x.1.2 8
 exact ⟨h.1, h.2.1, by simp only [VQ, List.length_append, List.length_drop, h.2.2.1]; omega, h.2.2.2⟩
theorem Yq {p : AZ} {out : List B8} (hp : p.ok) (h : out.length ≤ 16) : We (pv p) 12 (out.map u8v) = pv ⟨p.n, out ++ p.sec.drop out.length, p.tg⟩ := by
 have h1 : (p.n.map (Value.int .i64)).length = 12 := by rw [List.length_map, hp.1]
 simp only [We, EI, List.length_map, List.append_assoc]
 rw [show (12 + out.length : Nat) = (p.n.map (Value.int .i64)).length + out.length by rw [h1], List.drop_append, List.drop_of_length_le (l := p.n.map (Value.int .i64)) (by omega)]
 rw [show (p.n.map (Value.int .i64)).length + out.length - (p.n.map (Value.int .i64)).length = out.length by omega]
 rw [List.take_append_of_le_length (by rw [h1]; omega), List.take_of_length_le (by rw [h1]; omega), List.drop_append_of_le_length (by rw [List.length_map, hp.2.1]; exact h)]
 simp only [pv, EI, List.nil_append, List.map_append, List.map_drop, List.append_assoc]
theorem RN {p : AZ} {out : List B8} (hp : p.ok) (h : out.length ≤ 8) : We (pv p) 28 (out.map u8v) = pv ⟨p.n, p.sec, out ++ p.tg.drop out.length⟩ := by
 have h1 : (p.n.map (Value.int .i64) ++ p.sec.map u8v).length = 28 := by rw [List.length_append, List.length_map, List.length_map, hp.1, hp.2.1]
 simp only [We, EI, List.length_map]
 rw [show (28 + out.length : Nat) = (p.n.map (Value.int .i64) ++ p.sec.map u8v).length + out.length by rw [h1], List.drop_append, List.drop_of_length_le (l := p.n.map (Value.int .i64) ++ p.sec.map u8v) (by omega)]
 rw [show (p.n.map (Value.int .i64) ++ p.sec.map u8v).length + out.length - (p.n.map (Value.int .i64) ++ p.sec.map u8v).length = out.length by omega]
 rw [List.take_append_of_le_length (by rw [h1]; omega), List.take_of_length_le (by rw [h1]; omega)]
 simp only [pv, EI, List.nil_append, List.map_append, List.map_drop, List.append_assoc]
theorem JX {w : World} {A : Option Addr} {n c : Nat} {bs : List B8} (h : B9 w (.slice A n c) bs) : BJ w A (bs.map u8v) := by
 obtain ⟨A', c', e, _, _, _, h⟩ := h
 injection e with e1 e2 e3
 subst e1
 exact h
/-- all that is read of bytes: what is left, and a packet -/
def F4 (bs : List B8) : (List B8 × Bool) × AZ :=
 (fun y => if 5 ≤ ((E0 (GZ bs false 1) : Nat) : Int) ∧ ((E0 (GZ bs false 1) : Nat) : Int) ≤ 11 then VQ y else y) ((fun x => if 2 ≤ ((E0 (GZ bs false 1) : Nat) : Int) ∧ ((E0 (GZ bs false 1) : Nat) : Int) ≤ 4 then JD x else x) (LG (AH (E0 (GZ bs false 1) : Nat)) bs (E0 (GZ bs false 1)) (AH (E0 (GZ bs false 1) : Nat)).length))
theorem Gv {bs : List B8} {kd : Nat} {L : List (Nat × Nat × Nat × Nat)} {x : (List B8 × Bool) × AZ} (h1 : E0 (GZ bs false 1) = kd) (h2 : AH ((kd : Nat) : Int) = L) (h3 : LG L bs kd L.length = x) : F4 bs = if 5 ≤ ((kd : Nat) : Int) ∧ ((kd : Nat) : Int) ≤ 11 then VQ (if 2 ≤ ((kd : Nat) : Int) ∧ ((kd : Nat) : Int) ≤ 4 then JD x else x) else (if 2 ≤ ((kd : Nat) : Int) ∧ ((kd : Nat) : Int) ≤ 4 then JD x else x) := by
 subst h1 h2 h3
 rfl
noncomputable def LH (bs : List B8) : Bool := (!(F4 bs).1.2 && decide ((F4 bs).1.1.length = 0)) && Bg (F4 bs).2
noncomputable def GQ (bs : List B8) : AZ := if LH bs = true then (F4 bs).2 else Ec
noncomputable def ID (bs : List B8) : Int := if LH bs = true then 0 else 2
theorem J4 {bs : List B8} (h1 : (!(F4 bs).1.2 && decide ((F4 bs).1.1.length = 0)) = true) (h2 : Bg (F4 bs).2 = true) : GQ bs = (F4 bs).2 := if_pos (by rw [LH, h1, h2]; rfl)
theorem HV {bs : List B8} (h1 : (!(F4 bs).1.2 && decide ((F4 bs).1.1.length = 0)) = true) (h2 : Bg (F4 bs).2 = true) : ID bs = 0 := if_pos (by rw [LH, h1, h2]; rfl)
theorem Eu {bs : List B8} (h : (!(F4 bs).1.2 && decide ((F4 bs).1.1.length = 0)) = false ∨ Bg (F4 bs).2 = false) : GQ bs = Ec ∧ ID bs = 2 := by
 have : ¬ LH bs = true := by
  rw [LH]
  rcases h with h | h <;> rw [h] <;> simp
 exact ⟨if_neg this, if_neg this⟩
def De1 (W : World) (bs : List B8) (kd : Nat) (L : List (Nat × Nat × Nat × Nat)) (A : Option Addr) (b0 br b1 : Nat) (a : Act) (w : World) : Prop :=
 ∃ i : Nat, Kn a 56 [(2, .pointer (some ⟨b0, 0, none⟩)), (3, J 0), (4, .pointer (some ⟨br, 0, none⟩)), (5, .pointer (some ⟨b1, 0, none⟩)), (15, .slice A L.length L.length), (16, J (L.length : Nat)), (17, J (i : Nat))] ∧ i ≤ L.length ∧ Ad w b0 36 (pv Ec) ∧ Ad w b1 36 (pv (LG L bs kd i).2) ∧ Rd w br 116 (LG L bs kd i).1.1 (LG L bs kd i).1.2 ∧ BJ w A (L.flatMap Lp) ∧ Below W.heap.size W w
theorem Zt (w : World) (v : Value) (bs : List B8) (hr : B9 w v bs) (hn : bs.length ≤ 1000000) : Calls Tryz.prog 37 #[v] w fun e w' => e = .returned (.tuple #[.agg (pv (GQ bs)), J (ID bs)]) ∧ Below w.heap.size w w' := by
 have Aa := Below.refl w.heap.size w
 refine Az 56 Tryz.func37 R R λ a H => zC (zD (Bj 36 (pv Ec) Jn fun w0 b0 Ak hb k0 => ?_))
 have g0 := Nat.le_trans Aa.size Ak; replace Aa := Aa.tr hb; clear hb Ak; refine kL 1 H rfl λ a H => zA (zB (zC (zD (kR 1 H rfl λ a H => A8 _ _ _ (WS _ v bs (B9.up hr Aa) hn) (Av sU (H.ev rfl)) ?_))))
 rintro e w9 ⟨⟨br, rfl, Ak, BR⟩, hb⟩; refine ⟨_, rfl, ?_⟩; have h0r : b0 < br := Nat.lt_of_lt_of_le k0.lt Ak; have gr := Nat.le_trans Aa.size Ak; replace k0 := k0.ups hb; replace Aa := Aa.tr hb; clear hb; clear Ak; refine kL 1 H rfl λ a H => zA (zB (zC (zD (kR 1 H rfl λ a H => A8 _ _ _ (T4 _ br 1 bs false _ rfl BR hn (by omega) (by omega)) (AA jW (H.ev rfl) Am) ?_))))
 rintro e w9 ⟨⟨rfl, Fo⟩, hg⟩; refine ⟨_, rfl, ?_⟩; clear BR; have BR := Fo; clear Fo; replace k0 := Ad.grown k0 hg (by simp; omega); replace Aa := DB Aa hg gr; clear hg; obtain ⟨kd, Xn⟩ : ∃ kd, E0 (GZ bs false 1) = kd := ⟨_, rfl⟩; have YZ : kd < 281474976710656 := (by rw [← Xn]; exact K1 (Nat.le_trans (EU _ _ _) (by omega))); rw [Xn]; have HKD := Lib.hid Xn; clear Xn; refine kl H rfl λ a H => kV (v := .agg (pv (XX kd))) H (ZR (H.ev rfl)) rfl λ a H => Bj 36 (pv Ec) Jn fun w1 b1 Ak hb k1 => ?_
 have g1 := Nat.le_trans Aa.size Ak; have TK : b0 < b1 := Nat.lt_of_lt_of_le k0.lt Ak; have VB : br < b1 := Nat.lt_of_lt_of_le BR.lt Ak; replace k0 := k0.ups hb; replace BR := Rd.up BR hb; replace Aa := Aa.tr hb; clear hb; clear Ak; refine kl H rfl λ a H => AT 36 (.tmp 5) (.tmp 12) b1 36 (pv (XX kd)) _ (H.ev rfl) (H.ev rfl) k1 (AR (MT YZ)) (by rw [AI Bz, AI (MT YZ)]) (BU _) fun w' hb ho kq => ?_
 clear k1; have k1 := kq; replace k0 := Ae k0 (ho _ (by omega)); replace BR := Rd.far BR (hb _ (Nat.le_refl _)) VB; replace Aa := Aa.trans (hb _ g1); clear hb ho kq; refine Dz H λ a H => zA (zB (zC (zC (zD (kR 1 H rfl λ a H => kV H (Ai U3 rfl (H.ev rfl) (AB k1 rfl)) rfl λ a H => A8 _ _ _ (KZ _ (kd : Nat)) (Av eQ (H.ev rfl)) ?_)))))
 rintro e w9 ⟨⟨A, rfl, hh, hA⟩, hb⟩; refine ⟨_, rfl, ?_⟩; have SH := Wk hA k1.lt; replace k0 := k0.ups hb; replace BR := Rd.up BR hb; replace k1 := k1.ups hb; replace Aa := Aa.tr hb; clear hb; obtain ⟨L, hL⟩ : ∃ L, AH ((kd : Nat) : Int) = L := ⟨_, rfl⟩; rw [hL] at hh hA; have Yb : L.length ≤ 6 := (by rw [← hL]; exact GC _); have HL := Lib.hid hL; rw [hL]; clear hL; refine kl H rfl λ a H => kX 1 H (Ba Hs (H.ev rfl)) rfl λ a H => zA (zB (wp_block (wp_loop (De1 w bs kd L A b0 br b1) (fun a _ => L.length - (intOf (a.eval (.tmp 17))).toNat) ⟨0, H.pick [2, 3, 4, 5, 15, 16, 17], by omega, k0, k1, BR, hh, Aa⟩ ?_)))
 clear H Aa k0 k1 hh BR
 rintro a w' ⟨i, H, hi, k0, k1, BR, hh, Aa⟩
 have H0 := H
 have EJ := P1 (bs := bs) (i := i) HL.out YZ
 have UU := TT (kd := kd) (i := i) (L := L) hn
 by_cases CM : i < L.length
 ·
  obtain ⟨s, hs⟩ : ∃ s, L[i]? = some s := ⟨_, List.getElem?_eq_getElem CM⟩
  obtain ⟨g, Vd⟩ := Py hA hs
  subst Vd
  have hgb := SH g 0 rfl
  have KA := Nr (show (AH ((kd : Nat) : Int))[i]? = some s by rw [HL.out]; exact hs)
  have If := Gz (show (AH ((kd : Nat) : Int))[i]? = some s by rw [HL.out]; exact hs)
  have HS := Lib.hid (show (AH ((kd : Nat) : Int))[i]? = some s by rw [HL.out]; exact hs)
  have HLS := Lib.hid hs
  clear hs
  refine zC (zD (kV H (By U3 (H.e R) (H.e R) dT) R λ a H => zA (zB (zC (zH H R (zE (zB (zC (wp_block (zC (zD (kV H (Bq (j := i) (q := 0 + i * 4) Hs Ie (H.e R) (H.e R) (by omega) R) R λ a H => kV H (AL (cs := [.func (.func s.1) #[] #[], J (s.2.1 : Nat), J (s.2.2.1 : Nat), J (s.2.2.2 : Nat)]) (H.e R) (IK hh HLS.out) (by kernel_rfl) Ie R) R λ a H => De 91 7 (.tmp 20) #[.func (.func s.1) #[] #[], J (s.2.1 : Nat), J (s.2.2.1 : Nat), J (s.2.2.2 : Nat)] _ Yd Ie R (by simp [Value.cells, Value.oneCell']) (fun p => (H.put 7 p R).ev R) (fun p => (H.put 7 p R).ev R) fun w2 b2 Ak hb k2 => ?_))))))))))))
  have g2 := Nat.le_trans Aa.size Ak; have h2r : br < b2 := Nat.lt_of_lt_of_le BR.lt Ak; replace k0 := k0.ups hb; replace k1 := k1.ups hb; replace hh := Da hh hb; replace BR := Rd.up BR hb; replace Aa := Aa.tr hb; clear hb; clear Ak; refine kl H rfl λ a H => zA (zB ?_)
  have Fp := Aa
  have hS : Dq br (E4 Fp) _ := Fx _ _
  refine rT (Dq br (E4 Fp)) 8 (Dn [0, 1, 3, 4, 5] (.one 2 (.one 6 (.fl 7 (.one 8 .done))))) hS ?_
  replace BR := Rd.up BR (Below.drew (Below.refl _ _))
  refine kQ 1 H R λ a H => kE 2 H R R (fun w' Aj => Ai oT R (H.e R) ((Ad.cell (Ad.grown k2 Aj (by simp; omega)) 0).trans R)) R λ a H => kF H R R (fun w' Aj => Ai U3 R (H.e R) ((Ad.cell (Ad.grown k2 Aj (by simp; omega)) 1).trans R)) R λ a H => Al (fun K hK => A7 R (kD (P7 _ b1 i HS.out) (Mf (P6 HS.out) (H.e R) (H.e R)) fun w9 hb => ?_))
  replace BR := Rd.up BR hb; replace hS := CA hS hb; clear hb; refine kS 0 hK hS H rfl λ a H => ?_; clear hK K
  refine Al (fun K hK => A7 R (CQ _ _ _ (T4 _ br s.2.1 (LG L bs kd i).1.1 (LG L bs kd i).1.2 _ R BR UU If.1 If.2) (AA jW (H.e R) (H.e R)) ?_))
  rintro e w9 ⟨⟨rfl, Fo⟩, hg⟩; refine ⟨_, rfl, ?_⟩; clear BR; have BR := Fo; clear Fo; replace hS := EP hS hg; clear hg; refine kS 1 hK hS H rfl λ a H => ?_; clear hK K
  refine Al (fun K hK => ?_)
  replace k0 := Ad.grown k0 hS (by simp; omega)
  replace k1 := Ad.grown k1 hS (by simp; omega)
  replace hh := BJ.grown1 hh hS (by omega)
  replace k2 := Ad.grown k2 hS (by simp; omega)
  replace Aa := DB Aa hS gr
  refine A7 R (AX 3 (.tmp 28) (.tmp 27) b1 (DW s.1) 36 (J (E0 (GZ (LG L bs kd i).1.1 (LG L bs kd i).1.2 s.2.1) : Nat)) _ (H.e R) (H.e R) k1 s3 (by rw [AI EJ]; show DW s.1 + 1 ≤ 36; omega) (by simp [Value.cells, Value.oneCell']) fun w' hb ho kq => ?_); clear k1; have k1 := kq; rw [Zr EJ KA] at k1; replace k0 := Ae k0 (ho _ (by omega)); replace hh := BJ.same1 hh (ho _ (by omega)); replace BR := Rd.far BR (hb _ (Nat.le_refl _)) VB; replace Aa := Aa.trans (hb _ g1); clear hb ho kq; refine hK _ _ ⟨(fun h => absurd R h), ?_⟩; clear hK K hS
  refine Aw (NoPanic.normal (AC (zB (zD (kX 1 H (Bm (q := ((i + 1 : Nat) : Int)) U3 (H.e R) Am) R λ a H => zA ?_)))))
  rw [← GP HLS.out] at k1
  refine zI ⟨⟨i + 1, H.pick [2, 3, 4, 5, 15, 16, 17], by omega, k0, k1, (by rw [GP HLS.out]; exact BR), hh, Aa⟩, ?_⟩
  rw [H.ev (j := 17) rfl, H0.ev (j := 17) rfl]
  simp only [intOf]
  omega
 ·
  obtain rfl : i = L.length := by omega
  clear hh
  have fB : (LG L bs kd L.length).2.fld 0 = (kd : Nat) := Rn HL.out _
  obtain ⟨x, hx⟩ : ∃ x, LG L bs kd L.length = x := ⟨_, rfl⟩
  rw [hx] at fB EJ UU k1 BR
  have HX := Lib.hid hx
  clear hx
  refine zC (zD (kV H (By U3 (H.e R) (H.e R) dF) R λ a H => zA (zB (zC (zG H R (wp_exit (AJ (AJ (BD (zB (zC (zC ?_))))))))))))
  by_cases Ig : (2 ≤ ((kd : Nat) : Int) ∧ ((kd : Nat) : Int) ≤ 4)
  ·
   refine zD (kR 1 H R λ a H => kV H (Ai U3 R (H.e R) ((AB k1 (AQ EJ (j := 0) (by omega))).trans (by rw [fB]))) R λ a H => kC 0 (M6 _ _ Ig) (Av Vi (H.e R)) H R fun w9 a hb H => ?_)
   replace k0 := k0.ups hb; replace k1 := k1.ups hb; replace BR := Rd.up BR hb; replace Aa := Aa.tr hb; clear hb
   refine zA (zB (zH H R ?_))
   have On := Aa
   have hS : Dq br (E4 On) _ := Fx _ _
   refine rT (Dq br (E4 On)) 4 (Dn [0, 1, 2] (.one 3 (.one 4 .done))) hS ?_
   replace BR := Rd.up BR (Below.drew (Below.refl _ _))
   refine kQ 1 H R λ a H => kE 1 (v := .slice (some ⟨b1, 12, none⟩) 16 16) H R R (fun w' Aj => CN (b := b1) (o := 12) RG s5 (H.e R) (by omega)) R λ a H => Al (fun K hK => A7 R (CQ _ _ _ (Kb _ br 16 x.1.1 x.1.2 _ R BR UU) (AA Z2 (H.e R) Am) ?_))
   rintro e w9 ⟨⟨v1, rfl, AY, Fo⟩, hg⟩; refine ⟨_, rfl, ?_⟩; clear BR; have BR := Fo; clear Fo; replace hS := EP hS hg; clear hg; obtain ⟨out, EX⟩ : ∃ out, GZ x.1.1 x.1.2 16 = out := ⟨_, rfl⟩; have QU : out.length ≤ 16 := (by rw [← EX]; exact EU _ _ _); rw [EX] at AY; have HO := Lib.hid EX; clear EX; obtain ⟨Ax, cx, hv⟩ := ER AY; subst hv; refine kS 0 hK hS H rfl λ a H => ?_; clear hK K
   refine Al (fun K hK => ?_)
   replace k0 := Ad.grown k0 hS (by simp; omega)
   replace k1 := Ad.grown k1 hS (by simp; omega)
   replace Aa := DB Aa hS gr
   refine A7 R (Ka _ b1 36 (pv x.2) _ k1 (Lb (.slice (some ⟨b1, 12, none⟩) 16 16) (.slice Ax out.length cx) (H.e R) (H.e R) (Lr (EW _ _ _ _ 5 1 CO s5 (by omega) b1 12 16 16 _ 36 k1 Ax out.length cx (out.map u8v) (by rw [List.length_map, Nat.mul_one]; exact (Nat.min_eq_left QU).symm) (JX AY) (CC _) (by rw [List.length_map, AI EJ]; omega)))) fun w7 kq HI GV => ?_); clear k1; rw [Yq EJ QU] at kq; have k1 := kq; replace k0 := Ae k0 (GV _ (by omega)); replace BR := Rd.far BR (HI _ (Nat.le_refl _)) VB; replace Aa := Aa.trans (HI _ g1); clear HI GV kq AY; refine hK _ _ ⟨(fun h => absurd R h), ?_⟩; clear hK K hS; refine kt H R λ a H => Aw (NoPanic.normal (zB (zC (zC ?_))))
   obtain ⟨y, hy⟩ : ∃ y, JD x = y := ⟨_, rfl⟩
   have US : y.2.ok := by rw [← hy]; exact M5 EJ
   have gJ : y.2.fld 0 = (kd : Nat) := by rw [← hy]; exact fB
   have YT : y.1.1.length ≤ 1000000 := by rw [← hy]; exact Nat.le_trans (RL _ _ _) UU
   rw [show (⟨x.2.n, out ++ x.2.sec.drop out.length, x.2.tg⟩ : AZ) = y.2 by rw [← hy, JD, HO.out]] at k1
   clear HO
   rw [show RA x.1.1 x.1.2 16 = y.1.1 by rw [← hy]; rfl, show Ta x.1.1 x.1.2 16 = y.1.2 by rw [← hy]; rfl] at BR
   have HY := Lib.hid hy
   clear hy
   by_cases FQ : (5 ≤ ((kd : Nat) : Int) ∧ ((kd : Nat) : Int) ≤ 11)
   ·
    refine zD (kR 1 H R λ a H => kV H (Ai U3 R (H.e R) ((AB k1 (AQ US (j := 0) (by omega))).trans (by rw [gJ]))) R λ a H => kC 0 (G9 _ _ FQ) (Av KG (H.e R)) H R fun w9 a hb H => ?_)
    replace k0 := k0.ups hb; replace k1 := k1.ups hb; replace BR := Rd.up BR hb; replace Aa := Aa.tr hb; clear hb
    refine zA (zB (zH H R ?_))
    have Dj := Aa
    have hS : Dq br (E4 Dj) _ := Fx _ _
    refine rT (Dq br (E4 Dj)) 4 (Dn [0, 1, 2] (.one 3 (.one 4 .done))) hS ?_
    replace BR := Rd.up BR (Below.drew (Below.refl _ _))
    refine kQ 1 H R λ a H => kE 1 (v := .slice (some ⟨b1, 28, none⟩) 8 8) H R R (fun w' Aj => CN (b := b1) (o := 28) XU s5 (H.e R) (by omega)) R λ a H => Al (fun K hK => A7 R (CQ _ _ _ (Kb _ br 8 y.1.1 y.1.2 _ R BR YT) (AA Z2 (H.e R) Am) ?_))
    rintro e w9 ⟨⟨v1, rfl, AY, Fo⟩, hg⟩; refine ⟨_, rfl, ?_⟩; clear BR; have BR := Fo; clear Fo; replace hS := EP hS hg; clear hg; obtain ⟨out, EX⟩ : ∃ out, GZ y.1.1 y.1.2 8 = out := ⟨_, rfl⟩; have QU : out.length ≤ 8 := (by rw [← EX]; exact EU _ _ _); rw [EX] at AY; have HO := Lib.hid EX; clear EX; obtain ⟨Ax, cx, hv⟩ := ER AY; subst hv; refine kS 0 hK hS H rfl λ a H => ?_; clear hK K
    refine Al (fun K hK => ?_)
    replace k0 := Ad.grown k0 hS (by simp; omega)
    replace k1 := Ad.grown k1 hS (by simp; omega)
    replace Aa := DB Aa hS gr
    refine A7 R (Ka _ b1 36 (pv y.2) _ k1 (Lb (.slice (some ⟨b1, 28, none⟩) 8 8) (.slice Ax out.length cx) (H.e R) (H.e R) (Lr (EW _ _ _ _ 5 1 CO s5 (by omega) b1 28 8 8 _ 36 k1 Ax out.length cx (out.map u8v) (by rw [List.length_map, Nat.mul_one]; exact (Nat.min_eq_left QU).symm) (JX AY) (CC _) (by rw [List.length_map, AI US]; omega)))) fun w7 kq HI GV => ?_); clear k1; rw [RN US QU] at kq; have k1 := kq; replace k0 := Ae k0 (GV _ (by omega)); replace BR := Rd.far BR (HI _ (Nat.le_refl _)) VB; replace Aa := Aa.trans (HI _ g1); clear HI GV kq AY; refine hK _ _ ⟨(fun h => absurd R h), ?_⟩; clear hK K hS; refine kt H R λ a H => Aw (NoPanic.normal (zB (zC (zC ?_))))
    obtain ⟨z, hz⟩ : ∃ z, VQ y = z := ⟨_, rfl⟩
    have GX : z.2.ok := by rw [← hz]; exact OL US
    rw [show (⟨y.2.n, y.2.sec, out ++ y.2.tg.drop out.length⟩ : AZ) = z.2 by rw [← hz, VQ, HO.out]] at k1
    clear HO
    rw [show RA y.1.1 y.1.2 8 = z.1.1 by rw [← hz]; rfl, show Ta y.1.1 y.1.2 8 = z.1.2 by rw [← hz]; rfl] at BR
    have Gr : F4 bs = z := by rw [Gv HKD.out HL.out HX.out, if_pos Ig, HY.out, if_pos FQ, hz]
    clear hz
    obtain ⟨dn, MZ⟩ : ∃ dn, (!z.1.2 && decide (z.1.1.length = 0)) = dn := ⟨_, rfl⟩
    have HDN := Lib.hid MZ
    clear MZ
    cases dn
    ·
     refine zD (kR 1 H R λ a H => A8 _ _ _ (E8 _ br z.1.1 z.1.2 BR) (Av LW (H.e R)) ?_)
     rintro e w9 ⟨rfl, hb⟩; refine ⟨_, rfl, ?_⟩; rw [HDN.out]; replace k0 := k0.ups hb; replace k1 := k1.ups hb; replace BR := Rd.up BR hb; replace Aa := Aa.tr hb; clear hb; refine kl H rfl λ a H => kX 5 H (Bs (H.ev rfl) rfl) rfl λ a H => zA (zB (zH H rfl (zC (zD (kV (v := .agg (pv Ec)) H (Bl #[] (.agg (pv Ec)) (by simp) (fun w => by kernel_rfl)) rfl λ a H => AT 36 (.tmp 2) (.tmp 54) b0 36 (pv Ec) _ (H.ev rfl) (H.ev rfl) k0 (AR Bz) rfl (BU _) fun w' hb ho kq => ?_)))))
     clear k0 k1 BR; have k0 := kq; replace Aa := Aa.trans (hb _ g0); clear hb ho kq; refine kO 1 H rfl λ a H => zA (zB (zF (zJ ?_)))
     rw [(Eu (.inl (by rw [Gr]; exact HDN.out))).1, (Eu (.inl (by rw [Gr]; exact HDN.out))).2]
     exact BF H R R R k0 C1 R (AR Bz) ⟨R, Aa⟩
    ·
     by_cases hR : Bg z.2 = true
     ·
      refine zD (kR 1 H R λ a H => A8 _ _ _ (E8 _ br z.1.1 z.1.2 BR) (Av LW (H.e R)) ?_)
      rintro e w9 ⟨rfl, hb⟩; refine ⟨_, rfl, ?_⟩; rw [HDN.out]; replace k0 := k0.ups hb; replace k1 := k1.ups hb; replace BR := Rd.up BR hb; replace Aa := Aa.tr hb; clear hb; refine kl H rfl λ a H => kX 1 H (Bs (H.ev rfl) rfl) rfl λ a H => kG H rfl (kV (v := .agg (pv z.2)) H (Af b1 36 _ _ (H.ev rfl) k1 C1 rfl (AR GX)) rfl λ a H => kG H rfl (kC 0 (IY _ z.2 GX hR) (Av N8 (H.ev rfl)) H rfl fun w9 a hb H => ?_))
      replace k0 := k0.ups hb; replace k1 := k1.ups hb; replace BR := Rd.up BR hb; replace Aa := Aa.tr hb; clear hb
      refine kY 1 H R (Bs (H.e R) R) R λ a H => zA (zB (zG H R (zE (zB (zC (zD (kV (v := .agg (pv z.2)) H (Af b1 36 _ _ (H.e R) k1 C1 R (AR GX)) R λ a H => AT 36 (.tmp 2) (.tmp 55) b0 36 (pv z.2) _ (H.e R) (H.e R) k0 (AR GX) (by rw [AI Bz, AI GX]) (BU _) fun w' hb ho kq => ?_)))))))
      clear k0 k1 BR; have k0 := kq; replace Aa := Aa.trans (hb _ g0); clear hb ho kq; refine kO 1 H rfl λ a H => zA (zB (zF ?_))
      rw [show GQ bs = z.2 by rw [J4 (by rw [Gr]; exact HDN.out) (by rw [Gr]; exact hR), Gr], show ID bs = 0 from HV (by rw [Gr]; exact HDN.out) (by rw [Gr]; exact hR)]
      exact BF H R R R k0 C1 R (AR GX) ⟨R, Aa⟩
     ·
      refine zD (kR 1 H R λ a H => A8 _ _ _ (E8 _ br z.1.1 z.1.2 BR) (Av LW (H.e R)) ?_)
      rintro e w9 ⟨rfl, hb⟩; refine ⟨_, rfl, ?_⟩; rw [HDN.out]; replace k0 := k0.ups hb; replace k1 := k1.ups hb; replace BR := Rd.up BR hb; replace Aa := Aa.tr hb; clear hb; refine kl H rfl λ a H => kX 1 H (Bs (H.ev rfl) rfl) rfl λ a H => kG H rfl (kV (v := .agg (pv z.2)) H (Af b1 36 _ _ (H.ev rfl) k1 C1 rfl (AR GX)) rfl λ a H => kG H rfl (kC 0 (IZ _ z.2 GX hR) (Av N8 (H.ev rfl)) H rfl fun w9 a hb H => ?_))
      replace k0 := k0.ups hb; replace k1 := k1.ups hb; replace BR := Rd.up BR hb; replace Aa := Aa.tr hb; clear hb
      refine kY 1 H R (Bs (H.e R) R) R λ a H => zA (zB (zH H R (zC (zD (kV (v := .agg (pv Ec)) H (Bl #[] (.agg (pv Ec)) (by simp) (fun w => by kernel_rfl)) R λ a H => AT 36 (.tmp 2) (.tmp 54) b0 36 (pv Ec) _ (H.e R) (H.e R) k0 (AR Bz) R (BU _) fun w' hb ho kq => ?_)))))
      clear k0 k1 BR; have k0 := kq; replace Aa := Aa.trans (hb _ g0); clear hb ho kq; refine kO 1 H rfl λ a H => zA (zB (zF (zJ ?_)))
      rw [(Eu (.inr (by rw [Gr]; simpa using hR))).1, (Eu (.inr (by rw [Gr]; simpa using hR))).2]
      exact BF H R R R k0 C1 R (AR Bz) ⟨R, Aa⟩
   ·
    refine zD (kR 1 H R λ a H => kV H (Ai U3 R (H.e R) ((AB k1 (AQ US (j := 0) (by omega))).trans (by rw [gJ]))) R λ a H => kC 0 (GA _ _ FQ) (Av KG (H.e R)) H R fun w9 a hb H => ?_)
    replace k0 := k0.ups hb; replace k1 := k1.ups hb; replace BR := Rd.up BR hb; replace Aa := Aa.tr hb; clear hb
    refine zA (zB (zG H R (zE (zB (zC (zC ?_))))))
    obtain ⟨z, hz⟩ : ∃ z, y = z := ⟨_, rfl⟩
    have GX : z.2.ok := by rw [← hz]; exact US
    rw [hz] at k1 BR
    have Gr : F4 bs = z := by rw [Gv HKD.out HL.out HX.out, if_pos Ig, HY.out, if_neg FQ, hz]
    clear hz
    obtain ⟨dn, MZ⟩ : ∃ dn, (!z.1.2 && decide (z.1.1.length = 0)) = dn := ⟨_, rfl⟩
    have HDN := Lib.hid MZ
    clear MZ
    cases dn
    ·
     refine zD (kR 1 H R λ a H => A8 _ _ _ (E8 _ br z.1.1 z.1.2 BR) (Av LW (H.e R)) ?_)
     rintro e w9 ⟨rfl, hb⟩; refine ⟨_, rfl, ?_⟩; rw [HDN.out]; replace k0 := k0.ups hb; replace k1 := k1.ups hb; replace BR := Rd.up BR hb; replace Aa := Aa.tr hb; clear hb; refine kl H rfl λ a H => kX 5 H (Bs (H.ev rfl) rfl) rfl λ a H => zA (zB (zH H rfl (zC (zD (kV (v := .agg (pv Ec)) H (Bl #[] (.agg (pv Ec)) (by simp) (fun w => by kernel_rfl)) rfl λ a H => AT 36 (.tmp 2) (.tmp 54) b0 36 (pv Ec) _ (H.ev rfl) (H.ev rfl) k0 (AR Bz) rfl (BU _) fun w' hb ho kq => ?_)))))
     clear k0 k1 BR; have k0 := kq; replace Aa := Aa.trans (hb _ g0); clear hb ho kq; refine kO 1 H rfl λ a H => zA (zB (zF (zJ ?_)))
     rw [(Eu (.inl (by rw [Gr]; exact HDN.out))).1, (Eu (.inl (by rw [Gr]; exact HDN.out))).2]
     exact BF H R R R k0 C1 R (AR Bz) ⟨R, Aa⟩
    ·
     by_cases hR : Bg z.2 = true
     ·
      refine zD (kR 1 H R λ a H => A8 _ _ _ (E8 _ br z.1.1 z.1.2 BR) (Av LW (H.e R)) ?_)
      rintro e w9 ⟨rfl, hb⟩; refine ⟨_, rfl, ?_⟩; rw [HDN.out]; replace k0 := k0.ups hb; replace k1 := k1.ups hb; replace BR := Rd.up BR hb; replace Aa := Aa.tr hb; clear hb; refine kl H rfl λ a H => kX 1 H (Bs (H.ev rfl) rfl) rfl λ a H => kG H rfl (kV (v := .agg (pv z.2)) H (Af b1 36 _ _ (H.ev rfl) k1 C1 rfl (AR GX)) rfl λ a H => kG H rfl (kC 0 (IY _ z.2 GX hR) (Av N8 (H.ev rfl)) H rfl fun w9 a hb H => ?_))
      replace k0 := k0.ups hb; replace k1 := k1.ups hb; replace BR := Rd.up BR hb; replace Aa := Aa.tr hb; clear hb
      refine kY 1 H R (Bs (H.e R) R) R λ a H => zA (zB (zG H R (zE (zB (zC (zD (kV (v := .agg (pv z.2)) H (Af b1 36 _ _ (H.e R) k1 C1 R (AR GX)) R λ a H => AT 36 (.tmp 2) (.tmp 55) b0 36 (pv z.2) _ (H.e R) (H.e R) k0 (AR GX) (by rw [AI Bz, AI GX]) (BU _) fun w' hb ho kq => ?_)))))))
      clear k0 k1 BR; have k0 := kq; replace Aa := Aa.trans (hb _ g0); clear hb ho kq; refine kO 1 H rfl λ a H => zA (zB (zF ?_))
      rw [show GQ bs = z.2 by rw [J4 (by rw [Gr]; exact HDN.out) (by rw [Gr]; exact hR), Gr], show ID bs = 0 from HV (by rw [Gr]; exact HDN.out) (by rw [Gr]; exact hR)]
      exact BF H R R R k0 C1 R (AR GX) ⟨R, Aa⟩
     ·
      refine zD (kR 1 H R λ a H => A8 _ _ _ (E8 _ br z.1.1 z.1.2 BR) (Av LW (H.e R)) ?_)
      rintro e w9 ⟨rfl, hb⟩; refine ⟨_, rfl, ?_⟩; rw [HDN.out]; replace k0 := k0.ups hb; replace k1 := k1.ups hb; replace BR := Rd.up BR hb; replace Aa := Aa.tr hb; clear hb; refine kl H rfl λ a H => kX 1 H (Bs (H.ev rfl) rfl) rfl λ a H => kG H rfl (kV (v := .agg (pv z.2)) H (Af b1 36 _ _ (H.ev rfl) k1 C1 rfl (AR GX)) rfl λ a H => kG H rfl (kC 0 (IZ _ z.2 GX hR) (Av N8 (H.ev rfl)) H rfl fun w9 a hb H => ?_))
      replace k0 := k0.ups hb; replace k1 := k1.ups hb; replace BR := Rd.up BR hb; replace Aa := Aa.tr hb; clear hb
      refine kY 1 H R (Bs (H.e R) R) R λ a H => zA (zB (zH H R (zC (zD (kV (v := .agg (pv Ec)) H (Bl #[] (.agg (pv Ec)) (by simp) (fun w => by kernel_rfl)) R λ a H => AT 36 (.tmp 2) (.tmp 54) b0 36 (pv Ec) _ (H.e R) (H.e R) k0 (AR Bz) R (BU _) fun w' hb ho kq => ?_)))))
      clear k0 k1 BR; have k0 := kq; replace Aa := Aa.trans (hb _ g0); clear hb ho kq; refine kO 1 H rfl λ a H => zA (zB (zF (zJ ?_)))
      rw [(Eu (.inr (by rw [Gr]; simpa using hR))).1, (Eu (.inr (by rw [Gr]; simpa using hR))).2]
      exact BF H R R R k0 C1 R (AR Bz) ⟨R, Aa⟩
  ·
   refine zD (kR 1 H R λ a H => kV H (Ai U3 R (H.e R) ((AB k1 (AQ EJ (j := 0) (by omega))).trans (by rw [fB]))) R λ a H => kC 0 (M7 _ _ Ig) (Av Vi (H.e R)) H R fun w9 a hb H => ?_)
   replace k0 := k0.ups hb; replace k1 := k1.ups hb; replace BR := Rd.up BR hb; replace Aa := Aa.tr hb; clear hb
   refine zA (zB (zG H R (zE (zB (zC (zC ?_))))))
   obtain ⟨y, hy⟩ : ∃ y, x = y := ⟨_, rfl⟩
   have US : y.2.ok := by rw [← hy]; exact EJ
   have gJ : y.2.fld 0 = (kd : Nat) := by rw [← hy]; exact fB
   have YT : y.1.1.length ≤ 1000000 := by rw [← hy]; exact UU
   rw [hy] at k1 BR
   have HY := Lib.hid hy
   clear hy
   by_cases FQ : (5 ≤ ((kd : Nat) : Int) ∧ ((kd : Nat) : Int) ≤ 11)
   ·
    refine zD (kR 1 H R λ a H => kV H (Ai U3 R (H.e R) ((AB k1 (AQ US (j := 0) (by omega))).trans (by rw [gJ]))) R λ a H => kC 0 (G9 _ _ FQ) (Av KG (H.e R)) H R fun w9 a hb H => ?_)
    replace k0 := k0.ups hb; replace k1 := k1.ups hb; replace BR := Rd.up BR hb; replace Aa := Aa.tr hb; clear hb
    refine zA (zB (zH H R ?_))
    have Dj := Aa
    have hS : Dq br (E4 Dj) _ := Fx _ _
    refine rT (Dq br (E4 Dj)) 4 (Dn [0, 1, 2] (.one 3 (.one 4 .done))) hS ?_
    replace BR := Rd.up BR (Below.drew (Below.refl _ _))
    refine kQ 1 H R λ a H => kE 1 (v := .slice (some ⟨b1, 28, none⟩) 8 8) H R R (fun w' Aj => CN (b := b1) (o := 28) XU s5 (H.e R) (by omega)) R λ a H => Al (fun K hK => A7 R (CQ _ _ _ (Kb _ br 8 y.1.1 y.1.2 _ R BR YT) (AA Z2 (H.e R) Am) ?_))
    rintro e w9 ⟨⟨v1, rfl, AY, Fo⟩, hg⟩; refine ⟨_, rfl, ?_⟩; clear BR; have BR := Fo; clear Fo; replace hS := EP hS hg; clear hg; obtain ⟨out, EX⟩ : ∃ out, GZ y.1.1 y.1.2 8 = out := ⟨_, rfl⟩; have QU : out.length ≤ 8 := (by rw [← EX]; exact EU _ _ _); rw [EX] at AY; have HO := Lib.hid EX; clear EX; obtain ⟨Ax, cx, hv⟩ := ER AY; subst hv; refine kS 0 hK hS H rfl λ a H => ?_; clear hK K
    refine Al (fun K hK => ?_)
    replace k0 := Ad.grown k0 hS (by simp; omega)
    replace k1 := Ad.grown k1 hS (by simp; omega)
    replace Aa := DB Aa hS gr
    refine A7 R (Ka _ b1 36 (pv y.2) _ k1 (Lb (.slice (some ⟨b1, 28, none⟩) 8 8) (.slice Ax out.length cx) (H.e R) (H.e R) (Lr (EW _ _ _ _ 5 1 CO s5 (by omega) b1 28 8 8 _ 36 k1 Ax out.length cx (out.map u8v) (by rw [List.length_map, Nat.mul_one]; exact (Nat.min_eq_left QU).symm) (JX AY) (CC _) (by rw [List.length_map, AI US]; omega)))) fun w7 kq HI GV => ?_); clear k1; rw [RN US QU] at kq; have k1 := kq; replace k0 := Ae k0 (GV _ (by omega)); replace BR := Rd.far BR (HI _ (Nat.le_refl _)) VB; replace Aa := Aa.trans (HI _ g1); clear HI GV kq AY; refine hK _ _ ⟨(fun h => absurd R h), ?_⟩; clear hK K hS; refine kt H R λ a H => Aw (NoPanic.normal (zB (zC (zC ?_))))
    obtain ⟨z, hz⟩ : ∃ z, VQ y = z := ⟨_, rfl⟩
    have GX : z.2.ok := by rw [← hz]; exact OL US
    rw [show (⟨y.2.n, y.2.sec, out ++ y.2.tg.drop out.length⟩ : AZ) = z.2 by rw [← hz, VQ, HO.out]] at k1
    clear HO
    rw [show RA y.1.1 y.1.2 8 = z.1.1 by rw [← hz]; rfl, show Ta y.1.1 y.1.2 8 = z.1.2 by rw [← hz]; rfl] at BR
    have Gr : F4 bs = z := by rw [Gv HKD.out HL.out HX.out, if_neg Ig, HY.out, if_pos FQ, hz]
    clear hz
    obtain ⟨dn, MZ⟩ : ∃ dn, (!z.1.2 && decide (z.1.1.length = 0)) = dn := ⟨_, rfl⟩
    have HDN := Lib.hid MZ
    clear MZ
    cases dn
    ·
     refine zD (kR 1 H R λ a H => A8 _ _ _ (E8 _ br z.1.1 z.1.2 BR) (Av LW (H.e R)) ?_)
     rintro e w9 ⟨rfl, hb⟩; refine ⟨_, rfl, ?_⟩; rw [HDN.out]; replace k0 := k0.ups hb; replace k1 := k1.ups hb; replace BR := Rd.up BR hb; replace Aa := Aa.tr hb; clear hb; refine kl H rfl λ a H => kX 5 H (Bs (H.ev rfl) rfl) rfl λ a H => zA (zB (zH H rfl (zC (zD (kV (v := .agg (pv Ec)) H (Bl #[] (.agg (pv Ec)) (by simp) (fun w => by kernel_rfl)) rfl λ a H => AT 36 (.tmp 2) (.tmp 54) b0 36 (pv Ec) _ (H.ev rfl) (H.ev rfl) k0 (AR Bz) rfl (BU _) fun w' hb ho kq => ?_)))))
     clear k0 k1 BR; have k0 := kq; replace Aa := Aa.trans (hb _ g0); clear hb ho kq; refine kO 1 H rfl λ a H => zA (zB (zF (zJ ?_)))
     rw [(Eu (.inl (by rw [Gr]; exact HDN.out))).1, (Eu (.inl (by rw [Gr]; exact HDN.out))).2]
     exact BF H R R R k0 C1 R (AR Bz) ⟨R, Aa⟩
    ·
     by_cases hR : Bg z.2 = true
     ·
      refine zD (kR 1 H R λ a H => A8 _ _ _ (E8 _ br z.1.1 z.1.2 BR) (Av LW (H.e R)) ?_)
      rintro e w9 ⟨rfl, hb⟩; refine ⟨_, rfl, ?_⟩; rw [HDN.out]; replace k0 := k0.ups hb; replace k1 := k1.ups hb; replace BR := Rd.up BR hb; replace Aa := Aa.tr hb; clear hb; refine kl H rfl λ a H => kX 1 H (Bs (H.ev rfl) rfl) rfl λ a H => kG H rfl (kV (v := .agg (pv z.2)) H (Af b1 36 _ _ (H.ev rfl) k1 C1 rfl (AR GX)) rfl λ a H => kG H rfl (kC 0 (IY _ z.2 GX hR) (Av N8 (H.ev rfl)) H rfl fun w9 a hb H => ?_))
      replace k0 := k0.ups hb; replace k1 := k1.ups hb; replace BR := Rd.up BR hb; replace Aa := Aa.tr hb; clear hb
      refine kY 1 H R (Bs (H.e R) R) R λ a H => zA (zB (zG H R (zE (zB (zC (zD (kV (v := .agg (pv z.2)) H (Af b1 36 _ _ (H.e R) k1 C1 R (AR GX)) R λ a H => AT 36 (.tmp 2) (.tmp 55) b0 36 (pv z.2) _ (H.e R) (H.e R) k0 (AR GX) (by rw [AI Bz, AI GX]) (BU _) fun w' hb ho kq => ?_)))))))
      clear k0 k1 BR; have k0 := kq; replace Aa := Aa.trans (hb _ g0); clear hb ho kq; refine kO 1 H rfl λ a H => zA (zB (zF ?_))
      rw [show GQ bs = z.2 by rw [J4 (by rw [Gr]; exact HDN.out) (by rw [Gr]; exact hR), Gr], show ID bs = 0 from HV (by rw [Gr]; exact HDN.out) (by rw [Gr]; exact hR)]
      exact BF H R R R k0 C1 R (AR GX) ⟨R, Aa⟩
     ·
      refine zD (kR 1 H R λ a H => A8 _ _ _ (E8 _ br z.1.1 z.1.2 BR) (Av LW (H.e R)) ?_)
      rintro e w9 ⟨rfl, hb⟩; refine ⟨_, rfl, ?_⟩; rw [HDN.out]; replace k0 := k0.ups hb; replace k1 := k1.ups hb; replace BR := Rd.up BR hb; replace Aa := Aa.tr hb; clear hb; refine kl H rfl λ a H => kX 1 H (Bs (H.ev rfl) rfl) rfl λ a H => kG H rfl (kV (v := .agg (pv z.2)) H (Af b1 36 _ _ (H.ev rfl) k1 C1 rfl (AR GX)) rfl λ a H => kG H rfl (kC 0 (IZ _ z.2 GX hR) (Av N8 (H.ev rfl)) H rfl fun w9 a hb H => ?_))
      replace k0 := k0.ups hb; replace k1 := k1.ups hb; replace BR := Rd.up BR hb; replace Aa := Aa.tr hb; clear hb
      refine kY 1 H R (Bs (H.e R) R) R λ a H => zA (zB (zH H R (zC (zD (kV (v := .agg (pv Ec)) H (Bl #[] (.agg (pv Ec)) (by simp) (fun w => by kernel_rfl)) R λ a H => AT 36 (.tmp 2) (.tmp 54) b0 36 (pv Ec) _ (H.e R) (H.e R) k0 (AR Bz) R (BU _) fun w' hb ho kq => ?_)))))
      clear k0 k1 BR; have k0 := kq; replace Aa := Aa.trans (hb _ g0); clear hb ho kq; refine kO 1 H rfl λ a H => zA (zB (zF (zJ ?_)))
      rw [(Eu (.inr (by rw [Gr]; simpa using hR))).1, (Eu (.inr (by rw [Gr]; simpa using hR))).2]
      exact BF H R R R k0 C1 R (AR Bz) ⟨R, Aa⟩
   ·
    refine zD (kR 1 H R λ a H => kV H (Ai U3 R (H.e R) ((AB k1 (AQ US (j := 0) (by omega))).trans (by rw [gJ]))) R λ a H => kC 0 (GA _ _ FQ) (Av KG (H.e R)) H R fun w9 a hb H => ?_)
    replace k0 := k0.ups hb; replace k1 := k1.ups hb; replace BR := Rd.up BR hb; replace Aa := Aa.tr hb; clear hb
    refine zA (zB (zG H R (zE (zB (zC (zC ?_))))))
    obtain ⟨z, hz⟩ : ∃ z, y = z := ⟨_, rfl⟩
    have GX : z.2.ok := by rw [← hz]; exact US
    rw [hz] at k1 BR
    have Gr : F4 bs = z := by rw [Gv HKD.out HL.out HX.out, if_neg Ig, HY.out, if_neg FQ, hz]
    clear hz
    obtain ⟨dn, MZ⟩ : ∃ dn, (!z.1.2 && decide (z.1.1.length = 0)) = dn := ⟨_, rfl⟩
    have HDN := Lib.hid MZ
    clear MZ
    cases dn
    ·
     refine zD (kR 1 H R λ a H => A8 _ _ _ (E8 _ br z.1.1 z.1.2 BR) (Av LW (H.e R)) ?_)
     rintro e w9 ⟨rfl, hb⟩; refine ⟨_, rfl, ?_⟩; rw [HDN.out]; replace k0 := k0.ups hb; replace k1 := k1.ups hb; replace BR := Rd.up BR hb; replace Aa := Aa.tr hb; clear hb; refine kl H rfl λ a H => kX 5 H (Bs (H.ev rfl) rfl) rfl λ a H => zA (zB (zH H rfl (zC (zD (kV (v := .agg (pv Ec)) H (Bl #[] (.agg (pv Ec)) (by simp) (fun w => by kernel_rfl)) rfl λ a H => AT 36 (.tmp 2) (.tmp 54) b0 36 (pv Ec) _ (H.ev rfl) (H.ev rfl) k0 (AR Bz) rfl (BU _) fun w' hb ho kq => ?_)))))
     clear k0 k1 BR; have k0 := kq; replace Aa := Aa.trans (hb _ g0); clear hb ho kq; refine kO 1 H rfl λ a H => zA (zB (zF (zJ ?_)))
     rw [(Eu (.inl (by rw [Gr]; exact HDN.out))).1, (Eu (.inl (by rw [Gr]; exact HDN.out))).2]
     exact BF H R R R k0 C1 R (AR Bz) ⟨R, Aa⟩
    ·
     by_cases hR : Bg z.2 = true
     ·
      refine zD (kR 1 H R λ a H => A8 _ _ _ (E8 _ br z.1.1 z.1.2 BR) (Av LW (H.e R)) ?_)
      rintro e w9 ⟨rfl, hb⟩; refine ⟨_, rfl, ?_⟩; rw [HDN.out]; replace k0 := k0.ups hb; replace k1 := k1.ups hb; replace BR := Rd.up BR hb; replace Aa := Aa.tr hb; clear hb; refine kl H rfl λ a H => kX 1 H (Bs (H.ev rfl) rfl) rfl λ a H => kG H rfl (kV (v := .agg (pv z.2)) H (Af b1 36 _ _ (H.ev rfl) k1 C1 rfl (AR GX)) rfl λ a H => kG H rfl (kC 0 (IY _ z.2 GX hR) (Av N8 (H.ev rfl)) H rfl fun w9 a hb H => ?_))
      replace k0 := k0.ups hb; replace k1 := k1.ups hb; replace BR := Rd.up BR hb; replace Aa := Aa.tr hb; clear hb
      refine kY 1 H R (Bs (H.e R) R) R λ a H => zA (zB (zG H R (zE (zB (zC (zD (kV (v := .agg (pv z.2)) H (Af b1 36 _ _ (H.e R) k1 C1 R (AR GX)) R λ a H => AT 36 (.tmp 2) (.tmp 55) b0 36 (pv z.2) _ (H.e R) (H.e R) k0 (AR GX) (by rw [AI Bz, AI GX]) (BU _) fun w' hb ho kq => ?_)))))))
      clear k0 k1 BR; have k0 := kq; replace Aa := Aa.trans (hb _ g0); clear hb ho kq; refine kO 1 H rfl λ a H => zA (zB (zF ?_))
      rw [show GQ bs = z.2 by rw [J4 (by rw [Gr]; exact HDN.out) (by rw [Gr]; exact hR), Gr], show ID bs = 0 from HV (by rw [Gr]; exact HDN.out) (by rw [Gr]; exact hR)]
      exact BF H R R R k0 C1 R (AR GX) ⟨R, Aa⟩
     ·
      refine zD (kR 1 H R λ a H => A8 _ _ _ (E8 _ br z.1.1 z.1.2 BR) (Av LW (H.e R)) ?_)
      rintro e w9 ⟨rfl, hb⟩; refine ⟨_, rfl, ?_⟩; rw [HDN.out]; replace k0 := k0.ups hb; replace k1 := k1.ups hb; replace BR := Rd.up BR hb; replace Aa := Aa.tr hb; clear hb; refine kl H rfl λ a H => kX 1 H (Bs (H.ev rfl) rfl) rfl λ a H => kG H rfl (kV (v := .agg (pv z.2)) H (Af b1 36 _ _ (H.ev rfl) k1 C1 rfl (AR GX)) rfl λ a H => kG H rfl (kC 0 (IZ _ z.2 GX hR) (Av N8 (H.ev rfl)) H rfl fun w9 a hb H => ?_))
      replace k0 := k0.ups hb; replace k1 := k1.ups hb; replace BR := Rd.up BR hb; replace Aa := Aa.tr hb; clear hb
      refine kY 1 H R (Bs (H.e R) R) R λ a H => zA (zB (zH H R (zC (zD (kV (v := .agg (pv Ec)) H (Bl #[] (.agg (pv Ec)) (by simp) (fun w => by kernel_rfl)) R λ a H => AT 36 (.tmp 2) (.tmp 54) b0 36 (pv Ec) _ (H.e R) (H.e R) k0 (AR Bz) R (BU _) fun w' hb ho kq => ?_)))))
      clear k0 k1 BR; have k0 := kq; replace Aa := Aa.trans (hb _ g0); clear hb ho kq; refine kO 1 H rfl λ a H => zA (zB (zF (zJ ?_)))
      rw [(Eu (.inr (by rw [Gr]; simpa using hR))).1, (Eu (.inr (by rw [Gr]; simpa using hR))).2]
      exact BF H R R R k0 C1 R (AR Bz) ⟨R, Aa⟩
end Go.Proofs.YtbnmpoonkjlkjaaGreat
