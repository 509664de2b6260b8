/- Client: part D of the proof. -/
import Derived.Test.YtbnmpoonkjlkjaaGreatXC
import Derived.DeepKeys
namespace Go.Proofs.YtbnmpoonkjlkjaaGreat
open Go.RowKit
set_option linter.unusedVariables false
set_option linter.unusedSimpArgs false
set_option maxRecDepth 100000
set_option maxHeartbeats 8000000
section
section
variable {P : Program} {d : Option Tmp} {tt : TypeId} {ps : String} {af : Array Edge} {gd : Option (Nat × Bool)} {a : Act} {w : World} {x y : Operand} {t t2 : TypeId}
theorem Tr {e : TypeId} {A : Option Addr} {n c : Nat} (ht : P.underlying t = some (.slice e)) (hx : a.eval x = .slice A n c) {b : Bool} (hb : A.isNone = b) :
  (execOp a.eval ⟨d, .binOp .eql t x (.const (.slice none 0 0)) t2, tt, ps, af, gd⟩).run P w = .ok (.value (.bool b)) w := by
 subst hb
 have h := Lib.run_eql_slice_nil (P := P) w t e A n c 0 0 ht
 unfold execOp
 simp only [hx]
 go_simp
theorem MJ {m n q : Int} {ts : Array TypeId} (hx : a.eval x = J m) (hy : a.eval y = J n) (hq : (if n > m then n else m) = q) : (execOp a.eval ⟨d, .call { callee := .builtin .max, args := #[x, y], argTypes := ts }, tt, ps, af, gd⟩).run P w = .ok (.value (J q)) w := by
 subst hq
 unfold execOp
 simp [resolve, invoke, hx, hy, builtin, run_max_int2]
theorem IS {m n q : Int} {ts : Array TypeId} (hx : a.eval x = J m) (hy : a.eval y = J n) (hq : (if n < m then n else m) = q) : (execOp a.eval ⟨d, .call { callee := .builtin .min, args := #[x, y], argTypes := ts }, tt, ps, af, gd⟩).run P w = .ok (.value (J q)) w := by
 subst hq
 unfold execOp
 simp [resolve, invoke, hx, hy, builtin, run_min_int2]
theorem To {n : Int} {k : Nat} (ht : P.underlying t = some (.int .i64)) (hx : a.eval x = J n) (hy : a.eval y = J (k : Nat)) (hk : k ≤ 63) : (execOp a.eval ⟨d, .binOp .shr t x y t2, tt, ps, af, gd⟩).run P w = .ok (.value (J (n >>> k))) w := by
 unfold execOp
 simp only [hx, hy]
 go_simp
 rw [Int.shiftRight_eq_div_pow]
 simp
end
/-- byte k of a number -/
def Gm (n : Int) (k : Nat) : B8 := BitVec.ofInt 8 (n >>> (8 * k))
/-- the first j bytes of a number of s bytes -/
def Fk (n : Int) (s j : Nat) : List B8 := (List.range j).map fun t => Gm n (s - 1 - t)
theorem NV (n : Int) (s : Nat) (bs : List B8) : bs ++ Fk n s 0 = bs := by simp [Fk]
theorem Kv (n : Int) (s j : Nat) : (Fk n s j).length = j := by simp [Fk]
theorem Lh {n : Int} {s j : Nat} : Fk n s (j + 1) = Fk n s j ++ [Gm n (s - 1 - j)] := by simp [Fk, List.range_succ]
theorem Lq (w : World) (v : Value) (bs : List B8) (hr : B9 w v bs) (hn : bs.length ≤ 1000000) :
  Calls Tryz.prog 94 #[v] w fun e w' => (∃ D A c, D = w.heap.size ∧ e = .returned (.slice A bs.length c) ∧ Dg w' D (.slice A bs.length c) bs) ∧ Below w.heap.size w w' := by
 obtain ⟨A, c, rfl, h1, h2, h3, hh⟩ := hr
 replace hh := Lib.hid hh
 match A with
 | none =>
  have h0 : bs = [] := List.eq_nil_of_length_eq_zero (by have := h3 rfl; omega)
  have Aa := Below.refl w.heap.size w
  exact Az 8 Tryz.func94 R R λ a H => zC (zD (kR 1 H R λ a H => zA (zB (zC (zC (zD (kR 1 H R λ a H => kV (v := .bool true) H (Tr CO (H.e R) R) R λ a H => zA (zB (zH H R (zC (zD (kR 1 H R λ a H => zA (zB (zF (zJ (Ag H R R ⟨⟨_, none, 0, R, by rw [h0]; rfl, by rw [h0]; exact World.ownsRow_nil _ _ _ _⟩, Aa⟩))))))))))))))))
 | some ad =>
  have Aa := Below.refl w.heap.size w
  refine Az 8 Tryz.func94 R R λ a H => zC (zD (kR 1 H R λ a H => zA (zB (zC (zC (zD (kR 1 H R λ a H => kV (v := .bool false) H (Tr CO (H.e R) R) R λ a H => zA (zB (zG H R (zE (zB (zC (zD (BP 30 0 #[] 5 #[] (by simp) (fun w => by kernel_rfl) fun w1 bl Ak hb kk => ?_))))))))))))))
  have Ah : Dg _ w.heap.size (.slice (some ⟨bl, 0, none⟩) 0 0) [] := Dk kk (Nat.le_trans Aa.size Ak); replace Aa := Aa.tr hb; clear hb Ak kk; refine kL 1 H rfl λ a H => ?_
  have D3 := Aa.size; refine BX 30 5 (.tmp 5) (.tmp 6) w.heap.size (.int .u8 0) 1 1 _ _ _ (some ad) bs.length c (bs.map u8v) (H.ev rfl) (H.ev rfl) CO i5 rfl (by omega) Ah (by simp) (hh.out.up Aa) (CC _) (by unfold maxLen; simp; omega) (by simp; omega) D3 fun o2 w9 AU F0 Fz Cb => ?_; have Bv := DF AU; rw [List.nil_append] at Bv; replace Aa := Aa.trans Cb; clear D3; clear Ah AU F0 Fz Cb; have Ah := Bv; clear Bv; obtain ⟨A2, c2, GK⟩ := BZ Ah; subst GK; refine kl H rfl λ a H => ?_
  exact kR 1 H R λ a H => zA (zB (zF (Ag H R R ⟨⟨_, A2, c2, R, R, Ah⟩, Aa⟩)))
theorem TR (s : Nat) (q : Int) (w : World) (hq : q = (s : Int)) (h1 : 1 ≤ s) (h7 : s ≤ 7) :
  Calls Tryz.prog 95 #[J q] w fun e w' => e = .returned (J (s : Nat)) ∧ Below w.heap.size w w' := by
 subst hq
 have Aa := Below.refl w.heap.size w
 exact Az 6 Tryz.func95 R R λ a H => zC (zD (kR 1 H R λ a H => zA (zB (zC (zD (kR 1 H R λ a H => kV (v := J (s : Nat)) H (MJ (H.e R) Am (by split <;> omega)) R λ a H => kX 1 (v := J (s : Nat)) H (IS (H.e R) Am (by split <;> omega)) R λ a H => zA (zB (zF (Ag H R R ⟨R, Aa⟩)))))))))
theorem Oz (s : Nat) (q : Int) (w : World) (hq : q = (s : Int)) (h1 : 1 ≤ s) (h7 : s ≤ 7) :
  Calls Tryz.prog 111 #[J q] w fun e w' => e = .returned (J (s : Nat)) ∧ Below w.heap.size w w' := by
 subst hq
 have Aa := Below.refl w.heap.size w
 exact Az 6 Tryz.func111 R R λ a H => zC (zD (kR 1 H R λ a H => zA (zB (zC (zD (kR 1 H R λ a H => kV (v := J (s : Nat)) H (IS (H.e R) Am (by split <;> omega)) R λ a H => kX 1 (v := J (s : Nat)) H (MJ Am (H.e R) (by split <;> omega)) R λ a H => zA (zB (zF (Ag H R R ⟨R, Aa⟩)))))))))
def mE (W : World) (n : Int) (s : Nat) (bs : List B8) (a : Act) (w : World) : Prop :=
 ∃ (j : Nat) (A1 : Option Addr) (c1 : Nat), Kn a 27 [(1, J n), (7, .slice A1 (bs ++ Fk n s j).length c1), (8, J (((s : Nat) : Int) - 1 - ((j : Nat) : Int)))] ∧ j ≤ s ∧ Dg w W.heap.size (.slice A1 (bs ++ Fk n s j).length c1) (bs ++ Fk n s j) ∧ Below W.heap.size W w
theorem Y5 (w : World) (v : Value) (bs : List B8) (n : Int) (s : Nat) (q : Int) (hq : q = (s : Int)) (hr : B9 w v bs) (hn : bs.length ≤ 900000) (h1 : 1 ≤ s) (h7 : s ≤ 7) :
  Calls Tryz.prog 122 #[v, J n, J q] w fun e w' => (∃ D A c, D = w.heap.size ∧ e = .returned (.slice A (bs ++ Fk n s s).length c) ∧ Dg w' D (.slice A (bs ++ Fk n s s).length c) (bs ++ Fk n s s)) ∧ Below w.heap.size w w' := by
 subst hq
 have Aa := Below.refl w.heap.size w
 refine Az 27 Tryz.func122 R R λ a H => zC (zD (kR 1 H R λ a H => zA (zB (zC (zD (kR 1 H R λ a H => A8 _ _ _ (Lq _ _ bs hr (by omega)) (Av eL (H.e R)) ?_))))))
 rintro e w9 ⟨⟨D, A1, c1, I5, rfl, Ah⟩, hb⟩; refine ⟨_, rfl, ?_⟩; subst I5; replace Aa := Aa.tr hb; clear hb hr; refine kL 1 H rfl λ a H => zA (zB (zC (zC (zD (kR 1 H rfl λ a H => kC 0 (TR s s _ rfl h1 h7) (Av jL (H.ev rfl)) H rfl fun w9 a hb H => ?_)))))
 replace Ah := Bh Ah hb; replace Aa := Aa.tr hb; clear hb
 refine kX 1 H (Dl (q := ((s : Nat) : Int) - 1 - ((0 : Nat) : Int)) U3 (H.e R) Am) R λ a H => zA (zB (wp_block ?_))
 rw [← NV n s bs] at H Ah
 refine wp_loop (mE w n s bs) (fun a _ => (intOf (a.eval (.tmp 8)) + 1).toNat) ⟨0, A1, c1, H.pick [1, 7, 8], by omega, Ah, Aa⟩ ?_
 clear H Aa Ah
 rintro a w' ⟨j, A1, c1, H, hj, Ah, Aa⟩
 have H0 := H
 have YV := Kv n s j
 by_cases CM : j < s
 ·
  refine zC (zC (zD (kR 1 H R λ a H => kV H (CV U3 (H.e R) Am dT) R λ a H => zA (zB (zH H R (zE (zB (zC (wp_block (zD (kR 3 H R λ a H => kV (v := J (8 * (s - 1 - j) : Nat)) H (H8 (r := ((8 * (s - 1 - j) : Nat) : Int)) U3 Am (H.e R) (by omega) (by omega)) R λ a H => kV (v := J (n >>> (8 * (s - 1 - j)))) H (To U3 (H.e R) (H.e R) (by omega)) R λ a H => kV (v := u8v (Gm n (s - 1 - j))) H (Me U3 U5 (H.e R)) R λ a H => BP 30 1 #[(0, u8v (Gm n (s - 1 - j)))] 5 #[u8v (Gm n (s - 1 - j))] (by simp [Am, H.ev (j := 23) R]) (fun w => by kernel_rfl) fun w0 b0 Ak hb k0 => ?_)))))))))))
  have g0 := Nat.le_trans Aa.size Ak; replace Ah := Bh Ah hb; replace Aa := Aa.tr hb; clear hb; clear Ak; refine kl H rfl λ a H => ?_
  have D3 := Aa.size; refine BX 30 5 (.tmp 18) (.tmp 24) w.heap.size (.int .u8 0) 1 1 _ _ _ (some ⟨b0, 0, none⟩) 1 1 ([Gm n (s - 1 - j)].map u8v) (H.ev rfl) (H.ev rfl) CO i5 rfl (by omega) Ah rfl (Ad.holds k0) (CC _) (by unfold maxLen; rw [List.length_append]; omega) (by rw [List.length_append]; omega) D3 fun o2 w9 AU F0 Fz Cb => ?_; have Bv := DF AU; replace Aa := Aa.trans Cb; clear k0 D3; clear Ah AU F0 Fz Cb; have Ah := Bv; clear Bv; obtain ⟨A2, c2, GK⟩ := BZ Ah; subst GK; refine kl H rfl λ a H => ?_
  refine kR 1 H R λ a H => zA (AC (zB (zD (kR 1 H R λ a H => kX 1 H (Dl (q := ((s : Nat) : Int) - 1 - ((j + 1 : Nat) : Int)) U3 (H.e R) Am) R λ a H => zA ?_))))
  rw [List.append_assoc, ← Lh] at H Ah
  replace H := H.pick [1, 7, 8]
  refine zI ⟨⟨j + 1, _, _, H, by omega, Ah, Aa⟩, ?_⟩
  rw [H.ev (j := 8) rfl, H0.ev (j := 8) rfl]
  simp only [intOf]
  omega
 ·
  obtain rfl : j = s := by omega
  exact zC (zC (zD (kR 1 H R λ a H => kV H (CV U3 (H.e R) Am dF) R λ a H => zA (zB (zG H R (wp_exit (AJ (AJ (BD (zB (zC (zD (kR 2 H R λ a H => zA (zB (zF (Ag H R R ⟨⟨_, A1, c1, R, R, Ah⟩, Aa⟩))))))))))))))))
def uI (W : World) (n : Int) (s : Nat) (bs : List B8) (a : Act) (w : World) : Prop :=
 ∃ (j : Nat) (A1 : Option Addr) (c1 : Nat), Kn a 28 [(1, J n), (7, .slice A1 (bs ++ Fk n s j).length c1), (8, J (((s : Nat) : Int) - 1 - ((j : Nat) : Int)))] ∧ j ≤ s ∧ Dg w W.heap.size (.slice A1 (bs ++ Fk n s j).length c1) (bs ++ Fk n s j) ∧ Below W.heap.size W w
theorem Wv (w : World) (v : Value) (bs : List B8) (n : Int) (s : Nat) (q : Int) (hq : q = (s : Int)) (hr : B9 w v bs) (hn : bs.length ≤ 900000) (h1 : 1 ≤ s) (h7 : s ≤ 7) :
  Calls Tryz.prog 72 #[v, J n, J q] w fun e w' => (∃ D A c, D = w.heap.size ∧ e = .returned (.slice A (bs ++ Fk n s s).length c) ∧ Dg w' D (.slice A (bs ++ Fk n s s).length c) (bs ++ Fk n s s)) ∧ Below w.heap.size w w' := by
 subst hq
 obtain ⟨A, c, rfl, g1, g2, g3, hh⟩ := hr
 replace hh := Lib.hid hh
 have Aa := Below.refl w.heap.size w
 refine Az 28 Tryz.func72 R R λ a H => zC (zD (kR 1 H R λ a H => zA (zB (zC (zD (BP 30 0 #[] 5 #[] (by simp) (fun w => by kernel_rfl) fun w1 bl Ak hb kk => ?_))))))
 have Ah : Dg _ w.heap.size (.slice (some ⟨bl, 0, none⟩) 0 0) [] := Dk kk (Nat.le_trans Aa.size Ak); replace Aa := Aa.tr hb; clear hb Ak kk; refine kL 1 H rfl λ a H => ?_
 have D3 := Aa.size; refine BX 30 5 (.tmp 9) (.tmp 10) w.heap.size (.int .u8 0) 1 1 _ _ _ A bs.length c (bs.map u8v) (H.ev rfl) (H.ev rfl) CO i5 rfl (by omega) Ah (by simp) (hh.out.up Aa) (CC _) (by unfold maxLen; simp; omega) (by simp; omega) D3 fun o2 w9 AU F0 Fz Cb => ?_; have Bv := DF AU; rw [List.nil_append] at Bv; replace Aa := Aa.trans Cb; clear D3; clear Ah AU F0 Fz Cb; have Ah := Bv; clear Bv; obtain ⟨A1, c1, GK⟩ := BZ Ah; subst GK; refine kl H rfl λ a H => ?_
 refine kR 1 H R λ a H => zA (zB (zC (zC (zD (kR 1 H R λ a H => kC 0 (Oz s s _ R h1 h7) (Av bF (H.e R)) H R fun w9 a hb H => ?_)))))
 replace Ah := Bh Ah hb; replace Aa := Aa.tr hb; clear hb
 refine kX 1 H (Dl (q := ((s : Nat) : Int) - 1 - ((0 : Nat) : Int)) U3 (H.e R) Am) R λ a H => zA (zB (wp_block ?_))
 rw [← NV n s bs] at H Ah
 refine wp_loop (uI w n s bs) (fun a _ => (intOf (a.eval (.tmp 8)) + 1).toNat) ⟨0, A1, c1, H.pick [1, 7, 8], by omega, Ah, Aa⟩ ?_
 clear H Aa Ah
 rintro a w' ⟨j, A1, c1, H, hj, Ah, Aa⟩
 have H0 := H
 have YV := Kv n s j
 by_cases CM : j < s
 ·
  refine zC (zC (zD (kR 1 H R λ a H => kV H (CV U3 (H.e R) Am dT) R λ a H => zA (zB (zH H R (zE (zB (zC (wp_block (zD (kR 3 H R λ a H => kV (v := J (8 * (s - 1 - j) : Nat)) H (H8 (r := ((8 * (s - 1 - j) : Nat) : Int)) U3 Am (H.e R) (by omega) (by omega)) R λ a H => kV (v := J (n >>> (8 * (s - 1 - j)))) H (To U3 (H.e R) (H.e R) (by omega)) R λ a H => kV (v := u8v (Gm n (s - 1 - j))) H (Me U3 U5 (H.e R)) R λ a H => BP 30 1 #[(0, u8v (Gm n (s - 1 - j)))] 5 #[u8v (Gm n (s - 1 - j))] (by simp [Am, H.ev (j := 24) R]) (fun w => by kernel_rfl) fun w0 b0 Ak hb k0 => ?_)))))))))))
  have g0 := Nat.le_trans Aa.size Ak; replace Ah := Bh Ah hb; replace Aa := Aa.tr hb; clear hb; clear Ak; refine kl H rfl λ a H => ?_
  have D3 := Aa.size; refine BX 30 5 (.tmp 19) (.tmp 25) w.heap.size (.int .u8 0) 1 1 _ _ _ (some ⟨b0, 0, none⟩) 1 1 ([Gm n (s - 1 - j)].map u8v) (H.ev rfl) (H.ev rfl) CO i5 rfl (by omega) Ah rfl (Ad.holds k0) (CC _) (by unfold maxLen; rw [List.length_append]; omega) (by rw [List.length_append]; omega) D3 fun o2 w9 AU F0 Fz Cb => ?_; have Bv := DF AU; replace Aa := Aa.trans Cb; clear k0 D3; clear Ah AU F0 Fz Cb; have Ah := Bv; clear Bv; obtain ⟨A2, c2, GK⟩ := BZ Ah; subst GK; refine kl H rfl λ a H => ?_
  refine kR 1 H R λ a H => zA (AC (zB (zD (kR 1 H R λ a H => kX 1 H (Dl (q := ((s : Nat) : Int) - 1 - ((j + 1 : Nat) : Int)) U3 (H.e R) Am) R λ a H => zA ?_))))
  rw [List.append_assoc, ← Lh] at H Ah
  replace H := H.pick [1, 7, 8]
  refine zI ⟨⟨j + 1, _, _, H, by omega, Ah, Aa⟩, ?_⟩
  rw [H.ev (j := 8) rfl, H0.ev (j := 8) rfl]
  simp only [intOf]
  omega
 ·
  obtain rfl : j = s := by omega
  exact zC (zC (zD (kR 1 H R λ a H => kV H (CV U3 (H.e R) Am dF) R λ a H => zA (zB (zG H R (wp_exit (AJ (AJ (BD (zB (zC (zD (kR 2 H R λ a H => zA (zB (zF (Ag H R R ⟨⟨_, A1, c1, R, R, Ah⟩, Aa⟩))))))))))))))))
end
/-- a row's address: none, or below b -/
def Fl (A : Option Addr) (b : Nat) : Prop := A = none ∨ ∃ q o, A = some ⟨q, o, none⟩ ∧ q < b
theorem Fl.lt {A : Option Addr} {b q o : Nat} (h : Fl A b) (e : A = some ⟨q, o, none⟩) : q < b := by
 rcases h with h | ⟨q', o', h, hl⟩
 · rw [h] at e; cases e
 · rw [h] at e; injection e with e; injection e with e; omega
theorem Fl.le {A : Option Addr} {b b' : Nat} (h : Fl A b) (hb : b ≤ b') : Fl A b' := by
 rcases h with h | ⟨q, o, h, hl⟩
 · exact .inl h
 · exact .inr ⟨q, o, h, by omega⟩
theorem Fl.zero {A : Option Addr} {b c : Nat} (h : Fl A b) : C6 A c 0 1 = A := by
 rcases h with rfl | ⟨q, o, rfl, hl⟩
 · simp [C6]
 · simp [C6, CT]
theorem Fl.slAt {A : Option Addr} {b c n : Nat} (h : Fl A b) : Fl (Go.Proofs.YtbnmpoonkjlkjaaGreat.C6 A c n 1) b := by
 unfold Go.Proofs.YtbnmpoonkjlkjaaGreat.C6
 split
 · exact h
 ·
  rcases h with rfl | ⟨q, o, rfl, hl⟩
  · exact .inl rfl
  · exact .inr ⟨q, o + n * 1, by simp [CT], hl⟩
theorem WR {w : World} {D : Nat} {A : Option Addr} {c : Nat} {bs : List B8} (h : Dg w D (.slice A bs.length c) bs) : Fl A w.heap.size := by
 have h0 := h
 obtain ⟨_, ⟨e, _⟩ | ⟨g, cap, cur, e, _⟩⟩ := h
 · injection e with e1; exact .inl e1
 ·
  injection e with e1
  subst e1
  exact .inr ⟨g, 0, R, (World.ownsRow.lt h0 g R).2⟩
theorem Ee (w : World) : B9 w (.slice none 0 0) [] := ⟨none, 0, rfl, Nat.le_refl _, by simp [maxLen], fun _ => rfl, fun j hj => by simp at hj⟩
theorem O1 {w : World} {A : Option Addr} {b m n c : Nat} {bs : List B8} (hf : Fl A b) (h : B9 w (.slice A m c) bs) (hn : n ≤ bs.length) : B9 w (.slice (C6 A c n 1) (bs.drop n).length (c - n)) (bs.drop n) := by
 obtain ⟨A', c', e, h1, h2, h3, hh⟩ := h
 injection e with e1 e2 e3
 subst e1 e3
 refine ⟨_, _, R, by rw [List.length_drop]; omega, by omega, fun e => ?_, fun j hj => ?_⟩
 ·
  rcases hf with rfl | ⟨q, o, rfl, _⟩
  · have := h3 rfl; omega
  ·
   unfold C6 at e
   split at e
   · omega
   · simp at e
 ·
  have LS : j < bs.length - n := by simpa using hj
  obtain ⟨b, o', he, hc⟩ := hh (n + j) (by simp; omega)
  subst he
  refine ⟨b, o' + n * 1, ?_, ?_⟩
  · rw [Jq (by omega)]
  · rw [Nat.mul_one, Nat.add_assoc, hc, List.getElem?_map, List.getElem?_map, List.getElem?_drop]
theorem Z6 {w : World} {B n : Nat} {v : Value} {bs : List B8} (hl : bs.length = n) (h : w.ownsRow B 5 1 v (0 + n) ([] ++ bs.map u8v)) : Dg w B v bs := by
 subst hl
 rw [Nat.zero_add, List.nil_append] at h
 exact h
theorem Pt {w0 w w' : World} {r : Option Nat} {D : Nat} (h : w0.grownBy w r) (hb : Below D w w') (hD : w0.heap.size ≤ D) : w0.grownBy w' r :=
 ⟨hb.os.trans h.os, hb.tape.trans h.tape, hb.output.trans h.output, Nat.le_trans h.size hb.size, fun k hk Fh => (hb.block k (Nat.lt_of_lt_of_le hk hD)).trans (h.block k hk Fh)⟩
/-- a slice's memory is not below B -/
def SU (B : Nat) (v : Value) : Prop := ∀ q o n c, v = .slice (some ⟨q, o, none⟩) n c → B ≤ q
theorem MQ {B : Nat} : SU B (.slice none 0 0) := fun q o n c e => by injection e with e; cases e
theorem SO {w : World} {D B : Nat} {v : Value} {bs : List B8} (h : Dg w D v bs) (hB : B ≤ D) : SU B v := fun q o n c e => by
 obtain ⟨_, ⟨e2, _⟩ | ⟨g, cap, cur, e2, hg, _⟩⟩ := h
 · rw [e] at e2; injection e2 with e2; cases e2
 · rw [e] at e2; injection e2 with e2; injection e2 with e2; injection e2 with e3 e4; omega
/-- a reader -/
def Rd (w : World) (b : Nat) (T : TypeId) (l : List B8) (bad : Bool) : Prop := ∃ A c, Ad w b T #[.slice A l.length c, .bool bad] ∧ B9 w (.slice A l.length c) l ∧ Fl A b
/-- what is taken, what is left, whether it failed -/
def GZ (l : List B8) (bad : Bool) (n : Nat) : List B8 := if bad || decide (l.length < n) then [] else l.take n
def RA (l : List B8) (bad : Bool) (n : Nat) : List B8 := if bad || decide (l.length < n) then [] else l.drop n
def Ta (l : List B8) (bad : Bool) (n : Nat) : Bool := bad || decide (l.length < n)
theorem SZ {l : List B8} {bad : Bool} {n : Nat} (h : (bad || decide (l.length < n)) = true) : GZ l bad n = [] := if_pos h
theorem OH {l : List B8} {bad : Bool} {n : Nat} (h : (bad || decide (l.length < n)) = true) : RA l bad n = [] := if_pos h
theorem OJ {l : List B8} {bad : Bool} {n : Nat} (h : (bad || decide (l.length < n)) = true) : Ta l bad n = true := h
theorem RK {l : List B8} {bad : Bool} {n : Nat} (h : (bad || decide (l.length < n)) = false) : GZ l bad n = l.take n := if_neg (by rw [h]; simp)
theorem OG {l : List B8} {bad : Bool} {n : Nat} (h : (bad || decide (l.length < n)) = false) : RA l bad n = l.drop n := if_neg (by rw [h]; simp)
theorem OI {l : List B8} {bad : Bool} {n : Nat} (h : (bad || decide (l.length < n)) = false) : Ta l bad n = false := h
theorem iX : BI Tryz.prog 116 0 0 := fun b o w => by go_simp
theorem iW : BI Tryz.prog 116 1 1 := fun b o w => by go_simp
theorem iV : BI Tryz.prog 123 0 0 := fun b o w => by go_simp
theorem iU : BI Tryz.prog 123 1 1 := fun b o w => by go_simp
theorem WS (w : World) (v : Value) (bs : List B8) (hr : B9 w v bs) (hn : bs.length ≤ 1000000) :
  Calls Tryz.prog 61 #[v] w fun e w' => (∃ b, e = .returned (.pointer (some ⟨b, 0, none⟩)) ∧ w.heap.size ≤ b ∧ Rd w' b 116 bs false) ∧ Below w.heap.size w w' := by
 have Aa := Below.refl w.heap.size w
 refine Az 7 Tryz.func61 R R λ a H => zC (zD (kR 1 H R λ a H => zA (zB (zC (zD (kR 1 H R λ a H => A8 _ _ _ (Lq _ _ bs hr hn) (Av eL (H.e R)) ?_))))))
 rintro e w9 ⟨⟨D, A1, c1, I5, rfl, Ah⟩, hb⟩; refine ⟨_, rfl, ?_⟩; clear I5; replace Aa := Aa.tr hb; clear hb hr; have AY := Dg.row Ah; have KQ := WR Ah; clear Ah; refine kl H rfl λ a H => kV H (Bl #[(0, .slice A1 bs.length c1)] (.agg #[.slice A1 bs.length c1, .bool false]) (by simp [Am, H.ev (j := 4) rfl]) (fun w => by kernel_rfl)) rfl λ a H => B7 116 (.tmp 5) #[.slice A1 bs.length c1, .bool false] (H.ev rfl) fun w5 b Ak hb kr => ?_
 have gr := Nat.le_trans Aa.size Ak; have dI := KQ.le Ak; replace AY := B9.up AY hb; replace Aa := Aa.tr hb; clear hb Ak KQ; exact kL 1 H rfl λ a H => zA (zB (zF (Ag H rfl rfl ⟨⟨b, rfl, gr, A1, c1, kr, AY, dI⟩, Aa⟩)))
theorem U8 (w : World) (v : Value) (bs : List B8) (hr : B9 w v bs) (hn : bs.length ≤ 1000000) :
  Calls Tryz.prog 74 #[v] w fun e w' => (∃ b, e = .returned (.pointer (some ⟨b, 0, none⟩)) ∧ w.heap.size ≤ b ∧ Rd w' b 123 bs false) ∧ Below w.heap.size w w' := by
 obtain ⟨A, c, rfl, g1, g2, g3, hh⟩ := hr
 replace hh := Lib.hid hh
 have Aa := Below.refl w.heap.size w
 refine Az 8 Tryz.func74 R R λ a H => zC (zD (kR 1 H R λ a H => zA (zB (zC (zD (BP 30 0 #[] 5 #[] (by simp) (fun w => by kernel_rfl) fun w1 bl Ak hb kk => ?_))))))
 have Ah : Dg _ w.heap.size (.slice (some ⟨bl, 0, none⟩) 0 0) [] := Dk kk (Nat.le_trans Aa.size Ak); replace Aa := Aa.tr hb; clear hb Ak kk; refine kL 1 H rfl λ a H => ?_
 have D3 := Aa.size; refine BX 30 5 (.tmp 3) (.tmp 4) w.heap.size (.int .u8 0) 1 1 _ _ _ A bs.length c (bs.map u8v) (H.ev rfl) (H.ev rfl) CO i5 rfl (by omega) Ah (by simp) (hh.out.up Aa) (CC _) (by unfold maxLen; simp; omega) (by simp; omega) D3 fun o2 w9 AU F0 Fz Cb => ?_; have Bv := DF AU; rw [List.nil_append] at Bv; replace Aa := Aa.trans Cb; clear D3; clear Ah AU F0 Fz Cb; have Ah := Bv; clear Bv; obtain ⟨A1, c1, GK⟩ := BZ Ah; subst GK; have AY := Dg.row Ah; have KQ := WR Ah; clear Ah; refine kl H rfl λ a H => ?_
 refine kV H (Bl #[(0, .slice A1 bs.length c1)] (.agg #[.slice A1 bs.length c1, .bool false]) (by simp [Am, H.ev (j := 5) R]) (fun w => by kernel_rfl)) R λ a H => B7 123 (.tmp 6) #[.slice A1 bs.length c1, .bool false] (H.e R) fun w5 b Ak hb kr => ?_
 have gr := Nat.le_trans Aa.size Ak; have dI := KQ.le Ak; replace AY := B9.up AY hb; replace Aa := Aa.tr hb; clear hb Ak KQ; exact kL 1 H rfl λ a H => zA (zB (zF (Ag H rfl rfl ⟨⟨b, rfl, gr, A1, c1, kr, AY, dI⟩, Aa⟩)))
theorem Kb (w : World) (b n : Nat) (l : List B8) (bad : Bool) (q : Int) (hq : q = (n : Int)) (h : Rd w b 116 l bad) (hl : l.length ≤ 1000000) :
  Calls Tryz.prog 65 #[.pointer (some ⟨b, 0, none⟩), J q] w fun e w' => (∃ v, e = .returned v ∧ B9 w' v (GZ l bad n) ∧ Rd w' b 116 (RA l bad n) (Ta l bad n)) ∧ w.grownBy w' (some b) := by
 subst hq
 obtain ⟨A, c, kr, AY, KQ⟩ := h
 have iA := KH AY
 cases bad with
 | true =>
  have Aa := E2 w (some b)
  have I4 := Aa
  refine Az 46 Tryz.func65 R R λ a H => zC (zD (kR 1 H R λ a H => zA (zB (zC (zC (zD (kR 3 H R λ a H => kX 13 H (Ai U4 R (H.e R) ((Ad.cell kr 1).trans R)) R λ a H => zA (zB (zH H R (zC (zD (kR 4 H R λ a H => AP 30 (.tmp 26) (.const (.slice none 0 0)) b 0 116 (.slice none 0 0) _ (H.e R) Am kr PD (by simp [Value.cells]) (by simp [Value.cells, Value.oneCell']) fun w' hb ho kq => ?_))))))))))))
  clear kr; have kr : Ad _ b 116 #[.slice none 0 0, .bool true] := kq; clear kq; replace Aa := C9 Aa hb ho (.inl rfl); clear hb ho; refine kO 2 H rfl λ a H => AP 4 (.tmp 28) (.const (.bool true)) b 1 116 (.bool true) _ (H.ev rfl) Am kr s4 (by simp [Value.cells]) (by simp [Value.cells, Value.oneCell']) fun w' hb ho kq => ?_
  clear kr; have kr : Ad _ b 116 #[.slice none 0 0, .bool true] := kq; clear kq; replace Aa := C9 Aa hb ho (.inl rfl); clear hb ho; exact Dz H λ a H => zA (zB (zC (zD (kR 1 H rfl λ a H => zA (zB (zF (zJ (Ag H rfl rfl ⟨⟨_, rfl, by rw [SZ (by simp)]; exact Ee _, by rw [OH (by simp), OJ (by simp)]; exact ⟨none, 0, kr, Ee _, .inl rfl⟩⟩, Aa⟩))))))))
 | false =>
  by_cases YX : n ≤ l.length
  ·
   have Aa := E2 w (some b)
   have I4 := Aa
   refine Az 46 Tryz.func65 R R λ a H => zC (zD (kR 1 H R λ a H => zA (zB (zC (zC (zD (kR 3 H R λ a H => kX 2 H (Ai U4 R (H.e R) ((Ad.cell kr 1).trans R)) R λ a H => kY 6 H R (By U3 (H.e R) Am dF) R λ a H => kW H R (Ai CO R (H.e R) ((Ad.cell kr 0).trans R)) R λ a H => kW H R (Ba CO (H.e R)) R λ a H => kY 1 H R (CU U3 (H.e R) (H.e R) dF) R λ a H => zA (zB (zG H R (zE (zB (zC (zD (kR 3 H R λ a H => kX 1 H (Ai CO R (H.e R) ((Ad.cell kr 0).trans R)) R λ a H => kV (v := .slice A n c) H (BS CO (.slice A l.length c) none (some (J (n : Nat))) none (H.e R) R (congrArg some (H.e R)) R (CF 0 n CO s5 _ _ (.inl ⟨R, R⟩) (.inr R) (by omega) (by omega) KQ.zero (by omega) (by omega))) R λ a H => A8 _ _ _ (Lq _ _ (l.take n) (B9.take AY YX) (by rw [List.length_take]; omega)) (Av eL (H.e R)) ?_))))))))))))))
   rintro e w9 ⟨⟨D, A2, c2, I5, rfl, Ah⟩, hb⟩; refine ⟨_, rfl, ?_⟩; have qZ := kr.lt; rw [← I5] at qZ; clear I5; replace kr := kr.ups hb; replace AY := B9.up AY hb; replace Aa := CA Aa hb; clear hb; refine kL 1 H rfl λ a H => zA (zB (zC (zD (kR 4 H rfl λ a H => kX 1 H (Ai CO rfl (H.ev rfl) ((Ad.cell kr 0).trans rfl)) rfl λ a H => Fr (.slice (C6 A c n 1) (l.drop n).length (c - n)) (BS CO (.slice A l.length c) (some (J (n : Nat))) none none (H.ev rfl) (congrArg some (H.ev rfl)) rfl rfl (CF n l.length CO s5 _ _ (.inr rfl) (.inl ⟨rfl, rfl⟩) (by omega) (by omega) rfl (by rw [List.length_drop]) rfl)) (kL 2 H rfl λ a H => AP 30 (.tmp 44) (.tmp 42) b 0 116 (.slice (C6 A c n 1) (l.drop n).length (c - n)) _ (H.ev rfl) (H.ev rfl) kr PD (by simp [Value.cells]) (by simp [Value.cells, Value.oneCell']) fun w' hb ho kq => ?_)))))
   clear kr; have kr : Ad _ b 116 #[.slice (C6 A c n 1) (l.drop n).length (c - n), .bool false] := kq; clear kq; replace AY := B9.far AY (hb _ (Nat.le_refl _)) (fun q o e => KQ.lt e); replace Ah := D9 Ah (fun q hq => ho _ (fun e => by have := (World.ownsRow.lt Ah q hq).1; omega)); replace Aa := C9 Aa hb ho (.inl rfl); clear hb ho; exact Dz H λ a H => zA (zB (zC (zD (kR 2 H rfl λ a H => zA (zB (zF (Ag H rfl rfl ⟨⟨_, rfl, by rw [RK (by simp; omega)]; exact Dg.row Ah, by rw [OG (by simp; omega), OI (by simp; omega)]; exact ⟨_, _, kr, O1 KQ AY YX, KQ.slAt⟩⟩, Aa⟩)))))))
  ·
   have Aa := E2 w (some b)
   have I4 := Aa
   refine Az 46 Tryz.func65 R R λ a H => zC (zD (kR 1 H R λ a H => zA (zB (zC (zC (zD (kR 3 H R λ a H => kX 2 H (Ai U4 R (H.e R) ((Ad.cell kr 1).trans R)) R λ a H => kY 6 H R (By U3 (H.e R) Am dF) R λ a H => kW H R (Ai CO R (H.e R) ((Ad.cell kr 0).trans R)) R λ a H => kW H R (Ba CO (H.e R)) R λ a H => kY 1 H R (CU U3 (H.e R) (H.e R) dT) R λ a H => zA (zB (zH H R (zC (zD (kR 4 H R λ a H => AP 30 (.tmp 26) (.const (.slice none 0 0)) b 0 116 (.slice none 0 0) _ (H.e R) Am kr PD (by simp [Value.cells]) (by simp [Value.cells, Value.oneCell']) fun w' hb ho kq => ?_))))))))))))
   clear kr; have kr : Ad _ b 116 #[.slice none 0 0, .bool false] := kq; clear kq; replace Aa := C9 Aa hb ho (.inl rfl); clear hb ho; refine kO 2 H rfl λ a H => AP 4 (.tmp 28) (.const (.bool true)) b 1 116 (.bool true) _ (H.ev rfl) Am kr s4 (by simp [Value.cells]) (by simp [Value.cells, Value.oneCell']) fun w' hb ho kq => ?_
   clear kr; have kr : Ad _ b 116 #[.slice none 0 0, .bool true] := kq; clear kq; replace Aa := C9 Aa hb ho (.inl rfl); clear hb ho; exact Dz H λ a H => zA (zB (zC (zD (kR 1 H rfl λ a H => zA (zB (zF (zJ (Ag H rfl rfl ⟨⟨_, rfl, by rw [SZ (by simp; omega)]; exact Ee _, by rw [OH (by simp; omega), OJ (by simp; omega)]; exact ⟨none, 0, kr, Ee _, .inl rfl⟩⟩, Aa⟩))))))))
theorem JL (w : World) (b n : Nat) (l : List B8) (bad : Bool) (q : Int) (hq : q = (n : Int)) (h : Rd w b 123 l bad) (hl : l.length ≤ 1000000) :
  Calls Tryz.prog 76 #[.pointer (some ⟨b, 0, none⟩), J q] w fun e w' => (∃ v, e = .returned v ∧ B9 w' v (GZ l bad n) ∧ Rd w' b 123 (RA l bad n) (Ta l bad n) ∧ SU w.heap.size v) ∧ w.grownBy w' (some b) := by
 subst hq
 obtain ⟨A, c, kr, AY, KQ⟩ := h
 have iA := KH AY
 cases bad with
 | true =>
  have Aa := E2 w (some b)
  have I4 := Aa
  refine Az 47 Tryz.func76 R R λ a H => zC (zD (kR 1 H R λ a H => zA (zB (zC (zC (zD (kR 3 H R λ a H => kX 13 H (Ai U4 R (H.e R) ((Ad.cell kr 1).trans R)) R λ a H => zA (zB (zH H R (zC (zD (kR 3 H R λ a H => AP 4 (.tmp 25) (.const (.bool true)) b 1 123 (.bool true) _ (H.e R) Am kr s4 (by simp [Value.cells]) (by simp [Value.cells, Value.oneCell']) fun w' hb ho kq => ?_))))))))))))
  clear kr; have kr : Ad _ b 123 #[.slice A l.length c, .bool true] := kq; clear kq; replace Aa := C9 Aa hb ho (.inl rfl); clear hb ho; refine Dz H λ a H => zA (zB (zC (zD (kR 3 H rfl λ a H => AP 30 (.tmp 28) (.const (.slice none 0 0)) b 0 123 (.slice none 0 0) _ (H.ev rfl) Am kr PD (by simp [Value.cells]) (by simp [Value.cells, Value.oneCell']) fun w' hb ho kq => ?_))))
  clear kr; have kr : Ad _ b 123 #[.slice none 0 0, .bool true] := kq; clear kq; replace Aa := C9 Aa hb ho (.inl rfl); clear hb ho; exact Dz H λ a H => zA (zB (zC (zD (kR 1 H rfl λ a H => zA (zB (zF (zJ (Ag H rfl rfl ⟨⟨_, rfl, by rw [SZ (by simp)]; exact Ee _, by rw [OH (by simp), OJ (by simp)]; exact ⟨none, 0, kr, Ee _, .inl rfl⟩, MQ⟩, Aa⟩))))))))
 | false =>
  by_cases YX : n ≤ l.length
  ·
   have Aa := E2 w (some b)
   have I4 := Aa
   refine Az 47 Tryz.func76 R R λ a H => zC (zD (kR 1 H R λ a H => zA (zB (zC (zC (zD (kR 3 H R λ a H => kX 2 H (Ai U4 R (H.e R) ((Ad.cell kr 1).trans R)) R λ a H => kY 6 H R (By U3 (H.e R) Am dF) R λ a H => kW H R (Ai CO R (H.e R) ((Ad.cell kr 0).trans R)) R λ a H => kW H R (Ba CO (H.e R)) R λ a H => kY 1 H R (CU U3 (H.e R) (H.e R) dF) R λ a H => zA (zB (zG H R (zE (zB (zC (zD (BP 30 0 #[] 5 #[] (by simp) (fun w => by kernel_rfl) fun w1 bl Ak hb kk => ?_))))))))))))))
   have Ah := Dk (base := bl) (size := 1) kk (Nat.le_refl _); have qZ : b < bl := Nat.lt_of_lt_of_le kr.lt Ak; have Gl := Nat.le_of_lt kk.lt; replace kr := kr.ups hb; replace AY := B9.up AY hb; replace Aa := CA Aa hb; have DI := Nat.le_trans I4.size Ak; clear hb Ak kk; refine kL 3 H rfl λ a H => kX 1 H (Ai CO rfl (H.ev rfl) ((Ad.cell kr 0).trans rfl)) rfl λ a H => kV (v := .slice A n c) H (BS CO (.slice A l.length c) none (some (J (n : Nat))) none (H.ev rfl) rfl (congrArg some (H.ev rfl)) rfl (CF 0 n CO s5 _ _ (.inl ⟨rfl, rfl⟩) (.inr rfl) (by omega) (by omega) KQ.zero (by omega) (by omega))) rfl λ a H => ?_
   have CM := B9.take AY YX; obtain ⟨Aq, cq, zW, hq2, hq3, hq4, zU⟩ := CM; injection zW with e1 e2 e3; subst e1 e3; have vA : (l.take n).length = n := (by rw [List.length_take]; omega); refine BX 30 5 (.tmp 29) (.tmp 35) bl (.int .u8 0) 1 1 _ _ _ A n c ((l.take n).map u8v) (H.ev rfl) (H.ev rfl) CO i5 rfl (by omega) Ah (by rw [List.length_map, vA]; omega) zU (CC _) (by unfold maxLen; simp; omega) (by simp; omega) Gl fun o2 w9 AU F0 Fz Cb => ?_; have Bv := Z6 vA AU; replace kr := Ad.up kr Cb qZ; replace AY := B9.far AY Cb (fun q o e => by have := KQ.lt e; omega); replace Aa := Pt Aa Cb DI; clear Ah AU F0 Fz Cb Gl; have Ah := Bv; clear Bv; obtain ⟨A2, c2, GK⟩ := BZ Ah; subst GK; refine kl H rfl λ a H => ?_
   refine kR 1 H R λ a H => zA (zB (zC (zD (kR 4 H R λ a H => kX 1 H (Ai CO R (H.e R) ((Ad.cell kr 0).trans R)) R λ a H => Fr (.slice (C6 A c n 1) (l.drop n).length (c - n)) (BS CO (.slice A l.length c) (some (J (n : Nat))) none none (H.e R) (congrArg some (H.e R)) R R (CF n l.length CO s5 _ _ (.inr R) (.inl ⟨R, R⟩) (by omega) (by omega) R (by rw [List.length_drop]) R)) (kL 2 H R λ a H => AP 30 (.tmp 45) (.tmp 43) b 0 123 (.slice (C6 A c n 1) (l.drop n).length (c - n)) _ (H.e R) (H.e R) kr PD (by simp [Value.cells]) (by simp [Value.cells, Value.oneCell']) fun w' hb ho kq => ?_)))))
   clear kr; have kr : Ad _ b 123 #[.slice (C6 A c n 1) (l.drop n).length (c - n), .bool false] := kq; clear kq; replace AY := B9.far AY (hb _ (Nat.le_refl _)) (fun q o e => KQ.lt e); replace Ah := D9 Ah (fun q hq => ho _ (fun e => by have := (World.ownsRow.lt Ah q hq).1; omega)); replace Aa := C9 Aa hb ho (.inl rfl); clear hb ho; exact Dz H λ a H => zA (zB (zC (zD (kR 2 H rfl λ a H => zA (zB (zF (Ag H rfl rfl ⟨⟨_, rfl, by rw [RK (by simp; omega)]; exact Dg.row Ah, by rw [OG (by simp; omega), OI (by simp; omega)]; exact ⟨_, _, kr, O1 KQ AY YX, KQ.slAt⟩, SO Ah DI⟩, Aa⟩)))))))
  ·
   have Aa := E2 w (some b)
   have I4 := Aa
   refine Az 47 Tryz.func76 R R λ a H => zC (zD (kR 1 H R λ a H => zA (zB (zC (zC (zD (kR 3 H R λ a H => kX 2 H (Ai U4 R (H.e R) ((Ad.cell kr 1).trans R)) R λ a H => kY 6 H R (By U3 (H.e R) Am dF) R λ a H => kW H R (Ai CO R (H.e R) ((Ad.cell kr 0).trans R)) R λ a H => kW H R (Ba CO (H.e R)) R λ a H => kY 1 H R (CU U3 (H.e R) (H.e R) dT) R λ a H => zA (zB (zH H R (zC (zD (kR 3 H R λ a H => AP 4 (.tmp 25) (.const (.bool true)) b 1 123 (.bool true) _ (H.e R) Am kr s4 (by simp [Value.cells]) (by simp [Value.cells, Value.oneCell']) fun w' hb ho kq => ?_))))))))))))
   clear kr; have kr : Ad _ b 123 #[.slice A l.length c, .bool true] := kq; clear kq; replace Aa := C9 Aa hb ho (.inl rfl); clear hb ho; refine Dz H λ a H => zA (zB (zC (zD (kR 3 H rfl λ a H => AP 30 (.tmp 28) (.const (.slice none 0 0)) b 0 123 (.slice none 0 0) _ (H.ev rfl) Am kr PD (by simp [Value.cells]) (by simp [Value.cells, Value.oneCell']) fun w' hb ho kq => ?_))))
   clear kr; have kr : Ad _ b 123 #[.slice none 0 0, .bool true] := kq; clear kq; replace Aa := C9 Aa hb ho (.inl rfl); clear hb ho; exact Dz H λ a H => zA (zB (zC (zD (kR 1 H rfl λ a H => zA (zB (zF (zJ (Ag H rfl rfl ⟨⟨_, rfl, by rw [SZ (by simp; omega)]; exact Ee _, by rw [OH (by simp; omega), OJ (by simp; omega)]; exact ⟨none, 0, kr, Ee _, .inl rfl⟩, MQ⟩, Aa⟩))))))))
theorem U1 (w : World) (b n : Nat) (l : List B8) (bad : Bool) (q : Int) (hq : q = (n : Int)) (h : Rd w b 123 l bad) (hl : l.length ≤ 1000000) :
  Calls Tryz.prog 76 #[.pointer (some ⟨b, 0, none⟩), J q] w fun e w' => (∃ v, e = .returned v ∧ B9 w' v (GZ l bad n) ∧ Rd w' b 123 (RA l bad n) (Ta l bad n)) ∧ w.grownBy w' (some b) :=
 (JL w b n l bad q hq h hl).mono fun e w' ⟨⟨v, h1, h2, h3, _⟩, h4⟩ => ⟨⟨v, h1, h2, h3⟩, h4⟩
section
theorem Rd.up {w w' : World} {b : Nat} {T : TypeId} {l : List B8} {bad : Bool} (h : Rd w b T l bad) (hb : Below w.heap.size w w') : Rd w' b T l bad := by
 obtain ⟨A, c, kr, AY, KQ⟩ := h
 exact ⟨A, c, kr.ups hb, AY.up hb, KQ⟩
theorem Rd.far {w w' : World} {b p : Nat} {T : TypeId} {l : List B8} {bad : Bool} (h : Rd w b T l bad) (hb : Below p w w') (hp : b < p) : Rd w' b T l bad := by
 obtain ⟨A, c, kr, AY, KQ⟩ := h
 exact ⟨A, c, kr.up hb hp, B9.far AY hb (fun q o e => by have := KQ.lt e; omega), KQ⟩
theorem EP {w0 w w' : World} {r : Option Nat} (h : w0.grownBy w r) (hg : w.grownBy w' r) : w0.grownBy w' r :=
 ⟨hg.os.trans h.os, hg.tape.trans h.tape, hg.output.trans h.output, Nat.le_trans h.size hg.size, fun k hk Fh => (hg.block k (Nat.lt_of_lt_of_le hk h.size) Fh).trans (h.block k hk Fh)⟩
theorem EU (l : List B8) (bad : Bool) (n : Nat) : (GZ l bad n).length ≤ n := by
 unfold GZ
 split
 · simp
 · rw [List.length_take]; omega
theorem RL (l : List B8) (bad : Bool) (n : Nat) : (RA l bad n).length ≤ l.length := by
 unfold RA
 split
 · simp
 · rw [List.length_drop]; omega
theorem ER {w : World} {v : Value} {bs : List B8} (h : B9 w v bs) : ∃ A c, v = .slice A bs.length c := by
 obtain ⟨A, c, e, _⟩ := h
 exact ⟨A, c, e⟩
/-- the number that bytes make -/
def E0 (l : List B8) : Nat := l.foldl (fun n c => 256 * n + c.toNat) 0
theorem Ob (l : List B8) (y : B8) : E0 (l ++ [y]) = 256 * E0 l + y.toNat := by simp [E0]
theorem Oc {l : List B8} {i N : Nat} {y : B8} (hy : l[i]? = some y) (hN : E0 (l.take i) = N) : 256 * N + y.toNat = E0 (l.take (i + 1)) := by
 obtain ⟨hi, rfl⟩ := List.getElem?_eq_some_iff.1 hy
 rw [List.take_succ_eq_append_getElem hi, Ob, hN]
theorem T5 : ∀ (l : List B8) (acc k : Nat), acc < 256 ^ k → l.foldl (fun n c => 256 * n + c.toNat) acc < 256 ^ (k + l.length)
 | [], acc, k, h => by simpa using h
 | y :: l, acc, k, h => by
  have hy := y.isLt
  have := T5 l (256 * acc + y.toNat) (k + 1) (by rw [Nat.pow_succ]; omega)
  rw [List.foldl_cons, List.length_cons, show k + (l.length + 1) = k + 1 + l.length by omega]
  exact this
theorem QM (l : List B8) : E0 l < 256 ^ l.length := by
 have := T5 l 0 0 (by simp)
 rw [Nat.zero_add] at this
 exact this
theorem K1 {l : List B8} (h : l.length ≤ 6) : E0 l < 281474976710656 :=
 Nat.lt_of_lt_of_le (QM l) (Nat.le_trans (Nat.pow_le_pow_right (by omega) h) (by decide))
section
variable {P : Program} {d : Option Tmp} {tt : TypeId} {ps : String} {af : Array Edge} {gd : Option (Nat × Bool)} {a : Act} {w : World} {x y : Operand} {t t2 : TypeId}
theorem W9 {n : Nat} (ht : P.underlying t = some (.int .i64)) (hx : a.eval x = J (n : Nat)) (hy : a.eval y = .int .u64 8) (hn : 256 * n < 9223372036854775808) : (execOp a.eval ⟨d, .binOp .shl t x y t2, tt, ps, af, gd⟩).run P w = .ok (.value (J (256 * n : Nat))) w := by
 have h := IntWalk.i64_in ((n : Int) * 256) (by omega)
 have e : ((256 * n : Nat) : Int) = (n : Int) * 256 := by omega
 rw [e]
 unfold execOp
 simp only [hx, hy]
 go_simp
theorem fY {m n : Nat} (hm : 256 * m < 9223372036854775808) (hn : n < 256) : bits .or .i64 ((256 * m : Nat) : Int) ((n : Nat) : Int) = ((256 * m + n : Nat) : Int) := by
 have e : 256 * m ||| n = 256 * m + n := by
  have := Nat.two_pow_add_eq_or_of_lt (i := 8) (b := n) (by omega) m
  simpa using this.symm
 unfold bits
 have e1 : BitVec.ofInt IntKind.i64.bits ((256 * m : Nat) : Int) = BitVec.ofNat 64 (256 * m) := BitVec.ofInt_natCast _ _
 have e2 : BitVec.ofInt IntKind.i64.bits ((n : Nat) : Int) = BitVec.ofNat 64 n := BitVec.ofInt_natCast _ _
 simp only [e1, e2]
 have e3 : (BitVec.ofNat 64 (256 * m) ||| BitVec.ofNat 64 n).toNat = 256 * m + n := by
  rw [BitVec.toNat_or, BitVec.toNat_ofNat, BitVec.toNat_ofNat, Nat.mod_eq_of_lt (by omega), Nat.mod_eq_of_lt (by omega), e]
 show IntKind.i64.wrap (((BitVec.ofNat 64 (256 * m) ||| BitVec.ofNat 64 n).toNat : Nat) : Int) = _
 rw [e3]
 exact IntWalk.i64_in _ (by omega)
theorem Yx {m n : Nat} (ht : P.underlying t = some (.int .i64)) (hx : a.eval x = J ((256 * m : Nat) : Int)) (hy : a.eval y = J (n : Nat)) (hm : 256 * m < 9223372036854775808) (hn : n < 256) : (execOp a.eval ⟨d, .binOp .or t x y t2, tt, ps, af, gd⟩).run P w = .ok (.value (J (256 * m + n : Nat))) w := by
 have h := fY hm hn
 unfold execOp
 simp only [hx, hy]
 simp only [← h]
 generalize ((256 * m : Nat) : Int) = M at *
 go_simp
end
def uK (W : World) (b : Nat) (l : List B8) (bad : Bool) (s : Nat) (Ax : Option Addr) (cx : Nat) (out : List B8) (a : Act) (w : World) : Prop :=
 ∃ i : Nat, Kn a 23 [(4, J (E0 (out.take i) : Nat)), (10, .slice Ax out.length cx), (11, J (out.length : Nat)), (12, J (i : Nat))] ∧ i ≤ out.length ∧ B9 w (.slice Ax out.length cx) out ∧ Rd w b 116 (RA l bad s) (Ta l bad s) ∧ W.grownBy w (some b)
theorem T4 (w : World) (b s : Nat) (l : List B8) (bad : Bool) (q : Int) (hq : q = (s : Int)) (BR : Rd w b 116 l bad) (hl : l.length ≤ 1000000) (h1 : 1 ≤ s) (h7 : s ≤ 7) :
  Calls Tryz.prog 62 #[.pointer (some ⟨b, 0, none⟩), J q] w fun e w' => (e = .returned (J (E0 (GZ l bad s) : Nat)) ∧ Rd w' b 116 (RA l bad s) (Ta l bad s)) ∧ w.grownBy w' (some b) := by
 subst hq
 have Aa := E2 w (some b)
 refine Az 23 Tryz.func62 R R λ a H => zC (zD (kR 1 H R λ a H => zA (zB (zC (zC (zD (kR 2 H R λ a H => kC 0 (TR s s _ R h1 h7) (Av jL (H.e R)) H R fun w9 a hb H => ?_)))))))
 replace BR := Rd.up BR hb; replace Aa := CA Aa hb; clear hb
 refine A8 _ _ _ (Kb _ b s l bad _ R BR hl) (AA Z2 (H.e R) (H.e R)) ?_; rintro e w9 ⟨⟨v, rfl, AY, Fo⟩, hg⟩; refine ⟨_, R, ?_⟩; clear BR; have BR := Fo; clear Fo; replace Aa := EP Aa hg; clear hg; obtain ⟨out, EX⟩ : ∃ out, GZ l bad s = out := ⟨_, rfl⟩; have QU : out.length ≤ s := (by rw [← EX]; exact EU _ _ _); rw [EX] at AY; have HO := Lib.hid EX; clear EX; obtain ⟨Ax, cx, hv⟩ := ER AY; subst hv; refine kl H R λ a H => kX 1 H (Ba CO (H.e R)) R λ a H => zA (zB (wp_block (wp_loop (uK w b l bad s Ax cx out) (fun a _ => out.length - (intOf (a.eval (.tmp 12))).toNat) ⟨0, H.pick [4, 10, 11, 12], by omega, AY, BR, Aa⟩ ?_)))
 clear H Aa AY BR
 rintro a w' ⟨i, H, hi, AY, BR, Aa⟩
 have H0 := H
 by_cases CM : i < out.length
 ·
  obtain ⟨x0, o, Ze⟩ := G4 AY (by omega)
  subst Ze
  obtain ⟨y, hy⟩ : ∃ y, out[i]? = some y := ⟨_, List.getElem?_eq_getElem CM⟩
  have HY := Lib.hid hy
  clear hy
  obtain ⟨N, hN⟩ : ∃ N, E0 (out.take i) = N := ⟨_, rfl⟩
  have hNb : N < 281474976710656 := by rw [← hN]; exact K1 (by rw [List.length_take]; omega)
  have yX := y.isLt
  rw [hN] at H
  have HN := Lib.hid hN
  clear hN
  refine zC (zD (kV H (By U3 (H.e R) (H.e R) dT) R λ a H => zA (zB (zC (zH H R (zE (zB (zC (wp_block (zC (zD (kV H (Bq (j := i) (q := o + i) CO s5 (H.e R) (H.e R) (by omega) (by omega)) R λ a H => kX 1 H (Ai U5 R (H.e R) (Ew AY HY.out (by omega))) R λ a H => zA (zB (zD (kR 1 H R λ a H => kX 1 (v := J (256 * N : Nat)) H (W9 U3 (H.e R) Am (by omega)) R λ a H => kV H (Ts U5 U3 (H.e R)) R λ a H => kX 1 (v := J (256 * N + y.toNat : Nat)) H (Yx U3 (H.e R) (H.e R) (by omega) (by omega)) R λ a H => zA (AC (zB (zD (kX 1 H (Bm (q := ((i + 1 : Nat) : Int)) U3 (H.e R) Am) R λ a H => zA ?_)))))))))))))))))))
  replace H := H.pick [4, 10, 11, 12]
  rw [Oc HY.out HN.out] at H
  refine zI ⟨⟨i + 1, H, by omega, AY, BR, Aa⟩, ?_⟩
  rw [H.ev (j := 12) rfl, H0.ev (j := 12) rfl]
  simp only [intOf]
  omega
 ·
  obtain rfl : i = out.length := by omega
  rw [List.take_length] at H0 H
  exact zC (zD (kV H (By U3 (H.e R) (H.e R) dF) R λ a H => zA (zB (zC (zG H R (wp_exit (AJ (AJ (BD (zB (zC (zD (kR 2 H R λ a H => zA (zB (zF (Ag H R R ⟨⟨by rw [HO.out], BR⟩, Aa⟩))))))))))))))))
def uJ (W : World) (b : Nat) (l : List B8) (bad : Bool) (s : Nat) (Ax : Option Addr) (cx : Nat) (out : List B8) (a : Act) (w : World) : Prop :=
 ∃ i : Nat, Kn a 27 [(5, .slice Ax out.length cx), (6, J (E0 (out.take i) : Nat)), (7, J (i : Nat))] ∧ i ≤ out.length ∧ B9 w (.slice Ax out.length cx) out ∧ Rd w b 123 (RA l bad s) (Ta l bad s) ∧ W.grownBy w (some b)
theorem Qj (w : World) (b s : Nat) (l : List B8) (bad : Bool) (q : Int) (hq : q = (s : Int)) (BR : Rd w b 123 l bad) (hl : l.length ≤ 1000000) (h1 : 1 ≤ s) (h7 : s ≤ 7) :
  Calls Tryz.prog 75 #[.pointer (some ⟨b, 0, none⟩), J q] w fun e w' => (e = .returned (J (E0 (GZ l bad s) : Nat)) ∧ Rd w' b 123 (RA l bad s) (Ta l bad s)) ∧ w.grownBy w' (some b) := by
 subst hq
 have Aa := E2 w (some b)
 refine Az 27 Tryz.func75 R R λ a H => zC (zD (kR 1 H R λ a H => zA (zB (zC (zD (kR 2 H R λ a H => kC 0 (Oz s s _ R h1 h7) (Av bF (H.e R)) H R fun w9 a hb H => ?_))))))
 replace BR := Rd.up BR hb; replace Aa := CA Aa hb; clear hb
 refine A8 _ _ _ (U1 _ b s l bad _ R BR hl) (AA eN (H.e R) (H.e R)) ?_; rintro e w9 ⟨⟨v, rfl, AY, Fo⟩, hg⟩; refine ⟨_, R, ?_⟩; clear BR; have BR := Fo; clear Fo; replace Aa := EP Aa hg; clear hg; obtain ⟨out, EX⟩ : ∃ out, GZ l bad s = out := ⟨_, rfl⟩; have QU : out.length ≤ s := (by rw [← EX]; exact EU _ _ _); rw [EX] at AY; have HO := Lib.hid EX; clear EX; obtain ⟨Ax, cx, hv⟩ := ER AY; subst hv; refine kL 1 H R λ a H => zA (zB (zC (zD (kR 1 H R λ a H => zA (zB (zC (zC (zD (kR 1 H R λ a H => zA (zB (wp_block (wp_loop (uJ w b l bad s Ax cx out) (fun a _ => out.length - (intOf (a.eval (.tmp 7))).toNat) ⟨0, H.pick [5, 6, 7], by omega, AY, BR, Aa⟩ ?_))))))))))))
 clear H Aa AY BR
 rintro a w' ⟨i, H, hi, AY, BR, Aa⟩
 have H0 := H
 by_cases CM : i < out.length
 ·
  obtain ⟨x0, o, Ze⟩ := G4 AY (by omega)
  subst Ze
  obtain ⟨y, hy⟩ : ∃ y, out[i]? = some y := ⟨_, List.getElem?_eq_getElem CM⟩
  have HY := Lib.hid hy
  clear hy
  obtain ⟨N, hN⟩ : ∃ N, E0 (out.take i) = N := ⟨_, rfl⟩
  have hNb : N < 281474976710656 := by rw [← hN]; exact K1 (by rw [List.length_take]; omega)
  have yX := y.isLt
  rw [hN] at H
  have HN := Lib.hid hN
  clear hN
  refine zC (zC (zD (kR 2 H R λ a H => kV H (Ba CO (H.e R)) R λ a H => kV H (By U3 (H.e R) (H.e R) dT) R λ a H => zA (zB (zH H R (zE (zB (zC (wp_block (zD (kR 1 H R λ a H => kX 2 (v := J (256 * N : Nat)) H (H8 (r := ((256 * N : Nat) : Int)) U3 Am (H.e R) (by omega) (by omega)) R λ a H => kV H (Bq (j := i) (q := o + i) CO s5 (H.e R) (H.e R) (by omega) (by omega)) R λ a H => kV H (Ai U5 R (H.e R) (Ew AY HY.out (by omega))) R λ a H => kV H (Ts U5 U3 (H.e R)) R λ a H => kX 1 (v := J (256 * N + y.toNat : Nat)) H (Bm (q := ((256 * N + y.toNat : Nat) : Int)) U3 (H.e R) (H.e R)) R λ a H => zA (AC (zB (zD (kR 1 H R λ a H => kX 1 H (Bm (q := ((i + 1 : Nat) : Int)) U3 (H.e R) Am) R λ a H => zA ?_)))))))))))))))
  replace H := H.pick [5, 6, 7]
  rw [Oc HY.out HN.out] at H
  refine zI ⟨⟨i + 1, H, by omega, AY, BR, Aa⟩, ?_⟩
  rw [H.ev (j := 7) rfl, H0.ev (j := 7) rfl]
  simp only [intOf]
  omega
 ·
  obtain rfl : i = out.length := by omega
  rw [List.take_length] at H0 H
  exact zC (zC (zD (kR 2 H R λ a H => kV H (Ba CO (H.e R)) R λ a H => kV H (By U3 (H.e R) (H.e R) dF) R λ a H => zA (zB (zG H R (wp_exit (AJ (AJ (BD (zB (zC (zD (kR 2 H R λ a H => zA (zB (zF (Ag H R R ⟨⟨by rw [HO.out], BR⟩, Aa⟩))))))))))))))))
theorem E8 (w : World) (b : Nat) (l : List B8) (bad : Bool) (BR : Rd w b 116 l bad) :
  Calls Tryz.prog 67 #[.pointer (some ⟨b, 0, none⟩)] w fun e w' => e = .returned (.bool (!bad && decide (l.length = 0))) ∧ Below w.heap.size w w' := by
 obtain ⟨A, c, kr, AY, KQ⟩ := BR
 cases bad with
 | true =>
  have Aa := Below.refl w.heap.size w
  exact Az 16 Tryz.func67 R R λ a H => zC (zD (kR 1 H R λ a H => zA (zB (zC (zD (kR 3 H R λ a H => kV H (Ai U4 R (H.e R) ((Ad.cell kr 1).trans R)) R λ a H => kX 9 H (Bs (H.e R) R) R λ a H => zA (zB (zF (Ag H R R ⟨by simp, Aa⟩)))))))))
 | false =>
  by_cases hz : l.length = 0
  ·
   have Aa := Below.refl w.heap.size w
   exact Az 16 Tryz.func67 R R λ a H => zC (zD (kR 1 H R λ a H => zA (zB (zC (zD (kR 3 H R λ a H => kV H (Ai U4 R (H.e R) ((Ad.cell kr 1).trans R)) R λ a H => kX 4 H (Bs (H.e R) R) R λ a H => kW H R (Ai CO R (H.e R) ((Ad.cell kr 0).trans R)) R λ a H => kW H R (Ba CO (H.e R)) R λ a H => kY 2 H R (A9 U3 (H.e R) Am dT) R λ a H => zA (zB (zF (Ag H R R ⟨by simp [hz], Aa⟩)))))))))
  ·
   have Aa := Below.refl w.heap.size w
   exact Az 16 Tryz.func67 R R λ a H => zC (zD (kR 1 H R λ a H => zA (zB (zC (zD (kR 3 H R λ a H => kV H (Ai U4 R (H.e R) ((Ad.cell kr 1).trans R)) R λ a H => kX 4 H (Bs (H.e R) R) R λ a H => kW H R (Ai CO R (H.e R) ((Ad.cell kr 0).trans R)) R λ a H => kW H R (Ba CO (H.e R)) R λ a H => kY 2 H R (A9 U3 (H.e R) Am dF) R λ a H => zA (zB (zF (Ag H R R ⟨by simp [hz], Aa⟩)))))))))
theorem Lg (w : World) (b : Nat) (l : List B8) (bad : Bool) (BR : Rd w b 123 l bad) :
  Calls Tryz.prog 78 #[.pointer (some ⟨b, 0, none⟩)] w fun e w' => e = .returned (.bool (!bad && decide (l.length = 0))) ∧ Below w.heap.size w w' := by
 obtain ⟨A, c, kr, AY, KQ⟩ := BR
 cases bad with
 | true =>
  have Aa := Below.refl w.heap.size w
  exact Az 16 Tryz.func78 R R λ a H => zC (zD (kR 1 H R λ a H => zA (zB (zC (zD (kR 3 H R λ a H => kV H (Ai U4 R (H.e R) ((Ad.cell kr 1).trans R)) R λ a H => kX 9 H (Bs (H.e R) R) R λ a H => zA (zB (zF (Ag H R R ⟨by simp, Aa⟩)))))))))
 | false =>
  by_cases hz : l.length = 0
  ·
   have Aa := Below.refl w.heap.size w
   exact Az 16 Tryz.func78 R R λ a H => zC (zD (kR 1 H R λ a H => zA (zB (zC (zD (kR 3 H R λ a H => kV H (Ai U4 R (H.e R) ((Ad.cell kr 1).trans R)) R λ a H => kX 4 H (Bs (H.e R) R) R λ a H => kW H R (Ai CO R (H.e R) ((Ad.cell kr 0).trans R)) R λ a H => kW H R (Ba CO (H.e R)) R λ a H => kY 2 H R (A9 U3 (H.e R) Am dT) R λ a H => zA (zB (zF (Ag H R R ⟨by simp [hz], Aa⟩)))))))))
  ·
   have Aa := Below.refl w.heap.size w
   exact Az 16 Tryz.func78 R R λ a H => zC (zD (kR 1 H R λ a H => zA (zB (zC (zD (kR 3 H R λ a H => kV H (Ai U4 R (H.e R) ((Ad.cell kr 1).trans R)) R λ a H => kX 4 H (Bs (H.e R) R) R λ a H => kW H R (Ai CO R (H.e R) ((Ad.cell kr 0).trans R)) R λ a H => kW H R (Ba CO (H.e R)) R λ a H => kY 2 H R (A9 U3 (H.e R) Am dF) R λ a H => zA (zB (zF (Ag H R R ⟨by simp [hz], Aa⟩)))))))))
end
/-- a slot: the function that finds it, its size, what it may be -/
def Lp (s : Nat × Nat × Nat × Nat) : List Value := [.func (.func s.1) #[] #[], J (s.2.1 : Nat), J (s.2.2.1 : Nat), J (s.2.2.2 : Nat)]
def AH (k : Int) : List (Nat × Nat × Nat × Nat) :=
 if k = 1 then [(98, 4, 0, 1073741824)] else
 if k = 2 then [(98, 4, 0, 1073741824), (99, 4, 0, 1073741824)] else
 if k = 3 then [(101, 1, 1, 16), (98, 4, 0, 1073741824), (99, 4, 0, 1073741824)] else
 if k = 4 then [(96, 4, 1, 1073741824), (98, 4, 0, 1073741824)] else
 if k = 5 then [(96, 4, 1, 1073741824), (97, 4, 1, 1073741824)] else
 if k = 10 then [(96, 4, 1, 1073741824), (97, 4, 1, 1073741824)] else
 if k = 6 then [(96, 4, 1, 1073741824), (97, 4, 1, 1073741824), (102, 1, 1, 3)] else
 if k = 7 then [(96, 4, 1, 1073741824), (97, 4, 1, 1073741824), (100, 1, 1, 7), (101, 1, 1, 16)] else
 if k = 8 then [(96, 4, 1, 1073741824), (97, 4, 1, 1073741824), (101, 1, 0, 16), (103, 4, 0, 1073741824), (102, 1, 0, 3), (104, 1, 0, 4)] else
 if k = 9 then [(96, 4, 1, 1073741824), (105, 4, 0, 1073741824), (106, 1, 0, 255)] else
 if k = 11 then [(96, 4, 1, 1073741824), (97, 4, 1, 1073741824), (100, 1, 0, 15)] else
 if k = 12 then [(98, 4, 0, 1073741824), (100, 1, 0, 15)] else
 []
theorem M0 {k : Int} (h1 : ¬ k = 1) (h2 : ¬ k = 2) (h3 : ¬ k = 3) (h4 : ¬ k = 4) (h5 : ¬ k = 5) (Nc : ¬ k = 10) (h6 : ¬ k = 6) (h7 : ¬ k = 7) (h8 : ¬ k = 8) (h9 : ¬ k = 9) (LV : ¬ k = 11) (Ln : ¬ k = 12) : AH k = [] := by
 unfold AH
 simp only [if_neg h1, if_neg h2, if_neg h3, if_neg h4, if_neg h5, if_neg Nc, if_neg h6, if_neg h7, if_neg h8, if_neg h9, if_neg LV, if_neg Ln]
abbrev Wj : Array Value := #[.nilFunc, J 0, J 0, J 0]
theorem Yd : (Tryz.prog.info? 91).map (·.zero) = some (some (.agg Wj)) := by kernel_rfl
theorem Ie : (Tryz.prog.info? 91).map (·.size) = some 4 := by kernel_rfl
theorem F9 {d : Option Tmp} {tt : TypeId} {ps : String} {af : Array Edge} {gd : Option (Nat × Bool)} {a : Act} {w : World} {f : FuncId} {s lo hi : Int} : (execOp a.eval ⟨d, .build 91 #[(0, .func f), (1, .const (J s)), (2, .const (J lo)), (3, .const (J hi))], tt, ps, af, gd⟩).run Tryz.prog w = .ok (.value (.agg #[.func (.func f) #[] #[], J s, J lo, J hi])) w := by
 kernel_rfl
theorem KZ (w : World) (k : Int) :
  Calls Tryz.prog 63 #[J k] w fun e w' => (∃ A, e = .returned (.slice A (AH k).length (AH k).length) ∧ BJ w' A ((AH k).flatMap Lp) ∧ ((A = none ∧ AH k = []) ∨ ∃ g, A = some ⟨g, 0, none⟩ ∧ w.heap.size ≤ g ∧ AH k ≠ [])) ∧ Below w.heap.size w w' := by
 have Aa := Below.refl w.heap.size w
 refine Az 81 Tryz.func63 R R λ a H => zC (zD (kR 1 H R λ a H => zA (zB (zC (zD (Fr (.agg #[.func (.func 96) #[] #[], J 4, J 1, J 1073741824]) F9 (kl H R λ a H => Fr (.agg #[.func (.func 97) #[] #[], J 4, J 1, J 1073741824]) F9 (kl H R λ a H => Bj 91 Wj Yd fun w0 b0 Ak hb k0 => ?_))))))))
 have g0 := Nat.le_trans Aa.size Ak; replace Aa := Aa.tr hb; clear hb; clear Ak; refine kl H rfl λ a H => Bj 91 Wj Yd fun w1 b1 Ak hb k1 => ?_
 have g1 := Nat.le_trans Aa.size Ak; have N7 : b0 < b1 := Nat.lt_of_lt_of_le k0.lt Ak; replace k0 := k0.ups hb; replace Aa := Aa.tr hb; clear hb; clear Ak; refine kl H rfl λ a H => AT 91 (.tmp 3) (.tmp 9) b0 91 #[.func (.func 96) #[] #[], J 4, J 1, J 1073741824] _ (H.ev rfl) (H.ev rfl) k0 Ie rfl (by simp [Value.oneCell']) fun w' hb ho kq => ?_
 clear k0; have k0 : Ad _ b0 91 #[.func (.func 96) #[] #[], J 4, J 1, J 1073741824] := kq; clear kq; replace k1 := Ae k1 (ho _ (by omega)); replace Aa := Aa.trans (hb _ g0); clear hb ho; refine Dz H λ a H => AT 91 (.tmp 4) (.tmp 10) b1 91 #[.func (.func 97) #[] #[], J 4, J 1, J 1073741824] _ (H.ev rfl) (H.ev rfl) k1 Ie rfl (by simp [Value.oneCell']) fun w' hb ho kq => ?_
 clear k1; have k1 : Ad _ b1 91 #[.func (.func 97) #[] #[], J 4, J 1, J 1073741824] := kq; clear kq; replace k0 := Ae k0 (ho _ (by omega)); replace Aa := Aa.trans (hb _ g1); clear hb ho; refine Dz H λ a H => zA (zB (zC (zD (Fr (.agg #[.func (.func 98) #[] #[], J 4, J 0, J 1073741824]) F9 (kl H rfl λ a H => De 91 5 (.tmp 11) #[.func (.func 98) #[] #[], J 4, J 0, J 1073741824] _ Yd Ie rfl (by simp [Value.cells, Value.oneCell']) (fun p => (H.put 5 p rfl).ev rfl) (fun p => (H.put 5 p rfl).ev rfl) fun w2 b2 Ak hb k2 => ?_)))))
 have g2 := Nat.le_trans Aa.size Ak; have Ro : b0 < b2 := Nat.lt_of_lt_of_le k0.lt Ak; have N6 : b1 < b2 := Nat.lt_of_lt_of_le k1.lt Ak; replace k0 := k0.ups hb; replace k1 := k1.ups hb; replace Aa := Aa.tr hb; clear hb; clear Ak; refine kl H rfl λ a H => zA (zB (zC (zD (Fr (.agg #[.func (.func 99) #[] #[], J 4, J 0, J 1073741824]) F9 (kl H rfl λ a H => De 91 6 (.tmp 12) #[.func (.func 99) #[] #[], J 4, J 0, J 1073741824] _ Yd Ie rfl (by simp [Value.cells, Value.oneCell']) (fun p => (H.put 6 p rfl).ev rfl) (fun p => (H.put 6 p rfl).ev rfl) fun w3 b3 Ak hb k3 => ?_)))))
 have g3 := Nat.le_trans Aa.size Ak; have jE : b0 < b3 := Nat.lt_of_lt_of_le k0.lt Ak; have jD : b1 < b3 := Nat.lt_of_lt_of_le k1.lt Ak; have jA : b2 < b3 := Nat.lt_of_lt_of_le k2.lt Ak; replace k0 := k0.ups hb; replace k1 := k1.ups hb; replace k2 := k2.ups hb; replace Aa := Aa.tr hb; clear hb; clear Ak; refine kl H rfl λ a H => zA (zB (zC (zD (Fr (.agg #[.func (.func 100) #[] #[], J 1, J 0, J 15]) F9 (kl H rfl λ a H => De 91 7 (.tmp 13) #[.func (.func 100) #[] #[], J 1, J 0, J 15] _ Yd Ie rfl (by simp [Value.cells, Value.oneCell']) (fun p => (H.put 7 p rfl).ev rfl) (fun p => (H.put 7 p rfl).ev rfl) fun w4 b4 Ak hb k4 => ?_)))))
 have g4 := Nat.le_trans Aa.size Ak; have eH : b0 < b4 := Nat.lt_of_lt_of_le k0.lt Ak; have eG : b1 < b4 := Nat.lt_of_lt_of_le k1.lt Ak; have eF : b2 < b4 := Nat.lt_of_lt_of_le k2.lt Ak; have rS : b3 < b4 := Nat.lt_of_lt_of_le k3.lt Ak; replace k0 := k0.ups hb; replace k1 := k1.ups hb; replace k2 := k2.ups hb; replace k3 := k3.ups hb; replace Aa := Aa.tr hb; clear hb; clear Ak; refine kl H rfl λ a H => zA (zB (zC (zD (Fr (.agg #[.func (.func 101) #[] #[], J 1, J 1, J 16]) F9 (kl H rfl λ a H => De 91 8 (.tmp 14) #[.func (.func 101) #[] #[], J 1, J 1, J 16] _ Yd Ie rfl (by simp [Value.cells, Value.oneCell']) (fun p => (H.put 8 p rfl).ev rfl) (fun p => (H.put 8 p rfl).ev rfl) fun w5 b5 Ak hb k5 => ?_)))))
 have g5 := Nat.le_trans Aa.size Ak; have qbe : b0 < b5 := Nat.lt_of_lt_of_le k0.lt Ak; have qa9 : b1 < b5 := Nat.lt_of_lt_of_le k1.lt Ak; have qa4 : b2 < b5 := Nat.lt_of_lt_of_le k2.lt Ak; have qaz : b3 < b5 := Nat.lt_of_lt_of_le k3.lt Ak; have qau : b4 < b5 := Nat.lt_of_lt_of_le k4.lt Ak; replace k0 := k0.ups hb; replace k1 := k1.ups hb; replace k2 := k2.ups hb; replace k3 := k3.ups hb; replace k4 := k4.ups hb; replace Aa := Aa.tr hb; clear hb; clear Ak; refine kl H rfl λ a H => zA (zB (zC (zC (zD (kR 1 H rfl λ a H => zA (zB (wp_block (zC (zD ?_)))))))))
 by_cases BE : k = 1
 ·
  refine kX 1 H (A9 U3 (H.e R) Am (AE (BE))) R λ a H => zA (zB (zH H R (zC (zD (kV H (AL (cs := [.func (.func 98) #[] #[], J 4, J 0, J 1073741824]) (H.e R) (Ar k2) (by kernel_rfl) Ie R) R λ a H => BP 87 1 #[(0, .agg #[.func (.func 98) #[] #[], J 4, J 0, J 1073741824])] 91 #[.func (.func 98) #[] #[], J 4, J 0, J 1073741824] (by simp [Am, H.ev (j := 18) R]) (fun w => by kernel_rfl) fun w6 b6 Ak hb k6 => ?_)))))
  have g6 := Nat.le_trans Aa.size Ak; have qbd : b0 < b6 := Nat.lt_of_lt_of_le k0.lt Ak; have qa8 : b1 < b6 := Nat.lt_of_lt_of_le k1.lt Ak; have qa3 : b2 < b6 := Nat.lt_of_lt_of_le k2.lt Ak; have qay : b3 < b6 := Nat.lt_of_lt_of_le k3.lt Ak; have qat : b4 < b6 := Nat.lt_of_lt_of_le k4.lt Ak; have qap : b5 < b6 := Nat.lt_of_lt_of_le k5.lt Ak; replace k0 := k0.ups hb; replace k1 := k1.ups hb; replace k2 := k2.ups hb; replace k3 := k3.ups hb; replace k4 := k4.ups hb; replace k5 := k5.ups hb; replace Aa := Aa.tr hb; clear hb; clear Ak; refine kL 1 H rfl λ a H => zA (zB (zF (AS (zJ ?_))))
  have hL : AH k = [(98, 4, 0, 1073741824)] := by rw [show k = 1 by assumption]; rfl
  exact Ag H R R ⟨⟨some ⟨b6, 0, none⟩, by rw [hL]; rfl, by rw [hL]; exact Ad.holds k6, .inr ⟨b6, R, g6, by rw [hL]; simp⟩⟩, Aa⟩
 ·
  refine kX 1 H (A9 U3 (H.e R) Am (AF (BE))) R λ a H => zA (zB (zG H R (zC (zD ?_))))
  by_cases Cn : k = 2
  ·
   refine kX 1 H (A9 U3 (H.e R) Am (AE (Cn))) R λ a H => zA (zB (zH H R (zC (zD (kV H (AL (cs := [.func (.func 98) #[] #[], J 4, J 0, J 1073741824]) (H.e R) (Ar k2) (by kernel_rfl) Ie R) R λ a H => kV H (AL (cs := [.func (.func 99) #[] #[], J 4, J 0, J 1073741824]) (H.e R) (Ar k3) (by kernel_rfl) Ie R) R λ a H => BP 87 2 #[(0, .agg #[.func (.func 98) #[] #[], J 4, J 0, J 1073741824]), (1, .agg #[.func (.func 99) #[] #[], J 4, J 0, J 1073741824])] 91 #[.func (.func 98) #[] #[], J 4, J 0, J 1073741824, .func (.func 99) #[] #[], J 4, J 0, J 1073741824] (by simp [Am, H.ev (j := 22) R, H.ev (j := 23) R]) (fun w => by kernel_rfl) fun w7 b7 Ak hb k7 => ?_)))))
   have g7 := Nat.le_trans Aa.size Ak; have qbc : b0 < b7 := Nat.lt_of_lt_of_le k0.lt Ak; have qa7 : b1 < b7 := Nat.lt_of_lt_of_le k1.lt Ak; have qa2 : b2 < b7 := Nat.lt_of_lt_of_le k2.lt Ak; have qax : b3 < b7 := Nat.lt_of_lt_of_le k3.lt Ak; have qas : b4 < b7 := Nat.lt_of_lt_of_le k4.lt Ak; have qao : b5 < b7 := Nat.lt_of_lt_of_le k5.lt Ak; replace k0 := k0.ups hb; replace k1 := k1.ups hb; replace k2 := k2.ups hb; replace k3 := k3.ups hb; replace k4 := k4.ups hb; replace k5 := k5.ups hb; replace Aa := Aa.tr hb; clear hb; clear Ak; refine kL 1 H rfl λ a H => zA (zB (zF (AS (zJ ?_))))
   have hL : AH k = [(98, 4, 0, 1073741824), (99, 4, 0, 1073741824)] := by rw [show k = 2 by assumption]; rfl
   exact Ag H R R ⟨⟨some ⟨b7, 0, none⟩, by rw [hL]; rfl, by rw [hL]; exact Ad.holds k7, .inr ⟨b7, R, g7, by rw [hL]; simp⟩⟩, Aa⟩
  ·
   refine kX 1 H (A9 U3 (H.e R) Am (AF (Cn))) R λ a H => zA (zB (zG H R (zC (zD ?_))))
   by_cases CP : k = 3
   ·
    refine kX 1 H (A9 U3 (H.e R) Am (AE (CP))) R λ a H => zA (zB (zH H R (zC (zD (kV H (AL (cs := [.func (.func 101) #[] #[], J 1, J 1, J 16]) (H.e R) (Ar k5) (by kernel_rfl) Ie R) R λ a H => kV H (AL (cs := [.func (.func 98) #[] #[], J 4, J 0, J 1073741824]) (H.e R) (Ar k2) (by kernel_rfl) Ie R) R λ a H => kV H (AL (cs := [.func (.func 99) #[] #[], J 4, J 0, J 1073741824]) (H.e R) (Ar k3) (by kernel_rfl) Ie R) R λ a H => BP 87 3 #[(0, .agg #[.func (.func 101) #[] #[], J 1, J 1, J 16]), (1, .agg #[.func (.func 98) #[] #[], J 4, J 0, J 1073741824]), (2, .agg #[.func (.func 99) #[] #[], J 4, J 0, J 1073741824])] 91 #[.func (.func 101) #[] #[], J 1, J 1, J 16, .func (.func 98) #[] #[], J 4, J 0, J 1073741824, .func (.func 99) #[] #[], J 4, J 0, J 1073741824] (by simp [Am, H.ev (j := 27) R, H.ev (j := 28) R, H.ev (j := 29) R]) (fun w => by kernel_rfl) fun w8 b8 Ak hb k8 => ?_)))))
    have g8 := Nat.le_trans Aa.size Ak; have qbb : b0 < b8 := Nat.lt_of_lt_of_le k0.lt Ak; have qa6 : b1 < b8 := Nat.lt_of_lt_of_le k1.lt Ak; have qa1 : b2 < b8 := Nat.lt_of_lt_of_le k2.lt Ak; have qaw : b3 < b8 := Nat.lt_of_lt_of_le k3.lt Ak; have qar : b4 < b8 := Nat.lt_of_lt_of_le k4.lt Ak; have qan : b5 < b8 := Nat.lt_of_lt_of_le k5.lt Ak; replace k0 := k0.ups hb; replace k1 := k1.ups hb; replace k2 := k2.ups hb; replace k3 := k3.ups hb; replace k4 := k4.ups hb; replace k5 := k5.ups hb; replace Aa := Aa.tr hb; clear hb; clear Ak; refine kL 1 H rfl λ a H => zA (zB (zF (AS (zJ ?_))))
    have hL : AH k = [(101, 1, 1, 16), (98, 4, 0, 1073741824), (99, 4, 0, 1073741824)] := by rw [show k = 3 by assumption]; rfl
    exact Ag H R R ⟨⟨some ⟨b8, 0, none⟩, by rw [hL]; rfl, by rw [hL]; exact Ad.holds k8, .inr ⟨b8, R, g8, by rw [hL]; simp⟩⟩, Aa⟩
   ·
    refine kX 1 H (A9 U3 (H.e R) Am (AF (CP))) R λ a H => zA (zB (zG H R (zC (zD ?_))))
    by_cases DJ : k = 4
    ·
     refine kX 1 H (A9 U3 (H.e R) Am (AE (DJ))) R λ a H => zA (zB (zH H R (zC (zD (kV H (AL (cs := [.func (.func 96) #[] #[], J 4, J 1, J 1073741824]) (H.e R) (Ar k0) (by kernel_rfl) Ie R) R λ a H => kV H (AL (cs := [.func (.func 98) #[] #[], J 4, J 0, J 1073741824]) (H.e R) (Ar k2) (by kernel_rfl) Ie R) R λ a H => BP 87 2 #[(0, .agg #[.func (.func 96) #[] #[], J 4, J 1, J 1073741824]), (1, .agg #[.func (.func 98) #[] #[], J 4, J 0, J 1073741824])] 91 #[.func (.func 96) #[] #[], J 4, J 1, J 1073741824, .func (.func 98) #[] #[], J 4, J 0, J 1073741824] (by simp [Am, H.ev (j := 33) R, H.ev (j := 34) R]) (fun w => by kernel_rfl) fun w9 b9 Ak hb k9 => ?_)))))
     have g9 := Nat.le_trans Aa.size Ak; have qba : b0 < b9 := Nat.lt_of_lt_of_le k0.lt Ak; have qa5 : b1 < b9 := Nat.lt_of_lt_of_le k1.lt Ak; have qa0 : b2 < b9 := Nat.lt_of_lt_of_le k2.lt Ak; have qav : b3 < b9 := Nat.lt_of_lt_of_le k3.lt Ak; have qaq : b4 < b9 := Nat.lt_of_lt_of_le k4.lt Ak; have qam : b5 < b9 := Nat.lt_of_lt_of_le k5.lt Ak; replace k0 := k0.ups hb; replace k1 := k1.ups hb; replace k2 := k2.ups hb; replace k3 := k3.ups hb; replace k4 := k4.ups hb; replace k5 := k5.ups hb; replace Aa := Aa.tr hb; clear hb; clear Ak; refine kL 1 H rfl λ a H => zA (zB (zF (AS (zJ ?_))))
     have hL : AH k = [(96, 4, 1, 1073741824), (98, 4, 0, 1073741824)] := by rw [show k = 4 by assumption]; rfl
     exact Ag H R R ⟨⟨some ⟨b9, 0, none⟩, by rw [hL]; rfl, by rw [hL]; exact Ad.holds k9, .inr ⟨b9, R, g9, by rw [hL]; simp⟩⟩, Aa⟩
    ·
     refine kX 1 H (A9 U3 (H.e R) Am (AF (DJ))) R λ a H => zA (zB (zG H R (zC (zC (zD ?_)))))
     by_cases Em : k = 5
     ·
      refine kX 1 H (A9 U3 (H.e R) Am (AE (Em))) R λ a H => zA (zB (zH H R (zE (zB (zH H R (zC (zD (kV H (AL (cs := [.func (.func 96) #[] #[], J 4, J 1, J 1073741824]) (H.e R) (Ar k0) (by kernel_rfl) Ie R) R λ a H => kV H (AL (cs := [.func (.func 97) #[] #[], J 4, J 1, J 1073741824]) (H.e R) (Ar k1) (by kernel_rfl) Ie R) R λ a H => BP 87 2 #[(0, .agg #[.func (.func 96) #[] #[], J 4, J 1, J 1073741824]), (1, .agg #[.func (.func 97) #[] #[], J 4, J 1, J 1073741824])] 91 #[.func (.func 96) #[] #[], J 4, J 1, J 1073741824, .func (.func 97) #[] #[], J 4, J 1, J 1073741824] (by simp [Am, H.ev (j := 39) R, H.ev (j := 40) R]) (fun w => by kernel_rfl) fun w10 b10 Ak hb FH => ?_))))))))
      have iG := Nat.le_trans Aa.size Ak; have jI : b0 < b10 := Nat.lt_of_lt_of_le k0.lt Ak; have xG : b1 < b10 := Nat.lt_of_lt_of_le k1.lt Ak; have jC : b2 < b10 := Nat.lt_of_lt_of_le k2.lt Ak; have wS : b3 < b10 := Nat.lt_of_lt_of_le k3.lt Ak; have wK : b4 < b10 := Nat.lt_of_lt_of_le k4.lt Ak; have wC : b5 < b10 := Nat.lt_of_lt_of_le k5.lt Ak; replace k0 := k0.ups hb; replace k1 := k1.ups hb; replace k2 := k2.ups hb; replace k3 := k3.ups hb; replace k4 := k4.ups hb; replace k5 := k5.ups hb; replace Aa := Aa.tr hb; clear hb; clear Ak; refine kL 1 H rfl λ a H => zA (zB (zF (AS (zJ ?_))))
      have hL : AH k = [(96, 4, 1, 1073741824), (97, 4, 1, 1073741824)] := by rw [show k = 5 by assumption]; rfl
      exact Ag H R R ⟨⟨some ⟨b10, 0, none⟩, by rw [hL]; rfl, by rw [hL]; exact Ad.holds FH, .inr ⟨b10, R, iG, by rw [hL]; simp⟩⟩, Aa⟩
     ·
      refine kX 1 H (A9 U3 (H.e R) Am (AF (Em))) R λ a H => zA (zB (zG H R (zD ?_)))
      by_cases Fg : k = 10
      ·
       refine kX 1 H (A9 U3 (H.e R) Am (AE (Fg))) R λ a H => zA (zB (zH H R (zC (zD (kV H (AL (cs := [.func (.func 96) #[] #[], J 4, J 1, J 1073741824]) (H.e R) (Ar k0) (by kernel_rfl) Ie R) R λ a H => kV H (AL (cs := [.func (.func 97) #[] #[], J 4, J 1, J 1073741824]) (H.e R) (Ar k1) (by kernel_rfl) Ie R) R λ a H => BP 87 2 #[(0, .agg #[.func (.func 96) #[] #[], J 4, J 1, J 1073741824]), (1, .agg #[.func (.func 97) #[] #[], J 4, J 1, J 1073741824])] 91 #[.func (.func 96) #[] #[], J 4, J 1, J 1073741824, .func (.func 97) #[] #[], J 4, J 1, J 1073741824] (by simp [Am, H.ev (j := 39) R, H.ev (j := 40) R]) (fun w => by kernel_rfl) fun w11 b11 Ak hb Gq => ?_)))))
       have mW := Nat.le_trans Aa.size Ak; have xM : b0 < b11 := Nat.lt_of_lt_of_le k0.lt Ak; have xF : b1 < b11 := Nat.lt_of_lt_of_le k1.lt Ak; have jB : b2 < b11 := Nat.lt_of_lt_of_le k2.lt Ak; have wR : b3 < b11 := Nat.lt_of_lt_of_le k3.lt Ak; have wJ : b4 < b11 := Nat.lt_of_lt_of_le k4.lt Ak; have wB : b5 < b11 := Nat.lt_of_lt_of_le k5.lt Ak; replace k0 := k0.ups hb; replace k1 := k1.ups hb; replace k2 := k2.ups hb; replace k3 := k3.ups hb; replace k4 := k4.ups hb; replace k5 := k5.ups hb; replace Aa := Aa.tr hb; clear hb; clear Ak; refine kL 1 H rfl λ a H => zA (zB (zF (AS (zJ ?_))))
       have hL : AH k = [(96, 4, 1, 1073741824), (97, 4, 1, 1073741824)] := by rw [show k = 10 by assumption]; rfl
       exact Ag H R R ⟨⟨some ⟨b11, 0, none⟩, by rw [hL]; rfl, by rw [hL]; exact Ad.holds Gq, .inr ⟨b11, R, mW, by rw [hL]; simp⟩⟩, Aa⟩
      ·
       refine kX 1 H (A9 U3 (H.e R) Am (AF (Fg))) R λ a H => zA (zB (zG H R (zC (zD ?_))))
       by_cases F3 : k = 6
       ·
        refine kX 1 H (A9 U3 (H.e R) Am (AE (F3))) R λ a H => zA (zB (zH H R (zC (zD (kV H (AL (cs := [.func (.func 96) #[] #[], J 4, J 1, J 1073741824]) (H.e R) (Ar k0) (by kernel_rfl) Ie R) R λ a H => kV H (AL (cs := [.func (.func 97) #[] #[], J 4, J 1, J 1073741824]) (H.e R) (Ar k1) (by kernel_rfl) Ie R) R λ a H => Fr (.agg #[.func (.func 102) #[] #[], J 1, J 1, J 3]) F9 (kl H R λ a H => BP 87 3 #[(0, .agg #[.func (.func 96) #[] #[], J 4, J 1, J 1073741824]), (1, .agg #[.func (.func 97) #[] #[], J 4, J 1, J 1073741824]), (2, .agg #[.func (.func 102) #[] #[], J 1, J 1, J 3])] 91 #[.func (.func 96) #[] #[], J 4, J 1, J 1073741824, .func (.func 97) #[] #[], J 4, J 1, J 1073741824, .func (.func 102) #[] #[], J 1, J 1, J 3] (by simp [Am, H.ev (j := 44) R, H.ev (j := 45) R, H.ev (j := 46) R]) (fun w => by kernel_rfl) fun w12 b12 Ak hb HG => ?_))))))
        have mV := Nat.le_trans Aa.size Ak; have jH : b0 < b12 := Nat.lt_of_lt_of_le k0.lt Ak; have xE : b1 < b12 := Nat.lt_of_lt_of_le k1.lt Ak; have wY : b2 < b12 := Nat.lt_of_lt_of_le k2.lt Ak; have wQ : b3 < b12 := Nat.lt_of_lt_of_le k3.lt Ak; have wI : b4 < b12 := Nat.lt_of_lt_of_le k4.lt Ak; have wA : b5 < b12 := Nat.lt_of_lt_of_le k5.lt Ak; replace k0 := k0.ups hb; replace k1 := k1.ups hb; replace k2 := k2.ups hb; replace k3 := k3.ups hb; replace k4 := k4.ups hb; replace k5 := k5.ups hb; replace Aa := Aa.tr hb; clear hb; clear Ak; refine kL 1 H rfl λ a H => zA (zB (zF (AS (zJ ?_))))
        have hL : AH k = [(96, 4, 1, 1073741824), (97, 4, 1, 1073741824), (102, 1, 1, 3)] := by rw [show k = 6 by assumption]; rfl
        exact Ag H R R ⟨⟨some ⟨b12, 0, none⟩, by rw [hL]; rfl, by rw [hL]; exact Ad.holds HG, .inr ⟨b12, R, mV, by rw [hL]; simp⟩⟩, Aa⟩
       ·
        refine kX 1 H (A9 U3 (H.e R) Am (AF (F3))) R λ a H => zA (zB (zG H R (zC (zD ?_))))
        by_cases FR : k = 7
        ·
         refine kX 1 H (A9 U3 (H.e R) Am (AE (FR))) R λ a H => zA (zB (zH H R (zC (zD (kV H (AL (cs := [.func (.func 96) #[] #[], J 4, J 1, J 1073741824]) (H.e R) (Ar k0) (by kernel_rfl) Ie R) R λ a H => kV H (AL (cs := [.func (.func 97) #[] #[], J 4, J 1, J 1073741824]) (H.e R) (Ar k1) (by kernel_rfl) Ie R) R λ a H => Fr (.agg #[.func (.func 100) #[] #[], J 1, J 1, J 7]) F9 (kl H R λ a H => kV H (AL (cs := [.func (.func 101) #[] #[], J 1, J 1, J 16]) (H.e R) (Ar k5) (by kernel_rfl) Ie R) R λ a H => BP 87 4 #[(0, .agg #[.func (.func 96) #[] #[], J 4, J 1, J 1073741824]), (1, .agg #[.func (.func 97) #[] #[], J 4, J 1, J 1073741824]), (2, .agg #[.func (.func 100) #[] #[], J 1, J 1, J 7]), (3, .agg #[.func (.func 101) #[] #[], J 1, J 1, J 16])] 91 #[.func (.func 96) #[] #[], J 4, J 1, J 1073741824, .func (.func 97) #[] #[], J 4, J 1, J 1073741824, .func (.func 100) #[] #[], J 1, J 1, J 7, .func (.func 101) #[] #[], J 1, J 1, J 16] (by simp [Am, H.ev (j := 50) R, H.ev (j := 51) R, H.ev (j := 52) R, H.ev (j := 53) R]) (fun w => by kernel_rfl) fun w13 b13 Ak hb gF => ?_))))))
         have rO := Nat.le_trans Aa.size Ak; have xL : b0 < b13 := Nat.lt_of_lt_of_le k0.lt Ak; have xD : b1 < b13 := Nat.lt_of_lt_of_le k1.lt Ak; have wX : b2 < b13 := Nat.lt_of_lt_of_le k2.lt Ak; have wP : b3 < b13 := Nat.lt_of_lt_of_le k3.lt Ak; have wH : b4 < b13 := Nat.lt_of_lt_of_le k4.lt Ak; have vZ : b5 < b13 := Nat.lt_of_lt_of_le k5.lt Ak; replace k0 := k0.ups hb; replace k1 := k1.ups hb; replace k2 := k2.ups hb; replace k3 := k3.ups hb; replace k4 := k4.ups hb; replace k5 := k5.ups hb; replace Aa := Aa.tr hb; clear hb; clear Ak; refine kL 1 H rfl λ a H => zA (zB (zF (AS (zJ ?_))))
         have hL : AH k = [(96, 4, 1, 1073741824), (97, 4, 1, 1073741824), (100, 1, 1, 7), (101, 1, 1, 16)] := by rw [show k = 7 by assumption]; rfl
         exact Ag H R R ⟨⟨some ⟨b13, 0, none⟩, by rw [hL]; rfl, by rw [hL]; exact Ad.holds gF, .inr ⟨b13, R, rO, by rw [hL]; simp⟩⟩, Aa⟩
        ·
         refine kX 1 H (A9 U3 (H.e R) Am (AF (FR))) R λ a H => zA (zB (zG H R (zC (zD ?_))))
         by_cases Hm : k = 8
         ·
          refine kX 1 H (A9 U3 (H.e R) Am (AE (Hm))) R λ a H => zA (zB (zH H R (zC (zD (kV H (AL (cs := [.func (.func 96) #[] #[], J 4, J 1, J 1073741824]) (H.e R) (Ar k0) (by kernel_rfl) Ie R) R λ a H => kV H (AL (cs := [.func (.func 97) #[] #[], J 4, J 1, J 1073741824]) (H.e R) (Ar k1) (by kernel_rfl) Ie R) R λ a H => Fr (.agg #[.func (.func 101) #[] #[], J 1, J 0, J 16]) F9 (kl H R λ a H => Fr (.agg #[.func (.func 103) #[] #[], J 4, J 0, J 1073741824]) F9 (kl H R λ a H => Fr (.agg #[.func (.func 102) #[] #[], J 1, J 0, J 3]) F9 (kl H R λ a H => Fr (.agg #[.func (.func 104) #[] #[], J 1, J 0, J 4]) F9 (kl H R λ a H => BP 87 6 #[(0, .agg #[.func (.func 96) #[] #[], J 4, J 1, J 1073741824]), (1, .agg #[.func (.func 97) #[] #[], J 4, J 1, J 1073741824]), (2, .agg #[.func (.func 101) #[] #[], J 1, J 0, J 16]), (3, .agg #[.func (.func 103) #[] #[], J 4, J 0, J 1073741824]), (4, .agg #[.func (.func 102) #[] #[], J 1, J 0, J 3]), (5, .agg #[.func (.func 104) #[] #[], J 1, J 0, J 4])] 91 #[.func (.func 96) #[] #[], J 4, J 1, J 1073741824, .func (.func 97) #[] #[], J 4, J 1, J 1073741824, .func (.func 101) #[] #[], J 1, J 0, J 16, .func (.func 103) #[] #[], J 4, J 0, J 1073741824, .func (.func 102) #[] #[], J 1, J 0, J 3, .func (.func 104) #[] #[], J 1, J 0, J 4] (by simp [Am, H.ev (j := 57) R, H.ev (j := 58) R, H.ev (j := 59) R, H.ev (j := 60) R, H.ev (j := 61) R, H.ev (j := 62) R]) (fun w => by kernel_rfl) fun w14 b14 Ak hb Hr => ?_)))))))))
          have vS := Nat.le_trans Aa.size Ak; have jG : b0 < b14 := Nat.lt_of_lt_of_le k0.lt Ak; have xC : b1 < b14 := Nat.lt_of_lt_of_le k1.lt Ak; have wW : b2 < b14 := Nat.lt_of_lt_of_le k2.lt Ak; have wO : b3 < b14 := Nat.lt_of_lt_of_le k3.lt Ak; have wG : b4 < b14 := Nat.lt_of_lt_of_le k4.lt Ak; have vY : b5 < b14 := Nat.lt_of_lt_of_le k5.lt Ak; replace k0 := k0.ups hb; replace k1 := k1.ups hb; replace k2 := k2.ups hb; replace k3 := k3.ups hb; replace k4 := k4.ups hb; replace k5 := k5.ups hb; replace Aa := Aa.tr hb; clear hb; clear Ak; refine kL 1 H rfl λ a H => zA (zB (zF (AS (zJ ?_))))
          have hL : AH k = [(96, 4, 1, 1073741824), (97, 4, 1, 1073741824), (101, 1, 0, 16), (103, 4, 0, 1073741824), (102, 1, 0, 3), (104, 1, 0, 4)] := by rw [show k = 8 by assumption]; rfl
          exact Ag H R R ⟨⟨some ⟨b14, 0, none⟩, by rw [hL]; rfl, by rw [hL]; exact Ad.holds Hr, .inr ⟨b14, R, vS, by rw [hL]; simp⟩⟩, Aa⟩
         ·
          refine kX 1 H (A9 U3 (H.e R) Am (AF (Hm))) R λ a H => zA (zB (zG H R (zC (zD ?_))))
          by_cases IB : k = 9
          ·
           refine kX 1 H (A9 U3 (H.e R) Am (AE (IB))) R λ a H => zA (zB (zH H R (zC (zD (kV H (AL (cs := [.func (.func 96) #[] #[], J 4, J 1, J 1073741824]) (H.e R) (Ar k0) (by kernel_rfl) Ie R) R λ a H => Fr (.agg #[.func (.func 105) #[] #[], J 4, J 0, J 1073741824]) F9 (kl H R λ a H => Fr (.agg #[.func (.func 106) #[] #[], J 1, J 0, J 255]) F9 (kl H R λ a H => BP 87 3 #[(0, .agg #[.func (.func 96) #[] #[], J 4, J 1, J 1073741824]), (1, .agg #[.func (.func 105) #[] #[], J 4, J 0, J 1073741824]), (2, .agg #[.func (.func 106) #[] #[], J 1, J 0, J 255])] 91 #[.func (.func 96) #[] #[], J 4, J 1, J 1073741824, .func (.func 105) #[] #[], J 4, J 0, J 1073741824, .func (.func 106) #[] #[], J 1, J 0, J 255] (by simp [Am, H.ev (j := 66) R, H.ev (j := 67) R, H.ev (j := 68) R]) (fun w => by kernel_rfl) fun w15 b15 Ak hb pH => ?_)))))))
           have g15 := Nat.le_trans Aa.size Ak; have xK : b0 < b15 := Nat.lt_of_lt_of_le k0.lt Ak; have xB : b1 < b15 := Nat.lt_of_lt_of_le k1.lt Ak; have wV : b2 < b15 := Nat.lt_of_lt_of_le k2.lt Ak; have wN : b3 < b15 := Nat.lt_of_lt_of_le k3.lt Ak; have wF : b4 < b15 := Nat.lt_of_lt_of_le k4.lt Ak; have vX : b5 < b15 := Nat.lt_of_lt_of_le k5.lt Ak; replace k0 := k0.ups hb; replace k1 := k1.ups hb; replace k2 := k2.ups hb; replace k3 := k3.ups hb; replace k4 := k4.ups hb; replace k5 := k5.ups hb; replace Aa := Aa.tr hb; clear hb; clear Ak; refine kL 1 H rfl λ a H => zA (zB (zF (AS (zJ ?_))))
           have hL : AH k = [(96, 4, 1, 1073741824), (105, 4, 0, 1073741824), (106, 1, 0, 255)] := by rw [show k = 9 by assumption]; rfl
           exact Ag H R R ⟨⟨some ⟨b15, 0, none⟩, by rw [hL]; rfl, by rw [hL]; exact Ad.holds pH, .inr ⟨b15, R, g15, by rw [hL]; simp⟩⟩, Aa⟩
          ·
           refine kX 1 H (A9 U3 (H.e R) Am (AF (IB))) R λ a H => zA (zB (zG H R (zC (zD ?_))))
           by_cases FM : k = 11
           ·
            refine kX 1 H (A9 U3 (H.e R) Am (AE (FM))) R λ a H => zA (zB (zH H R (zC (zD (kV H (AL (cs := [.func (.func 96) #[] #[], J 4, J 1, J 1073741824]) (H.e R) (Ar k0) (by kernel_rfl) Ie R) R λ a H => kV H (AL (cs := [.func (.func 97) #[] #[], J 4, J 1, J 1073741824]) (H.e R) (Ar k1) (by kernel_rfl) Ie R) R λ a H => kV H (AL (cs := [.func (.func 100) #[] #[], J 1, J 0, J 15]) (H.e R) (Ar k4) (by kernel_rfl) Ie R) R λ a H => BP 87 3 #[(0, .agg #[.func (.func 96) #[] #[], J 4, J 1, J 1073741824]), (1, .agg #[.func (.func 97) #[] #[], J 4, J 1, J 1073741824]), (2, .agg #[.func (.func 100) #[] #[], J 1, J 0, J 15])] 91 #[.func (.func 96) #[] #[], J 4, J 1, J 1073741824, .func (.func 97) #[] #[], J 4, J 1, J 1073741824, .func (.func 100) #[] #[], J 1, J 0, J 15] (by simp [Am, H.ev (j := 72) R, H.ev (j := 73) R, H.ev (j := 74) R]) (fun w => by kernel_rfl) fun w16 b16 Ak hb JR => ?_)))))
            have vR := Nat.le_trans Aa.size Ak; have jF : b0 < b16 := Nat.lt_of_lt_of_le k0.lt Ak; have xA : b1 < b16 := Nat.lt_of_lt_of_le k1.lt Ak; have wU : b2 < b16 := Nat.lt_of_lt_of_le k2.lt Ak; have wM : b3 < b16 := Nat.lt_of_lt_of_le k3.lt Ak; have wE : b4 < b16 := Nat.lt_of_lt_of_le k4.lt Ak; have vW : b5 < b16 := Nat.lt_of_lt_of_le k5.lt Ak; replace k0 := k0.ups hb; replace k1 := k1.ups hb; replace k2 := k2.ups hb; replace k3 := k3.ups hb; replace k4 := k4.ups hb; replace k5 := k5.ups hb; replace Aa := Aa.tr hb; clear hb; clear Ak; refine kL 1 H rfl λ a H => zA (zB (zF (AS (zJ ?_))))
            have hL : AH k = [(96, 4, 1, 1073741824), (97, 4, 1, 1073741824), (100, 1, 0, 15)] := by rw [show k = 11 by assumption]; rfl
            exact Ag H R R ⟨⟨some ⟨b16, 0, none⟩, by rw [hL]; rfl, by rw [hL]; exact Ad.holds JR, .inr ⟨b16, R, vR, by rw [hL]; simp⟩⟩, Aa⟩
           ·
            refine kX 1 H (A9 U3 (H.e R) Am (AF (FM))) R λ a H => zA (zB (zG H R (zC (zD ?_))))
            by_cases I3 : k = 12
            ·
             refine kX 1 H (A9 U3 (H.e R) Am (AE (I3))) R λ a H => zA (zB (zH H R (zC (zD (kV H (AL (cs := [.func (.func 98) #[] #[], J 4, J 0, J 1073741824]) (H.e R) (Ar k2) (by kernel_rfl) Ie R) R λ a H => kV H (AL (cs := [.func (.func 100) #[] #[], J 1, J 0, J 15]) (H.e R) (Ar k4) (by kernel_rfl) Ie R) R λ a H => BP 87 2 #[(0, .agg #[.func (.func 98) #[] #[], J 4, J 0, J 1073741824]), (1, .agg #[.func (.func 100) #[] #[], J 1, J 0, J 15])] 91 #[.func (.func 98) #[] #[], J 4, J 0, J 1073741824, .func (.func 100) #[] #[], J 1, J 0, J 15] (by simp [Am, H.ev (j := 78) R, H.ev (j := 79) R]) (fun w => by kernel_rfl) fun w17 b17 Ak hb yW => ?_)))))
             have g17 := Nat.le_trans Aa.size Ak; have xJ : b0 < b17 := Nat.lt_of_lt_of_le k0.lt Ak; have wZ : b1 < b17 := Nat.lt_of_lt_of_le k1.lt Ak; have wT : b2 < b17 := Nat.lt_of_lt_of_le k2.lt Ak; have wL : b3 < b17 := Nat.lt_of_lt_of_le k3.lt Ak; have wD : b4 < b17 := Nat.lt_of_lt_of_le k4.lt Ak; have vV : b5 < b17 := Nat.lt_of_lt_of_le k5.lt Ak; replace k0 := k0.ups hb; replace k1 := k1.ups hb; replace k2 := k2.ups hb; replace k3 := k3.ups hb; replace k4 := k4.ups hb; replace k5 := k5.ups hb; replace Aa := Aa.tr hb; clear hb; clear Ak; refine kL 1 H rfl λ a H => zA (zB (zF (AS (zJ ?_))))
             have hL : AH k = [(98, 4, 0, 1073741824), (100, 1, 0, 15)] := by rw [show k = 12 by assumption]; rfl
             exact Ag H R R ⟨⟨some ⟨b17, 0, none⟩, by rw [hL]; rfl, by rw [hL]; exact Ad.holds yW, .inr ⟨b17, R, g17, by rw [hL]; simp⟩⟩, Aa⟩
            ·
             exact kX 1 H (A9 U3 (H.e R) Am (AF (I3))) R λ a H => zA (zB (zG H R (zE (AC (zB (zC (zD (kR 1 H R λ a H => zA (zB (zF (Ag H R R ⟨⟨none, by rw [M0 (by assumption) (by assumption) (by assumption) (by assumption) (by assumption) (by assumption) (by assumption) (by assumption) (by assumption) (by assumption) (by assumption) (by assumption)]; rfl, by rw [M0 (by assumption) (by assumption) (by assumption) (by assumption) (by assumption) (by assumption) (by assumption) (by assumption) (by assumption) (by assumption) (by assumption) (by assumption)]; exact fun j hj => by simp at hj, .inl ⟨R, M0 (by assumption) (by assumption) (by assumption) (by assumption) (by assumption) (by assumption) (by assumption) (by assumption) (by assumption) (by assumption) (by assumption) (by assumption)⟩⟩, Aa⟩)))))))))))
theorem oH : BI Tryz.prog 36 0 0 := fun b o w => by go_simp
theorem oG : BI Tryz.prog 36 1 1 := fun b o w => by go_simp
theorem oF : BI Tryz.prog 36 2 2 := fun b o w => by go_simp
theorem oE : BI Tryz.prog 36 3 3 := fun b o w => by go_simp
theorem oD : BI Tryz.prog 36 4 4 := fun b o w => by go_simp
theorem oC : BI Tryz.prog 36 5 5 := fun b o w => by go_simp
theorem oB : BI Tryz.prog 36 6 6 := fun b o w => by go_simp
theorem oA : BI Tryz.prog 36 7 7 := fun b o w => by go_simp
theorem nZ : BI Tryz.prog 36 8 8 := fun b o w => by go_simp
theorem nY : BI Tryz.prog 36 9 9 := fun b o w => by go_simp
theorem iT : BI Tryz.prog 36 10 10 := fun b o w => by go_simp
theorem iS : BI Tryz.prog 36 11 11 := fun b o w => by go_simp
theorem iR : BI Tryz.prog 36 12 12 := fun b o w => by go_simp
theorem iQ : BI Tryz.prog 36 13 28 := fun b o w => by go_simp
theorem XP (w : World) (b : Nat) : Calls Tryz.prog 96 #[.pointer (some ⟨b, 0, none⟩)] w fun e w' => e = .returned (.pointer (some ⟨b, 1, none⟩)) ∧ Below w.heap.size w w' := by
 have Aa := Below.refl w.heap.size w
 exact Az 6 Tryz.func96 R R λ a H => zC (zD (kR 1 H R λ a H => zA (zB (zC (zD (kR 4 H R λ a H => zA (zB (zF (Ag H R R ⟨R, Aa⟩)))))))))
theorem XO (w : World) (b : Nat) : Calls Tryz.prog 97 #[.pointer (some ⟨b, 0, none⟩)] w fun e w' => e = .returned (.pointer (some ⟨b, 2, none⟩)) ∧ Below w.heap.size w w' := by
 have Aa := Below.refl w.heap.size w
 exact Az 6 Tryz.func97 R R λ a H => zC (zD (kR 1 H R λ a H => zA (zB (zC (zD (kR 4 H R λ a H => zA (zB (zF (Ag H R R ⟨R, Aa⟩)))))))))
theorem XN (w : World) (b : Nat) : Calls Tryz.prog 98 #[.pointer (some ⟨b, 0, none⟩)] w fun e w' => e = .returned (.pointer (some ⟨b, 10, none⟩)) ∧ Below w.heap.size w w' := by
 have Aa := Below.refl w.heap.size w
 exact Az 6 Tryz.func98 R R λ a H => zC (zD (kR 1 H R λ a H => zA (zB (zC (zD (kR 4 H R λ a H => zA (zB (zF (Ag H R R ⟨R, Aa⟩)))))))))
theorem XM (w : World) (b : Nat) : Calls Tryz.prog 99 #[.pointer (some ⟨b, 0, none⟩)] w fun e w' => e = .returned (.pointer (some ⟨b, 11, none⟩)) ∧ Below w.heap.size w w' := by
 have Aa := Below.refl w.heap.size w
 exact Az 6 Tryz.func99 R R λ a H => zC (zD (kR 1 H R λ a H => zA (zB (zC (zD (kR 4 H R λ a H => zA (zB (zF (Ag H R R ⟨R, Aa⟩)))))))))
theorem V1 (w : World) (b : Nat) : Calls Tryz.prog 100 #[.pointer (some ⟨b, 0, none⟩)] w fun e w' => e = .returned (.pointer (some ⟨b, 4, none⟩)) ∧ Below w.heap.size w w' := by
 have Aa := Below.refl w.heap.size w
 exact Az 6 Tryz.func100 R R λ a H => zC (zD (kR 1 H R λ a H => zA (zB (zC (zD (kR 4 H R λ a H => zA (zB (zF (Ag H R R ⟨R, Aa⟩)))))))))
theorem V0 (w : World) (b : Nat) : Calls Tryz.prog 101 #[.pointer (some ⟨b, 0, none⟩)] w fun e w' => e = .returned (.pointer (some ⟨b, 3, none⟩)) ∧ Below w.heap.size w w' := by
 have Aa := Below.refl w.heap.size w
 exact Az 6 Tryz.func101 R R λ a H => zC (zD (kR 1 H R λ a H => zA (zB (zC (zD (kR 4 H R λ a H => zA (zB (zF (Ag H R R ⟨R, Aa⟩)))))))))
theorem Vz (w : World) (b : Nat) : Calls Tryz.prog 102 #[.pointer (some ⟨b, 0, none⟩)] w fun e w' => e = .returned (.pointer (some ⟨b, 5, none⟩)) ∧ Below w.heap.size w w' := by
 have Aa := Below.refl w.heap.size w
 exact Az 6 Tryz.func102 R R λ a H => zC (zD (kR 1 H R λ a H => zA (zB (zC (zD (kR 4 H R λ a H => zA (zB (zF (Ag H R R ⟨R, Aa⟩)))))))))
theorem Vy (w : World) (b : Nat) : Calls Tryz.prog 103 #[.pointer (some ⟨b, 0, none⟩)] w fun e w' => e = .returned (.pointer (some ⟨b, 7, none⟩)) ∧ Below w.heap.size w w' := by
 have Aa := Below.refl w.heap.size w
 exact Az 6 Tryz.func103 R R λ a H => zC (zD (kR 1 H R λ a H => zA (zB (zC (zD (kR 4 H R λ a H => zA (zB (zF (Ag H R R ⟨R, Aa⟩)))))))))
theorem Vx (w : World) (b : Nat) : Calls Tryz.prog 104 #[.pointer (some ⟨b, 0, none⟩)] w fun e w' => e = .returned (.pointer (some ⟨b, 6, none⟩)) ∧ Below w.heap.size w w' := by
 have Aa := Below.refl w.heap.size w
 exact Az 6 Tryz.func104 R R λ a H => zC (zD (kR 1 H R λ a H => zA (zB (zC (zD (kR 4 H R λ a H => zA (zB (zF (Ag H R R ⟨R, Aa⟩)))))))))
theorem Vw (w : World) (b : Nat) : Calls Tryz.prog 105 #[.pointer (some ⟨b, 0, none⟩)] w fun e w' => e = .returned (.pointer (some ⟨b, 8, none⟩)) ∧ Below w.heap.size w w' := by
 have Aa := Below.refl w.heap.size w
 exact Az 6 Tryz.func105 R R λ a H => zC (zD (kR 1 H R λ a H => zA (zB (zC (zD (kR 4 H R λ a H => zA (zB (zF (Ag H R R ⟨R, Aa⟩)))))))))
theorem Vv (w : World) (b : Nat) : Calls Tryz.prog 106 #[.pointer (some ⟨b, 0, none⟩)] w fun e w' => e = .returned (.pointer (some ⟨b, 9, none⟩)) ∧ Below w.heap.size w w' := by
 have Aa := Below.refl w.heap.size w
 exact Az 6 Tryz.func106 R R λ a H => zC (zD (kR 1 H R λ a H => zA (zB (zC (zD (kR 4 H R λ a H => zA (zB (zF (Ag H R R ⟨R, Aa⟩)))))))))
theorem M8 (w : World) (k : Int) : Calls Tryz.prog 64 #[J k] w fun e w' => e = .returned (.bool (decide (2 ≤ k ∧ k ≤ 4))) ∧ Below w.heap.size w w' := by
 by_cases h1 : 2 ≤ k
 ·
  by_cases h2 : k ≤ 4
  ·
   have Aa := Below.refl w.heap.size w
   exact Az 9 Tryz.func64 R R λ a H => zC (zD (kR 1 H R λ a H => zA (zB (zC (zD (kR 1 H R λ a H => kX 2 H (CV U3 (H.e R) Am dT) R λ a H => kY 2 H R (Fv U3 (H.e R) Am dT) R λ a H => zA (zB (zF (Ag H R R ⟨by simp; omega, Aa⟩)))))))))
  ·
   have Aa := Below.refl w.heap.size w
   exact Az 9 Tryz.func64 R R λ a H => zC (zD (kR 1 H R λ a H => zA (zB (zC (zD (kR 1 H R λ a H => kX 2 H (CV U3 (H.e R) Am dT) R λ a H => kY 2 H R (Fv U3 (H.e R) Am dF) R λ a H => zA (zB (zF (Ag H R R ⟨by simp; omega, Aa⟩)))))))))
 ·
  have Aa := Below.refl w.heap.size w
  exact Az 9 Tryz.func64 R R λ a H => zC (zD (kR 1 H R λ a H => zA (zB (zC (zD (kR 1 H R λ a H => kX 5 H (CV U3 (H.e R) Am dF) R λ a H => zA (zB (zF (Ag H R R ⟨by simp; omega, Aa⟩)))))))))
theorem Mt (w : World) (k : Int) : Calls Tryz.prog 66 #[J k] w fun e w' => e = .returned (.bool (decide (5 ≤ k ∧ k ≤ 11))) ∧ Below w.heap.size w w' := by
 by_cases h1 : 5 ≤ k
 ·
  by_cases h2 : k ≤ 11
  ·
   have Aa := Below.refl w.heap.size w
   exact Az 9 Tryz.func66 R R λ a H => zC (zD (kR 1 H R λ a H => zA (zB (zC (zD (kR 1 H R λ a H => kX 2 H (CV U3 (H.e R) Am dT) R λ a H => kY 2 H R (Fv U3 (H.e R) Am dT) R λ a H => zA (zB (zF (Ag H R R ⟨by simp; omega, Aa⟩)))))))))
  ·
   have Aa := Below.refl w.heap.size w
   exact Az 9 Tryz.func66 R R λ a H => zC (zD (kR 1 H R λ a H => zA (zB (zC (zD (kR 1 H R λ a H => kX 2 H (CV U3 (H.e R) Am dT) R λ a H => kY 2 H R (Fv U3 (H.e R) Am dF) R λ a H => zA (zB (zF (Ag H R R ⟨by simp; omega, Aa⟩)))))))))
 ·
  have Aa := Below.refl w.heap.size w
  exact Az 9 Tryz.func66 R R λ a H => zC (zD (kR 1 H R λ a H => zA (zB (zC (zD (kR 1 H R λ a H => kX 5 H (CV U3 (H.e R) Am dF) R λ a H => zA (zB (zF (Ag H R R ⟨by simp; omega, Aa⟩)))))))))
/-- where the slot of function f lies -/
def DW (f : Nat) : Nat := if f = 96 then 1 else if f = 97 then 2 else if f = 98 then 10 else if f = 99 then 11 else if f = 100 then 4 else if f = 101 then 3 else if f = 102 then 5 else if f = 103 then 7 else if f = 104 then 6 else if f = 105 then 8 else if f = 106 then 9 else 0
theorem P7 (w : World) (b k : Nat) {kd : Int} {s : Nat × Nat × Nat × Nat} (h : (AH kd)[k]? = some s) : Calls Tryz.prog s.1 #[.pointer (some ⟨b, 0, none⟩)] w fun e w' => e = .returned (.pointer (some ⟨b, DW s.1, none⟩)) ∧ Below w.heap.size w w' := by
 have hm : s ∈ AH kd := List.mem_of_getElem? h
 have hs : s.1 = 96 ∨ s.1 = 97 ∨ s.1 = 98 ∨ s.1 = 99 ∨ s.1 = 100 ∨ s.1 = 101 ∨ s.1 = 102 ∨ s.1 = 103 ∨ s.1 = 104 ∨ s.1 = 105 ∨ s.1 = 106 := by
  clear h
  unfold AH at hm
  by_cases h1 : kd = 1
  ·
   rw [if_pos h1] at hm
   simp only [List.mem_cons, List.not_mem_nil, or_false] at hm
   rcases hm with rfl <;> simp
  rw [if_neg h1] at hm
  by_cases h2 : kd = 2
  ·
   rw [if_pos h2] at hm
   simp only [List.mem_cons, List.not_mem_nil, or_false] at hm
   rcases hm with rfl | rfl <;> simp
  rw [if_neg h2] at hm
  by_cases h3 : kd = 3
  ·
   rw [if_pos h3] at hm
   simp only [List.mem_cons, List.not_mem_nil, or_false] at hm
   rcases hm with rfl | rfl | rfl <;> simp
  rw [if_neg h3] at hm
  by_cases h4 : kd = 4
  ·
   rw [if_pos h4] at hm
   simp only [List.mem_cons, List.not_mem_nil, or_false] at hm
   rcases hm with rfl | rfl <;> simp
  rw [if_neg h4] at hm
  by_cases h5 : kd = 5
  ·
   rw [if_pos h5] at hm
   simp only [List.mem_cons, List.not_mem_nil, or_false] at hm
   rcases hm with rfl | rfl <;> simp
  rw [if_neg h5] at hm
  by_cases Nc : kd = 10
  ·
   rw [if_pos Nc] at hm
   simp only [List.mem_cons, List.not_mem_nil, or_false] at hm
   rcases hm with rfl | rfl <;> simp
  rw [if_neg Nc] at hm
  by_cases h6 : kd = 6
  ·
   rw [if_pos h6] at hm
   simp only [List.mem_cons, List.not_mem_nil, or_false] at hm
   rcases hm with rfl | rfl | rfl <;> simp
  rw [if_neg h6] at hm
  by_cases h7 : kd = 7
  ·
   rw [if_pos h7] at hm
   simp only [List.mem_cons, List.not_mem_nil, or_false] at hm
   rcases hm with rfl | rfl | rfl | rfl <;> simp
  rw [if_neg h7] at hm
  by_cases h8 : kd = 8
  ·
   rw [if_pos h8] at hm
   simp only [List.mem_cons, List.not_mem_nil, or_false] at hm
   rcases hm with rfl | rfl | rfl | rfl | rfl | rfl <;> simp
  rw [if_neg h8] at hm
  by_cases h9 : kd = 9
  ·
   rw [if_pos h9] at hm
   simp only [List.mem_cons, List.not_mem_nil, or_false] at hm
   rcases hm with rfl | rfl | rfl <;> simp
  rw [if_neg h9] at hm
  by_cases LV : kd = 11
  ·
   rw [if_pos LV] at hm
   simp only [List.mem_cons, List.not_mem_nil, or_false] at hm
   rcases hm with rfl | rfl | rfl <;> simp
  rw [if_neg LV] at hm
  by_cases Ln : kd = 12
  ·
   rw [if_pos Ln] at hm
   simp only [List.mem_cons, List.not_mem_nil, or_false] at hm
   rcases hm with rfl | rfl <;> simp
  rw [if_neg Ln] at hm
  cases hm
 rcases hs with e | e | e | e | e | e | e | e | e | e | e <;> rw [e]
 · exact XP w b
 · exact XO w b
 · exact XN w b
 · exact XM w b
 · exact V1 w b
 · exact V0 w b
 · exact Vz w b
 · exact Vy w b
 · exact Vx w b
 · exact Vw w b
 · exact Vv w b
structure AZ where
 n : List Int
 sec : List B8
 tg : List B8
deriving DecidableEq
def AZ.ok (p : AZ) : Prop := p.n.length = 12 ∧ p.sec.length = 16 ∧ p.tg.length = 8 ∧ ∀ x ∈ p.n, -9223372036854775808 ≤ x ∧ x ≤ 9223372036854775807
def EI (p : AZ) : List Value := p.n.map (.int .i64) ++ p.sec.map u8v ++ p.tg.map u8v
abbrev pv (p : AZ) : Array Value := (EI p).toArray
def UI (p : AZ) : List Lit := p.n.map (.int .i64) ++ p.sec.map (fun x => .int .u8 (x.toNat : Int)) ++ p.tg.map (fun x => .int .u8 (x.toNat : Int))
theorem H9 {p : AZ} (h : p.ok) : (EI p).length = 36 := by
 obtain ⟨h1, h2, h3, _⟩ := h
 simp [EI, h1, h2, h3]
theorem AI {p : AZ} (h : p.ok) : (pv p).size = 36 := by simpa using H9 h
theorem uR : (Tryz.prog.info? 36).map (·.size) = some 36 := by kernel_rfl
theorem AR {p : AZ} (h : p.ok) : (Tryz.prog.info? 36).map (·.size) = some (pv p).size := by rw [AI h]; exact uR
theorem BU (p : AZ) : (pv p).all (·.oneCell') = true := by simp [EI, Value.oneCell']
theorem WY {α : Type} {l : List α} (h : l.length = 12) : ∃ a0 a1 a2 a3 a4 a5 a6 a7 a8 a9 a10 a11, l = [a0, a1, a2, a3, a4, a5, a6, a7, a8, a9, a10, a11] := by
 match l, h with
 | [a0, a1, a2, a3, a4, a5, a6, a7, a8, a9, a10, a11], _ => exact ⟨a0, a1, a2, a3, a4, a5, a6, a7, a8, a9, a10, a11, rfl⟩
theorem BV {α : Type} {l : List α} (h : l.length = 16) : ∃ s0 s1 s2 s3 s4 s5 s6 s7 s8 s9 s10 s11 s12 s13 s14 s15, l = [s0, s1, s2, s3, s4, s5, s6, s7, s8, s9, s10, s11, s12, s13, s14, s15] := by
 match l, h with
 | [s0, s1, s2, s3, s4, s5, s6, s7, s8, s9, s10, s11, s12, s13, s14, s15], _ => exact ⟨s0, s1, s2, s3, s4, s5, s6, s7, s8, s9, s10, s11, s12, s13, s14, s15, rfl⟩
theorem YO {α : Type} {l : List α} (h : l.length = 8) : ∃ t0 t1 t2 t3 t4 t5 t6 t7, l = [t0, t1, t2, t3, t4, t5, t6, t7] := by
 match l, h with
 | [t0, t1, t2, t3, t4, t5, t6, t7], _ => exact ⟨t0, t1, t2, t3, t4, t5, t6, t7, rfl⟩
theorem Fc {x : Int} (h : -9223372036854775808 ≤ x ∧ x ≤ 9223372036854775807) : (Lit.int .i64 x).wf = true := by
 simp [Lit.wf, IntKind.min, IntKind.max, IntKind.signed, IntKind.bits]
 omega
theorem fI (x : B8) : (Lit.int .u8 (x.toNat : Int)).wf = true := by
 have := x.isLt
 simp [Lit.wf, IntKind.min, IntKind.max, IntKind.signed, IntKind.bits]
 omega
theorem k3 (d : Nat) {a : Int} (h : (Lit.int .i64 a).wf = true) : Tryz.prog.keyLits (d + 1) 3 [.int .i64 a] = some [.int .i64 a] := by
 simp [Program.keyLits, U3, h]
theorem k5 (d : Nat) (x : B8) : Tryz.prog.keyLits (d + 1) 5 [u8v x] = some [.int .u8 (x.toNat : Int)] := by
 have h := fI x
 simp [Program.keyLits, U5, u8v, h]
theorem c3 : Tryz.prog.cellsOf 3 = 1 := by kernel_rfl
theorem c5 : Tryz.prog.cellsOf 5 = 1 := by kernel_rfl
theorem xO : Tryz.prog.cellsOf 33 = 16 := by kernel_rfl
theorem tT : Tryz.prog.cellsOf 34 = 8 := by kernel_rfl
theorem xN : Tryz.prog.cellsOf 36 = 36 := by kernel_rfl
theorem yV (d : Nat) (s0 s1 s2 s3 s4 s5 s6 s7 s8 s9 s10 s11 s12 s13 s14 s15 : B8) : Tryz.prog.keyLits (d + 2) 33 [u8v s0, u8v s1, u8v s2, u8v s3, u8v s4, u8v s5, u8v s6, u8v s7, u8v s8, u8v s9, u8v s10, u8v s11, u8v s12, u8v s13, u8v s14, u8v s15] = some [.int .u8 s0.toNat, .int .u8 s1.toNat, .int .u8 s2.toNat, .int .u8 s3.toNat, .int .u8 s4.toNat, .int .u8 s5.toNat, .int .u8 s6.toNat, .int .u8 s7.toNat, .int .u8 s8.toNat, .int .u8 s9.toNat, .int .u8 s10.toNat, .int .u8 s11.toNat, .int .u8 s12.toNat, .int .u8 s13.toNat, .int .u8 s14.toNat, .int .u8 s15.toNat] := by
 unfold Program.keyLits
 simp only [RG]
 simp [RG, xO, c5, show List.range 16 = [0, 1, 2, 3, 4, 5, 6, 7, 8, 9, 10, 11, 12, 13, 14, 15] from rfl, k5]
theorem uU (d : Nat) (t0 t1 t2 t3 t4 t5 t6 t7 : B8) : Tryz.prog.keyLits (d + 2) 34 [u8v t0, u8v t1, u8v t2, u8v t3, u8v t4, u8v t5, u8v t6, u8v t7] = some [.int .u8 t0.toNat, .int .u8 t1.toNat, .int .u8 t2.toNat, .int .u8 t3.toNat, .int .u8 t4.toNat, .int .u8 t5.toNat, .int .u8 t6.toNat, .int .u8 t7.toNat] := by
 unfold Program.keyLits
 simp only [XU]
 simp [XU, tT, c5, show List.range 8 = [0, 1, 2, 3, 4, 5, 6, 7] from rfl, k5]
theorem Y7 (a0 a1 a2 a3 a4 a5 a6 a7 a8 a9 a10 a11 : Int) (s0 s1 s2 s3 s4 s5 s6 s7 s8 s9 s10 s11 s12 s13 s14 s15 t0 t1 t2 t3 t4 t5 t6 t7 : B8) (ha0 : (Lit.int .i64 a0).wf = true) (ha1 : (Lit.int .i64 a1).wf = true) (ha2 : (Lit.int .i64 a2).wf = true) (ha3 : (Lit.int .i64 a3).wf = true) (ha4 : (Lit.int .i64 a4).wf = true) (ha5 : (Lit.int .i64 a5).wf = true) (ha6 : (Lit.int .i64 a6).wf = true) (ha7 : (Lit.int .i64 a7).wf = true) (ha8 : (Lit.int .i64 a8).wf = true) (ha9 : (Lit.int .i64 a9).wf = true) (rH : (Lit.int .i64 a10).wf = true) (rG : (Lit.int .i64 a11).wf = true) : Tryz.prog.keyLits 9 36 [.int .i64 a0, .int .i64 a1, .int .i64 a2, .int .i64 a3, .int .i64 a4, .int .i64 a5, .int .i64 a6, .int .i64 a7, .int .i64 a8, .int .i64 a9, .int .i64 a10, .int .i64 a11, u8v s0, u8v s1, u8v s2, u8v s3, u8v s4, u8v s5, u8v s6, u8v s7, u8v s8, u8v s9, u8v s10, u8v s11, u8v s12, u8v s13, u8v s14, u8v s15, u8v t0, u8v t1, u8v t2, u8v t3, u8v t4, u8v t5, u8v t6, u8v t7] = some [.int .i64 a0, .int .i64 a1, .int .i64 a2, .int .i64 a3, .int .i64 a4, .int .i64 a5, .int .i64 a6, .int .i64 a7, .int .i64 a8, .int .i64 a9, .int .i64 a10, .int .i64 a11, .int .u8 s0.toNat, .int .u8 s1.toNat, .int .u8 s2.toNat, .int .u8 s3.toNat, .int .u8 s4.toNat, .int .u8 s5.toNat, .int .u8 s6.toNat, .int .u8 s7.toNat, .int .u8 s8.toNat, .int .u8 s9.toNat, .int .u8 s10.toNat, .int .u8 s11.toNat, .int .u8 s12.toNat, .int .u8 s13.toNat, .int .u8 s14.toNat, .int .u8 s15.toNat, .int .u8 t0.toNat, .int .u8 t1.toNat, .int .u8 t2.toNat, .int .u8 t3.toNat, .int .u8 t4.toNat, .int .u8 t5.toNat, .int .u8 t6.toNat, .int .u8 t7.toNat] := by
 unfold Program.keyLits
 simp only [C1]
 simp [C1, xN, c3, xO, tT, yV, uU, k3 7 ha0, k3 7 ha1, k3 7 ha2, k3 7 ha3, k3 7 ha4, k3 7 ha5, k3 7 ha6, k3 7 ha7, k3 7 ha8, k3 7 ha9, k3 7 rH, k3 7 rG]
theorem Tw {p : AZ} (h : p.ok) : Tryz.prog.keyLits 9 36 (pv p).toList = some (UI p) := by
 obtain ⟨n, sec, tg⟩ := p
 obtain ⟨h1, h2, h3, h4⟩ := h
 obtain ⟨a0, a1, a2, a3, a4, a5, a6, a7, a8, a9, a10, a11, rfl⟩ := WY h1
 obtain ⟨s0, s1, s2, s3, s4, s5, s6, s7, s8, s9, s10, s11, s12, s13, s14, s15, rfl⟩ := BV h2
 obtain ⟨t0, t1, t2, t3, t4, t5, t6, t7, rfl⟩ := YO h3
 exact Y7 a0 a1 a2 a3 a4 a5 a6 a7 a8 a9 a10 a11 s0 s1 s2 s3 s4 s5 s6 s7 s8 s9 s10 s11 s12 s13 s14 s15 t0 t1 t2 t3 t4 t5 t6 t7 (Fc (h4 a0 (by simp))) (Fc (h4 a1 (by simp))) (Fc (h4 a2 (by simp))) (Fc (h4 a3 (by simp))) (Fc (h4 a4 (by simp))) (Fc (h4 a5 (by simp))) (Fc (h4 a6 (by simp))) (Fc (h4 a7 (by simp))) (Fc (h4 a8 (by simp))) (Fc (h4 a9 (by simp))) (Fc (h4 a10 (by simp))) (Fc (h4 a11 (by simp)))
theorem J5 : ∀ {l m : List B8}, l.map (fun x => Lit.int .u8 (x.toNat : Int)) = m.map (fun x => Lit.int .u8 (x.toNat : Int)) → l = m
 | [], [], _ => rfl
 | [], _ :: _, h => by simp at h
 | _ :: _, [], h => by simp at h
 | x :: l, y :: m, h => by
  simp only [List.map_cons, List.cons.injEq, Lit.int.injEq, true_and] at h
  have e : x = y := BitVec.eq_of_toNat_eq (by omega)
  rw [e, J5 h.2]
theorem QP : ∀ {l m : List Int}, l.map (Lit.int .i64) = m.map (Lit.int .i64) → l = m
 | [], [], _ => rfl
 | [], _ :: _, h => by simp at h
 | _ :: _, [], h => by simp at h
 | x :: l, y :: m, h => by
  simp only [List.map_cons, List.cons.injEq, Lit.int.injEq, true_and] at h
  rw [h.1, QP h.2]
theorem WM {p q : AZ} (hp : p.ok) (hq : q.ok) : UI p = UI q ↔ p = q := by
 refine ⟨fun h => ?_, fun h => by rw [h]⟩
 obtain ⟨n, sec, tg⟩ := p
 obtain ⟨n', sec', tg'⟩ := q
 obtain ⟨h1, h2, h3, _⟩ := hp
 obtain ⟨g1, g2, g3, _⟩ := hq
 unfold UI at h
 obtain ⟨h4, h5⟩ := List.append_inj h (by simp at *; omega)
 obtain ⟨h6, h7⟩ := List.append_inj h4 (by simp at *; omega)
 simp only at h5 h6 h7
 rw [QP h6, J5 h7, J5 h5]
theorem WN (w : World) {p q : AZ} (hp : p.ok) (hq : q.ok) : (Op.equalIn 10000 36 (.agg (pv p)) (.agg (pv q))).run Tryz.prog w = .ok (decide (p = q)) w := by
 have fp : ∀ {p : AZ}, p.ok → (Value.agg (pv p)).formed Tryz.prog 36 = true := fun {p} h => by
  have hs := AI h
  simp only [Value.formed, C1, xN, hs]
  rfl
 have hk : Tryz.prog.keyTypeAt 9 36 = true := by kernel_rfl
 have E : EqAt Tryz.prog 10000 36 := run_equalIn_deep (P := Tryz.prog) 9991 9 36 hk
 obtain ⟨r, hr, hi⟩ := E w 9 9 (.agg (pv p)) (.agg (pv q)) (UI p) (UI q) (fp hp) (fp hq) (Tw hp) (Tw hq)
 rw [hr]
 rw [WM hp hq] at hi
 have e : r = decide (p = q) := by
  by_cases h : p = q
  · rw [hi.2 h, decide_eq_true h]
  ·
   cases r with
   | true => exact absurd (hi.1 rfl) h
   | false => rw [decide_eq_false h]
 rw [e]
theorem cA {d : Option Tmp} {tt : TypeId} {ps : String} {af : Array Edge} {gd : Option (Nat × Bool)} {a : Act} {w : World} {x y : Operand} {t2 : TypeId} {p q : AZ} (hp : p.ok) (hq : q.ok) (hx : a.eval x = .agg (pv p)) (hy : a.eval y = .agg (pv q)) :
  (execOp a.eval ⟨d, .binOp .eql 36 x y t2, tt, ps, af, gd⟩).run Tryz.prog w = .ok (.value (.bool (decide (p = q)))) w := by
 have h := fun w => WN w hp hq
 have hg : Tryz.prog.eqGuardType Tryz.prog.depth 36 = false := by kernel_rfl
 unfold execOp
 simp only [hx, hy]
 go_simp
theorem OS {kd : Int} {k : Nat} {s : Nat × Nat × Nat × Nat} (h : (AH kd)[k]? = some s) : s.1 = 96 ∨ s.1 = 97 ∨ s.1 = 98 ∨ s.1 = 99 ∨ s.1 = 100 ∨ s.1 = 101 ∨ s.1 = 102 ∨ s.1 = 103 ∨ s.1 = 104 ∨ s.1 = 105 ∨ s.1 = 106 := by
  have hm : s ∈ AH kd := List.mem_of_getElem? h
  clear h
  unfold AH at hm
  by_cases h1 : kd = 1
  ·
   rw [if_pos h1] at hm
   simp only [List.mem_cons, List.not_mem_nil, or_false] at hm
   rcases hm with rfl <;> simp
  rw [if_neg h1] at hm
  by_cases h2 : kd = 2
  ·
   rw [if_pos h2] at hm
   simp only [List.mem_cons, List.not_mem_nil, or_false] at hm
   rcases hm with rfl | rfl <;> simp
  rw [if_neg h2] at hm
  by_cases h3 : kd = 3
  ·
   rw [if_pos h3] at hm
   simp only [List.mem_cons, List.not_mem_nil, or_false] at hm
   rcases hm with rfl | rfl | rfl <;> simp
  rw [if_neg h3] at hm
  by_cases h4 : kd = 4
  ·
   rw [if_pos h4] at hm
   simp only [List.mem_cons, List.not_mem_nil, or_false] at hm
   rcases hm with rfl | rfl <;> simp
  rw [if_neg h4] at hm
  by_cases h5 : kd = 5
  ·
   rw [if_pos h5] at hm
   simp only [List.mem_cons, List.not_mem_nil, or_false] at hm
   rcases hm with rfl | rfl <;> simp
  rw [if_neg h5] at hm
  by_cases Nc : kd = 10
  ·
   rw [if_pos Nc] at hm
   simp only [List.mem_cons, List.not_mem_nil, or_false] at hm
   rcases hm with rfl | rfl <;> simp
  rw [if_neg Nc] at hm
  by_cases h6 : kd = 6
  ·
   rw [if_pos h6] at hm
   simp only [List.mem_cons, List.not_mem_nil, or_false] at hm
   rcases hm with rfl | rfl | rfl <;> simp
  rw [if_neg h6] at hm
  by_cases h7 : kd = 7
  ·
   rw [if_pos h7] at hm
   simp only [List.mem_cons, List.not_mem_nil, or_false] at hm
   rcases hm with rfl | rfl | rfl | rfl <;> simp
  rw [if_neg h7] at hm
  by_cases h8 : kd = 8
  ·
   rw [if_pos h8] at hm
   simp only [List.mem_cons, List.not_mem_nil, or_false] at hm
   rcases hm with rfl | rfl | rfl | rfl | rfl | rfl <;> simp
  rw [if_neg h8] at hm
  by_cases h9 : kd = 9
  ·
   rw [if_pos h9] at hm
   simp only [List.mem_cons, List.not_mem_nil, or_false] at hm
   rcases hm with rfl | rfl | rfl <;> simp
  rw [if_neg h9] at hm
  by_cases LV : kd = 11
  ·
   rw [if_pos LV] at hm
   simp only [List.mem_cons, List.not_mem_nil, or_false] at hm
   rcases hm with rfl | rfl | rfl <;> simp
  rw [if_neg LV] at hm
  by_cases Ln : kd = 12
  ·
   rw [if_pos Ln] at hm
   simp only [List.mem_cons, List.not_mem_nil, or_false] at hm
   rcases hm with rfl | rfl <;> simp
  rw [if_neg Ln] at hm
  cases hm
theorem Nr {kd : Int} {k : Nat} {s : Nat × Nat × Nat × Nat} (h : (AH kd)[k]? = some s) : DW s.1 < 12 := by
 rcases OS h with e | e | e | e | e | e | e | e | e | e | e <;> rw [e] <;> decide
theorem P6 {kd : Int} {k : Nat} {s : Nat × Nat × Nat × Nat} (h : (AH kd)[k]? = some s) : Bu Tryz.prog s.1 := by
 rcases OS h with e | e | e | e | e | e | e | e | e | e | e <;> rw [e]
 · exact sN
 · exact sM
 · exact sL
 · exact sK
 · exact lZ
 · exact lY
 · exact lX
 · exact lW
 · exact lV
 · exact lU
 · exact lT
theorem Da {w w' : World} {A : Option Addr} {xs : List Value} (h : BJ w A xs) (hb : Below w.heap.size w w') : BJ w' A xs := h.up hb
theorem HH {w w' : World} {A : Option Addr} {b : Nat} {xs : List Value} (h : BJ w A xs) (hb : Below b w w') (hf : Fl A b) : BJ w' A xs := fun j hj => by
 obtain ⟨q, o, he, hc⟩ := h j hj
 refine ⟨q, o, he, ?_⟩
 rw [← hc]
 exact hb.cell (p := ⟨q, o + j, none⟩) (hf.lt he)
theorem WV {A : Option Addr} {n : Nat} {L : List (Nat × Nat × Nat × Nat)} (h : (A = none ∧ L = []) ∨ ∃ g, A = some ⟨g, 0, none⟩ ∧ n ≤ g ∧ L ≠ []) : A.isNone = decide (L = []) := by
 rcases h with ⟨rfl, rfl⟩ | ⟨g, rfl, _, hl⟩
 · rfl
 · simp [hl]
theorem IK {w : World} {g i : Nat} {L : List (Nat × Nat × Nat × Nat)} {s : Nat × Nat × Nat × Nat} (h : BJ w (some ⟨g, 0, none⟩) (L.flatMap Lp)) (hs : L[i]? = some s) : w.rangeAt g (0 + i * 4) (Lp s) := by
 intro j v hv
 have hj : j < 4 := by
  have := (List.getElem?_eq_some_iff.1 hv).1
  simpa [Lp] using this
 have hx : (L.flatMap Lp)[i * 4 + j]? = some v := by
  clear h
  induction L generalizing i with
  | nil => simp at hs
  | cons x L ih =>
   rw [List.flatMap_cons]
   cases i with
   | zero =>
    simp only [List.getElem?_cons_zero, Option.some.injEq] at hs
    subst hs
    rw [List.getElem?_append_left (by simp [Lp]; omega), Nat.zero_mul, Nat.zero_add]
    exact hv
   | succ i =>
    rw [List.getElem?_append_right (by simp [Lp]; omega)]
    have := ih (i := i) (by simpa using hs)
    rw [← this]
    congr 1
    simp [Lp]
    omega
 obtain ⟨hl, _⟩ := List.getElem?_eq_some_iff.1 hx
 obtain ⟨b, o, he, hc⟩ := h (i * 4 + j) hl
 injection he with he
 injection he with e1 e2
 subst e1 e2
 rw [show 0 + i * 4 + j = 0 + (i * 4 + j) by omega, hc, hx]
theorem aU {w : World} {A : Option Addr} {n : Nat} {L : List (Nat × Nat × Nat × Nat)} (h : (A = none ∧ L = []) ∨ ∃ g, A = some ⟨g, 0, none⟩ ∧ n ≤ g ∧ L ≠ []) (hh : BJ w A (L.flatMap Lp)) : Fl A w.heap.size := by
 rcases h with ⟨rfl, _⟩ | ⟨g, rfl, _, hl⟩
 · exact .inl rfl
 ·
  refine .inr ⟨g, 0, rfl, BJ.lt hh rfl ?_⟩
  cases L with
  | nil => exact absurd rfl hl
  | cons x L => simp [Lp]
theorem Py {A : Option Addr} {n i : Nat} {L : List (Nat × Nat × Nat × Nat)} {s : Nat × Nat × Nat × Nat} (h : (A = none ∧ L = []) ∨ ∃ g, A = some ⟨g, 0, none⟩ ∧ n ≤ g ∧ L ≠ []) (hs : L[i]? = some s) : ∃ g, A = some ⟨g, 0, none⟩ := by
 rcases h with ⟨_, rfl⟩ | ⟨g, h, _⟩
 · simp at hs
 · exact ⟨g, h⟩
def AZ.fld (p : AZ) (j : Nat) : Int := p.n.getD j 0
theorem AQ {p : AZ} {j : Nat} (hp : p.ok) (hj : j < 12) : p.n[j]? = some (p.fld j) := by
 have : j < p.n.length := by rw [hp.1]; exact hj
 simp [AZ.fld, List.getD_eq_getElem?_getD, List.getElem?_eq_getElem this]
theorem AB {w : World} {b j : Nat} {t : TypeId} {p : AZ} {x : Int} (h : Ad w b t (pv p)) (hx : p.n[j]? = some x) : w.cell? ⟨b, j, none⟩ = some (J x) := by
 rw [h.cell]
 obtain ⟨hj, rfl⟩ := List.getElem?_eq_some_iff.1 hx
 simp [EI, List.getElem?_append, hj]
/-- a packet's kind and the first i of its slots -/
def BH (p : AZ) (L : List (Nat × Nat × Nat × Nat)) (i : Nat) : List Int := (List.range 12).map fun j => if j = 0 ∨ (L.take i).any (fun s => DW s.1 == j) = true then p.fld j else 0
def FF (p : AZ) (L : List (Nat × Nat × Nat × Nat)) (i : Nat) : AZ := ⟨BH p L i, List.replicate 16 0, List.replicate 8 0⟩
theorem CE {p : AZ} {L : List (Nat × Nat × Nat × Nat)} {i : Nat} (hp : p.ok) : (FF p L i).ok := by
 refine ⟨by simp [FF, BH], by simp [FF], by simp [FF], fun x hx => ?_⟩
 simp only [FF, BH, List.mem_map, List.mem_range] at hx
 obtain ⟨j, hj, rfl⟩ := hx
 split
 · exact hp.2.2.2 _ (List.mem_of_getElem? (AQ hp hj))
 · omega
theorem Np (p : AZ) (L : List (Nat × Nat × Nat × Nat)) : BH p L 0 = [p.fld 0, 0, 0, 0, 0, 0, 0, 0, 0, 0, 0, 0] := by
 simp [BH, show List.range 12 = [0, 1, 2, 3, 4, 5, 6, 7, 8, 9, 10, 11] from rfl]
theorem O3 {p : AZ} {L : List (Nat × Nat × Nat × Nat)} {i : Nat} {s : Nat × Nat × Nat × Nat} (hs : L[i]? = some s) (KA : DW s.1 < 12) : C3 (pv (FF p L i)) (DW s.1) (J (p.fld (DW s.1))).cells.toList = pv (FF p L (i + 1)) := by
 show C3 (pv (FF p L i)) (DW s.1) [J (p.fld (DW s.1))] = _
 rw [FL]
 apply Array.ext'
 have hN : (BH p L i).set (DW s.1) (p.fld (DW s.1)) = BH p L (i + 1) := by
  obtain ⟨hi, Ig⟩ := List.getElem?_eq_some_iff.1 hs
  apply List.ext_getElem (by simp [BH])
  intro m h1 h2
  have hm : m < 12 := by simpa [BH] using h2
  rw [List.getElem_set]
  simp only [BH, List.getElem_map, List.getElem_range, List.take_succ_eq_append_getElem hi, List.any_append, Ig]
  by_cases e : DW s.1 = m
  · simp [e]
  ·
   have e2 : (DW s.1 == m) = false := beq_eq_false_iff_ne.2 e
   rw [if_neg e]
   by_cases h0 : m = 0 ∨ ((L.take i).any fun s => DW s.1 == m) = true
   ·
    rw [if_pos h0, if_pos]
    rcases h0 with h0 | h0
    · exact .inl h0
    · exact .inr (by rw [h0]; rfl)
   ·
    rw [if_neg h0, if_neg]
    intro hc
    apply h0
    rcases hc with hc | hc
    · exact .inl hc
    ·
     refine .inr ?_
     rcases Bool.or_eq_true_iff.1 hc with hc | hc
     · exact hc
     · exact absurd (show DW s.1 = m by simpa using hc) e
 simp only [FF, EI, List.setIfInBounds_toArray, List.toList_toArray]
 rw [← hN]
 rw [List.append_assoc, List.append_assoc, List.set_append_left _ _ (by simp [BH]; omega), ← List.map_set]
abbrev Ec : AZ := ⟨List.replicate 12 0, List.replicate 16 0, List.replicate 8 0⟩
theorem Bz : Ec.ok := ⟨rfl, rfl, rfl, fun x hx => by have := (List.mem_replicate.1 hx).2; omega⟩
theorem Jn : (Tryz.prog.info? 36).map (·.zero) = some (some (.agg (pv Ec))) := by kernel_rfl
theorem WI {d : Option Tmp} {tt : TypeId} {ps : String} {af : Array Edge} {gd : Option (Nat × Bool)} {a : Act} {w : World} {x : Operand} {p : AZ} {L : List (Nat × Nat × Nat × Nat)} (hx : a.eval x = J (p.fld 0)) :
  (execOp a.eval ⟨d, .build 36 #[(0, x)], tt, ps, af, gd⟩).run Tryz.prog w = .ok (.value (.agg (pv (FF p L 0)))) w := by
 have e : FF p L 0 = ⟨[p.fld 0, 0, 0, 0, 0, 0, 0, 0, 0, 0, 0, 0], List.replicate 16 0, List.replicate 8 0⟩ := by rw [FF, Np]
 rw [e]
 exact Bl #[(0, J (p.fld 0))] (.agg (pv ⟨[p.fld 0, 0, 0, 0, 0, 0, 0, 0, 0, 0, 0, 0], List.replicate 16 0, List.replicate 8 0⟩)) (by simp [hx]) (fun w => by kernel_rfl)
end Go.Proofs.YtbnmpoonkjlkjaaGreat
