/- Client: part H of the proof. -/
import Derived.Test.YtbnmpoonkjlkjaaGreatXG
import Derived.WalkSpells
namespace Go.Proofs.YtbnmpoonkjlkjaaGreat
open Go.RowKit
set_option linter.unusedVariables false
set_option linter.unusedSimpArgs false
set_option maxRecDepth 100000
set_option maxHeartbeats 8000000
/-- notes: user, version, status, count; items: their number, their note -/
abbrev Nt := Int × Int × Int × Int
abbrev It := Int × Nt
abbrev EM (x : Nt) : List Int := [x.1, x.2.1, x.2.2.1, x.2.2.2]
abbrev EN (x : It) : List Int := [x.1, x.2.1, x.2.2.1, x.2.2.2.1, x.2.2.2.2]
theorem Cr (x : Nt) : (EM x).length = 4 := rfl
theorem Bb (x : It) : (EN x).length = 5 := rfl
abbrev ET (w : World) (v : Value) (L : List It) : Prop := AG EN w v L
abbrev V5 (w : World) (v : Value) (L : List Nt) : Prop := AG EM w v L
abbrev D7 (w : World) (base : Nat) (v : Value) (L : List It) : Prop := BN EN 65 5 w base v L
abbrev Lw (w : World) (base : Nat) (v : Value) (L : List Nt) : Prop := BN EM 49 4 w base v L
theorem D7.row {w : World} {base : Nat} {v : Value} {L : List It} (h : D7 w base v L) : ET w v L := BN.row h Bb (by omega)
theorem Lw.row {w : World} {base : Nat} {v : Value} {L : List Nt} (h : Lw w base v L) : V5 w v L := BN.row h Cr (by omega)
abbrev cN (x : Nt) : Array Value := #[J x.1, J x.2.1, J x.2.2.1, J x.2.2.2]
theorem Wq : (Tryz.prog.info? 63).map (·.size) = some 1 := by kernel_rfl
theorem DU : (Tryz.prog.info? 70).map (·.size) = some 2 := by kernel_rfl
theorem EZ : (Tryz.prog.info? 49).map (·.size) = some 4 := by kernel_rfl
theorem FI : (Tryz.prog.info? 65).map (·.size) = some 5 := by kernel_rfl
theorem VG : (Tryz.prog.info? 70).map (·.zero) = some (some (.agg #[J 0, .slice none 0 0])) := by kernel_rfl
theorem V7 : (Tryz.prog.info? 49).map (·.zero) = some (some (.agg #[J 0, J 0, J 0, J 0])) := by kernel_rfl
theorem uN : (Tryz.prog.info? 65).map (·.zero) = some (some (.agg #[J 0, J 0, J 0, J 0, J 0])) := by kernel_rfl
theorem MU : (Tryz.prog.info? 65).map (fun i => (i.zero, i.size, i.bytes)) = some (some (.agg #[J 0, J 0, J 0, J 0, J 0]), 5, 40) := by kernel_rfl
theorem pI : (Tryz.prog.info? 49).map (fun i => (i.zero, i.size, i.bytes)) = some (some (.agg #[J 0, J 0, J 0, J 0]), 4, 32) := by kernel_rfl
theorem Ix : BI Tryz.prog 70 0 0 := fun b o w => by go_simp
theorem Dp : BI Tryz.prog 70 1 1 := fun b o w => by go_simp
theorem EL : BI Tryz.prog 65 0 0 := fun b o w => by go_simp
theorem Px : BI Tryz.prog 65 1 1 := fun b o w => by go_simp
theorem Zl : BI Tryz.prog 49 0 0 := fun b o w => by go_simp
theorem nV : BI Tryz.prog 49 1 1 := fun b o w => by go_simp
theorem NU {P : Program} {a : Act} {w : World} {d : Option Tmp} {tt : TypeId} {ps : String} {af : Array Edge} {gd : Option (Nat × Bool)} {t e t2 : TypeId} {x : Operand} {A : Option Addr} {n c : Nat} (ht : P.underlying t = some (.slice e)) (hx : a.eval x = .slice A n c) {b : Bool} (hb : A.isNone = b) :
  (execOp a.eval ⟨d, .binOp .eql t x (.const (.slice none 0 0)) t2, tt, ps, af, gd⟩).run P w = .ok (.value (.bool b)) w := by
 subst hb
 have h := Lib.run_eql_slice_nil (P := P) w t e A n c 0 0 ht
 unfold execOp
 simp only [hx]
 go_simp
theorem Q5 (w : World) (v : Value) (L : List It) (h : ET w v L) (hn : L.length ≤ 100000) :
  Calls Tryz.prog 114 #[v] w fun e w' => (∃ v', e = .returned v' ∧ D7 w' w.heap.size v' L) ∧ Below w.heap.size w w' := by
 obtain ⟨A, c, rfl, hc, hm, hA, hh⟩ := h
 cases A with
 | none =>
  obtain rfl := hA rfl
  obtain rfl : L = [] := List.eq_nil_of_length_eq_zero (by omega)
  exact Az 8 Tryz.func114 R R λ a H => zC (zD (kR 1 H R λ a H => zA (zB (zC (zC (zD (kR 1 H R λ a H => kV (v := .bool true) H (NU CL (H.e R) R) R λ a H => zA (zB (zH H R (zC (zD (kR 1 H R λ a H => zA (zB (zF (zJ (Ag H R R ⟨⟨_, R, BN.nil⟩, Below.refl _ _⟩))))))))))))))))
 | some ad =>
  refine Az 8 Tryz.func114 R R λ a H => zC (zD (kR 1 H R λ a H => zA (zB (zC (zC (zD (kR 1 H R λ a H => kV (v := .bool false) H (NU CL (H.e R) R) R λ a H => zA (zB (zG H R (zE (zB (zC (zD (BP 63 0 #[] 65 #[] (by simp) (fun w => by kernel_rfl) fun w1 bl Ak hb kk => ?_))))))))))))))
  have TG := Dk (size := 5) kk Ak; clear Ak kk; refine kL 1 H rfl λ a H => BX 63 65 (.tmp 5) (.tmp 6) _ (.agg #[J 0, J 0, J 0, J 0, J 0]) 5 40 _ 0 [] (some ad) L.length c (FV EN L) (H.ev rfl) (H.ev rfl) CL MU rfl (by omega) TG (by rw [Cu Bb]) (hh.up hb) (CI _ _) (by unfold maxLen; omega) (by omega) hb.size fun v9 w9 AU _ _ Cb => ?_
  have Ah : D7 _ _ v9 L := Jc Bb (by omega) AU rfl; have hb := hb.trans Cb; clear Cb AU TG; exact kL 1 H rfl λ a H => zA (zB (zF (Ag H rfl rfl ⟨⟨_, rfl, Ah⟩, hb⟩)))
theorem Ue (bc : Nat) (x y : It) (w : World) (hc : w.rangeAt bc 0 (IV (EN x))) :
  Calls Tryz.prog 115 #[.agg #[J y.1, J y.2.1, J y.2.2.1, J y.2.2.2.1, J y.2.2.2.2], .pointer (some ⟨bc, 0, none⟩)] w fun e w' => e = .returned (.bool (decide (y.1 = x.1))) ∧ Below w.heap.size w w' := by
 have Aa := Below.refl w.heap.size w
 refine Az 9 Tryz.func115 R R λ a H => zC (zD (B7 65 _ #[J y.1, J y.2.1, J y.2.2.1, J y.2.2.2.1, J y.2.2.2.2] (H.e R) fun w0 b0 Ak hb k0 => ?_))
 have g0 := Nat.le_trans Aa.size Ak; replace hc := BQ hc hb; replace Aa := Aa.tr hb; clear hb; clear Ak; refine kL 1 H rfl λ a H => zA (zB (zC (zD (kR 1 H rfl λ a H => kX 1 H (Ai U3 rfl (H.ev rfl) ((Ad.cell k0 0).trans rfl)) rfl λ a H => kV H (Ai U3 rfl (H.ev rfl) (Bo hc 0 rfl)) rfl λ a H => ?_))))
 by_cases BE : y.1 = x.1
 ·
  exact kX 1 H (A9 U3 (H.e R) (H.e R) (AE (BE))) R λ a H => zA (zB (zF (Ag H R R ⟨by rw [show decide (y.1 = x.1) = true from AE (by omega)], Aa⟩)))
 ·
  exact kX 1 H (A9 U3 (H.e R) (H.e R) (AF (BE))) R λ a H => zA (zB (zF (Ag H R R ⟨by rw [show decide (y.1 = x.1) = false from AF (by omega)], Aa⟩)))
theorem TY (x y : It) (w : World) (hx : 0 ≤ x.1 ∧ x.1 ≤ 2147483648) (hy : 0 ≤ y.1 ∧ y.1 ≤ 2147483648) :
  Calls Tryz.prog 119 #[.agg #[J x.1, J x.2.1, J x.2.2.1, J x.2.2.2.1, J x.2.2.2.2], .agg #[J y.1, J y.2.1, J y.2.2.1, J y.2.2.2.1, J y.2.2.2.2]] w fun e w' => e = .returned (J (x.1 - y.1)) ∧ Below w.heap.size w w' := by
 have Aa := Below.refl w.heap.size w
 refine Az 10 Tryz.func119 R R λ a H => zC (zD (B7 65 _ #[J x.1, J x.2.1, J x.2.2.1, J x.2.2.2.1, J x.2.2.2.2] (H.e R) fun w0 b0 Ak hb k0 => ?_))
 have g0 := Nat.le_trans Aa.size Ak; replace Aa := Aa.tr hb; clear hb; clear Ak; refine kl H rfl λ a H => B7 65 _ #[J y.1, J y.2.1, J y.2.2.1, J y.2.2.2.1, J y.2.2.2.2] (H.ev rfl) fun w1 b1 Ak hb k1 => ?_
 have g1 := Nat.le_trans Aa.size Ak; replace k0 := k0.ups hb; replace Aa := Aa.tr hb; clear hb; clear Ak; exact kL 1 H rfl λ a H => zA (zB (zC (zD (kR 1 H rfl λ a H => kX 1 H (Ai U3 rfl (H.ev rfl) ((Ad.cell k0 0).trans rfl)) rfl λ a H => kV H (Ai U3 rfl (H.ev rfl) ((Ad.cell k1 0).trans rfl)) rfl λ a H => kX 1 H (Dl (q := x.1 - y.1) U3 (H.ev rfl) (H.ev rfl)) rfl λ a H => zA (zB (zF (Ag H rfl rfl ⟨rfl, Aa⟩)))))))
/-- is there an item of the number q? -/
def Ge (L : List It) (q : Int) : Bool := L.any fun y => decide (y.1 = q)
def Uk (L : List It) (q : Int) (k : Nat) : Prop := ∀ j : Nat, j < k → ∀ y, L[j]? = some y → ¬ y.1 = q
theorem Sr {L : List It} {q : Int} {k : Nat} {y : It} (h : Uk L q k) (hy : L[k]? = some y) (hn : ¬ y.1 = q) : Uk L q (k + 1) := by
 intro j hj u hu
 by_cases e : j = k
 ·
  subst e
  rw [hy] at hu
  injection hu with hu
  rw [← hu]; exact hn
 · exact h j (by omega) u hu
theorem Vb {L : List It} {q : Int} {k : Nat} {y : It} (hy : L[k]? = some y) (he : y.1 = q) : (0 ≤ (k : Int)) = (Ge L q = true) := by
 have : Ge L q = true := by
  unfold Ge
  rw [List.any_eq_true]
  exact ⟨y, List.mem_of_getElem? hy, by simp [he]⟩
 rw [this]
 simp
theorem Va {L : List It} {q : Int} (h : Uk L q L.length) : (0 ≤ (-1 : Int)) = (Ge L q = true) := by
 have : Ge L q = false := by
  unfold Ge
  rw [List.any_eq_false]
  intro y hy
  obtain ⟨j, hj, rfl⟩ := List.mem_iff_getElem.1 hy
  simpa using h j hj _ (List.getElem?_eq_getElem hj)
 rw [this]
 simp
def IxI (W : World) (A : Option Addr) (c : Nat) (L : List It) (x : It) (bc : Nat) (a : Act) (w : World) : Prop :=
 ∃ k : Nat, Kn a 19 [(0, .slice A L.length c), (1, .func (.func 115) #[] #[.pointer (some ⟨bc, 0, none⟩)]), (6, .slice A L.length c), (7, J (L.length : Nat)), (8, J (k : Nat))] ∧ k ≤ L.length ∧ Uk L x.1 k ∧ w.rangeAt bc 0 (IV (EN x)) ∧ Below W.heap.size W w
theorem UR (w : World) (v : Value) (L : List It) (x : It) (bc : Nat) (h : ET w v L) (hn : L.length ≤ 9223372036854775807) (hc : w.rangeAt bc 0 (IV (EN x))) :
  Calls Tryz.prog 127 #[v, .func (.func 115) #[] #[.pointer (some ⟨bc, 0, none⟩)]] w fun e w' => (∃ k : Int, e = .returned (J k) ∧ (0 ≤ k) = (Ge L x.1 = true)) ∧ Below w.heap.size w w' := by
 obtain ⟨A, c, rfl, h1, h2, h3, hh⟩ := h
 replace hh := Lib.hid hh
 have Aa := Below.refl w.heap.size w
 refine Az 19 Tryz.func127 R R λ a H => zC (zD (kR 1 H R λ a H => zA (zB (zC (zC (zD (kR 1 H R λ a H => kX 1 H (Ba CL (H.e R)) R λ a H => zA (zB (wp_block (wp_loop (IxI w A c L x bc) (fun a _ => L.length - (intOf (a.eval (.tmp 8))).toNat) ⟨0, H.pick [0, 1, 6, 7, 8], by omega, fun j hj => by omega, hc, Aa⟩ ?_))))))))))
 clear H Aa hc
 rintro a w' ⟨k, H, hk, Cm, hc, Aa⟩
 have H0 := H
 by_cases CM : k < L.length
 ·
  obtain ⟨b, o, hA, hr⟩ := CK Bb hh.out (by omega) CM
  subst hA
  have hy : L[k]? = some L[k] := List.getElem?_eq_getElem CM
  have HY := Lib.hid hy
  have HRG := Lib.hid hr
  generalize L[k] = y at *
  clear hy hr
  by_cases he : y.1 = x.1
  ·
   refine zC (zD (kV H (By U3 (H.e R) (H.e R) dT) R λ a H => zA (zB (zC (zH H R (zE (zB (zC (wp_block (zC (zD (kR 2 H R λ a H => zA (zB (zC (zD (kR 3 H R λ a H => kV H (Bq (j := k) (q := o + k * 5) CL FI (H.e R) (H.e R) (by omega) R) R λ a H => kV H (AL (cs := [J y.1, J y.2.1, J y.2.2.1, J y.2.2.2.1, J y.2.2.2.2]) (H.e R) (BQ HRG.out Aa) (by kernel_rfl) FI R) R λ a H => A8 115 _ _ (Ue bc x y _ hc) (Tt bC (H.e R) (H.e R)) ?_))))))))))))))))
   rintro e w9 ⟨rfl, hb⟩; refine ⟨_, rfl, ?_⟩; rw [decide_eq_true he]; replace hc := BQ hc hb; replace Aa := Aa.tr hb; clear hb; exact kl H rfl λ a H => zA (zB (zH H rfl (zC (zD (kR 2 H rfl λ a H => zA (zB (zF (AS (zJ (zJ (AS (zJ (Ag H rfl rfl ⟨⟨_, rfl, Vb HY.out he⟩, Aa⟩)))))))))))))
  ·
   refine zC (zD (kV H (By U3 (H.e R) (H.e R) dT) R λ a H => zA (zB (zC (zH H R (zE (zB (zC (wp_block (zC (zD (kR 2 H R λ a H => zA (zB (zC (zD (kR 3 H R λ a H => kV H (Bq (j := k) (q := o + k * 5) CL FI (H.e R) (H.e R) (by omega) R) R λ a H => kV H (AL (cs := [J y.1, J y.2.1, J y.2.2.1, J y.2.2.2.1, J y.2.2.2.2]) (H.e R) (BQ HRG.out Aa) (by kernel_rfl) FI R) R λ a H => A8 115 _ _ (Ue bc x y _ hc) (Tt bC (H.e R) (H.e R)) ?_))))))))))))))))
   rintro e w9 ⟨rfl, hb⟩; refine ⟨_, rfl, ?_⟩; rw [decide_eq_false he]; replace hc := BQ hc hb; replace Aa := Aa.tr hb; clear hb; refine kl H rfl λ a H => zA (zB (zG H rfl (zE (AC (zB (zD (kX 1 H (Bm (q := ((k + 1 : Nat) : Int)) U3 (H.ev rfl) Am) rfl λ a H => zA (zI ⟨⟨k + 1, H.pick [0, 1, 6, 7, 8], by omega, Sr Cm HY.out he, hc, Aa⟩, ?_⟩))))))))
   rw [H.ev (j := 8) rfl, H0.ev (j := 8) rfl]
   simp only [intOf]
   omega
 ·
  obtain rfl : k = L.length := by omega
  exact zC (zD (kV H (By U3 (H.e R) (H.e R) dF) R λ a H => zA (zB (zC (zG H R (wp_exit (AJ (AJ (BD (zB (zC (zD (kR 1 H R λ a H => zA (zB (zF (Ag H R R ⟨⟨_, R, Va Cm⟩, Aa⟩))))))))))))))))
theorem KF (w : World) (v : Value) (L : List It) (x : It) (bc : Nat) (h : ET w v L) (hn : L.length ≤ 9223372036854775807) (hc : w.rangeAt bc 0 (IV (EN x))) :
  Calls Tryz.prog 117 #[v, .func (.func 115) #[] #[.pointer (some ⟨bc, 0, none⟩)]] w fun e w' => e = .returned (.bool (Ge L x.1)) ∧ Below w.heap.size w w' := by
 have Aa := Below.refl w.heap.size w
 refine Az 9 Tryz.func117 R R λ a H => zC (zD (kR 1 H R λ a H => zA (zB (zC (zD (kR 2 H R λ a H => A8 _ _ _ (UR _ _ L x bc h hn hc) (AA lM (H.e R) (H.e R)) ?_))))))
 rintro e w9 ⟨⟨k, rfl, hk⟩, hb⟩; refine ⟨_, rfl, ?_⟩; replace Aa := Aa.tr hb; clear hb; refine kl H rfl λ a H => ?_
 by_cases BE : k ≥ 0
 ·
  refine kX 1 H (CV U3 (H.e R) Am (AE (BE))) R λ a H => zA (zB (zF ?_))
  have he : Ge L x.1 = true := by rw [← hk]; omega
  exact Ag H R R ⟨by rw [he], Aa⟩
 ·
  refine kX 1 H (CV U3 (H.e R) Am (AF (BE))) R λ a H => zA (zB (zF ?_))
  have he : Ge L x.1 = false := by cases hq : Ge L x.1 with | false => rfl | true => rw [hq] at hk; have := hk.symm.mp rfl; omega
  exact Ag H R R ⟨by rw [he], Aa⟩
section
section
variable {P : Program} {d : Option Tmp} {tt : TypeId} {ps : String} {af : Array Edge} {gd : Option (Nat × Bool)} {a : Act} {w : World}
theorem Q3 {f : FuncId} (hf : Bu P f) {g x y : Operand} {vx vy : Value} {ats : Array TypeId} (hg : a.eval g = .func (.func f) #[] #[]) (hx : a.eval x = vx) (hy : a.eval y = vy) :
  (execOp a.eval ⟨d, .call { callee := .value g, args := #[x, y], argTypes := ats }, tt, ps, af, gd⟩).run P w = .ok (.enter f #[vx, vy]) w := by
 unfold execOp
 simp [resolve, invoke, hx, hy, hg, Deferred.ofValue, hf _ w]
theorem Je {n : Nat} {l : List (Nat × Value)} {fn : Func} {R : Ending → World → Prop} (H : Kn a n l) (hf : fn.results = #[]) (h : R (.returned (.tuple #[])) w) : bodyPost P fn R .ret a w :=
 ⟨H.defers, .tuple #[], by simp [results, hf], h⟩
theorem Q4 {n : Nat} {l : List (Nat × Value)} {fn : Func} {R : Ending → World → Prop} (H : Kn a n l) (hf : fn.results = #[]) (h : R (.returned (.tuple #[])) w) : bodyPost P fn R .normal a w :=
 ⟨H.defers, .tuple #[], by simp [results, hf], h⟩
end
theorem H3 : ∀ (vs : List Value) (C : Array Value) (o : Nat), o + vs.length ≤ C.size → (C3 C o vs).toList = C.toList.take o ++ vs ++ C.toList.drop (o + vs.length)
 | [], C, o, _ => by simp [C3]
 | v :: vs, C, o, h => by
  simp only [List.length_cons] at h
  rw [C3, H3 vs _ _ (by simp; omega), Array.toList_setIfInBounds]
  have e1 : (C.toList.set o v).take (o + 1) = C.toList.take o ++ [v] := by
   rw [List.take_set, List.take_succ_eq_append_getElem (by simp; omega), List.set_append_right _ _ (by simp; omega)]
   have : o - (C.toList.take o).length = 0 := by simp; omega
   rw [this]; rfl
  have e2 : (C.toList.set o v).drop (o + 1 + vs.length) = C.toList.drop (o + (vs.length + 1)) := by
   rw [List.drop_set_of_lt (by omega)]
   congr 1; omega
  rw [e1, e2]
  simp
theorem NI : ∀ (vs : List Value) (C : Array Value) (o : Nat), (C3 C o vs).size = C.size
 | [], _, _ => rfl
 | v :: vs, C, o => by rw [C3, NI vs]; simp
section
variable {α : Type} {enc : α → List Int} {k : Nat} (hk : ∀ x, (enc x).length = k) {w w' : World} {base g n c i : Nat} {e : TypeId} {M : List α}
include hk
theorem Fy {y : α} {j : Nat} (h : BN enc e k w base (.slice (some ⟨g, 0, none⟩) n c) M) (hy : M[j]? = some y) : w.rangeAt g (0 + j * k) (IV (enc y)) := by
 obtain ⟨hj, rfl⟩ := List.getElem?_eq_some_iff.1 hy
 obtain ⟨A, c', e1, hh, _, _⟩ := Et h
 injection e1 with e1 e2 e3
 subst e1
 exact Iy hk hh R hj
theorem Ky (h : BN enc e k w base (.slice (some ⟨g, 0, none⟩) n c) M) (hi : i < M.length) : base ≤ g ∧ ∃ cur, Ad w g e cur ∧ 0 + i * k + k ≤ cur.size ∧ ∀ y w', Ad w' g e (C3 cur (0 + i * k) (IV (enc y))) → BN enc e k w' base (.slice (some ⟨g, 0, none⟩) n c) (M.set i y) := by
 obtain ⟨h0, ⟨e1, h1⟩ | ⟨g', cap, cur, e1, VC, hg, hc, aL, Gu, aA⟩⟩ := h
 · cases e1
 ·
  injection e1 with e1 e2 e3
  injection e1 with e1
  injection e1 with e1
  subst e1 e2 e3
  have hle : i * k + k ≤ cur.size := by
   rw [Gu]
   have : (i + 1) * k ≤ c * k := Nat.mul_le_mul_right _ (by omega)
   rw [Nat.add_mul] at this
   omega
  refine ⟨VC, cur, hg, by omega, fun y w' hb => ?_⟩
  unfold BN
  rw [List.length_set]
  refine ⟨by rw [Cu hk, List.length_set], .inr ⟨g, c, _, R, VC, hb, hc, aL, by rw [NI]; exact Gu, ?_⟩⟩
  have hl : (IV (enc y)).length = k := by simp [IV, hk]
  have qab : i * k + k ≤ M.length * k := by
   have : (i + 1) * k ≤ M.length * k := Nat.mul_le_mul_right _ (by omega)
   rw [Nat.add_mul] at this
   omega
  rw [H3 _ _ _ (by rw [hl]; omega), hl, Nat.zero_add, List.set_eq_take_append_cons_drop, if_pos hi, G6, Ul hk, ← aA, List.take_append, List.take_append]
  have a1 : (cur.toList.take (i * k)).length = i * k := by simp; omega
  rw [List.take_of_length_le (by rw [a1]; omega), List.take_take, Nat.min_eq_left (by omega)]
  simp only [List.length_append, a1, hl]
  have a2 : FV enc (y :: M.drop (i + 1)) = IV (enc y) ++ FV enc (M.drop (i + 1)) := by simp [FV, IV, G1]
  rw [a2, PB hk, ← aA, List.append_assoc, List.take_of_length_le (l := IV (enc y)) (by rw [hl]; omega)]
  congr 2
  rw [List.drop_take, Nat.add_mul, Nat.one_mul]
end
def insI (S : List It) (x : It) : List It := S.filter (fun y => decide (¬ x.1 < y.1)) ++ x :: S.filter (fun y => decide (x.1 < y.1))
theorem KY {S : List It} (hS : S.Pairwise (fun a b => a.1 < b.1)) {i j : Nat} {y z : It} (hy : S[i]? = some y) (hz : S[j]? = some z) (h : i < j) : y.1 < z.1 := by
 obtain ⟨h1, rfl⟩ := List.getElem?_eq_some_iff.1 hy
 obtain ⟨h2, rfl⟩ := List.getElem?_eq_some_iff.1 hz
 exact List.pairwise_iff_getElem.1 hS i j h1 h2 h
theorem LE {α : Type} {p : α → Bool} : ∀ {L : List α} {k : Nat}, (∀ j y, j < k → L[j]? = some y → p y = true) → (∀ j y, k ≤ j → L[j]? = some y → p y = false) → L.filter p = L.take k
 | [], _, _, _ => by simp
 | x :: L, 0, _, h2 => by
  rw [List.take_zero, List.filter_eq_nil_iff]
  intro y hy
  obtain ⟨j, hj, rfl⟩ := List.mem_iff_getElem.1 hy
  rw [h2 j _ (by omega) (List.getElem?_eq_getElem hj)]
  simp
 | x :: L, k + 1, h1, h2 => by
  rw [List.take_succ_cons, List.filter_cons, h1 0 x (by omega) rfl, if_pos rfl, LE (k := k) (fun j y hj hy => h1 (j + 1) y (by omega) (by simpa using hy)) (fun j y hj hy => h2 (j + 1) y (by omega) (by simpa using hy))]
theorem LF {α : Type} {p : α → Bool} : ∀ {L : List α} {k : Nat}, (∀ j y, j < k → L[j]? = some y → p y = false) → (∀ j y, k ≤ j → L[j]? = some y → p y = true) → L.filter p = L.drop k
 | [], _, _, _ => by simp
 | x :: L, 0, _, h2 => by
  rw [List.drop_zero, List.filter_eq_self]
  intro y hy
  obtain ⟨j, hj, rfl⟩ := List.mem_iff_getElem.1 hy
  exact h2 j _ (by omega) (List.getElem?_eq_getElem hj)
 | x :: L, k + 1, h1, h2 => by
  rw [List.drop_succ_cons, List.filter_cons, h1 0 x (by omega) rfl, if_neg (by simp), LF (k := k) (fun j y hj hy => h1 (j + 1) y (by omega) (by simpa using hy)) (fun j y hj hy => h2 (j + 1) y (by omega) (by simpa using hy))]
theorem Nh {S : List It} {j i : Nat} {y : It} (hy : S[i]? = some y) (h : j ≤ i) : y ∈ S.drop j := by
 have : (S.drop j)[i - j]? = some y := by rw [List.getElem?_drop]; rwa [show j + (i - j) = i by omega]
 exact List.mem_of_getElem? this
theorem Po {S : List It} {x : It} {j : Nat} (hS : S.Pairwise (fun a b => a.1 < b.1)) (hj : j ≤ S.length) (h1 : ∀ y ∈ S.drop j, x.1 < y.1) (h2 : j = 0 ∨ ∃ p y, j = p + 1 ∧ S[p]? = some y ∧ ¬ x.1 < y.1) : S.take j ++ x :: S.drop j = insI S x := by
 have N5 : ∀ i y, i < j → S[i]? = some y → ¬ x.1 < y.1 := by
  intro i y hi hy
  rcases h2 with rfl | ⟨p, z, rfl, hz, hn⟩
  · omega
  ·
   by_cases e : i = p
   ·
    subst e
    rw [hy] at hz
    injection hz with hz
    rw [hz]; exact hn
   ·
    have := KY hS hy hz (by omega)
    omega
 unfold insI
 rw [LE (p := fun y => decide (¬ x.1 < y.1)) (k := j) (fun i y hi hy => decide_eq_true (N5 i y hi hy)) (fun i y hi hy => decide_eq_false (by have := h1 y (Nh hy hi); omega)),
  LF (p := fun y => decide (x.1 < y.1)) (k := j) (fun i y hi hy => decide_eq_false (N5 i y hi hy)) (fun i y hi hy => decide_eq_true (h1 y (Nh hy hi)))]
theorem Wg {w : World} {base m : Nat} {v : Value} {S : List It} {x : It} (hm : S.length = m) (h : D7 w base v (S ++ [x])) : (1 ≤ m ∧ D7 w base v (S ++ [x])) ∨ (1 = m + 1 ∧ D7 w base v (insI S x)) := by
 by_cases e : m = 0
 ·
  subst e
  obtain rfl : S = [] := List.eq_nil_of_length_eq_zero hm
  exact .inr ⟨R, h⟩
 · exact .inl ⟨by omega, h⟩
section
variable {S : List It} {x y : It} {p : Nat}
theorem cQ (hy : S[p]? = some y) : (S.take (p + 1) ++ x :: S.drop (p + 1))[p]? = some y ∧ (S.take (p + 1) ++ x :: S.drop (p + 1))[p + 1]? = some x := by
 have hp := (List.getElem?_eq_some_iff.1 hy).1
 have hl : (S.take (p + 1)).length = p + 1 := by simp; omega
 constructor
 · rw [List.getElem?_append_left (by omega), List.getElem?_take, if_pos (by omega)]; exact hy
 · rw [List.getElem?_append_right (by omega), hl]; simp
theorem Pm {j i : Nat} (h : i ≤ S.length) : i < (S.take j ++ x :: S.drop j).length := by simp; omega
theorem PP (hy : S[p]? = some y) : ((S.take (p + 1) ++ x :: S.drop (p + 1)).set (p + 1) y).set p x = S.take p ++ x :: S.drop p := by
 obtain ⟨hp, rfl⟩ := List.getElem?_eq_some_iff.1 hy
 have hl : (S.take p).length = p := by simp; omega
 rw [List.take_succ_eq_append_getElem hp, List.append_assoc, List.set_append_right _ _ (by omega), hl, show p + 1 - p = 1 by omega]
 simp only [List.singleton_append, List.set_cons_succ, List.set_cons_zero]
 rw [List.set_append_right _ _ (by omega), hl, Nat.sub_self, List.set_cons_zero, ← List.drop_eq_getElem_cons hp]
theorem TL (hy : S[p]? = some y) (h : ∀ z ∈ S.drop (p + 1), x.1 < z.1) (hl : x.1 < y.1) : ∀ z ∈ S.drop p, x.1 < z.1 := by
 obtain ⟨hp, rfl⟩ := List.getElem?_eq_some_iff.1 hy
 intro z hz
 rw [List.drop_eq_getElem_cons hp] at hz
 rcases List.mem_cons.1 hz with rfl | hz
 · exact hl
 · exact h z hz
end
def SoO (W : World) (base g cap m : Nat) (S : List It) (x : It) (a : Act) (w : World) : Prop :=
 ∃ i : Nat, Kn a 53 [(0, .slice (some ⟨g, 0, none⟩) (m + 1) cap), (1, J 0), (2, J (m + 1 : Nat)), (3, .func (.func 119) #[] #[]), (8, J (i : Nat))] ∧ 1 ≤ i ∧ i ≤ m + 1 ∧ ((i ≤ m ∧ D7 w base (.slice (some ⟨g, 0, none⟩) (m + 1) cap) (S ++ [x])) ∨ (i = m + 1 ∧ D7 w base (.slice (some ⟨g, 0, none⟩) (m + 1) cap) (insI S x))) ∧ Below base W w
def SoJ (W : World) (base g cap m : Nat) (S : List It) (x : It) (q : Nat) (a : Act) (w : World) : Prop :=
 Kn a 53 [(0, .slice (some ⟨g, 0, none⟩) (m + 1) cap), (1, J 0), (2, J (m + 1 : Nat)), (3, .func (.func 119) #[] #[]), (8, J (q + 1 : Nat)), (9, J (q + 1 : Nat))] ∧ D7 w base (.slice (some ⟨g, 0, none⟩) (m + 1) cap) (S ++ [x]) ∧ Below base W w
def SoK (W : World) (base g cap q : Nat) (S : List It) (x : It) (a : Act) (w : World) : Prop :=
 ∃ j : Nat, Kn a 53 [(0, .slice (some ⟨g, 0, none⟩) (q + 1 + 1) cap), (1, J 0), (2, J (q + 1 + 1 : Nat)), (3, .func (.func 119) #[] #[]), (8, J (q + 1 : Nat)), (9, J (j : Nat))] ∧ j ≤ q + 1 ∧ (∀ y ∈ S.drop j, x.1 < y.1) ∧ D7 w base (.slice (some ⟨g, 0, none⟩) (q + 1 + 1) cap) (S.take j ++ x :: S.drop j) ∧ Below base W w
def ZC (W : World) (base : Nat) (v : Value) (M : List It) (w : World) : Prop := (Below base W w ∧ base ≤ w.heap.size) ∧ D7 w base v M
theorem ZC.up {W w w' : World} {base : Nat} {v : Value} {M : List It} (h : ZC W base v M w) (hb : Below w.heap.size w w') : ZC W base v M w' := ⟨⟨h.1.1.trans (hb.mono h.1.2), Nat.le_trans h.1.2 hb.size⟩, h.2.up hb⟩
theorem UN (w : World) (base g cap m : Nat) (S : List It) (x : It) (dM : base ≤ w.heap.size) (hm : S.length = m) (hm1 : 0 < m + 1) (hn : m ≤ 100000) (hS : S.Pairwise (fun a b => a.1 < b.1)) (hB : ∀ y ∈ S ++ [x], 0 ≤ y.1 ∧ y.1 ≤ 2147483648) (Ah : D7 w base (.slice (some ⟨g, 0, none⟩) (m + 1) cap) (S ++ [x])) :
  Calls Tryz.prog 135 #[.slice (some ⟨g, 0, none⟩) (m + 1) cap, J 0, J (m + 1 : Nat), .func (.func 119) #[] #[]] w fun e w' => e = .returned (.tuple #[]) ∧ D7 w' base (.slice (some ⟨g, 0, none⟩) (m + 1) cap) (insI S x) ∧ Below base w w' := by
 have Aa := Below.refl base w
 replace hB := Lib.hid hB
 refine Az 53 Tryz.func135 R R λ a H => zC (zD (kR 1 H R λ a H => kX 1 H (Bm (q := 0 + 1) U3 (H.e R) Am) R λ a H => zA (zB (wp_block (wp_loop (SoO w base g cap m S x) (fun a _ => m + 1 - (intOf (a.eval (.tmp 8))).toNat) ⟨1, H.pick [0, 1, 2, 3, 8], by omega, by omega, Wg hm Ah, Aa⟩ ?_)))))
 clear H Aa Ah
 rintro a w' ⟨i, H, hi1, hi, hY, Aa⟩
 have H0 := H
 rcases hY with ⟨him, Ah⟩ | ⟨him, Ah⟩
 ·
  obtain ⟨q, rfl⟩ : ∃ q, i = q + 1 := ⟨i - 1, by omega⟩
  by_cases vB : q + 1 < m
  ·
   obtain ⟨y, hy⟩ : ∃ y, S[q]? = some y := ⟨_, List.getElem?_eq_getElem (by omega)⟩
   obtain ⟨z, hz⟩ : ∃ z, S[q + 1]? = some z := ⟨_, List.getElem?_eq_getElem (by omega)⟩
   have UT : (S ++ [x])[q]? = some y := by rw [List.getElem?_append_left (by omega)]; exact hy
   have hz2 : (S ++ [x])[q + 1]? = some z := by rw [List.getElem?_append_left (by omega)]; exact hz
   have hyz := KY hS hy hz (by omega)
   have aO := hB.out y (List.mem_of_getElem? UT)
   have hbz := hB.out z (List.mem_of_getElem? hz2)
   have HY := Lib.hid UT
   have HZ := Lib.hid hz2
   clear hy hz UT hz2
   refine zC (zC (zD (kR 2 H R λ a H => kV H (By U3 (H.e R) (H.e R) dT) R λ a H => zA (zB (zH H R (zE (zB (zC (wp_block (zC (zD (kR 2 H R λ a H => zA (zB (wp_block (wp_loop (SoJ w base g cap m S x q) (fun a _ => 0) ⟨H.pick [0, 1, 2, 3, 8, 9], Ah, Aa⟩ ?_)))))))))))))))
   clear H Aa Ah
   rintro a w' ⟨H, Ah, Aa⟩
   refine zC (zC ?_)
   have hS : ZC w base (.slice (some ⟨g, 0, none⟩) (m + 1) cap) (S ++ [x]) _ := ⟨⟨Aa.drew, Nat.le_trans dM Aa.size⟩, BN.keep Ah (fun _ _ => rfl)⟩
   refine CZ (ZC w base (.slice (some ⟨g, 0, none⟩) (m + 1) cap) (S ++ [x])) [(0, true), (1, true), (2, true), (3, true), (4, true), (5, true), (6, true), (7, true), (8, true), (9, true), (10, true), (11, true), (12, true), (13, true), (14, false), (15, true), (16, true)] (by kernel_rfl) (by kernel_rfl) R (by kernel_rfl) hS ?_
   clear Aa Ah
   refine Bf _ R (fun w' Aj => C4 (H.e R)) (kp H R λ a H => Bf _ R (fun w' Aj => C4 (H.e R)) (kp H R λ a H => Bf _ R (fun w' Aj => CU U3 (H.e R) (H.e R) dT) (kp H R λ a H => Bf _ R (fun w' Aj => C4 (H.e R)) (kp H R λ a H => Bx _ R R R (H.e R) (fun w' Aj => C4 (H.e R)) (kp H R λ a H => Bx _ R R R (H.e R) (fun w' Aj => C4 (H.e R)) (kp H R λ a H => Bx _ R R R (H.e R) (fun w' Aj => C4 (H.e R)) (kp H R λ a H => Bx (.pointer (some ⟨g, 0 + (q + 1) * 5, none⟩)) R R R (H.e R) (fun w' Aj => Bq (j := q + 1) (q := 0 + (q + 1) * 5) CL FI (H.e R) (H.e R) (by omega) R) (kp H R λ a H => Bx _ R R R (H.e R) (fun w' Aj => AL (cs := [J z.1, J z.2.1, J z.2.2.1, J z.2.2.2.1, J z.2.2.2.2]) (H.e R) (Fy Bb Aj.2 HZ.out) (by kernel_rfl) FI R) (kp H R λ a H => Bx _ R R R (H.e R) (fun w' Aj => C4 (H.e R)) (kp H R λ a H => Bx _ R R R (H.e R) (fun w' Aj => C4 (H.e R)) (kp H R λ a H => Bx (J (q : Nat)) R R R (H.e R) (fun w' Aj => Dl (q := ((q : Nat) : Int)) U3 (H.e R) Am (by omega) (by omega)) (kp H R λ a H => Bx _ R R R (H.e R) (fun w' Aj => Bq (j := q) (q := 0 + q * 5) CL FI (H.e R) (H.e R) (by omega) R) (kp H R λ a H => Bx _ R R R (H.e R) (fun w' Aj => AL (cs := [J y.1, J y.2.1, J y.2.2.1, J y.2.2.2.1, J y.2.2.2.2]) (H.e R) (Fy Bb Aj.2 HY.out) (by kernel_rfl) FI R) ?_)))))))))))))
   refine kp H R λ a H => ZS R R R (H.e R) (fun K hK => CQ 119 _ _ (TY z y _ (by omega) (by omega)) (Q3 bA (H.e R) (H.e R) (H.e R)) ?_)
   rintro e w9 ⟨rfl, dQ⟩; refine ⟨_, rfl, ?_⟩; replace hS := hS.up dQ; clear dQ; refine hK _ _ ⟨hS, ?_⟩; clear hK K; refine kp H rfl λ a H => Bx _ rfl rfl rfl (H.ev rfl) (fun w' Aj => By U3 (H.ev rfl) Am dF) (kp H rfl λ a H => Bf _ rfl (fun w' Aj => Ea (H.ev rfl) (H.ev rfl)) (kp H rfl λ a H => Es (NoPanic.normal ?_)))
   have Aa := hS.1.1
   have Ah := hS.2
   clear hS
   refine zB (zG H R (wp_exit (AJ (AJ (BD (AC (zB (zD (kR 1 H R λ a H => kX 1 H (Bm (q := ((q + 1 + 1 : Nat) : Int)) U3 (H.e R) Am) R λ a H => zA (zI ⟨⟨q + 1 + 1, H.pick [0, 1, 2, 3, 8], by omega, by omega, .inl ⟨by omega, Ah⟩, Aa⟩, ?_⟩))))))))))
   rw [H.ev (j := 8) rfl, H0.ev (j := 8) rfl]
   simp only [intOf]
   omega
  ·
   obtain rfl : m = q + 1 := by omega
   refine zC (zC (zD (kR 2 H R λ a H => kV H (By U3 (H.e R) (H.e R) dT) R λ a H => zA (zB (zH H R (zE (zB (zC (wp_block (zC (zD (kR 2 H R λ a H => zA (zB (wp_block (wp_loop (SoK w base g cap q S x) (fun a _ => (intOf (a.eval (.tmp 9))).toNat) ⟨q + 1, H.pick [0, 1, 2, 3, 8, 9], by omega, (fun y hy => by rw [List.drop_eq_nil_of_le (by omega)] at hy; cases hy), by rw [List.drop_eq_nil_of_le (by omega), List.take_of_length_le (by omega)]; exact Ah, Aa⟩ ?_)))))))))))))))
   clear H Aa Ah
   rintro a w' ⟨j, H, hj, mQ, Ah, Aa⟩
   have H1 := H
   by_cases h0 : j = 0
   ·
    obtain rfl := h0
    rw [Po hS (by omega) mQ (.inl rfl)] at Ah
    refine zC (zC ?_)
    have hS : ZC w base (.slice (some ⟨g, 0, none⟩) (q + 1 + 1) cap) (insI S x) _ := ⟨⟨Aa.drew, Nat.le_trans dM Aa.size⟩, BN.keep Ah (fun _ _ => rfl)⟩
    refine CZ (ZC w base (.slice (some ⟨g, 0, none⟩) (q + 1 + 1) cap) (insI S x)) [(0, true), (1, true), (2, true), (3, true), (4, true), (5, true), (6, true), (7, true), (8, true), (9, true), (10, true), (11, true), (12, true), (13, true), (14, false), (15, true), (16, true)] (by kernel_rfl) (by kernel_rfl) R (by kernel_rfl) hS ?_
    clear Aa Ah
    refine Bf _ R (fun w' Aj => C4 (H.e R)) (kp H R λ a H => Bf _ R (fun w' Aj => C4 (H.e R)) (kp H R λ a H => Bf _ R (fun w' Aj => CU U3 (H.e R) (H.e R) dF) (kp H R λ a H => Bf _ R (fun w' Aj => C4 (H.e R)) (kp H R λ a H => C7 R R R (H.e R) (kp H R λ a H => C7 R R R (H.e R) (kp H R λ a H => C7 R R R (H.e R) (kp H R λ a H => C7 R R R (H.e R) (kp H R λ a H => C7 R R R (H.e R) (kp H R λ a H => C7 R R R (H.e R) (kp H R λ a H => C7 R R R (H.e R) (kp H R λ a H => C7 R R R (H.e R) (kp H R λ a H => C7 R R R (H.e R) (kp H R λ a H => C7 R R R (H.e R) (kp H R λ a H => C7 R R R (H.e R) (kp H R λ a H => C7 R R R (H.e R) (kp H R λ a H => Bf _ R (fun w' Aj => GD (H.e R) Am) (kp H R λ a H => Es (NoPanic.normal ?_))))))))))))))))))
    have Aa := hS.1.1
    have Ah := hS.2
    clear hS
    refine zB (zG H R (wp_exit (AJ (AJ (BD (AC (zB (zD (kR 1 H R λ a H => kX 1 H (Bm (q := ((q + 1 + 1 : Nat) : Int)) U3 (H.e R) Am) R λ a H => zA (zI ⟨⟨q + 1 + 1, H.pick [0, 1, 2, 3, 8], by omega, by omega, .inr ⟨by omega, Ah⟩, Aa⟩, ?_⟩))))))))))
    rw [H.ev (j := 8) rfl, H0.ev (j := 8) rfl]
    simp only [intOf]
    omega
   ·
    obtain ⟨p, rfl⟩ : ∃ p, j = p + 1 := ⟨j - 1, by omega⟩
    clear h0
    obtain ⟨y, hy⟩ : ∃ y, S[p]? = some y := ⟨_, List.getElem?_eq_getElem (by omega)⟩
    obtain ⟨UT, mJ⟩ := cQ (x := x) hy
    have aO := hB.out y (List.mem_append_left _ (List.mem_of_getElem? hy))
    have hbx := hB.out x (List.mem_append_right _ (List.mem_singleton.2 rfl))
    have HS := Lib.hid hy
    have HY := Lib.hid UT
    have HZ := Lib.hid mJ
    clear hy UT mJ
    refine zC (zC ?_)
    have hS : ZC w base (.slice (some ⟨g, 0, none⟩) (q + 1 + 1) cap) (S.take (p + 1) ++ x :: S.drop (p + 1)) _ := ⟨⟨Aa.drew, Nat.le_trans dM Aa.size⟩, BN.keep Ah (fun _ _ => rfl)⟩
    refine CZ (ZC w base (.slice (some ⟨g, 0, none⟩) (q + 1 + 1) cap) (S.take (p + 1) ++ x :: S.drop (p + 1))) [(0, true), (1, true), (2, true), (3, true), (4, true), (5, true), (6, true), (7, true), (8, true), (9, true), (10, true), (11, true), (12, true), (13, true), (14, false), (15, true), (16, true)] (by kernel_rfl) (by kernel_rfl) R (by kernel_rfl) hS ?_
    clear Aa Ah
    refine Bf _ R (fun w' Aj => C4 (H.e R)) (kp H R λ a H => Bf _ R (fun w' Aj => C4 (H.e R)) (kp H R λ a H => Bf _ R (fun w' Aj => CU U3 (H.e R) (H.e R) dT) (kp H R λ a H => Bf _ R (fun w' Aj => C4 (H.e R)) (kp H R λ a H => Bx _ R R R (H.e R) (fun w' Aj => C4 (H.e R)) (kp H R λ a H => Bx _ R R R (H.e R) (fun w' Aj => C4 (H.e R)) (kp H R λ a H => Bx _ R R R (H.e R) (fun w' Aj => C4 (H.e R)) (kp H R λ a H => Bx (.pointer (some ⟨g, 0 + (p + 1) * 5, none⟩)) R R R (H.e R) (fun w' Aj => Bq (j := p + 1) (q := 0 + (p + 1) * 5) CL FI (H.e R) (H.e R) (by omega) R) (kp H R λ a H => Bx _ R R R (H.e R) (fun w' Aj => AL (cs := [J x.1, J x.2.1, J x.2.2.1, J x.2.2.2.1, J x.2.2.2.2]) (H.e R) (Fy Bb Aj.2 HZ.out) (by kernel_rfl) FI R) (kp H R λ a H => Bx _ R R R (H.e R) (fun w' Aj => C4 (H.e R)) (kp H R λ a H => Bx _ R R R (H.e R) (fun w' Aj => C4 (H.e R)) (kp H R λ a H => Bx (J (p : Nat)) R R R (H.e R) (fun w' Aj => Dl (q := ((p : Nat) : Int)) U3 (H.e R) Am (by omega) (by omega)) (kp H R λ a H => Bx _ R R R (H.e R) (fun w' Aj => Bq (j := p) (q := 0 + p * 5) CL FI (H.e R) (H.e R) (by omega) R) (kp H R λ a H => Bx _ R R R (H.e R) (fun w' Aj => AL (cs := [J y.1, J y.2.1, J y.2.2.1, J y.2.2.2.1, J y.2.2.2.2]) (H.e R) (Fy Bb Aj.2 HY.out) (by kernel_rfl) FI R) ?_)))))))))))))
    refine kp H R λ a H => ZS R R R (H.e R) (fun K hK => CQ 119 _ _ (TY x y _ (by omega) (by omega)) (Q3 bA (H.e R) (H.e R) (H.e R)) ?_)
    rintro e w9 ⟨rfl, dQ⟩; refine ⟨_, rfl, ?_⟩; replace hS := hS.up dQ; clear dQ; refine hK _ _ ⟨hS, ?_⟩; clear hK K; refine kp H rfl λ a H => ?_
    by_cases BE : (x.1 - y.1) < 0
    ·
     refine Bx _ R R R (H.e R) (fun w' Aj => By U3 (H.e R) Am (AE (BE))) (kp H R λ a H => Bf _ R (fun w' Aj => Ea (H.e R) (H.e R)) (kp H R λ a H => Es (NoPanic.normal ?_)))
     have Aa := hS.1.1
     have Ah := hS.2
     clear hS
     refine zB (zH H R (zE (zB (zC (wp_block (Ha (LZ) 18 (.fl 0 (.fl 1 (.fl 2 (.fl 3 (.fl 4 (.fl 5 (.fl 6 (.fl 7 (.fl 8 (.fl 10 (.fl 11 (.fl 12 (.two 9 (.one 13 (.fl 14 (.one 15 (.fl 16 (.one 17 .done))))) 13 (.one 9 (.fl 14 (.one 15 (.fl 16 (.one 17 .done)))))))))))))))))) (by kernel_rfl) (by kernel_rfl) R (by kernel_rfl) (LZ.any _) ?_))))))
     replace Ah : D7 (World.drew _) base (.slice (some ⟨g, 0, none⟩) (q + 1 + 1) cap) _ := BN.keep Ah (fun _ _ => rfl)
     replace Aa := Aa.drew
     refine kQ 4 H R λ a H => kE 2 (v := J (p : Nat)) H R R (fun w' Aj => Dl (q := ((p : Nat) : Int)) U3 (H.e R) Am (by omega) (by omega)) R λ a H => kF (v := J (p : Nat)) H R R (fun w' Aj => Dl (q := ((p : Nat) : Int)) U3 (H.e R) Am (by omega) (by omega)) R λ a H => kE 2 (v := .pointer (some ⟨g, 0 + (p) * 5, none⟩)) H R R (fun w' Aj => Bq (j := p) (q := 0 + (p) * 5) CL FI (H.e R) (H.e R) (by omega) R) R λ a H => kF (v := .pointer (some ⟨g, 0 + (p + 1) * 5, none⟩)) H R R (fun w' Aj => Bq (j := p + 1) (q := 0 + (p + 1) * 5) CL FI (H.e R) (H.e R) (by omega) R) R λ a H => FB (fun K hK => ?_) (fun K hK => ?_)
     ·
      refine A7 R (Ly (.agg #[J y.1, J y.2.1, J y.2.2.1, J y.2.2.2.1, J y.2.2.2.2]) _ (AL (cs := [J y.1, J y.2.1, J y.2.2.1, J y.2.2.2.1, J y.2.2.2.2]) (H.e R) (Fy Bb Ah HY.out) (by kernel_rfl) FI R) (hK _ _ ⟨(fun _ => LZ.any _), ?_⟩)); clear hK K; refine kt H R λ a H => Al (fun K hK => A7 R (Ly (.agg #[J x.1, J x.2.1, J x.2.2.1, J x.2.2.2.1, J x.2.2.2.2]) _ (AL (cs := [J x.1, J x.2.1, J x.2.2.1, J x.2.2.2.1, J x.2.2.2.2]) (H.e R) (Fy Bb Ah HZ.out) (by kernel_rfl) FI R) (hK _ _ ⟨(fun _ => LZ.any _), ?_⟩)))
      clear hK K; refine kt H rfl λ a H => kF (v := .pointer (some ⟨g, 0 + (p + 1) * 5, none⟩)) H rfl rfl (fun w' Aj => Bq (j := p + 1) (q := 0 + (p + 1) * 5) CL FI (H.ev rfl) (H.ev rfl) (by omega) rfl) rfl λ a H => Al (fun K hK => A7 rfl ?_)
      obtain ⟨VC, cur, hg, dJ, Xe⟩ := Ky (i := p + 1) Bb Ah (Pm (by omega)); refine AX 65 (.tmp 51) (.tmp 46) g (0 + (p + 1) * 5) 65 (.agg #[J y.1, J y.2.1, J y.2.2.1, J y.2.2.2.1, J y.2.2.2.2]) cur (H.ev rfl) (H.ev rfl) hg FI (by simp only [Value.cells, List.size_toArray, List.length_cons, List.length_nil]; omega) (Di [y.1, y.2.1, y.2.2.1, y.2.2.2.1, y.2.2.2.2]) fun w7 HI GV kq => ?_; have QT := Xe y _ kq; replace Aa := Aa.trans (HI _ VC); clear HI GV kq hg Xe Ah; refine hK _ _ ⟨(fun _ => LZ.any _), ?_⟩; clear hK K
      refine kF (v := .pointer (some ⟨g, 0 + (p) * 5, none⟩)) H R R (fun w' Aj => Bq (j := p) (q := 0 + (p) * 5) CL FI (H.e R) (H.e R) (by omega) R) R λ a H => Al (fun K hK => A7 R ?_)
      obtain ⟨dP, cur2, FK, hM, QS⟩ := Ky (i := p) Bb QT (by rw [List.length_set]; exact Pm (by omega)); refine AX 65 (.tmp 52) (.tmp 50) g (0 + (p) * 5) 65 (.agg #[J x.1, J x.2.1, J x.2.2.1, J x.2.2.2.1, J x.2.2.2.2]) cur2 (H.ev rfl) (H.ev rfl) FK FI (by simp only [Value.cells, List.size_toArray, List.length_cons, List.length_nil]; omega) (Di [x.1, x.2.1, x.2.2.1, x.2.2.2.1, x.2.2.2.2]) fun w8 Hg JZ kq => ?_; have Ah := QS x _ kq; rw [PP HS.out] at Ah; replace Aa := Aa.trans (Hg _ dP); clear Hg JZ kq FK QS QT; refine hK _ _ ⟨(fun _ => LZ.any _), ?_⟩; clear hK K
      refine Aw (NoPanic.normal (AC (zB (zD (kR 1 H R λ a H => kX 1 H (Dl (q := ((p : Nat) : Int)) U3 (H.e R) Am) R λ a H => zA (zI ⟨⟨p, H.pick [0, 1, 2, 3, 8, 9], by omega, TL HS.out mQ (by omega), Ah, Aa⟩, ?_⟩))))))
      rw [H.ev (j := 9) rfl, H1.ev (j := 9) rfl]
      simp only [intOf]
      omega
     ·
      refine A7 R (Ly (.agg #[J x.1, J x.2.1, J x.2.2.1, J x.2.2.2.1, J x.2.2.2.2]) _ (AL (cs := [J x.1, J x.2.1, J x.2.2.1, J x.2.2.2.1, J x.2.2.2.2]) (H.e R) (Fy Bb Ah HZ.out) (by kernel_rfl) FI R) (hK _ _ ⟨(fun _ => LZ.any _), ?_⟩)); clear hK K; refine kt H R λ a H => Al (fun K hK => A7 R (Ly (.agg #[J y.1, J y.2.1, J y.2.2.1, J y.2.2.2.1, J y.2.2.2.2]) _ (AL (cs := [J y.1, J y.2.1, J y.2.2.1, J y.2.2.2.1, J y.2.2.2.2]) (H.e R) (Fy Bb Ah HY.out) (by kernel_rfl) FI R) (hK _ _ ⟨(fun _ => LZ.any _), ?_⟩)))
      clear hK K; refine kt H rfl λ a H => kF (v := .pointer (some ⟨g, 0 + (p + 1) * 5, none⟩)) H rfl rfl (fun w' Aj => Bq (j := p + 1) (q := 0 + (p + 1) * 5) CL FI (H.ev rfl) (H.ev rfl) (by omega) rfl) rfl λ a H => Al (fun K hK => A7 rfl ?_)
      obtain ⟨VC, cur, hg, dJ, Xe⟩ := Ky (i := p + 1) Bb Ah (Pm (by omega)); refine AX 65 (.tmp 51) (.tmp 46) g (0 + (p + 1) * 5) 65 (.agg #[J y.1, J y.2.1, J y.2.2.1, J y.2.2.2.1, J y.2.2.2.2]) cur (H.ev rfl) (H.ev rfl) hg FI (by simp only [Value.cells, List.size_toArray, List.length_cons, List.length_nil]; omega) (Di [y.1, y.2.1, y.2.2.1, y.2.2.2.1, y.2.2.2.2]) fun w7 HI GV kq => ?_; have QT := Xe y _ kq; replace Aa := Aa.trans (HI _ VC); clear HI GV kq hg Xe Ah; refine hK _ _ ⟨(fun _ => LZ.any _), ?_⟩; clear hK K
      refine kF (v := .pointer (some ⟨g, 0 + (p) * 5, none⟩)) H R R (fun w' Aj => Bq (j := p) (q := 0 + (p) * 5) CL FI (H.e R) (H.e R) (by omega) R) R λ a H => Al (fun K hK => A7 R ?_)
      obtain ⟨dP, cur2, FK, hM, QS⟩ := Ky (i := p) Bb QT (by rw [List.length_set]; exact Pm (by omega)); refine AX 65 (.tmp 52) (.tmp 50) g (0 + (p) * 5) 65 (.agg #[J x.1, J x.2.1, J x.2.2.1, J x.2.2.2.1, J x.2.2.2.2]) cur2 (H.ev rfl) (H.ev rfl) FK FI (by simp only [Value.cells, List.size_toArray, List.length_cons, List.length_nil]; omega) (Di [x.1, x.2.1, x.2.2.1, x.2.2.2.1, x.2.2.2.2]) fun w8 Hg JZ kq => ?_; have Ah := QS x _ kq; rw [PP HS.out] at Ah; replace Aa := Aa.trans (Hg _ dP); clear Hg JZ kq FK QS QT; refine hK _ _ ⟨(fun _ => LZ.any _), ?_⟩; clear hK K
      refine Aw (NoPanic.normal (AC (zB (zD (kR 1 H R λ a H => kX 1 H (Dl (q := ((p : Nat) : Int)) U3 (H.e R) Am) R λ a H => zA (zI ⟨⟨p, H.pick [0, 1, 2, 3, 8, 9], by omega, TL HS.out mQ (by omega), Ah, Aa⟩, ?_⟩))))))
      rw [H.ev (j := 9) rfl, H1.ev (j := 9) rfl]
      simp only [intOf]
      omega
    ·
     refine Bx _ R R R (H.e R) (fun w' Aj => By U3 (H.e R) Am (AF (BE))) (kp H R λ a H => Bf _ R (fun w' Aj => Ea (H.e R) (H.e R)) (kp H R λ a H => Es (NoPanic.normal ?_)))
     have Aa := hS.1.1
     have Ah := hS.2
     clear hS
     refine zB (zG H R (wp_exit (AJ (AJ (BD (AC (zB ?_)))))))
     rw [Po hS (by omega) mQ (.inr ⟨p, y, rfl, HS.out, by omega⟩)] at Ah
     refine zD (kR 1 H R λ a H => kX 1 H (Bm (q := ((q + 1 + 1 : Nat) : Int)) U3 (H.e R) Am) R λ a H => zA (zI ⟨⟨q + 1 + 1, H.pick [0, 1, 2, 3, 8], by omega, by omega, .inr ⟨by omega, Ah⟩, Aa⟩, ?_⟩))
     rw [H.ev (j := 8) rfl, H0.ev (j := 8) rfl]
     simp only [intOf]
     omega
 ·
  obtain rfl : i = m + 1 := by omega
  exact zC (zC (zD (kR 2 H R λ a H => kV H (By U3 (H.e R) (H.e R) dF) R λ a H => zA (zB (zG H R (wp_exit (AJ (AJ (BD (Q4 H R ⟨R, Ah, Aa⟩))))))))))
end
theorem Vg {a : Act} {w : World} {d : Option Tmp} {tt : TypeId} {ps : String} {af : Array Edge} {gd : Option (Nat × Bool)} {x : Operand} (v : Int) (hx : a.eval x = J v) (h0 : 0 ≤ v) (h1 : v < 9223372036854775808) : (execOp a.eval ⟨d, .convert 3 117 x, tt, ps, af, gd⟩).run Tryz.prog w = .ok (.value (.int .u64 v)) w := by
 have u3 := U3
 have u52 := tY
 unfold execOp
 simp only [hx]
 go_simp
 exact IntWalk.u64_in _ (by omega)
theorem Y3 {P : Program} {a : Act} {w : World} {d : Option Tmp} {tt : TypeId} {ps : String} {af : Array Edge} {gd : Option (Nat × Bool)} {f : FuncId} (hf : Bu P f) {x y z u v : Operand} {vx vy vz vu vv : Value} {ats : Array TypeId} (hx : a.eval x = vx) (hy : a.eval y = vy) (hz : a.eval z = vz) (hu : a.eval u = vu) (hv : a.eval v = vv) : (execOp a.eval ⟨d, .call { callee := .value (.func f), args := #[x, y, z, u, v], argTypes := ats }, tt, ps, af, gd⟩).run P w = .ok (.enter f #[vx, vy, vz, vu, vv]) w := by
 have he : a.eval (.func f) = .func (.func f) #[] #[] := rfl
 unfold execOp
 simp [resolve, invoke, hx, hy, hz, hu, hv, he, Deferred.ofValue, hf _ w]
theorem UM (n : Nat) (w : World) (h : n ≤ 12) : Calls Tryz.prog 144 #[.int .u64 (n : Nat)] w fun e w' => (∃ l : Int, e = .returned (J l)) ∧ w = w' := by
 have hc : n = 0 ∨ n = 1 ∨ n = 2 ∨ n = 3 ∨ n = 4 ∨ n = 5 ∨ n = 6 ∨ n = 7 ∨ n = 8 ∨ n = 9 ∨ n = 10 ∨ n = 11 ∨ n = 12 := by omega
 rcases hc with rfl | rfl | rfl | rfl | rfl | rfl | rfl | rfl | rfl | rfl | rfl | rfl | rfl <;>
 ·
  go_enter Tryz.func144, Tryz.ntmps144
  go_wp2
  go_ret
  exact ⟨⟨_, R⟩, R⟩
theorem YN (n : Nat) (w : World) (h : n ≤ 12) : Calls Tryz.prog 129 #[.int .u64 (n : Nat)] w fun e w' => (∃ l : Int, e = .returned (J l)) ∧ w = w' := by
 go_enter Tryz.func129, Tryz.ntmps129
 go_wp2_with (first | (go_at_call 144; refine (UM n _ h).mono ?_; rintro e w' ⟨⟨l, rfl⟩, rfl⟩))
 go_ret
 exact ⟨⟨_, R⟩, R⟩
def PdI (W : World) (base g cap m : Nat) (S : List It) (x : It) (lim : Int) (a : Act) (w : World) : Prop :=
 Kn a 148 [(0, .slice (some ⟨g, 0, none⟩) (m + 1) cap), (1, J 0), (2, J (m + 1 : Nat)), (3, J lim), (4, .func (.func 119) #[] #[])] ∧ D7 w base (.slice (some ⟨g, 0, none⟩) (m + 1) cap) (S ++ [x]) ∧ Below base W w
theorem Y9 (w : World) (base g cap m : Nat) (S : List It) (x : It) (lim : Int) (dM : base ≤ w.heap.size) (hm : S.length = m) (hn : m ≤ 11) (hS : S.Pairwise (fun a b => a.1 < b.1)) (hB : ∀ y ∈ S ++ [x], 0 ≤ y.1 ∧ y.1 ≤ 2147483648) (Ah : D7 w base (.slice (some ⟨g, 0, none⟩) (m + 1) cap) (S ++ [x])) :
  Calls Tryz.prog 128 #[.slice (some ⟨g, 0, none⟩) (m + 1) cap, J 0, J (m + 1 : Nat), J lim, .func (.func 119) #[] #[]] w fun e w' => e = .returned (.tuple #[]) ∧ D7 w' base (.slice (some ⟨g, 0, none⟩) (m + 1) cap) (insI S x) ∧ Below base w w' := by
 have Aa := Below.refl base w
 refine Az 148 Tryz.func128 R R λ a H => zC (zD (kR 1 H R λ a H => zA (zB (zC (zD (kR 1 H R λ a H => zA (zB (wp_block (wp_loop (PdI w base g cap m S x lim) (fun a _ => 0) ⟨H.pick [0, 1, 2, 3, 4], Ah, Aa⟩ ?_)))))))))
 clear H Aa Ah
 rintro a w' ⟨H, Ah, Aa⟩
 refine wp_block (zC (zD (kR 2 H R λ a H => kX 1 (v := J (m + 1 : Nat)) H (Dl (q := ((m + 1 : Nat) : Int)) U3 (H.e R) (H.e R)) R λ a H => zA (zB (zC (zC (zD (kR 1 H R λ a H => kV H (Fv U3 (H.e R) Am dT) R λ a H => zA (zB (zH H R (zC (zD (kR 4 H R λ a H => kC 0 (UN _ base g cap m S x (Nat.le_trans dM Aa.size) hm (by omega) (by omega) hS hB Ah) (Y4 lE (H.e R) (H.e R) (H.e R) (H.e R)) H R fun w9 a ⟨AU, hb⟩ H => ?_)))))))))))))
 replace Aa := Aa.trans hb; clear hb Ah
 exact zA (zB (zF (zJ (AS (zJ (AS (Je H R ⟨R, AU, Aa⟩)))))))
theorem Wf (w : World) (base g cap m : Nat) (S : List It) (x : It) (dM : base ≤ w.heap.size) (hm : S.length = m) (hn : m ≤ 11) (hS : S.Pairwise (fun a b => a.1 < b.1)) (hB : ∀ y ∈ S ++ [x], 0 ≤ y.1 ∧ y.1 ≤ 2147483648) (Ah : D7 w base (.slice (some ⟨g, 0, none⟩) (m + 1) cap) (S ++ [x])) :
  Calls Tryz.prog 118 #[.slice (some ⟨g, 0, none⟩) (m + 1) cap, .func (.func 119) #[] #[]] w fun e w' => e = .returned (.tuple #[]) ∧ D7 w' base (.slice (some ⟨g, 0, none⟩) (m + 1) cap) (insI S x) ∧ Below base w w' := by
 refine Az 14 Tryz.func118 R R λ a H => zC (zD (kR 1 H R λ a H => kX 1 H (Ba CL (H.e R)) R λ a H => zA (zB (zD (kR 3 H R λ a H => kV (v := .int .u64 (m + 1 : Nat)) H (Vg _ (H.e R) (by omega) (by omega)) R λ a H => A8 _ _ _ (YN (m + 1) _ (by omega)) (Av lK (H.e R)) ?_)))))
 rintro e w9 ⟨⟨lim, rfl⟩, rfl⟩; refine ⟨_, rfl, ?_⟩; exact kL 1 H rfl λ a H => kC 0 (Y9 _ base g cap m S x lim dM hm hn hS hB Ah) (Y3 lL (H.ev rfl) Am (H.ev rfl) (H.ev rfl) (H.ev rfl)) H rfl fun w9 a ⟨AU, hb⟩ H => zA (Q4 H rfl ⟨rfl, AU, hb⟩)
section
theorem Sh {P : Program} {a : Act} {w : World} {d : Option Tmp} {tt : TypeId} {ps : String} {af : Array Edge} {gd : Option (Nat × Bool)} {x y : Operand} {m n q : Int} {t t2 : TypeId} (ht : P.underlying t = some (.int .i64)) (hx : a.eval x = J m) (hy : a.eval y = J n) (hq : IntKind.i64.wrap (m - n) = q) : (execOp a.eval ⟨d, .binOp .sub t x y t2, tt, ps, af, gd⟩).run P w = .ok (.value (J q)) w := by
 subst hq
 unfold execOp
 simp only [hx, hy]
 go_simp
def E3 (n : Int) (L : List It) : Prop := 1 ≤ n ∧ n ≤ 1073741824 ∧ L.Pairwise (fun a b => a.1 < b.1) ∧ ∀ y ∈ L, n < y.1 ∧ y.1 - n < 8 ∧ y.1 < 1073741824
instance (n : Int) (L : List It) : Decidable (E3 n L) := by unfold E3; infer_instance
def CG (n : Int) (L : List It) : Bool := decide (E3 n L)
def ST (n : Int) (L : List It) (k : Nat) : Prop := ∀ (j : Nat) (y : It), j < k → L[j]? = some y → n < y.1 ∧ IntKind.i64.wrap (y.1 - n) < 8 ∧ y.1 < 1073741824 ∧ ∀ i p, j = i + 1 → L[i]? = some p → p.1 < y.1
def R8 (n : Int) (L : List It) (k : Nat) (l : Int) : Prop := (k = 0 ∧ l = n) ∨ ∃ j p, k = j + 1 ∧ L[j]? = some p ∧ l = p.1
section
variable {n l : Int} {L : List It} {k : Nat} {y : It}
theorem TC (Ca : ST n L k) (hl : R8 n L k l) : n ≤ l := by
 rcases hl with ⟨_, rfl⟩ | ⟨j, p, e, hp, rfl⟩
 · omega
 · have := (Ca j p (by omega) hp).1; omega
theorem Pi (Ca : ST n L k) (hl : R8 n L k l) (hy : L[k]? = some y) (h1 : l < y.1) (h2 : IntKind.i64.wrap (y.1 - n) < 8) (h3 : y.1 < 1073741824) : ST n L (k + 1) := by
 have Ak := TC Ca hl
 intro j z hj hz
 by_cases e : j = k
 ·
  subst e
  rw [hy] at hz
  injection hz with hz
  subst hz
  refine ⟨by omega, h2, h3, fun i p e hp => ?_⟩
  rcases hl with ⟨e0, rfl⟩ | ⟨j', q, e', hq, rfl⟩
  · omega
  ·
   obtain rfl : i = j' := by omega
   rw [hq] at hp
   injection hp with hp
   rw [← hp]; exact h1
 · exact Ca j z (by omega) hz
theorem Kf : ∀ {L : List It}, (∀ j p y, L[j]? = some p → L[j + 1]? = some y → p.1 < y.1) → L.Pairwise (fun a b => a.1 < b.1)
 | [], _ => .nil
 | [a], _ => by simp
 | a :: b :: L, h => by
  have ih := Kf (L := b :: L) fun j p y hp hy => h (j + 1) p y (by simpa using hp) (by simpa using hy)
  have hab : a.1 < b.1 := h 0 a b rfl rfl
  rw [List.pairwise_cons]
  refine ⟨fun y hy => ?_, ih⟩
  rcases List.mem_cons.1 hy with rfl | hy
  · exact hab
  · have := (List.pairwise_cons.1 ih).1 y hy; omega
theorem SW {m : Int} (h : -9223372036854775808 ≤ m ∧ m ≤ 9223372036854775807) : IntKind.i64.wrap m = m := IntWalk.i64_in _ h
theorem NM (Ca : ST n L L.length) (h1 : 1 ≤ n) (h2 : n ≤ 1073741824) : CG n L = true := by
 unfold CG
 apply decide_eq_true
 refine ⟨h1, h2, Kf fun j p y hp hy => (Ca (j + 1) y (List.getElem?_eq_some_iff.1 hy).1 hy).2.2.2 j p R hp, fun y hy => ?_⟩
 obtain ⟨j, hj, rfl⟩ := List.mem_iff_getElem.1 hy
 obtain ⟨a1, a2, a3, _⟩ := Ca j _ hj (List.getElem?_eq_getElem hj)
 rw [SW (by omega)] at a2
 exact ⟨a1, a2, a3⟩
theorem Jt (h : ¬ (1 ≤ n ∧ n ≤ 1073741824)) : CG n L = false := by
 unfold CG
 apply decide_eq_false
 rintro ⟨h1, h2, _⟩
 exact h ⟨h1, h2⟩
theorem Fj (hy : L[k]? = some y) (Ca : ST n L k) (hl : R8 n L k l) (h : y.1 ≤ l ∨ 8 ≤ IntKind.i64.wrap (y.1 - n) ∨ 1073741824 ≤ y.1) : CG n L = false := by
 unfold CG
 apply decide_eq_false
 rintro ⟨h1, h2, h3, h4⟩
 obtain ⟨a1, a2, a3⟩ := h4 y (List.mem_of_getElem? hy)
 rw [SW (by omega)] at h
 rcases h with h | h | h
 ·
  rcases hl with ⟨_, rfl⟩ | ⟨j, p, rfl, hp, rfl⟩
  · omega
  ·
   obtain ⟨hj, rfl⟩ := List.getElem?_eq_some_iff.1 hy
   obtain ⟨LS, rfl⟩ := List.getElem?_eq_some_iff.1 hp
   have := List.pairwise_iff_getElem.1 h3 j (j + 1) LS hj (by omega)
   omega
 · omega
 · omega
end
def uB (W : World) (b0 : Nat) (n : Int) (A : Option Addr) (c : Nat) (L : List It) (a : Act) (w : World) : Prop :=
 ∃ (k : Nat) (l : Int), Kn a 43 [(1, .pointer (some ⟨b0, 0, none⟩)), (3, J l), (9, .slice A L.length c), (10, J (L.length : Nat)), (11, J (k : Nat))] ∧ k ≤ L.length ∧ R8 n L k l ∧ ST n L k ∧ Ad w b0 70 #[J n, .slice A L.length c] ∧ Below W.heap.size W w
theorem FZ (w : World) (n : Int) (v : Value) (L : List It) (h : ET w v L) (hn : L.length ≤ 9223372036854775807) :
  Calls Tryz.prog 116 #[.agg #[J n, v]] w fun e w' => e = .returned (.bool (CG n L)) ∧ Below w.heap.size w w' := by
 obtain ⟨A, c, rfl, h1, h2, h3, hh⟩ := h
 replace hh := Lib.hid hh
 have Aa := Below.refl w.heap.size w
 refine Az 43 Tryz.func116 R R λ a H => zC (zD (B7 70 _ #[J n, .slice A L.length c] (H.e R) fun w0 b0 Ak hb k0 => ?_))
 have g0 := Nat.le_trans Aa.size Ak; replace Aa := Aa.tr hb; clear hb; clear Ak; refine kL 1 H rfl λ a H => zA (zB (zC (zD (kR 1 H rfl λ a H => kX 1 H (Ai U3 rfl (H.ev rfl) ((Ad.cell k0 0).trans rfl)) rfl λ a H => zA (zB (zC (zC (zD (kR 1 H rfl λ a H => kV H (Ai CL rfl (H.ev rfl) ((Ad.cell k0 1).trans rfl)) rfl λ a H => kX 1 H (Ba CL (H.ev rfl)) rfl λ a H => zA (zB (wp_block (wp_loop (uB w b0 n A c L) (fun a _ => L.length - (intOf (a.eval (.tmp 11))).toNat) ⟨0, n, H.pick [1, 3, 9, 10, 11], by omega, .inl ⟨rfl, rfl⟩, fun j y hj => by omega, k0, Aa⟩ ?_))))))))))))
 clear H Aa k0
 rintro a w' ⟨k, l, H, hk, hl, Ca, k0, Aa⟩
 have H0 := H
 by_cases CM : k < L.length
 ·
  obtain ⟨b, o, hA, hr⟩ := CK Bb hh.out (by omega) CM
  subst hA
  have hy : L[k]? = some L[k] := List.getElem?_eq_getElem CM
  have HY := Lib.hid hy
  have HRG := Lib.hid hr
  generalize L[k] = y at *
  obtain ⟨d, hd⟩ : ∃ d, IntKind.i64.wrap (y.1 - n) = d := ⟨_, rfl⟩
  have HDD := Lib.hid hd
  clear hy hr hd
  have H := H0
  refine zC (zD (kV H (By U3 (H.e R) (H.e R) dT) R λ a H => zA (zB (zC (zH H R (zE (zB (zC (wp_block (zC (zD (kV H (Bq (j := k) (q := o + k * 5) CL FI (H.e R) (H.e R) (by omega) R) R λ a H => kV H (AL (cs := [J y.1, J y.2.1, J y.2.2.1, J y.2.2.2.1, J y.2.2.2.2]) (H.e R) (BQ HRG.out Aa) (by kernel_rfl) FI R) R λ a H => De 65 5 (.tmp 14) #[J y.1, J y.2.1, J y.2.2.1, J y.2.2.2.1, J y.2.2.2.2] _ uN FI R (Di [y.1, y.2.1, y.2.2.1, y.2.2.2.1, y.2.2.2.2]) (fun p => (H.put 5 p R).ev R) (fun p => (H.put 5 p R).ev R) fun w1 b1 Ak hb k1 => ?_))))))))))))
  have g1 := Nat.le_trans Aa.size Ak; replace k0 := k0.ups hb; replace Aa := Aa.tr hb; clear hb; clear Ak; refine kl H rfl λ a H => zA (zB (zC (zC (zD (kR 1 H rfl λ a H => kX 1 H (Ai U3 rfl (H.ev rfl) ((Ad.cell k1 0).trans rfl)) rfl λ a H => ?_)))))
  by_cases BE : y.1 ≤ l
  ·
   exact kX 13 H (Fv U3 (H.e R) (H.e R) (AE (BE))) R λ a H => zA (zB (zH H R (zC (zD (kR 1 H R λ a H => zA (zB (zF (zJ (AS (zJ (zJ (AS (zJ (Ag H R R ⟨by rw [Fj HY.out Ca hl (by rw [HDD.out]; omega)], Aa⟩))))))))))))))
  ·
   refine kX 2 H (Fv U3 (H.e R) (H.e R) (AF (BE))) R λ a H => kY 1 H R (Ai U3 R (H.e R) ((Ad.cell k1 0).trans R)) R λ a H => kW H R (Ai U3 R (H.e R) ((Ad.cell k0 0).trans R)) R λ a H => kG H R (kV (v := J d) H (Sh U3 (H.e R) (H.e R) HDD.out) R λ a H => ?_)
   by_cases Cn : d ≥ 8
   ·
    exact kY 6 H R (CV U3 (H.e R) Am (AE (Cn))) R λ a H => zA (zB (zH H R (zC (zD (kR 1 H R λ a H => zA (zB (zF (zJ (AS (zJ (zJ (AS (zJ (Ag H R R ⟨by rw [Fj HY.out Ca hl (by rw [HDD.out]; omega)], Aa⟩))))))))))))))
   ·
    refine kY 3 H R (CV U3 (H.e R) Am (AF (Cn))) R λ a H => kW H R (Ai U3 R (H.e R) ((Ad.cell k1 0).trans R)) R λ a H => ?_
    by_cases CP : y.1 ≥ 1073741824
    ·
     exact kY 1 H R (CV U3 (H.e R) Am (AE (CP))) R λ a H => zA (zB (zH H R (zC (zD (kR 1 H R λ a H => zA (zB (zF (zJ (AS (zJ (zJ (AS (zJ (Ag H R R ⟨by rw [Fj HY.out Ca hl (by rw [HDD.out]; omega)], Aa⟩))))))))))))))
    ·
     refine kY 1 H R (CV U3 (H.e R) Am (AF (CP))) R λ a H => zA (zB (zG H R (zE (zB (zD (kR 1 H R λ a H => kX 1 H (Ai U3 R (H.e R) ((Ad.cell k1 0).trans R)) R λ a H => zA (AC (zB (zD (kX 1 H (Bm (q := ((k + 1 : Nat) : Int)) U3 (H.e R) Am) R λ a H => zA (zI ⟨⟨k + 1, y.1, H.pick [1, 3, 9, 10, 11], by omega, .inr ⟨k, y, R, HY.out, R⟩, Pi Ca hl HY.out (by omega) (by rw [HDD.out]; omega) (by omega), k0, Aa⟩, ?_⟩)))))))))))
     rw [H.ev (j := 11) rfl, H0.ev (j := 11) rfl]
     simp only [intOf]
     omega
 ·
  obtain rfl : k = L.length := by omega
  refine zC (zD (kV H (By U3 (H.e R) (H.e R) dF) R λ a H => zA (zB (zC (zG H R (wp_exit (AJ (AJ (BD (zB (zC (zD (kR 1 H R λ a H => kV H (Ai U3 R (H.e R) ((Ad.cell k0 0).trans R)) R λ a H => ?_)))))))))))))
  by_cases DJ : n ≥ 1
  ·
   refine kX 2 H (CV U3 (H.e R) Am (AE (DJ))) R λ a H => kW H R (Ai U3 R (H.e R) ((Ad.cell k0 0).trans R)) R λ a H => ?_
   by_cases Em : n ≤ 1073741824
   ·
    exact kY 2 H R (Fv U3 (H.e R) Am (AE (Em))) R λ a H => zA (zB (zF (Ag H R R ⟨by rw [show CG n L = true from NM Ca (by omega) (by omega)], Aa⟩)))
   ·
    exact kY 2 H R (Fv U3 (H.e R) Am (AF (Em))) R λ a H => zA (zB (zF (Ag H R R ⟨by rw [show CG n L = false from Jt (by omega)], Aa⟩)))
  ·
   exact kX 6 H (CV U3 (H.e R) Am (AF (DJ))) R λ a H => zA (zB (zF (Ag H R R ⟨by rw [show CG n L = false from Jt (by omega)], Aa⟩)))
def uA (W : World) (b0 : Nat) (n : Int) (A : Option Addr) (c : Nat) (L : List It) (a : Act) (w : World) : Prop :=
 ∃ (k : Nat) (l : Int), Kn a 56 [(1, .pointer (some ⟨b0, 0, none⟩)), (3, J (k : Nat))] ∧ k ≤ L.length ∧ R8 n L k l ∧ ST n L k ∧ Ad w b0 70 #[J n, .slice A L.length c] ∧ Below W.heap.size W w
theorem Gt (w : World) (n : Int) (v : Value) (L : List It) (h : ET w v L) (hn : L.length ≤ 9223372036854775807) :
  Calls Tryz.prog 121 #[.agg #[J n, v]] w fun e w' => e = .returned (.bool (CG n L)) ∧ Below w.heap.size w w' := by
 obtain ⟨A, c, rfl, h1, h2, h3, hh⟩ := h
 replace hh := Lib.hid hh
 have Aa := Below.refl w.heap.size w
 refine Az 56 Tryz.func121 R R λ a H => zC (zD (B7 70 _ #[J n, .slice A L.length c] (H.e R) fun w0 b0 Ak hb k0 => ?_))
 have g0 := Nat.le_trans Aa.size Ak; replace Aa := Aa.tr hb; clear hb; clear Ak; refine kL 1 H rfl λ a H => zA (zB (zC (zC (zD (kR 1 H rfl λ a H => zA (zB (wp_block (wp_loop (uA w b0 n A c L) (fun a _ => L.length - (intOf (a.eval (.tmp 3))).toNat) ⟨0, n, H.pick [1, 3], by omega, .inl ⟨rfl, rfl⟩, fun j y hj => by omega, k0, Aa⟩ ?_))))))))
 clear H Aa k0
 rintro a w' ⟨k, l, H, hk, hl, Ca, k0, Aa⟩
 have H0 := H
 by_cases CM : k < L.length
 ·
  obtain ⟨b, o, hA, hr⟩ := CK Bb hh.out (by omega) CM
  subst hA
  have hy : L[k]? = some L[k] := List.getElem?_eq_getElem CM
  have HY := Lib.hid hy
  have HRG := Lib.hid hr
  generalize L[k] = y at *
  obtain ⟨d, hd⟩ : ∃ d, IntKind.i64.wrap (y.1 - n) = d := ⟨_, rfl⟩
  have HDD := Lib.hid hd
  clear hy hr hd
  have H := H0
  have hln := TC Ca hl
  by_cases h0 : k = 0
  ·
   have vC : l = n := by rcases hl with ⟨_, e⟩ | ⟨j, p, e, _⟩; exact e; omega
   refine zC (zC (zD (kR 2 H R λ a H => kV H (Ai CL R (H.e R) ((Ad.cell k0 1).trans R)) R λ a H => kV H (Ba CL (H.e R)) R λ a H => kV H (By U3 (H.e R) (H.e R) dT) R λ a H => zA (zB (zH H R (zE (zB (zC (wp_block (zC (zD (kR 1 H R λ a H => kX 1 H (Ai CL R (H.e R) ((Ad.cell k0 1).trans R)) R λ a H => kV H (Bq (j := k) (q := o + k * 5) CL FI (H.e R) (H.e R) (by omega) R) R λ a H => kV H (Br (q := o + k * 5) EL (H.e R) R) R λ a H => kX 1 H (Ai U3 R (H.e R) (Bo (BQ HRG.out Aa) 0 R)) R λ a H => zA (zB (zC (zD (kR 2 H R λ a H => kV H (Ai U3 R (H.e R) ((Ad.cell k0 0).trans R)) R λ a H => ?_))))))))))))))))
   by_cases BE : y.1 ≤ n
   ·
    exact kX 26 H (Fv U3 (H.e R) (H.e R) (AE (BE))) R λ a H => zA (zB (zH H R (zC (zD (kR 1 H R λ a H => zA (zB (zF (AS (zJ (zJ (AS (zJ (Ag H R R ⟨by rw [Fj HY.out Ca hl (by rw [HDD.out]; omega)], Aa⟩)))))))))))))
   ·
    refine kX 3 H (Fv U3 (H.e R) (H.e R) (AF (BE))) R λ a H => kW H R (Ai U3 R (H.e R) ((Ad.cell k0 0).trans R)) R λ a H => kG H R (kV (v := J d) H (Sh U3 (H.e R) (H.e R) HDD.out) R λ a H => ?_)
    by_cases Cn : d ≥ 8
    ·
     exact kY 20 H R (CV U3 (H.e R) Am (AE (Cn))) R λ a H => zA (zB (zH H R (zC (zD (kR 1 H R λ a H => zA (zB (zF (AS (zJ (zJ (AS (zJ (Ag H R R ⟨by rw [Fj HY.out Ca hl (by rw [HDD.out]; omega)], Aa⟩)))))))))))))
    ·
     refine kY 3 H R (CV U3 (H.e R) Am (AF (Cn))) R λ a H => ?_
     by_cases CP : y.1 ≥ 1073741824
     ·
      exact kY 16 H R (CV U3 (H.e R) Am (AE (CP))) R λ a H => zA (zB (zH H R (zC (zD (kR 1 H R λ a H => zA (zB (zF (AS (zJ (zJ (AS (zJ (Ag H R R ⟨by rw [Fj HY.out Ca hl (by rw [HDD.out]; omega)], Aa⟩)))))))))))))
     ·
      refine kY 3 H R (CV U3 (H.e R) Am (AF (CP))) R λ a H => kY 12 H R (CU U3 (H.e R) Am dF) R λ a H => zA (zB (zG H R (zE (AC (zB (zD (kR 1 H R λ a H => kX 1 H (Bm (q := ((k + 1 : Nat) : Int)) U3 (H.e R) Am) R λ a H => zA (zI ⟨⟨k + 1, y.1, H.pick [1, 3], by omega, .inr ⟨k, y, R, HY.out, R⟩, Pi Ca hl HY.out (by omega) (by rw [HDD.out]; omega) (by omega), k0, Aa⟩, ?_⟩))))))))
      rw [H.ev (j := 3) rfl, H0.ev (j := 3) rfl]
      simp only [intOf]
      omega
  ·
   obtain ⟨j, p, hj, hp, hlp⟩ : ∃ j p, k = j + 1 ∧ L[j]? = some p ∧ l = p.1 := by rcases hl with ⟨e, _⟩ | h; exact absurd e h0; exact h
   have mN := (List.getElem?_eq_some_iff.1 hp).1
   have pN := Iy Bb hh.out rfl mN
   rw [(List.getElem?_eq_some_iff.1 hp).2] at pN
   have HP := Lib.hid pN
   clear pN h0
   refine zC (zC (zD (kR 2 H R λ a H => kV H (Ai CL R (H.e R) ((Ad.cell k0 1).trans R)) R λ a H => kV H (Ba CL (H.e R)) R λ a H => kV H (By U3 (H.e R) (H.e R) dT) R λ a H => zA (zB (zH H R (zE (zB (zC (wp_block (zC (zD (kR 1 H R λ a H => kX 1 H (Ai CL R (H.e R) ((Ad.cell k0 1).trans R)) R λ a H => kV H (Bq (j := k) (q := o + k * 5) CL FI (H.e R) (H.e R) (by omega) R) R λ a H => kV H (Br (q := o + k * 5) EL (H.e R) R) R λ a H => kX 1 H (Ai U3 R (H.e R) (Bo (BQ HRG.out Aa) 0 R)) R λ a H => zA (zB (zC (zD (kR 2 H R λ a H => kV H (Ai U3 R (H.e R) ((Ad.cell k0 0).trans R)) R λ a H => ?_))))))))))))))))
   by_cases DJ : y.1 ≤ n
   ·
    exact kX 26 H (Fv U3 (H.e R) (H.e R) (AE (DJ))) R λ a H => zA (zB (zH H R (zC (zD (kR 1 H R λ a H => zA (zB (zF (AS (zJ (zJ (AS (zJ (Ag H R R ⟨by rw [Fj HY.out Ca hl (by rw [HDD.out]; omega)], Aa⟩)))))))))))))
   ·
    refine kX 3 H (Fv U3 (H.e R) (H.e R) (AF (DJ))) R λ a H => kW H R (Ai U3 R (H.e R) ((Ad.cell k0 0).trans R)) R λ a H => kG H R (kV (v := J d) H (Sh U3 (H.e R) (H.e R) HDD.out) R λ a H => ?_)
    by_cases Em : d ≥ 8
    ·
     exact kY 20 H R (CV U3 (H.e R) Am (AE (Em))) R λ a H => zA (zB (zH H R (zC (zD (kR 1 H R λ a H => zA (zB (zF (AS (zJ (zJ (AS (zJ (Ag H R R ⟨by rw [Fj HY.out Ca hl (by rw [HDD.out]; omega)], Aa⟩)))))))))))))
    ·
     refine kY 3 H R (CV U3 (H.e R) Am (AF (Em))) R λ a H => ?_
     by_cases Fg : y.1 ≥ 1073741824
     ·
      exact kY 16 H R (CV U3 (H.e R) Am (AE (Fg))) R λ a H => zA (zB (zH H R (zC (zD (kR 1 H R λ a H => zA (zB (zF (AS (zJ (zJ (AS (zJ (Ag H R R ⟨by rw [Fj HY.out Ca hl (by rw [HDD.out]; omega)], Aa⟩)))))))))))))
     ·
      refine kY 3 H R (CV U3 (H.e R) Am (AF (Fg))) R λ a H => kY 3 H R (CU U3 (H.e R) Am dT) R λ a H => kY 1 H R (Ai CL R (H.e R) ((Ad.cell k0 1).trans R)) R λ a H => kG H R (kV (v := J (j : Nat)) H (Dl (q := ((j : Nat) : Int)) U3 (H.e R) Am) R λ a H => kW H R (Bq (j := j) (q := o + j * 5) CL FI (H.e R) (H.e R) (by omega) R) R λ a H => kW H R (Br (q := o + j * 5) EL (H.e R) R) R λ a H => kW H R (Ai U3 R (H.e R) (Bo (BQ HP.out Aa) 0 R)) R λ a H => ?_)
      by_cases F3 : y.1 ≤ p.1
      ·
       exact kY 2 H R (Fv U3 (H.e R) (H.e R) (AE (F3))) R λ a H => zA (zB (zH H R (zC (zD (kR 1 H R λ a H => zA (zB (zF (AS (zJ (zJ (AS (zJ (Ag H R R ⟨by rw [Fj HY.out Ca hl (by rw [HDD.out]; omega)], Aa⟩)))))))))))))
      ·
       refine kY 2 H R (Fv U3 (H.e R) (H.e R) (AF (F3))) R λ a H => zA (zB (zG H R (zE (AC (zB (zD (kR 1 H R λ a H => kX 1 H (Bm (q := ((k + 1 : Nat) : Int)) U3 (H.e R) Am) R λ a H => zA (zI ⟨⟨k + 1, y.1, H.pick [1, 3], by omega, .inr ⟨k, y, R, HY.out, R⟩, Pi Ca hl HY.out (by omega) (by rw [HDD.out]; omega) (by omega), k0, Aa⟩, ?_⟩))))))))
       rw [H.ev (j := 3) rfl, H0.ev (j := 3) rfl]
       simp only [intOf]
       omega
 ·
  obtain rfl : k = L.length := by omega
  refine zC (zC (zD (kR 2 H R λ a H => kV H (Ai CL R (H.e R) ((Ad.cell k0 1).trans R)) R λ a H => kV H (Ba CL (H.e R)) R λ a H => kV H (By U3 (H.e R) (H.e R) dF) R λ a H => zA (zB (zG H R (wp_exit (AJ (AJ (BD (zB (zC (zD (kR 1 H R λ a H => kV H (Ai U3 R (H.e R) ((Ad.cell k0 0).trans R)) R λ a H => ?_)))))))))))))
  by_cases FR : n ≥ 1
  ·
   refine kX 2 H (CV U3 (H.e R) Am (AE (FR))) R λ a H => kW H R (Ai U3 R (H.e R) ((Ad.cell k0 0).trans R)) R λ a H => ?_
   by_cases Hm : n ≤ 1073741824
   ·
    exact kY 2 H R (Fv U3 (H.e R) Am (AE (Hm))) R λ a H => zA (zB (zF (Ag H R R ⟨by rw [show CG n L = true from NM Ca (by omega) (by omega)], Aa⟩)))
   ·
    exact kY 2 H R (Fv U3 (H.e R) Am (AF (Hm))) R λ a H => zA (zB (zF (Ag H R R ⟨by rw [show CG n L = false from Jt (by omega)], Aa⟩)))
  ·
   exact kX 6 H (CV U3 (H.e R) Am (AF (FR))) R λ a H => zA (zB (zF (Ag H R R ⟨by rw [show CG n L = false from Jt (by omega)], Aa⟩)))
end
theorem SN (w : World) (v : Value) (L : List It) (h : ET w v L) (hn : L.length ≤ 100000) :
  Calls Tryz.prog 114 #[v] w fun e w' => (∃ B v', B = w.heap.size ∧ e = .returned v' ∧ D7 w' B v' L) ∧ Below w.heap.size w w' :=
 (Q5 w v L h hn).mono fun e w' ⟨⟨v', he, ho⟩, hb⟩ => ⟨⟨_, v', rfl, he, ho⟩, hb⟩
theorem C5 {B b : Nat} {w w' : World} (h : B ≤ w.heap.size) (hb : Below b w w') : B ≤ w'.heap.size := Nat.le_trans h hb.size
theorem DS {B b : Nat} {w w' : World} (h : B < w.heap.size) (hb : Below b w w') : B < w'.heap.size := Nat.lt_of_lt_of_le h hb.size
theorem Vm {w w' : World} {b o : Nat} (h : w'.heap[b]? = w.heap[b]?) : w'.cell? ⟨b, o, none⟩ = w.cell? ⟨b, o, none⟩ := by unfold World.cell?; rw [h]
theorem JP {w : World} {b o : Nat} {v : Value} {cs : List Value} (h : w.rangeAt b o (v :: cs)) : w.rangeAt b (o + 1) cs := fun j u hu => by
 have := h (j + 1) u (by simpa using hu)
 rwa [Nat.add_assoc, Nat.add_comm 1 j]
theorem AG.keep {α : Type} {enc : α → List Int} {w w' : World} {A : Option Addr} {n c : Nat} {L : List α} (h : AG enc w (.slice A n c) L) (hk : ∀ b o, A = some ⟨b, o, none⟩ → w'.heap[b]? = w.heap[b]?) : AG enc w' (.slice A n c) L := by
 obtain ⟨A', c', e, a1, a2, a3, hh⟩ := h
 injection e with e1 e2 e3
 subst e1 e3
 refine ⟨_, _, by rw [e2], a1, a2, a3, fun j hj => ?_⟩
 obtain ⟨b, o, he, hc⟩ := hh j hj
 exact ⟨b, o, he, (Vm (hk b o he)).trans hc⟩
theorem AG.slice_le {α : Type} {enc : α → List Int} {w : World} {A : Option Addr} {n c : Nat} {L : List α} (h : AG enc w (.slice A n c) L) : n ≤ c := by
 obtain ⟨A', c', e, a1, a2, a3, hh⟩ := h
 injection e with e1 e2 e3
 omega
theorem MB {w : World} {A : Option Addr} {c : Nat} {y : It} {M : List It} (h : ET w (.slice A (y :: M).length c) (y :: M)) : ET w (.slice (C6 A c 1 5) M.length (c - 1)) M := AG.drop Bb h (j := 1) (by simp)
theorem JJ {b o c lo size b' o' : Nat} (h : C6 (some ⟨b, o, none⟩) c lo size = some ⟨b', o', none⟩) : b' = b := by
 unfold C6 at h
 split at h
 · injection h with h; injection h with h; exact h.symm
 · simp [CT] at h; exact h.1.symm
theorem GF {w : World} {B : Nat} {v : Value} {M : List It} {n : Nat} (h : D7 w B v M) (hl : M.length = n) (hp : 0 < n) : ∃ g cap, v = .slice (some ⟨g, 0, none⟩) n cap ∧ B ≤ g ∧ g < w.heap.size := by
 subst hl
 obtain ⟨_, ⟨_, h1⟩ | ⟨g, cap, cur, rfl, hb, hg, _⟩⟩ := h
 · omega
 · exact ⟨g, cap, rfl, hb, Ad.lt hg⟩
theorem JQ {w : World} {B g n cap : Nat} {M : List It} (h : D7 w B (.slice (some ⟨g, 0, none⟩) n cap) M) : g < w.heap.size ∧ ET w (.slice (some ⟨g, 0, none⟩) n cap) M := ⟨(BN.lt h rfl).2, D7.row h⟩
theorem Hh {α : Type} {enc : α → List Int} {e : TypeId} {size : Nat} {w : World} {B : Nat} {v : Value} {L : List α} {x : α} (h : w.ownsRow B e size v (L.length + 1) (FV enc L ++ FV enc [x])) : BN enc e size w B v (L ++ [x]) := by
 unfold BN
 rw [List.length_append, G6]
 exact h
/-- a slice whose memory lies from block B on -/
def Ct (B : Nat) (s : Value) : Prop := ∀ A n c, s = .slice A n c → ∀ b o, A = some ⟨b, o, none⟩ → B ≤ b
theorem Cj {B : Nat} : Ct B (.slice none 0 0) := fun A n c e b o ea => by injection e with e1; rw [← e1] at ea; cases ea
theorem C0 {α : Type} {enc : α → List Int} {e : TypeId} {size : Nat} {w : World} {B B' : Nat} {v : Value} {L : List α} (h : BN enc e size w B v L) (hB : B' ≤ B) : Ct B' v := fun A n c ev b o ea => by
 subst ev ea
 have := (h.lt (q := b) rfl).1
 omega
theorem Xc (L : List It) (x : It) : (L ++ [x]).length = L.length + 1 := by simp
theorem Pz {α : Type} (p : α → Bool) (L : List α) : (L.filter p).length + (L.filter fun y => !p y).length = L.length := by
 induction L with
 | nil => rfl
 | cons y L ih =>
  simp only [List.filter_cons]
  cases hp : p y
  · simp; omega
  · simp; omega
theorem FS (L : List It) (x : It) : (insI L x).length = L.length + 1 := by
 have h := Pz (fun y : It => decide (x.1 < y.1)) L
 have e : (fun y : It => decide (¬ x.1 < y.1)) = fun y => !decide (x.1 < y.1) := by funext y; rw [decide_not]
 unfold insI
 rw [List.length_append, List.length_cons, e]
 omega
theorem Jv {n : Int} {L : List It} (h : E3 n L) : L.length ≤ 7 := by
 have key : ∀ (L : List It) (l : Int), L.Pairwise (fun a b => a.1 < b.1) → (∀ y ∈ L, l < y.1 ∧ y.1 < n + 8) → (L.length : Int) ≤ n + 7 - l ∨ L = [] := by
  intro L
  induction L with
  | nil => intro l _ _; exact .inr rfl
  | cons y L ih =>
   intro l hp hb
   left
   rw [List.pairwise_cons] at hp
   have hy := hb y (List.mem_cons_self ..)
   rcases ih y.1 hp.2 (fun z hz => ⟨hp.1 z hz, (hb z (List.mem_cons_of_mem _ hz)).2⟩) with h | h
   · simp only [List.length_cons]; omega
   · subst h; simp; omega
 rcases key L n h.2.2.1 (fun y hy => by have := h.2.2.2 y hy; omega) with h | h
 · omega
 · subst h; simp
theorem UP {n : Int} {L : List It} {x : It} (h : E3 n L) (h0 : n ≤ x.1) (h1 : x.1 < 1073741824) : ∀ y ∈ L ++ [x], 0 ≤ y.1 ∧ y.1 ≤ 2147483648 := by
 intro y hy
 have := h.1
 rcases List.mem_append.1 hy with hy | hy
 · have := h.2.2.2 y hy; omega
 · have := List.mem_singleton.1 hy; subst this; omega
/-- what goes, and what waits -/
def popF : Int → List It → (Int × List It) × List Nt
 | n, [] => ((n, []), [])
 | n, y :: M => if y.1 = n then ((popF (n + 1) M).1, y.2 :: (popF (n + 1) M).2) else ((n, y :: M), [])
theorem Kw (n : Int) : popF n [] = ((n, []), []) := rfl
theorem G0 {n : Int} {y : It} {M : List It} (h : ¬ y.1 = n) : popF n (y :: M) = ((n, y :: M), []) := if_neg h
theorem Jw {n : Int} {y : It} {M : List It} (h : y.1 = n) : popF n (y :: M) = ((popF (n + 1) M).1, y.2 :: (popF (n + 1) M).2) := if_pos h
def Jl (n : Int) (L : List It) (x : It) : Prop := CG n L = false ∨ x.1 < n ∨ 8 ≤ x.1 - n ∨ 1073741824 ≤ x.1 ∨ Ge L x.1 = true
instance (n : Int) (L : List It) (x : It) : Decidable (Jl n L x) := by unfold Jl; infer_instance
def takeF (n : Int) (L : List It) (x : It) : (Int × List It) × List Nt := if Jl n L x then ((n, L), []) else popF n (insI L x)
theorem EV {n : Int} {L : List It} {x : It} (h : CG n L = false ∨ x.1 < n ∨ 8 ≤ x.1 - n ∨ 1073741824 ≤ x.1 ∨ Ge L x.1 = true) : takeF n L x = ((n, L), []) := if_pos h
theorem Jo {n : Int} {L : List It} {x : It} (h : E3 n L) (h1 : n ≤ x.1) (h2 : x.1 - n < 8) (h3 : x.1 < 1073741824) (h4 : Ge L x.1 = false) : takeF n L x = popF n (insI L x) := by
 unfold takeF
 rw [if_neg]
 rintro (e | e | e | e | e)
 · rw [show CG n L = true from decide_eq_true h] at e; cases e
 · omega
 · omega
 · omega
 · rw [h4] at e; cases e
def Ku (w : World) (b : Nat) : Nat := match w.cell? ⟨b, 1, none⟩ with | some (.slice _ n _) => n | _ => 0
theorem HD {w : World} {b : Nat} {t : TypeId} {x : Value} {A : Option Addr} {n c : Nat} (k : Ad w b t #[x, .slice A n c]) : Ku w b = n := by
 unfold Ku
 rw [k.cell 1]
 rfl
theorem BT {P : Program} {a : Act} {w : World} {n : Nat} {l : List (Nat × Value)} {fn : Func} {R : Ending → World → Prop} {p u : Tmp} {ty : TypeId} {g : Nat} {t : TypeId} {C : Array Value} {x : Value} {ds : TypeDesc} (H : Kn a n l) (hf : fn.results = #[.cell p ty, .tmp u]) (hp : lk l p = some (.pointer (some ⟨g, 0, none⟩))) (hx : lk l u = some x)
  (hg : Ad w g t C) (hu : P.underlying ty = some ds) (hd : (match ds with | .struct _ | .array _ _ => true | _ => false) = true) (hi : (P.info? ty).map (·.size) = some C.size) (h : R (.returned (.tuple #[.agg C, x])) w) : bodyPost P fn R .ret a w := by
 refine ⟨H.defers, _, L9 hf a.tmps w g t C ds (H.at_ p _ hp) hg hu hd hi, ?_⟩
 rw [H.at_ u x hx]
 exact h
def xT (W : World) (b0 : Nat) (nn : Int) (s : Value) (w : World) : Prop := Below W.heap.size W w ∧ Ad w b0 70 #[J nn, s]
def oU (W : World) (b0 : Nat) (nn : Int) (s : Value) (b oo : Nat) (y : It) (w : World) : Prop := Below W.heap.size W w ∧ Ad w b0 70 #[J nn, s] ∧ w.rangeAt b (oo + 0 * 5) (IV (EN y))
def TkI (W : World) (B b0 b1 b2 g : Nat) (x : It) (top : Int) (T : (Int × List It) × List Nt) (a : Act) (w : World) : Prop :=
 ∃ (M : List It) (nn : Int) (A' : Option Addr) (c' : Nat) (o : Value) (NS : List Nt), Kn a 84 [(2, .pointer (some ⟨b0, 0, none⟩)), (3, .pointer (some ⟨b1, 0, none⟩)), (4, .pointer (some ⟨b2, 0, none⟩)), (7, o)] ∧ (1 ≤ nn ∧ nn + (M.length : Nat) ≤ top) ∧
  Ad w b0 70 #[J nn, .slice A' M.length c'] ∧ Ad w b1 65 #[J x.1, J x.2.1, J x.2.2.1, J x.2.2.2.1, J x.2.2.2.2] ∧ Ad w b2 70 #[J 0, .slice none 0 0] ∧ ET w (.slice A' M.length c') M ∧ (∀ b o', A' = some ⟨b, o', none⟩ → b = g) ∧
  Lw w B o NS ∧ o.ownBlock ≠ some g ∧ NS.length + M.length ≤ 8 ∧ g < w.heap.size ∧ B ≤ w.heap.size ∧ T = ((popF nn M).1, NS ++ (popF nn M).2) ∧ Below W.heap.size W w
theorem PO (w : World) (n : Int) (v : Value) (L : List It) (x : It) (h : ET w v L) (hn : L.length ≤ 100000) (mK : -9223372036854775808 ≤ x.1) (mJ : x.1 ≤ 9223372036854775807) :
  Calls Tryz.prog 88 #[.agg #[J n, v], .agg #[J x.1, J x.2.1, J x.2.2.1, J x.2.2.2.1, J x.2.2.2.2]] w fun e w' => (∃ s o, e = .returned (.tuple #[.agg #[J (takeF n L x).1.1, s], o]) ∧ (ET w' s (takeF n L x).1.2 ∧ Ct w.heap.size s) ∧ (V5 w' o (takeF n L x).2 ∧ Ct w.heap.size o)) ∧ Below w.heap.size w w' := by
 have Aa := Below.refl w.heap.size w
 refine Az 84 Tryz.func88 R R λ a H => zC (zD (B7 70 _ #[J n, v] (H.e R) fun w0 b0 Ak hb k0 => ?_))
 have g0 := Nat.le_trans Aa.size Ak; replace Aa := Aa.tr hb; clear hb; clear Ak; refine kl H rfl λ a H => B7 65 _ #[J x.1, J x.2.1, J x.2.2.1, J x.2.2.2.1, J x.2.2.2.2] (H.ev rfl) fun w1 b1 Ak hb k1 => ?_
 have g1 := Nat.le_trans Aa.size Ak; have N7 : b0 < b1 := Nat.lt_of_lt_of_le k0.lt Ak; replace k0 := k0.ups hb; replace Aa := Aa.tr hb; clear hb; clear Ak; refine kl H rfl λ a H => Bj 70 #[J 0, .slice none 0 0] VG fun w2 b2 Ak hb k2 => ?_
 have g2 := Nat.le_trans Aa.size Ak; have Ro : b0 < b2 := Nat.lt_of_lt_of_le k0.lt Ak; have N6 : b1 < b2 := Nat.lt_of_lt_of_le k1.lt Ak; replace k0 := k0.ups hb; replace k1 := k1.ups hb; replace Aa := Aa.tr hb; clear hb; clear Ak; refine kL 1 H rfl λ a H => zA (zB (zC (zD (kR 1 H rfl λ a H => kV H (Ai CL rfl (H.ev rfl) ((Ad.cell k0 1).trans rfl)) rfl λ a H => A8 _ _ _ (SN _ _ L (AG.up h Aa) hn) (Av lR (H.ev rfl)) ?_))))
 rintro e w9 ⟨⟨B, v1, hB, rfl, Ah⟩, hb⟩; refine ⟨_, rfl, ?_⟩; have e0 : b0 < B := hB ▸ k0.lt; have e1 : b1 < B := hB ▸ k1.lt; have e2 : b2 < B := hB ▸ k2.lt; have IC := Aa.size; rw [← hB] at IC; have Ds := hb.size; rw [← hB] at Ds; replace k0 := k0.ups hb; replace k1 := k1.ups hb; replace k2 := k2.ups hb; replace Aa := Aa.tr hb; clear hb; clear hB; obtain ⟨A1, c1, rfl, -, -, -⟩ := Et Ah; refine kL 1 H rfl λ a H => AP 63 (.tmp 11) (.tmp 10) b0 1 70 (.slice A1 L.length c1) _ (H.ev rfl) (H.ev rfl) k0 Wq (by simp [Value.cells]) (by simp [Value.cells, Value.oneCell']) fun w' hb ho kq => ?_
 clear k0; have k0 : Ad _ b0 70 #[J n, .slice A1 L.length c1] := kq; clear kq; replace k1 := Ae k1 (ho _ (by omega)); replace k2 := Ae k2 (ho _ (by omega)); replace Ah := BN.keep Ah (fun q e => ho q (by have := (Ah.lt e).1; omega)); replace Ds := C5 Ds (hb _ g0); replace Aa := Aa.trans (hb _ g0); clear hb ho; refine Dz H λ a H => zA (zB (zC (zD (kX 1 (v := .func (.func 115) #[] #[.pointer (some ⟨b1, 0, none⟩)]) H (Y1 (H.ev rfl)) rfl λ a H => zA (zB (zC (zC ?_)))))))
 obtain ⟨rt, KN⟩ : ∃ rt, CG n L = rt := ⟨_, rfl⟩
 obtain ⟨hq, qJ⟩ : ∃ hq, Ge L x.1 = hq := ⟨_, rfl⟩
 have HRT := Lib.hid KN
 have HHQ := Lib.hid qJ
 cases rt
 ·
  clear KN qJ
  refine zD (kV H (AL (cs := [J n, .slice A1 L.length c1]) (H.e R) (Ar k0) (by kernel_rfl) DU R) R λ a H => A8 _ _ _ (FZ _ n _ L (D7.row Ah) (by omega)) (Av Ru (H.e R)) ?_)
  rintro e w9 ⟨rfl, hb⟩; refine ⟨_, rfl, ?_⟩; rw [HRT.out]; replace k0 := k0.ups hb; replace k1 := k1.ups hb; replace k2 := k2.ups hb; replace Ah := BN.up Ah hb; replace Ds := C5 Ds hb; replace Aa := Aa.tr hb; clear hb; refine kl H rfl λ a H => kX 26 H (Bs (H.ev rfl) rfl) rfl λ a H => zA (zB (zH H rfl (zC (zD (kV H (AL (cs := [J n, .slice A1 L.length c1]) (H.ev rfl) (Ar k0) (by kernel_rfl) DU rfl) rfl λ a H => AP 70 (.tmp 4) (.tmp 42) b2 0 70 (.agg #[J n, .slice A1 L.length c1]) _ (H.ev rfl) (H.ev rfl) k2 DU (by simp [Value.cells]) (by simp [Value.cells, Value.oneCell']) fun w' hb ho kq => ?_)))))
  clear k2; have k2 : Ad _ b2 70 #[J n, .slice A1 L.length c1] := kq; clear kq; replace k0 := Ae k0 (ho _ (by omega)); replace k1 := Ae k1 (ho _ (by omega)); replace Ah := BN.keep Ah (fun q e => ho q (by have := (Ah.lt e).1; omega)); replace Ds := C5 Ds (hb _ g2); replace Aa := Aa.trans (hb _ g2); clear hb ho; refine kO 1 H rfl λ a H => zA (zB (zF (zJ ?_)))
  rw [show takeF n L x = ((n, L), []) from EV (by first | exact .inl HRT.out | exact .inr (.inl (by omega)) | exact .inr (.inr (.inl (by omega))) | exact .inr (.inr (.inr (.inl (by omega)))) | exact .inr (.inr (.inr (.inr HHQ.out))))]
  exact BT H R R R k2 ND R DU ⟨⟨_, _, R, ⟨D7.row Ah, C0 Ah IC⟩, ⟨AG.nil, Cj⟩⟩, Aa⟩
 ·
  have hR : E3 n L := of_decide_eq_true KN
  have Xk := hR.1
  have Ya := hR.2.1
  have hLl := Jv hR
  have HR := Lib.hid hR
  clear KN qJ hR
  cases hq
  ·
   refine zD (kV H (AL (cs := [J n, .slice A1 L.length c1]) (H.e R) (Ar k0) (by kernel_rfl) DU R) R λ a H => A8 _ _ _ (FZ _ n _ L (D7.row Ah) (by omega)) (Av Ru (H.e R)) ?_)
   rintro e w9 ⟨rfl, hb⟩; refine ⟨_, rfl, ?_⟩; rw [HRT.out]; replace k0 := k0.ups hb; replace k1 := k1.ups hb; replace k2 := k2.ups hb; replace Ah := BN.up Ah hb; replace Ds := C5 Ds hb; replace Aa := Aa.tr hb; clear hb; refine kl H rfl λ a H => kX 2 H (Bs (H.ev rfl) rfl) rfl λ a H => kY 1 H rfl (Ai U3 rfl (H.ev rfl) ((Ad.cell k1 0).trans rfl)) rfl λ a H => kW H rfl (Ai U3 rfl (H.ev rfl) ((Ad.cell k0 0).trans rfl)) rfl λ a H => ?_
   by_cases BE : x.1 < n
   ·
    refine kY 20 H R (By U3 (H.e R) (H.e R) (AE (BE))) R λ a H => zA (zB (zH H R (zC (zD (kV H (AL (cs := [J n, .slice A1 L.length c1]) (H.e R) (Ar k0) (by kernel_rfl) DU R) R λ a H => AP 70 (.tmp 4) (.tmp 42) b2 0 70 (.agg #[J n, .slice A1 L.length c1]) _ (H.e R) (H.e R) k2 DU (by simp [Value.cells]) (by simp [Value.cells, Value.oneCell']) fun w' hb ho kq => ?_)))))
    clear k2; have k2 : Ad _ b2 70 #[J n, .slice A1 L.length c1] := kq; clear kq; replace k0 := Ae k0 (ho _ (by omega)); replace k1 := Ae k1 (ho _ (by omega)); replace Ah := BN.keep Ah (fun q e => ho q (by have := (Ah.lt e).1; omega)); replace Ds := C5 Ds (hb _ g2); replace Aa := Aa.trans (hb _ g2); clear hb ho; refine kO 1 H rfl λ a H => zA (zB (zF (zJ ?_)))
    rw [show takeF n L x = ((n, L), []) from EV (by first | exact .inl HRT.out | exact .inr (.inl (by omega)) | exact .inr (.inr (.inl (by omega))) | exact .inr (.inr (.inr (.inl (by omega)))) | exact .inr (.inr (.inr (.inr HHQ.out))))]
    exact BT H R R R k2 ND R DU ⟨⟨_, _, R, ⟨D7.row Ah, C0 Ah IC⟩, ⟨AG.nil, Cj⟩⟩, Aa⟩
   ·
    refine kY 3 H R (By U3 (H.e R) (H.e R) (AF (BE))) R λ a H => kY 1 H R (Ai U3 R (H.e R) ((Ad.cell k1 0).trans R)) R λ a H => kW H R (Ai U3 R (H.e R) ((Ad.cell k0 0).trans R)) R λ a H => kW H R (Dl (q := x.1 - n) U3 (H.e R) (H.e R)) R λ a H => ?_
    by_cases Cn : (x.1 - n) ≥ 8
    ·
     refine kY 12 H R (CV U3 (H.e R) Am (AE (Cn))) R λ a H => zA (zB (zH H R (zC (zD (kV H (AL (cs := [J n, .slice A1 L.length c1]) (H.e R) (Ar k0) (by kernel_rfl) DU R) R λ a H => AP 70 (.tmp 4) (.tmp 42) b2 0 70 (.agg #[J n, .slice A1 L.length c1]) _ (H.e R) (H.e R) k2 DU (by simp [Value.cells]) (by simp [Value.cells, Value.oneCell']) fun w' hb ho kq => ?_)))))
     clear k2; have k2 : Ad _ b2 70 #[J n, .slice A1 L.length c1] := kq; clear kq; replace k0 := Ae k0 (ho _ (by omega)); replace k1 := Ae k1 (ho _ (by omega)); replace Ah := BN.keep Ah (fun q e => ho q (by have := (Ah.lt e).1; omega)); replace Ds := C5 Ds (hb _ g2); replace Aa := Aa.trans (hb _ g2); clear hb ho; refine kO 1 H rfl λ a H => zA (zB (zF (zJ ?_)))
     rw [show takeF n L x = ((n, L), []) from EV (by first | exact .inl HRT.out | exact .inr (.inl (by omega)) | exact .inr (.inr (.inl (by omega))) | exact .inr (.inr (.inr (.inl (by omega)))) | exact .inr (.inr (.inr (.inr HHQ.out))))]
     exact BT H R R R k2 ND R DU ⟨⟨_, _, R, ⟨D7.row Ah, C0 Ah IC⟩, ⟨AG.nil, Cj⟩⟩, Aa⟩
    ·
     refine kY 3 H R (CV U3 (H.e R) Am (AF (Cn))) R λ a H => kW H R (Ai U3 R (H.e R) ((Ad.cell k1 0).trans R)) R λ a H => ?_
     by_cases CP : x.1 ≥ 1073741824
     ·
      refine kY 7 H R (CV U3 (H.e R) Am (AE (CP))) R λ a H => zA (zB (zH H R (zC (zD (kV H (AL (cs := [J n, .slice A1 L.length c1]) (H.e R) (Ar k0) (by kernel_rfl) DU R) R λ a H => AP 70 (.tmp 4) (.tmp 42) b2 0 70 (.agg #[J n, .slice A1 L.length c1]) _ (H.e R) (H.e R) k2 DU (by simp [Value.cells]) (by simp [Value.cells, Value.oneCell']) fun w' hb ho kq => ?_)))))
      clear k2; have k2 : Ad _ b2 70 #[J n, .slice A1 L.length c1] := kq; clear kq; replace k0 := Ae k0 (ho _ (by omega)); replace k1 := Ae k1 (ho _ (by omega)); replace Ah := BN.keep Ah (fun q e => ho q (by have := (Ah.lt e).1; omega)); replace Ds := C5 Ds (hb _ g2); replace Aa := Aa.trans (hb _ g2); clear hb ho; refine kO 1 H rfl λ a H => zA (zB (zF (zJ ?_)))
      rw [show takeF n L x = ((n, L), []) from EV (by first | exact .inl HRT.out | exact .inr (.inl (by omega)) | exact .inr (.inr (.inl (by omega))) | exact .inr (.inr (.inr (.inl (by omega)))) | exact .inr (.inr (.inr (.inr HHQ.out))))]
      exact BT H R R R k2 ND R DU ⟨⟨_, _, R, ⟨D7.row Ah, C0 Ah IC⟩, ⟨AG.nil, Cj⟩⟩, Aa⟩
     ·
      refine kY 3 H R (CV U3 (H.e R) Am (AF (CP))) R λ a H => kY 1 H R (Ai CL R (H.e R) ((Ad.cell k0 1).trans R)) R λ a H => kG H R (A8 _ _ _ (KF _ _ L x b1 (D7.row Ah) (by omega) (Ar k1)) (AA bB (H.e R) (H.e R)) ?_)
      rintro e w9 ⟨rfl, hb⟩; refine ⟨_, rfl, ?_⟩; rw [HHQ.out]; replace k0 := k0.ups hb; replace k1 := k1.ups hb; replace k2 := k2.ups hb; replace Ah := BN.up Ah hb; replace Ds := C5 Ds hb; replace Aa := Aa.tr hb; clear hb; refine kL 1 H rfl λ a H => zA (zB (zG H rfl (zE (zB (zC (zD (kR 1 H rfl λ a H => kV H (Ai CL rfl (H.ev rfl) ((Ad.cell k0 1).trans rfl)) rfl λ a H => kV H (AL (cs := [J x.1, J x.2.1, J x.2.2.1, J x.2.2.2.1, J x.2.2.2.2]) (H.ev rfl) (Ar k1) (by kernel_rfl) FI rfl) rfl λ a H => BP 63 1 #[(0, .agg #[J x.1, J x.2.1, J x.2.2.1, J x.2.2.2.1, J x.2.2.2.2])] 65 #[J x.1, J x.2.1, J x.2.2.1, J x.2.2.2.1, J x.2.2.2.2] (by simp [Am, H.ev (j := 45) rfl]) (fun w => by kernel_rfl) fun w3 b3 Ak hb k3 => ?_)))))))
      have g3 := Nat.le_trans Aa.size Ak; have jE : b0 < b3 := Nat.lt_of_lt_of_le k0.lt Ak; have jD : b1 < b3 := Nat.lt_of_lt_of_le k1.lt Ak; have jA : b2 < b3 := Nat.lt_of_lt_of_le k2.lt Ak; replace k0 := k0.ups hb; replace k1 := k1.ups hb; replace k2 := k2.ups hb; replace Ah := BN.up Ah hb; replace Ds := C5 Ds hb; replace Aa := Aa.tr hb; clear hb; clear Ak; refine kl H rfl λ a H => BX 63 65 (.tmp 44) (.tmp 46) B (.agg #[J 0, J 0, J 0, J 0, J 0]) 5 40 _ _ _ (some ⟨b3, 0, none⟩) 1 1 (FV EN [x]) (H.ev rfl) (H.ev rfl) CL MU rfl (by omega) Ah (by rw [Cu Bb]; rfl) (BG k3 rfl) (CI _ _) (by unfold maxLen; omega) (by omega) Ds fun v2 w9 AU _ _ Cb => ?_
      replace k0 := Ad.up k0 Cb e0; replace k1 := Ad.up k1 Cb e1; replace k2 := Ad.up k2 Cb e2; have Bv := Hh AU; replace Aa := Aa.trans (Cb.mono IC); replace Ds := C5 Ds Cb; clear AU Ah k3 Cb; obtain ⟨g, cap, rfl, Oq, DI⟩ := GF Bv (Xc L x) (by omega); refine kL 1 H rfl λ a H => AP 63 (.tmp 48) (.tmp 47) b0 1 70 (.slice (some ⟨g, 0, none⟩) (L.length + 1) cap) _ (H.ev rfl) (H.ev rfl) k0 Wq (by simp [Value.cells]) (by simp [Value.cells, Value.oneCell']) fun w' hb ho kq => ?_
      clear k0; have k0 : Ad _ b0 70 #[J n, .slice (some ⟨g, 0, none⟩) (L.length + 1) cap] := kq; clear kq; replace k1 := Ae k1 (ho _ (by omega)); replace k2 := Ae k2 (ho _ (by omega)); replace Ds := C5 Ds (hb _ g0); replace Bv := BN.keep Bv (fun q e => ho q (by have := (Bv.lt e).1; omega)); replace Aa := Aa.trans (hb _ g0); clear hb ho; refine Dz H λ a H => zA (zB (zC (zD (kR 1 H rfl λ a H => kV H (Ai CL rfl (H.ev rfl) ((Ad.cell k0 1).trans rfl)) rfl λ a H => kC 0 (Wf _ B g cap L.length L x Ds rfl (by omega) HR.out.2.2.1 (UP HR.out (by omega) (by omega)) Bv) (AA lQ (H.ev rfl) rfl) H rfl fun w9 a ⟨Cq, Cb⟩ H => ?_))))
      replace k0 := Ad.up k0 Cb e0; replace k1 := Ad.up k1 Cb e1; replace k2 := Ad.up k2 Cb e2; replace Aa := Aa.trans (Cb.mono IC); replace Ds := C5 Ds Cb; clear Cb Bv
      refine zA (zB (zC (zD (kR 1 H R λ a H => zA (zB (zC (wp_block ?_)))))))
      have HTK : Hid (takeF n L x = popF n (insI L x)) := Lib.hid (Jo HR.out (by omega) (by omega) (by omega) HHQ.out)
      obtain ⟨Rb, AY⟩ := JQ Cq
      have J8 := FS L x
      have Rh : 1 ≤ n ∧ n + ((insI L x).length : Nat) ≤ n + 8 := by omega
      refine wp_loop (TkI w B b0 b1 b2 g x (n + 8) (popF n (insI L x))) (fun a w' => Ku w' b0) ⟨insI L x, n, some ⟨g, 0, none⟩, cap, .slice none 0 0, [], H.pick [2, 3, 4, 7], Rh, by rw [J8]; exact k0, k1, k2, by rw [J8]; exact AY, (fun b o e => by injection e with e; injection e with e; exact e.symm), BN.nil, (fun e => by cases e), by simp only [List.length_nil]; omega, Rb, Ds, R, Aa⟩ ?_
      clear H Aa k0 k1 k2 AY DI Rb Cq Ds Rh
      rintro a w' ⟨M, nn, A', c', o, NS, H, ⟨iC, vG⟩, k0, k1, k2, AY, LD, Cm, QW, vL, DI, Ds, MV, Aa⟩
      have H0 := H
      cases M with
      | nil =>
       have k0' : Ad w' b0 70 #[J nn, .slice A' 0 c'] := k0
       replace k0 := k0'
       clear k0'
       have HPE := Lib.hid (Kw nn)
       refine zC (zC ?_)
       have hS : xT w b0 nn (.slice A' 0 c') _ := ⟨Aa.drew, k0⟩
       refine CZ (xT w b0 nn (.slice A' 0 c')) [(0, true), (1, true), (2, true), (3, true), (4, true), (5, true), (6, true), (7, true), (8, true), (9, true), (10, true), (11, true), (12, true), (13, true)] (by kernel_rfl) (by kernel_rfl) R (by kernel_rfl) hS ?_
       replace k1 : Ad (World.drew _) b1 65 _ := k1
       replace k2 : Ad (World.drew _) b2 70 _ := k2
       replace Cm : Lw (World.drew _) B o NS := BN.keep Cm (fun _ _ => rfl)
       replace AY : ET (World.drew _) _ _ := AG.keep AY (fun _ _ _ => rfl)
       replace DI : g < (World.drew _).heap.size := DI
       replace Ds : B ≤ (World.drew _).heap.size := Ds
       clear k0 Aa
       refine Bf _ R (fun w' Aj => Br (q := 1) Dp (H.e R) R) (kp H R λ a H => Bf _ R (fun w' Aj => Ai CL R (H.e R) ((Ad.cell (Aj.2) 1).trans R)) (kp H R λ a H => Bf _ R (fun w' Aj => Ba CL (H.e R)) (kp H R λ a H => Bf _ R (fun w' Aj => CU U3 (H.e R) Am dF) (kp H R λ a H => Bf _ R (fun w' Aj => C4 (H.e R)) (kp H R λ a H => C7 R R R (H.e R) (kp H R λ a H => C7 R R R (H.e R) (kp H R λ a H => C7 R R R (H.e R) (kp H R λ a H => C7 R R R (H.e R) (kp H R λ a H => C7 R R R (H.e R) (kp H R λ a H => C7 R R R (H.e R) (kp H R λ a H => C7 R R R (H.e R) (kp H R λ a H => C7 R R R (H.e R) (kp H R λ a H => Bf _ R (fun w' Aj => GD (H.e R) Am) (kp H R λ a H => Es (NoPanic.normal ?_)))))))))))))))
       have Aa := hS.1
       have k0 := hS.2
       clear hS
       refine zB (zG H R (wp_exit (AJ (AJ (BD (zB (zC (zD (kX 1 H (AL (cs := [J nn, .slice A' 0 c']) (H.e R) (Ar k0) (by kernel_rfl) DU R) R λ a H => AP 70 (.tmp 4) (.tmp 82) b2 0 70 (.agg #[J nn, .slice A' 0 c']) _ (H.e R) (H.e R) k2 DU (by simp [Value.cells]) (by simp [Value.cells, Value.oneCell']) fun w' hb ho kq => ?_)))))))))
       clear k2; have k2 : Ad _ b2 70 #[J nn, .slice A' 0 c'] := kq; clear kq; replace k0 := Ae k0 (ho _ (by omega)); replace k1 := Ae k1 (ho _ (by omega)); replace AY := AG.keep AY (fun b o e => ho b (by have := LD b o e; omega)); replace Cm := BN.keep Cm (fun q e => ho q (by have := (Cm.lt e).1; omega)); replace DI := DS DI (hb _ g2); replace Ds := C5 Ds (hb _ g2); replace Aa := Aa.trans (hb _ g2); clear hb ho; refine kO 1 H rfl λ a H => zA (zB (zF ?_))
       rw [HTK.out, MV, HPE.out, List.append_nil]
       exact BT H R R R k2 ND R DU ⟨⟨_, _, R, ⟨AY, fun A n c e b o' ea => by injection e with e1 e2 e3; rw [← e1] at ea; have := LD b o' ea; omega⟩, ⟨Lw.row Cm, C0 Cm IC⟩⟩, Aa⟩
      | cons y M =>
       have YT : (0 : Nat) < (y :: M).length := by simp
       have QR : (((y :: M).length : Nat) : Int) > 0 := by simp
       have gI : (y :: M).length = M.length + 1 := rfl
       obtain ⟨b, oo, hA, hr⟩ := CK Bb (BW AY) (by omega) YT
       subst hA
       have VC : b = g := LD b oo rfl
       subst VC
       simp only [List.getElem_cons_zero] at hr
       have aB := AY.slice_le
       have H := H0
       have HK0 := Lib.hid k0
       by_cases TE : y.1 = nn
       ·
        refine zC (zC ?_)
        have hS : oU w b0 nn (.slice (some ⟨b, oo, none⟩) (y :: M).length c') b oo y _ := ⟨Aa.drew, k0, hr⟩
        refine CZ (oU w b0 nn (.slice (some ⟨b, oo, none⟩) (y :: M).length c') b oo y) [(0, true), (1, true), (2, true), (3, true), (4, true), (5, true), (6, true), (7, true), (8, true), (9, true), (10, true), (11, true), (12, true), (13, true)] (by kernel_rfl) (by kernel_rfl) R (by kernel_rfl) hS ?_
        replace k1 : Ad (World.drew _) b1 65 _ := k1
        replace k2 : Ad (World.drew _) b2 70 _ := k2
        replace Cm : Lw (World.drew _) B o NS := BN.keep Cm (fun _ _ => rfl)
        replace AY : ET (World.drew _) _ _ := AG.keep AY (fun _ _ _ => rfl)
        replace DI : b < (World.drew _).heap.size := DI
        replace Ds : B ≤ (World.drew _).heap.size := Ds
        clear k0 Aa
        clear hr
        refine Bf _ R (fun w' Aj => Br (q := 1) Dp (H.e R) R) (kp H R λ a H => Bf _ R (fun w' Aj => Ai CL R (H.e R) ((Ad.cell (Aj.2.1) 1).trans R)) (kp H R λ a H => Bf _ R (fun w' Aj => Ba CL (H.e R)) (kp H R λ a H => Bf _ R (fun w' Aj => CU U3 (H.e R) Am (AE (QR))) (kp H R λ a H => Bf _ R (fun w' Aj => C4 (H.e R)) (kp H R λ a H => Bx _ R R R (H.e R) (fun w' Aj => Br (q := 1) Dp (H.e R) R) (kp H R λ a H => Bx _ R R R (H.e R) (fun w' Aj => Ai CL R (H.e R) ((Ad.cell (Aj.2.1) 1).trans R)) (kp H R λ a H => Bx _ R R R (H.e R) (fun w' Aj => Bq (j := 0) (q := oo + 0 * 5) CL FI (H.e R) Am (by omega) R) (kp H R λ a H => Bx _ R R R (H.e R) (fun w' Aj => Br (q := oo + 0 * 5) EL (H.e R) R) (kp H R λ a H => Bx _ R R R (H.e R) (fun w' Aj => Ai U3 R (H.e R) (Bo (Aj.2.2) 0 R)) (kp H R λ a H => Bx _ R R R (H.e R) (fun w' Aj => Br (q := 0) Ix (H.e R) R) (kp H R λ a H => Bx _ R R R (H.e R) (fun w' Aj => Ai U3 R (H.e R) ((Ad.cell (Aj.2.1) 0).trans R)) (kp H R λ a H => Bx _ R R R (H.e R) (fun w' Aj => A9 U3 (H.e R) (H.e R) (AE (TE))) (kp H R λ a H => Bf _ R (fun w' Aj => Ea (H.e R) (H.e R)) (kp H R λ a H => Es (NoPanic.normal ?_)))))))))))))))
        have Aa := hS.1
        have k0 := hS.2.1
        have hr := hS.2.2
        clear hS
        refine zB (zH H R (zE (zB (wp_block (zC (zD (kR 2 H R λ a H => kV H (Ai CL R (H.e R) ((Ad.cell k0 1).trans R)) R λ a H => kV H (Bq (j := 0) (q := oo + 0 * 5) CL FI (H.e R) Am (by omega) R) R λ a H => kV H (Br (q := oo + 0 * 5 + 1) Px (H.e R) R) R λ a H => kV H (AL (cs := [J y.2.1, J y.2.2.1, J y.2.2.2.1, J y.2.2.2.2]) (H.e R) (JP hr) (by kernel_rfl) EZ R) R λ a H => BP 53 1 #[(0, .agg #[J y.2.1, J y.2.2.1, J y.2.2.2.1, J y.2.2.2.2])] 49 #[J y.2.1, J y.2.2.1, J y.2.2.2.1, J y.2.2.2.2] (by simp [Am, H.ev (j := 71) R]) (fun w => by kernel_rfl) fun w4 b4 Ak hb k4 => ?_)))))))
        have g4 := Nat.le_trans Aa.size Ak; have eH : b0 < b4 := Nat.lt_of_lt_of_le k0.lt Ak; have eG : b1 < b4 := Nat.lt_of_lt_of_le k1.lt Ak; have eF : b2 < b4 := Nat.lt_of_lt_of_le k2.lt Ak; replace k0 := k0.ups hb; replace k1 := k1.ups hb; replace k2 := k2.ups hb; replace AY := AG.up AY hb; replace Cm := BN.up Cm hb; replace DI := DS DI hb; replace Ds := C5 Ds hb; replace hr := BQ hr hb; replace Aa := Aa.tr hb; clear hb; clear Ak; refine kl H rfl λ a H => BX 53 49 (.tmp 66) (.tmp 72) B (.agg #[J 0, J 0, J 0, J 0]) 4 32 o _ _ (some ⟨b4, 0, none⟩) 1 1 (FV EM [y.2]) (H.ev rfl) (H.ev rfl) Yc pI rfl (by omega) Cm (by rw [Cu Cr]; rfl) (BG k4 rfl) (CI _ _) (by unfold maxLen; omega) (by omega) Ds fun o2 w9 AU F0 Fz Cb => ?_
        replace k0 := Ad.up k0 Cb e0; replace k1 := Ad.up k1 Cb e1; replace k2 := Ad.up k2 Cb e2; clear hr; replace AY := AG.keep AY (fun b' o' e => by have := LD b' o' e; subst this; exact F0.block _ DI (fun e => QW e.symm)); have QV := Ls Fz QW DI; have QX := Hh AU; replace DI := DS DI Cb; replace Ds := C5 Ds Cb; replace Aa := Aa.trans (Cb.mono IC); clear AU Cm k4 F0 Fz Cb QW; have Cm := QX; have QW := QV; clear QX QV; refine kL 1 H rfl λ a H => zA (zB (zC (zD (kR 1 H rfl λ a H => kV H (Ai CL rfl (H.ev rfl) ((Ad.cell k0 1).trans rfl)) rfl λ a H => kX 1 (v := .slice (C6 (some ⟨b, oo, none⟩) c' 1 5) M.length (c' - 1)) H (BS CL (.slice (some ⟨b, oo, none⟩) (y :: M).length c') (some (J (1 : Nat))) none none (H.ev rfl) rfl rfl rfl (CF 1 (y :: M).length CL FI _ _ (.inr rfl) (.inl ⟨rfl, rfl⟩) (by omega) (by omega) rfl (by simp) rfl)) rfl λ a H => AP 63 (.tmp 77) (.tmp 76) b0 1 70 (.slice (C6 (some ⟨b, oo, none⟩) c' 1 5) M.length (c' - 1)) _ (H.ev rfl) (H.ev rfl) k0 Wq (by simp [Value.cells]) (by simp [Value.cells, Value.oneCell']) fun w' hb ho kq => ?_))))
        clear k0; have k0 : Ad _ b0 70 #[J nn, .slice (C6 (some ⟨b, oo, none⟩) c' 1 5) M.length (c' - 1)] := kq; clear kq; replace k1 := Ae k1 (ho _ (by omega)); replace k2 := Ae k2 (ho _ (by omega)); replace AY := AG.keep AY (fun b o e => ho b (by have := LD b o e; omega)); replace Cm := BN.keep Cm (fun q e => ho q (by have := (Cm.lt e).1; omega)); replace DI := DS DI (hb _ g0); replace Ds := C5 Ds (hb _ g0); replace Aa := Aa.trans (hb _ g0); clear hb ho; refine Dz H λ a H => zA (zB (zD (kR 1 H rfl λ a H => kV H (Ai U3 rfl (H.ev rfl) ((Ad.cell k0 0).trans rfl)) rfl λ a H => kX 1 H (Bm (q := nn + 1) U3 (H.ev rfl) Am) rfl λ a H => AP 3 (.tmp 81) (.tmp 80) b0 0 70 (J (nn + 1)) _ (H.ev rfl) (H.ev rfl) k0 s3 (by simp [Value.cells]) (Di [(nn + 1)]) fun w' hb ho kq => ?_)))
        clear k0; have k0 : Ad _ b0 70 #[J (nn + 1), .slice (C6 (some ⟨b, oo, none⟩) c' 1 5) M.length (c' - 1)] := kq; clear kq; replace k1 := Ae k1 (ho _ (by omega)); replace k2 := Ae k2 (ho _ (by omega)); replace AY := AG.keep AY (fun b o e => ho b (by have := LD b o e; omega)); replace Cm := BN.keep Cm (fun q e => ho q (by have := (Cm.lt e).1; omega)); replace DI := DS DI (hb _ g0); replace Ds := C5 Ds (hb _ g0); replace Aa := Aa.trans (hb _ g0); clear hb ho; refine Dz H λ a H => zA (AC ?_)
        have LB : ET _ (.slice (C6 (some ⟨b, oo, none⟩) c' 1 5) M.length (c' - 1)) M := MB AY
        have Xx : ∀ b' o', C6 (some ⟨b, oo, none⟩) c' 1 5 = some ⟨b', o', none⟩ → b' = b := fun b' o' e => JJ e
        refine zI ⟨⟨M, nn + 1, _, _, o2, NS ++ [y.2], H.pick [2, 3, 4, 7], ⟨by omega, by omega⟩, k0, k1, k2, LB, Xx, Cm, QW, by rw [List.length_append]; simp only [List.length_cons, List.length_nil]; omega, DI, Ds, by rw [MV, Jw (M := M) TE, List.append_assoc]; rfl, Aa⟩, ?_⟩
        rw [HD k0, HD HK0.out]
        simp
       ·
        have HPE := Lib.hid (G0 (M := M) TE)
        refine zC (zC ?_)
        have hS : oU w b0 nn (.slice (some ⟨b, oo, none⟩) (y :: M).length c') b oo y _ := ⟨Aa.drew, k0, hr⟩
        refine CZ (oU w b0 nn (.slice (some ⟨b, oo, none⟩) (y :: M).length c') b oo y) [(0, true), (1, true), (2, true), (3, true), (4, true), (5, true), (6, true), (7, true), (8, true), (9, true), (10, true), (11, true), (12, true), (13, true)] (by kernel_rfl) (by kernel_rfl) R (by kernel_rfl) hS ?_
        replace k1 : Ad (World.drew _) b1 65 _ := k1
        replace k2 : Ad (World.drew _) b2 70 _ := k2
        replace Cm : Lw (World.drew _) B o NS := BN.keep Cm (fun _ _ => rfl)
        replace AY : ET (World.drew _) _ _ := AG.keep AY (fun _ _ _ => rfl)
        replace DI : b < (World.drew _).heap.size := DI
        replace Ds : B ≤ (World.drew _).heap.size := Ds
        clear k0 Aa
        clear hr
        refine Bf _ R (fun w' Aj => Br (q := 1) Dp (H.e R) R) (kp H R λ a H => Bf _ R (fun w' Aj => Ai CL R (H.e R) ((Ad.cell (Aj.2.1) 1).trans R)) (kp H R λ a H => Bf _ R (fun w' Aj => Ba CL (H.e R)) (kp H R λ a H => Bf _ R (fun w' Aj => CU U3 (H.e R) Am (AE (QR))) (kp H R λ a H => Bf _ R (fun w' Aj => C4 (H.e R)) (kp H R λ a H => Bx _ R R R (H.e R) (fun w' Aj => Br (q := 1) Dp (H.e R) R) (kp H R λ a H => Bx _ R R R (H.e R) (fun w' Aj => Ai CL R (H.e R) ((Ad.cell (Aj.2.1) 1).trans R)) (kp H R λ a H => Bx _ R R R (H.e R) (fun w' Aj => Bq (j := 0) (q := oo + 0 * 5) CL FI (H.e R) Am (by omega) R) (kp H R λ a H => Bx _ R R R (H.e R) (fun w' Aj => Br (q := oo + 0 * 5) EL (H.e R) R) (kp H R λ a H => Bx _ R R R (H.e R) (fun w' Aj => Ai U3 R (H.e R) (Bo (Aj.2.2) 0 R)) (kp H R λ a H => Bx _ R R R (H.e R) (fun w' Aj => Br (q := 0) Ix (H.e R) R) (kp H R λ a H => Bx _ R R R (H.e R) (fun w' Aj => Ai U3 R (H.e R) ((Ad.cell (Aj.2.1) 0).trans R)) (kp H R λ a H => Bx _ R R R (H.e R) (fun w' Aj => A9 U3 (H.e R) (H.e R) (AF (TE))) (kp H R λ a H => Bf _ R (fun w' Aj => Ea (H.e R) (H.e R)) (kp H R λ a H => Es (NoPanic.normal ?_)))))))))))))))
        have Aa := hS.1
        have k0 := hS.2.1
        have hr := hS.2.2
        clear hS
        refine zB (zG H R (wp_exit (AJ (AJ (BD (zB (zC (zD (kX 1 H (AL (cs := [J nn, .slice (some ⟨b, oo, none⟩) (y :: M).length c']) (H.e R) (Ar k0) (by kernel_rfl) DU R) R λ a H => AP 70 (.tmp 4) (.tmp 82) b2 0 70 (.agg #[J nn, .slice (some ⟨b, oo, none⟩) (y :: M).length c']) _ (H.e R) (H.e R) k2 DU (by simp [Value.cells]) (by simp [Value.cells, Value.oneCell']) fun w' hb ho kq => ?_)))))))))
        clear k2; have k2 : Ad _ b2 70 #[J nn, .slice (some ⟨b, oo, none⟩) (y :: M).length c'] := kq; clear kq; replace k0 := Ae k0 (ho _ (by omega)); replace k1 := Ae k1 (ho _ (by omega)); replace AY := AG.keep AY (fun b o e => ho b (by have := LD b o e; omega)); replace Cm := BN.keep Cm (fun q e => ho q (by have := (Cm.lt e).1; omega)); replace DI := DS DI (hb _ g2); replace Ds := C5 Ds (hb _ g2); replace Aa := Aa.trans (hb _ g2); clear hb ho; refine kO 1 H rfl λ a H => zA (zB (zF ?_))
        rw [HTK.out, MV, HPE.out, List.append_nil]
        exact BT H R R R k2 ND R DU ⟨⟨_, _, R, ⟨AY, fun A n c e b o' ea => by injection e with e1 e2 e3; rw [← e1] at ea; have := LD b o' ea; omega⟩, ⟨Lw.row Cm, C0 Cm IC⟩⟩, Aa⟩
  ·
   refine zD (kV H (AL (cs := [J n, .slice A1 L.length c1]) (H.e R) (Ar k0) (by kernel_rfl) DU R) R λ a H => A8 _ _ _ (FZ _ n _ L (D7.row Ah) (by omega)) (Av Ru (H.e R)) ?_)
   rintro e w9 ⟨rfl, hb⟩; refine ⟨_, rfl, ?_⟩; rw [HRT.out]; replace k0 := k0.ups hb; replace k1 := k1.ups hb; replace k2 := k2.ups hb; replace Ah := BN.up Ah hb; replace Ds := C5 Ds hb; replace Aa := Aa.tr hb; clear hb; refine kl H rfl λ a H => kX 2 H (Bs (H.ev rfl) rfl) rfl λ a H => kY 1 H rfl (Ai U3 rfl (H.ev rfl) ((Ad.cell k1 0).trans rfl)) rfl λ a H => kW H rfl (Ai U3 rfl (H.ev rfl) ((Ad.cell k0 0).trans rfl)) rfl λ a H => ?_
   by_cases DJ : x.1 < n
   ·
    refine kY 20 H R (By U3 (H.e R) (H.e R) (AE (DJ))) R λ a H => zA (zB (zH H R (zC (zD (kV H (AL (cs := [J n, .slice A1 L.length c1]) (H.e R) (Ar k0) (by kernel_rfl) DU R) R λ a H => AP 70 (.tmp 4) (.tmp 42) b2 0 70 (.agg #[J n, .slice A1 L.length c1]) _ (H.e R) (H.e R) k2 DU (by simp [Value.cells]) (by simp [Value.cells, Value.oneCell']) fun w' hb ho kq => ?_)))))
    clear k2; have k2 : Ad _ b2 70 #[J n, .slice A1 L.length c1] := kq; clear kq; replace k0 := Ae k0 (ho _ (by omega)); replace k1 := Ae k1 (ho _ (by omega)); replace Ah := BN.keep Ah (fun q e => ho q (by have := (Ah.lt e).1; omega)); replace Ds := C5 Ds (hb _ g2); replace Aa := Aa.trans (hb _ g2); clear hb ho; refine kO 1 H rfl λ a H => zA (zB (zF (zJ ?_)))
    rw [show takeF n L x = ((n, L), []) from EV (by first | exact .inl HRT.out | exact .inr (.inl (by omega)) | exact .inr (.inr (.inl (by omega))) | exact .inr (.inr (.inr (.inl (by omega)))) | exact .inr (.inr (.inr (.inr HHQ.out))))]
    exact BT H R R R k2 ND R DU ⟨⟨_, _, R, ⟨D7.row Ah, C0 Ah IC⟩, ⟨AG.nil, Cj⟩⟩, Aa⟩
   ·
    refine kY 3 H R (By U3 (H.e R) (H.e R) (AF (DJ))) R λ a H => kY 1 H R (Ai U3 R (H.e R) ((Ad.cell k1 0).trans R)) R λ a H => kW H R (Ai U3 R (H.e R) ((Ad.cell k0 0).trans R)) R λ a H => kW H R (Dl (q := x.1 - n) U3 (H.e R) (H.e R)) R λ a H => ?_
    by_cases Em : (x.1 - n) ≥ 8
    ·
     refine kY 12 H R (CV U3 (H.e R) Am (AE (Em))) R λ a H => zA (zB (zH H R (zC (zD (kV H (AL (cs := [J n, .slice A1 L.length c1]) (H.e R) (Ar k0) (by kernel_rfl) DU R) R λ a H => AP 70 (.tmp 4) (.tmp 42) b2 0 70 (.agg #[J n, .slice A1 L.length c1]) _ (H.e R) (H.e R) k2 DU (by simp [Value.cells]) (by simp [Value.cells, Value.oneCell']) fun w' hb ho kq => ?_)))))
     clear k2; have k2 : Ad _ b2 70 #[J n, .slice A1 L.length c1] := kq; clear kq; replace k0 := Ae k0 (ho _ (by omega)); replace k1 := Ae k1 (ho _ (by omega)); replace Ah := BN.keep Ah (fun q e => ho q (by have := (Ah.lt e).1; omega)); replace Ds := C5 Ds (hb _ g2); replace Aa := Aa.trans (hb _ g2); clear hb ho; refine kO 1 H rfl λ a H => zA (zB (zF (zJ ?_)))
     rw [show takeF n L x = ((n, L), []) from EV (by first | exact .inl HRT.out | exact .inr (.inl (by omega)) | exact .inr (.inr (.inl (by omega))) | exact .inr (.inr (.inr (.inl (by omega)))) | exact .inr (.inr (.inr (.inr HHQ.out))))]
     exact BT H R R R k2 ND R DU ⟨⟨_, _, R, ⟨D7.row Ah, C0 Ah IC⟩, ⟨AG.nil, Cj⟩⟩, Aa⟩
    ·
     refine kY 3 H R (CV U3 (H.e R) Am (AF (Em))) R λ a H => kW H R (Ai U3 R (H.e R) ((Ad.cell k1 0).trans R)) R λ a H => ?_
     by_cases Fg : x.1 ≥ 1073741824
     ·
      refine kY 7 H R (CV U3 (H.e R) Am (AE (Fg))) R λ a H => zA (zB (zH H R (zC (zD (kV H (AL (cs := [J n, .slice A1 L.length c1]) (H.e R) (Ar k0) (by kernel_rfl) DU R) R λ a H => AP 70 (.tmp 4) (.tmp 42) b2 0 70 (.agg #[J n, .slice A1 L.length c1]) _ (H.e R) (H.e R) k2 DU (by simp [Value.cells]) (by simp [Value.cells, Value.oneCell']) fun w' hb ho kq => ?_)))))
      clear k2; have k2 : Ad _ b2 70 #[J n, .slice A1 L.length c1] := kq; clear kq; replace k0 := Ae k0 (ho _ (by omega)); replace k1 := Ae k1 (ho _ (by omega)); replace Ah := BN.keep Ah (fun q e => ho q (by have := (Ah.lt e).1; omega)); replace Ds := C5 Ds (hb _ g2); replace Aa := Aa.trans (hb _ g2); clear hb ho; refine kO 1 H rfl λ a H => zA (zB (zF (zJ ?_)))
      rw [show takeF n L x = ((n, L), []) from EV (by first | exact .inl HRT.out | exact .inr (.inl (by omega)) | exact .inr (.inr (.inl (by omega))) | exact .inr (.inr (.inr (.inl (by omega)))) | exact .inr (.inr (.inr (.inr HHQ.out))))]
      exact BT H R R R k2 ND R DU ⟨⟨_, _, R, ⟨D7.row Ah, C0 Ah IC⟩, ⟨AG.nil, Cj⟩⟩, Aa⟩
     ·
      refine kY 3 H R (CV U3 (H.e R) Am (AF (Fg))) R λ a H => kY 1 H R (Ai CL R (H.e R) ((Ad.cell k0 1).trans R)) R λ a H => kG H R (A8 _ _ _ (KF _ _ L x b1 (D7.row Ah) (by omega) (Ar k1)) (AA bB (H.e R) (H.e R)) ?_)
      rintro e w9 ⟨rfl, hb⟩; refine ⟨_, rfl, ?_⟩; rw [HHQ.out]; replace k0 := k0.ups hb; replace k1 := k1.ups hb; replace k2 := k2.ups hb; replace Ah := BN.up Ah hb; replace Ds := C5 Ds hb; replace Aa := Aa.tr hb; clear hb; refine kL 1 H rfl λ a H => zA (zB (zH H rfl (zC (zD (kV H (AL (cs := [J n, .slice A1 L.length c1]) (H.ev rfl) (Ar k0) (by kernel_rfl) DU rfl) rfl λ a H => AP 70 (.tmp 4) (.tmp 42) b2 0 70 (.agg #[J n, .slice A1 L.length c1]) _ (H.ev rfl) (H.ev rfl) k2 DU (by simp [Value.cells]) (by simp [Value.cells, Value.oneCell']) fun w' hb ho kq => ?_)))))
      clear k2; have k2 : Ad _ b2 70 #[J n, .slice A1 L.length c1] := kq; clear kq; replace k0 := Ae k0 (ho _ (by omega)); replace k1 := Ae k1 (ho _ (by omega)); replace Ah := BN.keep Ah (fun q e => ho q (by have := (Ah.lt e).1; omega)); replace Ds := C5 Ds (hb _ g2); replace Aa := Aa.trans (hb _ g2); clear hb ho; refine kO 1 H rfl λ a H => zA (zB (zF (zJ ?_)))
      rw [show takeF n L x = ((n, L), []) from EV (by first | exact .inl HRT.out | exact .inr (.inl (by omega)) | exact .inr (.inr (.inl (by omega))) | exact .inr (.inr (.inr (.inl (by omega)))) | exact .inr (.inr (.inr (.inr HHQ.out))))]
      exact BT H R R R k2 ND R DU ⟨⟨_, _, R, ⟨D7.row Ah, C0 Ah IC⟩, ⟨AG.nil, Cj⟩⟩, Aa⟩
theorem Pf {P : Program} {a : Act} {w : World} {n : Nat} {l : List (Nat × Value)} {fn : Func} {R : Ending → World → Prop} {p : Tmp} {ty : TypeId} {g : Nat} {t : TypeId} {C : Array Value} {ds : TypeDesc} (H : Kn a n l) (hf : fn.results = #[.cell p ty]) (hp : lk l p = some (.pointer (some ⟨g, 0, none⟩)))
  (hg : Ad w g t C) (hu : P.underlying ty = some ds) (hd : (match ds with | .struct _ | .array _ _ => true | _ => false) = true) (hi : (P.info? ty).map (·.size) = some C.size) (h : R (.returned (.agg C)) w) : bodyPost P fn R .ret a w :=
 ⟨H.defers, _, Tm hf a.tmps w g t C ds (H.at_ p _ hp) hg hu hd hi, h⟩
/-- the bits of what waits -/
def ackS (n : Int) (L : List It) : Nat := (L.map fun y => 2 ^ (y.1 - n - 1).toNat).sum
def Ey (n : Int) (L : List It) : Int × Int := if CG n L = true then (n - 1, (ackS n L : Nat)) else (0, 0)
theorem Ns (n : Int) {L : List It} {k : Nat} {y : It} (hy : L[k]? = some y) : ackS n (L.take (k + 1)) = ackS n (L.take k) + 2 ^ (y.1 - n - 1).toNat := by
 obtain ⟨hk, rfl⟩ := List.getElem?_eq_some_iff.1 hy
 unfold ackS
 rw [List.take_succ_eq_append_getElem hk, List.map_append, List.sum_append]
 simp
theorem SQ {n : Int} {L : List It} (h : E3 n L) : ∀ (k E : Nat), k ≤ L.length → (∀ (j : Nat) y, j < k → L[j]? = some y → (y.1 - n - 1).toNat < E) → ackS n (L.take k) < 2 ^ E
 | 0, E, _, _ => by have : 0 < 2 ^ E := Nat.two_pow_pos E; simpa [ackS] using this
 | k + 1, E, hk, hE => by
  have hy : L[k]? = some L[k] := List.getElem?_eq_getElem (by omega)
  have ih := SQ h k (L[k].1 - n - 1).toNat (by omega) fun j z hj hz => by
   obtain ⟨LS, rfl⟩ := List.getElem?_eq_some_iff.1 hz
   have := List.pairwise_iff_getElem.1 h.2.2.1 j k LS (by omega) hj
   have := h.2.2.2 _ (List.getElem_mem LS)
   omega
  have he := hE k _ (by omega) hy
  rw [Ns n hy]
  have h2 : 2 ^ ((L[k].1 - n - 1).toNat + 1) ≤ 2 ^ E := Nat.pow_le_pow_right (by omega) he
  rw [Nat.pow_succ] at h2
  omega
theorem O7 {n : Int} {L : List It} {k : Nat} {y : It} (h : E3 n L) (hy : L[k]? = some y) : ackS n (L.take k) < 2 ^ (y.1 - n - 1).toNat := by
 obtain ⟨hk, rfl⟩ := List.getElem?_eq_some_iff.1 hy
 refine SQ h k _ (by omega) fun j z hj hz => ?_
 obtain ⟨LS, rfl⟩ := List.getElem?_eq_some_iff.1 hz
 have := List.pairwise_iff_getElem.1 h.2.2.1 j k LS hk hj
 have := h.2.2.2 _ (List.getElem_mem LS)
 omega
theorem Sk {q : Nat} (h : q ≤ 6) : 2 ^ q ≤ 64 := by
 have : 2 ^ q ≤ 2 ^ 6 := Nat.pow_le_pow_right (by omega) h
 omega
theorem WA {P : Program} {a : Act} {w : World} {d : Option Tmp} {tt : TypeId} {ps : String} {af : Array Edge} {gd : Option (Nat × Bool)} {y : Operand} {q : Nat} {t t2 : TypeId} (ht : P.underlying t = some (.int .i64)) (hy : a.eval y = J (q : Nat)) (hq : q ≤ 6) : (execOp a.eval ⟨d, .binOp .shl t (.const (J 1)) y t2, tt, ps, af, gd⟩).run P w = .ok (.value (J (2 ^ q : Nat))) w := by
 have hc : q = 0 ∨ q = 1 ∨ q = 2 ∨ q = 3 ∨ q = 4 ∨ q = 5 ∨ q = 6 := by omega
 unfold execOp
 simp only [hy]
 rcases hc with rfl | rfl | rfl | rfl | rfl | rfl | rfl <;> go_simp <;> decide
theorem cH : ∀ (q : Fin 7) (s : Fin 64), s.1 < 2 ^ q.1 → bits .or .i64 ((s.1 : Nat) : Int) ((2 ^ q.1 : Nat) : Int) = ((s.1 + 2 ^ q.1 : Nat) : Int) := by decide
theorem fS {P : Program} {a : Act} {w : World} {d : Option Tmp} {tt : TypeId} {ps : String} {af : Array Edge} {gd : Option (Nat × Bool)} {x y : Operand} {s q : Nat} {t t2 : TypeId} (ht : P.underlying t = some (.int .i64)) (hx : a.eval x = J (s : Nat)) (hy : a.eval y = J (2 ^ q : Nat)) (hq : q ≤ 6) (hs : s < 2 ^ q) : (execOp a.eval ⟨d, .binOp .or t x y t2, tt, ps, af, gd⟩).run P w = .ok (.value (J (s + 2 ^ q : Nat))) w := by
 have hp := Sk hq
 have h := cH ⟨q, by omega⟩ ⟨s, by omega⟩ hs
 unfold execOp
 simp only [hx, hy]
 go_simp
 exact h
theorem Uu (w : World) : Calls Tryz.prog 86 #[] w fun e w' => e = .returned (.agg #[J 1, .slice none 0 0]) ∧ Below w.heap.size w w' := by
 have Aa := Below.refl w.heap.size w
 refine Az 2 Tryz.func86 R R λ a H => zC (zD (Bj 70 #[J 0, .slice none 0 0] VG fun w0 b0 Ak hb k0 => ?_))
 have g0 := Nat.le_trans Aa.size Ak; replace Aa := Aa.tr hb; clear hb Ak; refine kl H rfl λ a H => zA (zB (zC (zD (kV H (Bl #[(0, J 1)] (.agg #[J 1, .slice none 0 0]) (by simp [Am]) (fun w => by kernel_rfl)) rfl λ a H => AP 70 (.tmp 0) (.tmp 1) b0 0 70 (.agg #[J 1, .slice none 0 0]) _ (H.ev rfl) (H.ev rfl) k0 DU (by simp [Value.cells]) (by simp [Value.cells, Value.oneCell']) fun w' hb ho kq => ?_))))
 clear k0; have k0 : Ad _ b0 70 #[J 1, .slice none 0 0] := kq; clear kq; replace Aa := Aa.trans (hb _ g0); clear hb ho; exact Dz H λ a H => zA (zB (zF (Pf H rfl rfl k0 ND rfl DU ⟨rfl, Aa⟩)))
def uM (W : World) (b0 : Nat) (n : Int) (A : Option Addr) (c : Nat) (L : List It) (a : Act) (w : World) : Prop :=
 ∃ k : Nat, Kn a 30 [(1, .pointer (some ⟨b0, 0, none⟩)), (3, J (ackS n (L.take k) : Nat)), (10, .slice A L.length c), (11, J (L.length : Nat)), (12, J (k : Nat))] ∧ k ≤ L.length ∧ Ad w b0 70 #[J n, .slice A L.length c] ∧ Below W.heap.size W w
theorem Uh (w : World) (n : Int) (v : Value) (L : List It) (h0 : ET w v L) (hn : L.length ≤ 9223372036854775807) :
  Calls Tryz.prog 90 #[.agg #[J n, v]] w fun e w' => e = .returned (.tuple #[J (Ey n L).1, J (Ey n L).2]) ∧ Below w.heap.size w w' := by
 obtain ⟨A, c, rfl, h1, h2, h3, hh⟩ := h0
 have h : Hid (ET w (.slice A L.length c) L) := Lib.hid ⟨A, c, rfl, h1, h2, h3, hh⟩
 replace hh := Lib.hid hh
 have Aa := Below.refl w.heap.size w
 cases KN : CG n L
 ·
  refine Az 30 Tryz.func90 R R λ a H => zC (zD (B7 70 _ #[J n, .slice A L.length c] (H.e R) fun w0 b0 Ak hb k0 => ?_))
  have g0 := Nat.le_trans Aa.size Ak; replace Aa := Aa.tr hb; clear hb; clear Ak; refine kL 2 H rfl λ a H => zA (zB (zC (zC (zD (kV H (AL (cs := [J n, .slice A L.length c]) (H.ev rfl) (Ar k0) (by kernel_rfl) DU rfl) rfl λ a H => A8 _ _ _ (FZ _ n _ L (AG.up h.out Aa) (by omega)) (Av Ru (H.ev rfl)) ?_)))))
  rintro e w9 ⟨rfl, hb⟩; refine ⟨_, rfl, ?_⟩; rw [KN]; replace k0 := k0.ups hb; replace Aa := Aa.tr hb; clear hb; exact kl H rfl λ a H => kV H (Bs (H.ev rfl) rfl) rfl λ a H => zA (zB (zH H rfl (zC (zD (kR 2 H rfl λ a H => zA (zB (zF (zJ (GJ H rfl rfl rfl ⟨by rw [show Ey n L = (0, 0) from if_neg (by rw [KN]; simp)], Aa⟩)))))))))
 ·
  have HR : Hid (E3 n L) := Lib.hid (of_decide_eq_true KN)
  have Xk := HR.out.1
  have Ya := HR.out.2.1
  have HRT := Lib.hid KN
  refine Az 30 Tryz.func90 R R λ a H => zC (zD (B7 70 _ #[J n, .slice A L.length c] (H.e R) fun w0 b0 Ak hb k0 => ?_))
  have g0 := Nat.le_trans Aa.size Ak; replace Aa := Aa.tr hb; clear hb; clear Ak; refine kL 2 H rfl λ a H => zA (zB (zC (zC (zD (kV H (AL (cs := [J n, .slice A L.length c]) (H.ev rfl) (Ar k0) (by kernel_rfl) DU rfl) rfl λ a H => A8 _ _ _ (FZ _ n _ L (AG.up h.out Aa) (by omega)) (Av Ru (H.ev rfl)) ?_)))))
  rintro e w9 ⟨rfl, hb⟩; refine ⟨_, rfl, ?_⟩; rw [KN]; replace k0 := k0.ups hb; replace Aa := Aa.tr hb; clear hb; refine kl H rfl λ a H => kV H (Bs (H.ev rfl) rfl) rfl λ a H => zA (zB (zG H rfl (zE (zB (zC (zC (zD (kR 1 H rfl λ a H => kV H (Ai CL rfl (H.ev rfl) ((Ad.cell k0 1).trans rfl)) rfl λ a H => kX 1 H (Ba CL (H.ev rfl)) rfl λ a H => zA (zB (wp_block (wp_loop (uM w b0 n A c L) (fun a _ => L.length - (intOf (a.eval (.tmp 12))).toNat) ⟨0, H.pick [1, 3, 10, 11, 12], by omega, k0, Aa⟩ ?_)))))))))))
  clear H Aa k0
  rintro a w' ⟨k, H, hk, k0, Aa⟩
  have H0 := H
  by_cases CM : k < L.length
  ·
   obtain ⟨b, o, hA, hr⟩ := CK Bb hh.out (by omega) CM
   subst hA
   have hy : L[k]? = some L[k] := List.getElem?_eq_getElem CM
   have qX := HR.out.2.2.2 _ (List.getElem_mem CM)
   have dW := Ns n hy
   have mU := O7 HR.out hy
   have HRG := Lib.hid hr
   generalize L[k] = y at *
   obtain ⟨q, hq⟩ : ∃ q : Nat, y.1 - n - 1 = q := ⟨(y.1 - n - 1).toNat, by omega⟩
   have fA : q ≤ 6 := by omega
   have Sw : (y.1 - n - 1).toNat = q := by omega
   rw [Sw] at dW mU
   generalize ackS n (L.take k) = sk at *
   have HS1 := Lib.hid dW
   have zX := Sk fA
   clear hy hr Sw dW
   have H := H0
   refine zC (zD (kV H (By U3 (H.e R) (H.e R) dT) R λ a H => zA (zB (zC (zH H R (zE (zB (zC (wp_block (zC (zD (kV H (Bq (j := k) (q := o + k * 5) CL FI (H.e R) (H.e R) (by omega) R) R λ a H => kV H (AL (cs := [J y.1, J y.2.1, J y.2.2.1, J y.2.2.2.1, J y.2.2.2.2]) (H.e R) (BQ HRG.out Aa) (by kernel_rfl) FI R) R λ a H => De 65 5 (.tmp 15) #[J y.1, J y.2.1, J y.2.2.1, J y.2.2.2.1, J y.2.2.2.2] _ uN FI R (Di [y.1, y.2.1, y.2.2.1, y.2.2.2.1, y.2.2.2.2]) (fun p => (H.put 5 p R).ev R) (fun p => (H.put 5 p R).ev R) fun w1 b1 Ak hb k1 => ?_))))))))))))
   have g1 := Nat.le_trans Aa.size Ak; replace k0 := k0.ups hb; replace Aa := Aa.tr hb; clear hb; clear Ak; refine kl H rfl λ a H => zA (zB (zD (kR 2 H rfl λ a H => kX 1 H (Ai U3 rfl (H.ev rfl) ((Ad.cell k1 0).trans rfl)) rfl λ a H => kV H (Ai U3 rfl (H.ev rfl) ((Ad.cell k0 0).trans rfl)) rfl λ a H => kV H (Dl (q := y.1 - n) U3 (H.ev rfl) (H.ev rfl)) rfl λ a H => kV (v := J (q : Nat)) H (Dl (q := ((q : Nat) : Int)) U3 (H.ev rfl) Am) rfl λ a H => kV (v := J (2 ^ q : Nat)) H (WA U3 (H.ev rfl) fA) rfl λ a H => kX 1 (v := J (sk + 2 ^ q : Nat)) H (fS U3 (H.ev rfl) (H.ev rfl) fA mU) rfl λ a H => zA (AC (zB (zD (kX 1 H (Bm (q := ((k + 1 : Nat) : Int)) U3 (H.ev rfl) Am) rfl λ a H => zA ?_)))))))
   replace H := H.pick [1, 3, 10, 11, 12]
   rw [← HS1.out] at H
   refine zI ⟨⟨k + 1, H, by omega, k0, Aa⟩, ?_⟩
   rw [H.ev (j := 12) rfl, H0.ev (j := 12) rfl]
   simp only [intOf]
   omega
  ·
   obtain rfl : k = L.length := by omega
   exact zC (zD (kV H (By U3 (H.e R) (H.e R) dF) R λ a H => zA (zB (zC (zG H R (wp_exit (AJ (AJ (BD (zB (zC (zD (kR 1 H R λ a H => kV H (Ai U3 R (H.e R) ((Ad.cell k0 0).trans R)) R λ a H => kX 3 H (Dl (q := n - 1) U3 (H.e R) Am) R λ a H => zA (zB (zF (GJ H R R R ⟨by rw [show Ey n L = (n - 1, ((ackS n L : Nat) : Int)) from if_pos KN, List.take_length], Aa⟩))))))))))))))))
section
theorem Q6 : ∀ (M : List It) (n : Int), ∃ j : Nat, j ≤ M.length ∧ popF n M = ((n + j, M.drop j), (M.take j).map (·.2))
 | [], n => ⟨0, by simp, by simp [popF]⟩
 | y :: M, n => by
  by_cases h : y.1 = n
  ·
   obtain ⟨j, hj, e⟩ := Q6 M (n + 1)
   refine ⟨j + 1, by simp; omega, ?_⟩
   rw [Jw h, e]
   simp
   omega
  · exact ⟨0, by simp, by rw [G0 h]; simp⟩
theorem Y6 (M : List It) (n : Int) : (popF n M).1.2.length + (popF n M).2.length = M.length ∧ (popF n M).1.1 = n + ((popF n M).2.length : Nat) := by
 obtain ⟨j, hj, e⟩ := Q6 M n
 rw [e]
 simp
 omega
theorem NN : ∀ (M : List It) (n : Int), 1 ≤ n → n ≤ 1073741824 → M.Pairwise (fun a b => a.1 < b.1) → (∀ y ∈ M, n ≤ y.1 ∧ y.1 - n < 8 ∧ y.1 < 1073741824) → E3 (popF n M).1.1 (popF n M).1.2
 | [], n, h1, h2, _, _ => ⟨h1, h2, .nil, by simp [popF]⟩
 | y :: M, n, h1, h2, hp, hb => by
  have hy := hb y (List.mem_cons_self ..)
  have hp' := List.pairwise_cons.1 hp
  by_cases h : y.1 = n
  ·
   rw [Jw h]
   exact NN M (n + 1) (by omega) (by omega) hp'.2 fun z hz => by
    have a1 := hp'.1 z hz
    have a2 := hb z (List.mem_cons_of_mem _ hz)
    omega
  ·
   rw [G0 h]
   show E3 n (y :: M)
   refine ⟨h1, h2, hp, fun z hz => ?_⟩
   rcases List.mem_cons.1 hz with rfl | hz
   · omega
   ·
    have a1 := hp'.1 z hz
    have a2 := hb z (List.mem_cons_of_mem _ hz)
    omega
theorem TD {L : List It} {x y : It} : y ∈ insI L x ↔ y = x ∨ y ∈ L := by
 unfold insI
 rw [List.mem_append, List.mem_cons, List.mem_filter, List.mem_filter]
 constructor
 ·
  rintro (⟨h, _⟩ | rfl | ⟨h, _⟩)
  · exact .inr h
  · exact .inl rfl
  · exact .inr h
 ·
  rintro (rfl | h)
  · exact .inr (.inl rfl)
  ·
   by_cases e : x.1 < y.1
   · exact .inr (.inr ⟨h, by simp [e]⟩)
   · exact .inl ⟨h, by simp; omega⟩
theorem KB {L : List It} {q : Int} : Ge L q = true ↔ ∃ y ∈ L, y.1 = q := by
 unfold Ge
 rw [List.any_eq_true]
 simp
theorem SE {L : List It} {q : Int} : Ge L q = false ↔ ∀ y ∈ L, y.1 ≠ q := by
 unfold Ge
 rw [List.any_eq_false]
 simp
theorem St {L : List It} {x : It} (hS : L.Pairwise (fun a b => a.1 < b.1)) (hq : Ge L x.1 = false) : (insI L x).Pairwise (fun a b => a.1 < b.1) := by
 rw [SE] at hq
 unfold insI
 rw [List.pairwise_append, List.pairwise_cons]
 refine ⟨hS.filter _, ⟨fun y hy => ?_, hS.filter _⟩, fun y hy z hz => ?_⟩
 ·
  have := (List.mem_filter.1 hy).2
  simpa using this
 ·
  obtain ⟨h1, h2⟩ := List.mem_filter.1 hy
  have h2 := of_decide_eq_true h2
  have h3 := hq y h1
  rcases List.mem_cons.1 hz with rfl | hz
  · omega
  ·
   have := (List.mem_filter.1 hz).2
   have := of_decide_eq_true this
   omega
section
variable {n : Int} {L : List It} {x : It}
theorem KW (h : Jl n L x) : takeF n L x = ((n, L), []) := if_pos h
theorem OM (h : ¬ Jl n L x) : takeF n L x = popF n (insI L x) := if_neg h
theorem Sn (h : ¬ Jl n L x) : E3 n L ∧ n ≤ x.1 ∧ x.1 - n < 8 ∧ x.1 < 1073741824 ∧ Ge L x.1 = false := by
 unfold Jl at h
 refine ⟨of_decide_eq_true ?_, by omega, by omega, by omega, ?_⟩
 ·
  cases e : CG n L with
  | true => exact e
  | false => exact absurd (.inl e) h
 ·
  cases e : Ge L x.1 with
  | false => rfl
  | true => exact absurd (.inr (.inr (.inr (.inr e)))) h
theorem UO (h : ¬ Jl n L x) : (insI L x).Pairwise (fun a b => a.1 < b.1) ∧ ∀ y ∈ insI L x, n ≤ y.1 ∧ y.1 - n < 8 ∧ y.1 < 1073741824 := by
 obtain ⟨hR, h1, h2, h3, h4⟩ := Sn h
 refine ⟨St hR.2.2.1 h4, fun y hy => ?_⟩
 rcases TD.1 hy with rfl | hy
 · omega
 · have := hR.2.2.2 y hy; omega
theorem ME (hR : E3 n L) : E3 (takeF n L x).1.1 (takeF n L x).1.2 := by
 by_cases h : Jl n L x
 · rw [KW h]; exact hR
 ·
  rw [OM h]
  obtain ⟨h1, h2⟩ := UO h
  exact NN _ n hR.1 hR.2.1 h1 h2
end
end
end Go.Proofs.YtbnmpoonkjlkjaaGreat
