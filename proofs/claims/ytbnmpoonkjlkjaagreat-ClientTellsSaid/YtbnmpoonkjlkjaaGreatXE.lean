/- Client: part E of the proof. -/
import Derived.Test.YtbnmpoonkjlkjaaGreatXD
import Derived.Laws.Cover3
namespace Go.Proofs.YtbnmpoonkjlkjaaGreat
open Go.RowKit
set_option linter.unusedVariables false
set_option linter.unusedSimpArgs false
set_option maxRecDepth 100000
set_option maxHeartbeats 8000000
theorem Ra {p : AZ} {L : List (Nat × Nat × Nat × Nat)} {i : Nat} {s : Nat × Nat × Nat × Nat} (h : ∀ j s, j < i → L[j]? = some s → ((s.2.2.1 : Nat) : Int) ≤ p.fld (DW s.1) ∧ p.fld (DW s.1) ≤ ((s.2.2.2 : Nat) : Int)) (hs : L[i]? = some s)
  (h1 : ((s.2.2.1 : Nat) : Int) ≤ p.fld (DW s.1)) (h2 : p.fld (DW s.1) ≤ ((s.2.2.2 : Nat) : Int)) : ∀ j s, j < i + 1 → L[j]? = some s → ((s.2.2.1 : Nat) : Int) ≤ p.fld (DW s.1) ∧ p.fld (DW s.1) ≤ ((s.2.2.2 : Nat) : Int) := by
 intro j t hj ht
 by_cases e : j = i
 ·
  subst e
  rw [hs] at ht
  injection ht with ht
  subst ht
  exact ⟨h1, h2⟩
 · exact h j t (by omega) ht
theorem M6 (w : World) (k : Int) (h : 2 ≤ k ∧ k ≤ 4) : Calls Tryz.prog 64 #[J k] w fun e w' => e = .returned (.bool true) ∧ Below w.heap.size w w' := by simpa [h] using M8 w k
theorem M7 (w : World) (k : Int) (h : ¬ (2 ≤ k ∧ k ≤ 4)) : Calls Tryz.prog 64 #[J k] w fun e w' => e = .returned (.bool false) ∧ Below w.heap.size w w' := by
 have := M8 w k
 rwa [decide_eq_false h] at this
theorem G9 (w : World) (k : Int) (h : 5 ≤ k ∧ k ≤ 11) : Calls Tryz.prog 66 #[J k] w fun e w' => e = .returned (.bool true) ∧ Below w.heap.size w w' := by simpa [h] using Mt w k
theorem GA (w : World) (k : Int) (h : ¬ (5 ≤ k ∧ k ≤ 11)) : Calls Tryz.prog 66 #[J k] w fun e w' => e = .returned (.bool false) ∧ Below w.heap.size w w' := by
 have := Mt w k
 rwa [decide_eq_false h] at this
theorem nA : BI Tryz.prog 91 0 0 := fun b o w => by go_simp
theorem mZ : BI Tryz.prog 91 1 1 := fun b o w => by go_simp
theorem mY : BI Tryz.prog 91 2 2 := fun b o w => by go_simp
theorem mX : BI Tryz.prog 91 3 3 := fun b o w => by go_simp
theorem GC (k : Int) : (AH k).length ≤ 6 := by
 unfold AH
 by_cases h1 : k = 1
 · rw [if_pos h1]; decide
 rw [if_neg h1]
 by_cases h2 : k = 2
 · rw [if_pos h2]; decide
 rw [if_neg h2]
 by_cases h3 : k = 3
 · rw [if_pos h3]; decide
 rw [if_neg h3]
 by_cases h4 : k = 4
 · rw [if_pos h4]; decide
 rw [if_neg h4]
 by_cases h5 : k = 5
 · rw [if_pos h5]; decide
 rw [if_neg h5]
 by_cases Nc : k = 10
 · rw [if_pos Nc]; decide
 rw [if_neg Nc]
 by_cases h6 : k = 6
 · rw [if_pos h6]; decide
 rw [if_neg h6]
 by_cases h7 : k = 7
 · rw [if_pos h7]; decide
 rw [if_neg h7]
 by_cases h8 : k = 8
 · rw [if_pos h8]; decide
 rw [if_neg h8]
 by_cases h9 : k = 9
 · rw [if_pos h9]; decide
 rw [if_neg h9]
 by_cases LV : k = 11
 · rw [if_pos LV]; decide
 rw [if_neg LV]
 by_cases Ln : k = 12
 · rw [if_pos Ln]; decide
 rw [if_neg Ln]
 decide
theorem Ft : (Tryz.prog.info? 33).map (·.size) = some 16 := by kernel_rfl
theorem LN : (Tryz.prog.info? 34).map (·.size) = some 8 := by kernel_rfl
theorem bytes_one (l : List B8) : ((l.map u8v).toArray).all (·.oneCell') = true := D5 l
theorem Db (p : AZ) (L : List (Nat × Nat × Nat × Nat)) (i : Nat) : (BH p L i).length = 12 := by simp [BH]
theorem Tu {N : List Int} {S T : List B8} (h1 : N.length = 12) (h2 : S.length = 16) (h3 : T.length = 8) : (pv ⟨N, S, T⟩).size = 36 := by simp [EI, h1, h2, h3]
theorem IW {w : World} {b : Nat} {t : TypeId} {p : AZ} (h : Ad w b t (pv p)) (hp : p.ok) : w.rangeAt b 12 (p.sec.map u8v) := by
 intro j v hv
 rw [h.cell]
 have hj : j < p.sec.length := by simpa using (List.getElem?_eq_some_iff.1 hv).1
 simp only [EI, List.getElem?_toArray]
 rw [List.append_assoc, List.getElem?_append_right (by simp [hp.1]), List.getElem?_append_left (by simp [hp.1]; omega)]
 simpa [hp.1] using hv
theorem JE {w : World} {b : Nat} {t : TypeId} {p : AZ} (h : Ad w b t (pv p)) (hp : p.ok) : w.rangeAt b 28 (p.tg.map u8v) := by
 intro j v hv
 rw [h.cell]
 simp only [EI, List.getElem?_toArray]
 rw [List.getElem?_append_right (by simp [hp.1, hp.2.1])]
 simpa [hp.1, hp.2.1] using hv
theorem M3 : ∀ (vs pre old post : List Value), old.length = vs.length → C3 (pre ++ old ++ post).toArray pre.length vs = (pre ++ vs ++ post).toArray
 | [], pre, old, post, h => by
  have : old = [] := List.eq_nil_of_length_eq_zero h
  subst this
  rfl
 | v :: vs, pre, [], post, h => by cases h
 | v :: vs, pre, o :: old, post, h => by
  rw [C3]
  have e : (pre ++ o :: old ++ post).toArray.setIfInBounds pre.length v = ((pre ++ [v]) ++ old ++ post).toArray := by
   apply Array.ext'
   simp
  rw [e]
  have := M3 vs (pre ++ [v]) old post (by simpa using h)
  simp only [List.length_append, List.length_cons, List.length_nil] at this
  rw [this]
  simp
theorem Th {w : World} {b : Nat} {t : TypeId} {N : List Int} {S S' T : List B8} (h1 : N.length = 12) (h2 : S.length = S'.length) (h : Ad w b t (C3 (pv ⟨N, S, T⟩) 12 (S'.map u8v).toArray.toList)) : Ad w b t (pv ⟨N, S', T⟩) := by
 have := M3 (S'.map u8v) (N.map (.int .i64)) (S.map u8v) (T.map u8v) (by simpa using h2)
 rw [List.length_map, h1] at this
 show Ad w b t (N.map (Value.int .i64) ++ S'.map u8v ++ T.map u8v).toArray
 rw [← this]
 exact h
theorem Mr {w : World} {b : Nat} {t : TypeId} {N : List Int} {S T T' : List B8} (h1 : N.length = 12) (h2 : S.length = 16) (h3 : T.length = T'.length) (h : Ad w b t (C3 (pv ⟨N, S, T⟩) 28 (T'.map u8v).toArray.toList)) : Ad w b t (pv ⟨N, S, T'⟩) := by
 have := M3 (T'.map u8v) (N.map (.int .i64) ++ S.map u8v) (T.map u8v) [] (by simpa using h3)
 rw [List.length_append, List.length_map, List.length_map, h1, h2, List.append_nil, List.append_nil] at this
 show Ad w b t (N.map (Value.int .i64) ++ S.map u8v ++ T'.map u8v).toArray
 rw [← this]
 exact h
/-- what a right packet of this one's kind holds -/
def full (p : AZ) (L : List (Nat × Nat × Nat × Nat)) : AZ := ⟨BH p L L.length, if 2 ≤ p.fld 0 ∧ p.fld 0 ≤ 4 then p.sec else List.replicate 16 0, if 5 ≤ p.fld 0 ∧ p.fld 0 ≤ 11 then p.tg else List.replicate 8 0⟩
def JN (p : AZ) : Prop := AH (p.fld 0) ≠ [] ∧ (∀ (j : Nat) (s : Nat × Nat × Nat × Nat), (AH (p.fld 0))[j]? = some s → ((s.2.2.1 : Nat) : Int) ≤ p.fld (DW s.1) ∧ p.fld (DW s.1) ≤ ((s.2.2.2 : Nat) : Int)) ∧ full p (AH (p.fld 0)) = p ∧ ¬ (p.fld 0 = 8 ∧ p.fld 3 = 0 ∧ p.fld 7 + p.fld 5 + p.fld 6 > 0)
noncomputable def Bg (p : AZ) : Bool := @decide (JN p) (Classical.propDecidable _)
theorem CB {p : AZ} (h : JN p) : Bg p = true := @decide_eq_true _ (Classical.propDecidable _) h
theorem Kl {p : AZ} (h : ¬ JN p) : Bg p = false := @decide_eq_false _ (Classical.propDecidable _) h
theorem Du {p : AZ} (h : AH (p.fld 0) = []) : Bg p = false := Kl fun r => r.1 h
theorem Ju {p : AZ} {j : Nat} {s : Nat × Nat × Nat × Nat} (hs : (AH (p.fld 0))[j]? = some s) (h : ¬ (((s.2.2.1 : Nat) : Int) ≤ p.fld (DW s.1) ∧ p.fld (DW s.1) ≤ ((s.2.2.2 : Nat) : Int))) : Bg p = false := Kl fun r => h (r.2.1 j s hs)
theorem Dt {p : AZ} (h : full p (AH (p.fld 0)) ≠ p) : Bg p = false := Kl fun r => h r.2.2.1
theorem FP {p : AZ} (h : p.fld 0 = 8 ∧ p.fld 3 = 0 ∧ p.fld 7 + p.fld 5 + p.fld 6 > 0) : Bg p = false := Kl fun r => r.2.2.2 h
theorem DH {p : AZ} (hk : p.fld 0 = 8) (h : ∀ (j : Nat) (s : Nat × Nat × Nat × Nat), (AH (p.fld 0))[j]? = some s → ((s.2.2.1 : Nat) : Int) ≤ p.fld (DW s.1) ∧ p.fld (DW s.1) ≤ ((s.2.2.2 : Nat) : Int)) : 0 ≤ p.fld 7 ∧ p.fld 7 ≤ 1073741824 ∧ 0 ≤ p.fld 5 ∧ p.fld 5 ≤ 3 ∧ 0 ≤ p.fld 6 ∧ p.fld 6 ≤ 4 := by
 have a := h 3 (103, 4, 0, 1073741824) (by rw [hk]; rfl)
 have b := h 4 (102, 1, 0, 3) (by rw [hk]; rfl)
 have c := h 5 (104, 1, 0, 4) (by rw [hk]; rfl)
 exact ⟨a.1, a.2, b.1, b.2, c.1, c.2⟩
theorem Cs {P : Program} {a : Act} {w : World} {d : Option Tmp} {tt : TypeId} {ps : String} {af : Array Edge} {gd : Option (Nat × Bool)} {t e t2 : TypeId} {x : Operand} {A : Option Addr} {n c : Nat} (ht : P.underlying t = some (.slice e)) (hx : a.eval x = .slice A n c) {b : Bool} (hb : (!A.isNone) = b) :
  (execOp a.eval ⟨d, .binOp .neq t x (.const (.slice none 0 0)) t2, tt, ps, af, gd⟩).run P w = .ok (.value (.bool b)) w := by
 subst hb
 have h := run_neq_slice_nil (P := P) w t e A n c ht
 unfold execOp
 simp only [hx]
 go_simp
theorem Cd {d : Option Tmp} {tt : TypeId} {ps : String} {af : Array Edge} {gd : Option (Nat × Bool)} {a : Act} {w : World} {x y : Operand} {t2 : TypeId} {p q : AZ} {b : Bool} (hp : p.ok) (hq : q.ok) (hx : a.eval x = .agg (pv p)) (hy : a.eval y = .agg (pv q)) (hb : decide (p = q) = b) :
  (execOp a.eval ⟨d, .binOp .eql 36 x y t2, tt, ps, af, gd⟩).run Tryz.prog w = .ok (.value (.bool b)) w := by
 subst hb
 exact cA hp hq hx hy
def Ri1 (W : World) (p : AZ) (L : List (Nat × Nat × Nat × Nat)) (A : Option Addr) (b0 b1 : Nat) (a : Act) (w : World) : Prop :=
 ∃ i : Nat, Kn a 84 [(1, .pointer (some ⟨b0, 0, none⟩)), (3, .slice A L.length L.length), (4, .pointer (some ⟨b1, 0, none⟩)), (15, .slice A L.length L.length), (16, J (L.length : Nat)), (17, J (i : Nat))] ∧ i ≤ L.length ∧ (∀ j s, j < i → L[j]? = some s → ((s.2.2.1 : Nat) : Int) ≤ p.fld (DW s.1) ∧ p.fld (DW s.1) ≤ ((s.2.2.2 : Nat) : Int)) ∧ Ad w b0 36 (pv p) ∧ Ad w b1 36 (pv (FF p L i)) ∧ BJ w A (L.flatMap Lp) ∧ Below W.heap.size W w
theorem MK (w : World) (p : AZ) (hp : p.ok) : Calls Tryz.prog 68 #[.agg (pv p)] w fun e w' => e = .returned (.bool (Bg p)) ∧ Below w.heap.size w w' := by
 have Aa := Below.refl w.heap.size w
 refine Az 84 Tryz.func68 R R λ a H => zC (zD (B7 36 (.tmp 0) (pv p) (H.e R) fun w0 b0 Ak hb k0 => ?_))
 have g0 := Nat.le_trans Aa.size Ak; replace Aa := Aa.tr hb; clear hb Ak; refine kL 1 H rfl λ a H => zA (zB (zC (zD (kR 1 H rfl λ a H => kV H (Ai U3 rfl (H.ev rfl) (AB k0 (AQ hp (j := 0) (by omega)))) rfl λ a H => A8 _ _ _ (KZ _ (p.fld 0)) (Av eQ (H.ev rfl)) ?_))))
 rintro e w9 ⟨⟨A, rfl, hh, hA⟩, hb⟩; refine ⟨_, rfl, ?_⟩; have Iw := WV hA; have KQ := aU hA hh; replace k0 := k0.ups hb; replace Aa := Aa.tr hb; clear hb; obtain ⟨L, hL⟩ : ∃ L, AH (p.fld 0) = L := ⟨_, rfl⟩; rw [hL] at hh Iw hA; have Yb : L.length ≤ 6 := (by rw [← hL]; exact GC _); have HL := Lib.hid hL; rw [hL]; clear hL; refine kL 1 H rfl λ a H => zA (zB (zC (zD (kR 1 H rfl λ a H => kV H (Ai U3 rfl (H.ev rfl) (AB k0 (AQ hp (j := 0) (by omega)))) rfl λ a H => kV (v := .agg (pv (FF p L 0))) H (WI (H.ev rfl)) rfl λ a H => Bj 36 (pv Ec) Jn fun w1 b1 Ak hb k1 => ?_))))
 have g1 := Nat.le_trans Aa.size Ak; have TK : b0 < b1 := Nat.lt_of_lt_of_le k0.lt Ak; have Xu := KQ.le Ak; clear KQ; replace k0 := k0.ups hb; replace hh := Da hh hb; replace Aa := Aa.tr hb; clear hb; clear Ak; refine kl H rfl λ a H => AT 36 (.tmp 4) (.tmp 14) b1 36 (pv (FF p L 0)) _ (H.ev rfl) (H.ev rfl) k1 (AR (CE hp)) (by rw [AI Bz, AI (CE hp)]) (BU _) fun w' hb ho kq => ?_
 clear k1; have k1 := kq; replace k0 := Ae k0 (ho _ (by omega)); replace hh := HH hh (hb _ (Nat.le_refl _)) Xu; replace Aa := Aa.trans (hb _ g1); clear hb ho kq; refine Dz H λ a H => zA (zB (zC (zC (zD (kR 1 H rfl λ a H => kX 1 H (Ba Hs (H.ev rfl)) rfl λ a H => zA (zB (wp_block (wp_loop (Ri1 w p L A b0 b1) (fun a _ => L.length - (intOf (a.eval (.tmp 17))).toNat) ⟨0, H.pick [1, 3, 4, 15, 16, 17], by omega, fun j s hj => by omega, k0, k1, hh, Aa⟩ ?_))))))))
 clear H Aa k0 k1 hh
 rintro a w' ⟨i, H, hi, Lm, k0, k1, hh, Aa⟩
 have H0 := H
 by_cases CM : i < L.length
 ·
  obtain ⟨s, hs⟩ : ∃ s, L[i]? = some s := ⟨_, List.getElem?_eq_getElem CM⟩
  obtain ⟨g, Vd⟩ := Py hA hs
  subst Vd
  have KA := Nr (show (AH (p.fld 0))[i]? = some s by rw [HL.out]; exact hs)
  have HS := Lib.hid (show (AH (p.fld 0))[i]? = some s by rw [HL.out]; exact hs)
  have HLS := Lib.hid hs
  clear hs
  refine zC (zD (kV H (By U3 (H.e R) (H.e R) dT) R λ a H => zA (zB (zC (zH H R (zE (zB (zC (wp_block (zC (zD (kV H (Bq (j := i) (q := 0 + i * 4) Hs Ie (H.e R) (H.e R) (by omega) R) R λ a H => kV H (AL (cs := [.func (.func s.1) #[] #[], J (s.2.1 : Nat), J (s.2.2.1 : Nat), J (s.2.2.2 : Nat)]) (H.e R) (IK hh HLS.out) (by kernel_rfl) Ie R) R λ a H => De 91 6 (.tmp 20) #[.func (.func s.1) #[] #[], J (s.2.1 : Nat), J (s.2.2.1 : Nat), J (s.2.2.2 : Nat)] _ Yd Ie R (by simp [Value.cells, Value.oneCell']) (fun p => (H.put 6 p R).ev R) (fun p => (H.put 6 p R).ev R) fun w2 b2 Ak hb k2 => ?_))))))))))))
  have g2 := Nat.le_trans Aa.size Ak; replace k0 := k0.ups hb; replace k1 := k1.ups hb; replace hh := Da hh hb; replace Aa := Aa.tr hb; clear hb; clear Ak; refine kl H rfl λ a H => zA (zB (zC (zD (kR 1 H rfl λ a H => kV H (Ai oT rfl (H.ev rfl) ((Ad.cell k2 0).trans rfl)) rfl λ a H => kC 0 (P7 _ b0 i HS.out) (Mf (P6 HS.out) (H.ev rfl) (H.ev rfl)) H rfl fun w9 a hb H => ?_))))
  replace k0 := k0.ups hb; replace k1 := k1.ups hb; replace hh := Da hh hb; replace k2 := k2.ups hb; replace Aa := Aa.tr hb; clear hb
  refine kR 1 H R λ a H => kX 1 H (Ai U3 R (H.e R) (AB k0 (AQ hp KA))) R λ a H => zA (zB (zC (zC (zD (kR 2 H R λ a H => kV H (Ai U3 R (H.e R) ((Ad.cell k2 2).trans R)) R λ a H => ?_)))))
  by_cases BE : (p.fld (DW s.1)) < ((s.2.2.1 : Nat) : Int)
  ·
   exact kX 6 H (By U3 (H.e R) (H.e R) (AE (BE))) R λ a H => zA (zB (zH H R (zC (zD (kR 1 H R λ a H => zA (zB (zF (zJ (AS (zJ (zJ (AS (zJ (Ag H R R ⟨by rw [Ju HS.out (by omega)]; first | done | rfl, Aa⟩))))))))))))))
  ·
   refine kX 3 H (By U3 (H.e R) (H.e R) (AF (BE))) R λ a H => kW H R (Ai U3 R (H.e R) ((Ad.cell k2 3).trans R)) R λ a H => ?_
   by_cases Cn : (p.fld (DW s.1)) > ((s.2.2.2 : Nat) : Int)
   ·
    exact kY 1 H R (CU U3 (H.e R) (H.e R) (AE (Cn))) R λ a H => zA (zB (zH H R (zC (zD (kR 1 H R λ a H => zA (zB (zF (zJ (AS (zJ (zJ (AS (zJ (Ag H R R ⟨by rw [Ju HS.out (by omega)]; first | done | rfl, Aa⟩))))))))))))))
   ·
    refine kY 1 H R (CU U3 (H.e R) (H.e R) (AF (Cn))) R λ a H => zA (zB (zG H R (zE (zB (zD (kR 1 H R λ a H => kV H (Ai oT R (H.e R) ((Ad.cell k2 0).trans R)) R λ a H => kC 0 (P7 _ b1 i HS.out) (Mf (P6 HS.out) (H.e R) (H.e R)) H R fun w9 a hb H => ?_))))))
    replace k0 := k0.ups hb; replace k1 := k1.ups hb; replace hh := Da hh hb; replace k2 := k2.ups hb; replace Aa := Aa.tr hb; clear hb
    refine kR 2 H R λ a H => AP 3 (.tmp 40) (.tmp 39) b1 (DW s.1) 36 (J (p.fld (DW s.1))) _ (H.e R) (H.e R) k1 s3 (by rw [AI (CE hp)]; show DW s.1 + 1 ≤ 36; omega) (by simp [Value.cells, Value.oneCell']) fun w' hb ho kq => ?_
    clear k1; have k1 := kq; rw [O3 HLS.out KA] at k1; replace k0 := Ae k0 (ho _ (by omega)); replace hh := HH hh (hb _ (Nat.le_refl _)) Xu; replace Aa := Aa.trans (hb _ g1); clear hb ho kq; refine Dz H λ a H => zA (AC (zB (zD (kX 1 H (Bm (q := ((i + 1 : Nat) : Int)) U3 (H.ev rfl) Am) rfl λ a H => zA ?_))))
    have SC : ∀ j s, j < i + 1 → L[j]? = some s → ((s.2.2.1 : Nat) : Int) ≤ p.fld (DW s.1) ∧ p.fld (DW s.1) ≤ ((s.2.2.2 : Nat) : Int) := Ra Lm HLS.out (by omega) (by omega)
    refine zI ⟨⟨i + 1, H.pick [1, 3, 4, 15, 16, 17], by omega, SC, k0, k1, hh, Aa⟩, ?_⟩
    rw [H.ev (j := 17) rfl, H0.ev (j := 17) rfl]
    simp only [intOf]
    omega
 ·
  obtain rfl : i = L.length := by omega
  refine zC (zD (kV H (By U3 (H.e R) (H.e R) dF) R λ a H => zA (zB (zC (zG H R (wp_exit (AJ (AJ (BD (zB (zC (zC ?_))))))))))))
  by_cases Ig : (2 ≤ p.fld 0 ∧ p.fld 0 ≤ 4)
  ·
   refine zD (kR 1 H R λ a H => kV H (Ai U3 R (H.e R) (AB k0 (AQ hp (j := 0) (by omega)))) R λ a H => kC 0 (M6 _ _ Ig) (Av Vi (H.e R)) H R fun w9 a hb H => ?_)
   replace k0 := k0.ups hb; replace k1 := k1.ups hb; replace hh := Da hh hb; replace Aa := Aa.tr hb; clear hb
   refine zA (zB (zH H R (zD (kR 1 H R λ a H => kX 1 (v := .agg (p.sec.map u8v).toArray) H (AL (cs := p.sec.map u8v) (H.e R) (IW k0 hp) (by kernel_rfl) (by rw [List.length_map, hp.2.1]; exact Ft) R) R λ a H => Cp 33 (.tmp 47) (.tmp 46) b1 12 36 (p.sec.map u8v).toArray _ (H.e R) (H.e R) k1 (by rw [List.size_toArray, List.length_map, hp.2.1]; exact Ft) (by rw [AI (CE hp), List.size_toArray, List.length_map, hp.2.1]; omega) (bytes_one _) fun w' hb ho kq => ?_))))
   clear k1; have k1 := Th (Db p L _) (by rw [List.length_replicate, hp.2.1]) kq; replace k0 := Ae k0 (ho _ (by omega)); replace hh := HH hh (hb _ (Nat.le_refl _)) Xu; replace Aa := Aa.trans (hb _ g1); clear hb ho kq; refine Dz H λ a H => zA (zB (zC (zC ?_)))
   by_cases FQ : (5 ≤ p.fld 0 ∧ p.fld 0 ≤ 11)
   ·
    refine zD (kR 1 H R λ a H => kV H (Ai U3 R (H.e R) (AB k0 (AQ hp (j := 0) (by omega)))) R λ a H => kC 0 (G9 _ _ FQ) (Av KG (H.e R)) H R fun w9 a hb H => ?_)
    replace k0 := k0.ups hb; replace k1 := k1.ups hb; replace hh := Da hh hb; replace Aa := Aa.tr hb; clear hb
    refine zA (zB (zH H R (zD (kR 1 H R λ a H => kX 1 (v := .agg (p.tg.map u8v).toArray) H (AL (cs := p.tg.map u8v) (H.e R) (JE k0 hp) (by kernel_rfl) (by rw [List.length_map, hp.2.2.1]; exact LN) R) R λ a H => Cp 34 (.tmp 53) (.tmp 52) b1 28 36 (p.tg.map u8v).toArray _ (H.e R) (H.e R) k1 (by rw [List.size_toArray, List.length_map, hp.2.2.1]; exact LN) (by rw [List.size_toArray, List.length_map, hp.2.2.1]; show 28 + 8 ≤ (pv ⟨BH p L L.length, p.sec, List.replicate 8 0⟩).size; rw [Tu (Db p L _) (by first | exact hp.2.1 | rfl) R]; omega) (bytes_one _) fun w' hb ho kq => ?_))))
    clear k1; have k1 := Mr (S := p.sec) (Db p L _) (by first | exact hp.2.1 | rfl) (by rw [List.length_replicate, hp.2.2.1]) kq; replace k0 := Ae k0 (ho _ (by omega)); replace hh := HH hh (hb _ (Nat.le_refl _)) Xu; replace Aa := Aa.trans (hb _ g1); clear hb ho kq; refine Dz H λ a H => zA (zB (zC (zD (kR 1 H rfl λ a H => kV H (Ai U3 rfl (H.ev rfl) (AB k0 (AQ hp (j := 0) (by omega)))) rfl λ a H => ?_))))
    by_cases CP : (p.fld 0) = 8
    ·
     refine kX 2 H (A9 U3 (H.e R) Am (AE (CP))) R λ a H => kW H R (Ai U3 R (H.e R) (AB k0 (AQ hp (j := 3) (by omega)))) R λ a H => ?_
     by_cases DJ : (p.fld 3) = 0
     ·
      refine kY 2 H R (A9 U3 (H.e R) Am (AE (DJ))) R λ a H => zA (zB (zC ?_))
      obtain ⟨v1, v2, v3, v4, v5, v6⟩ := DH (p := p) (by assumption) (by rw [HL.out]; exact fun j s hj => Lm j s (List.getElem?_eq_some_iff.1 hj).1 hj)
      have GM : full p L = (⟨BH p L L.length, p.sec, p.tg⟩ : AZ) := by simp only [full, if_pos Ig, if_pos FQ]
      have Ca : AZ.ok (⟨BH p L L.length, p.sec, p.tg⟩ : AZ) := ⟨Db p L _, by first | exact hp.2.1 | rfl, by first | exact hp.2.2.1 | rfl, (CE (i := L.length) hp).2.2.2⟩
      by_cases Ek : L = []
      ·
       exact zD (kR 1 H R λ a H => kX 21 (v := .bool false) H (Cs Hs (H.e R) (by rw [Iw, Ek]; rfl)) R λ a H => zA (zB (zF (Ag H R R ⟨by rw [Du (by rw [HL.out]; exact Ek)]; first | done | rfl, Aa⟩))))
      ·
       by_cases he : (⟨BH p L L.length, p.sec, p.tg⟩ : AZ) = p
       ·
        refine zD (kR 1 H R λ a H => kX 1 (v := .bool true) H (Cs Hs (H.e R) (by rw [Iw, decide_eq_false Ek]; rfl)) R λ a H => kG H R (kV (v := .agg (pv (⟨BH p L L.length, p.sec, p.tg⟩ : AZ))) H (Af b1 36 _ _ (H.e R) k1 C1 R (AR Ca)) R λ a H => kG H R (kV (v := .agg (pv p)) H (Af b0 36 _ _ (H.e R) k0 C1 R (AR hp)) R λ a H => kG H R (kX 5 (v := .bool true) H (Cd Ca hp (H.e R) (H.e R) (decide_eq_true he)) R λ a H => kY 1 H R (Ai U3 R (H.e R) (AB k0 (AQ hp (j := 7) (by omega)))) R λ a H => kW H R (Ai U3 R (H.e R) (AB k0 (AQ hp (j := 5) (by omega)))) R λ a H => kY 1 H R (Bm (q := (p.fld 7) + (p.fld 5)) U3 (H.e R) (H.e R)) R λ a H => kW H R (Ai U3 R (H.e R) (AB k0 (AQ hp (j := 6) (by omega)))) R λ a H => kW H R (Bm (q := ((p.fld 7) + (p.fld 5)) + (p.fld 6)) U3 (H.e R) (H.e R)) R λ a H => ?_))))
        by_cases Em : (((p.fld 7) + (p.fld 5)) + (p.fld 6)) > 0
        ·
         exact kY 1 H R (CU U3 (H.e R) Am (AE (Em))) R λ a H => kY 2 H R (Bs (H.e R) R) R λ a H => zA (zB (zF (Ag H R R ⟨by rw [FP (by omega)]; first | done | rfl, Aa⟩)))
        ·
         exact kY 1 H R (CU U3 (H.e R) Am (AF (Em))) R λ a H => kY 2 H R (Bs (H.e R) R) R λ a H => zA (zB (zF (Ag H R R ⟨by rw [CB ⟨by rw [HL.out]; exact Ek, by rw [HL.out]; exact fun j s hj => Lm j s (List.getElem?_eq_some_iff.1 hj).1 hj, by rw [HL.out, GM]; exact he, by omega⟩]; first | done | rfl, Aa⟩)))
       ·
        exact zD (kR 1 H R λ a H => kX 1 (v := .bool true) H (Cs Hs (H.e R) (by rw [Iw, decide_eq_false Ek]; rfl)) R λ a H => kG H R (kV (v := .agg (pv (⟨BH p L L.length, p.sec, p.tg⟩ : AZ))) H (Af b1 36 _ _ (H.e R) k1 C1 R (AR Ca)) R λ a H => kG H R (kV (v := .agg (pv p)) H (Af b0 36 _ _ (H.e R) k0 C1 R (AR hp)) R λ a H => kG H R (kX 17 (v := .bool false) H (Cd Ca hp (H.e R) (H.e R) (decide_eq_false he)) R λ a H => zA (zB (zF (Ag H R R ⟨by rw [Dt (by rw [HL.out, GM]; exact he)]; first | done | rfl, Aa⟩)))))))
     ·
      refine kY 2 H R (A9 U3 (H.e R) Am (AF (DJ))) R λ a H => zA (zB (zC ?_))
      obtain ⟨v1, v2, v3, v4, v5, v6⟩ := DH (p := p) (by assumption) (by rw [HL.out]; exact fun j s hj => Lm j s (List.getElem?_eq_some_iff.1 hj).1 hj)
      have GM : full p L = (⟨BH p L L.length, p.sec, p.tg⟩ : AZ) := by simp only [full, if_pos Ig, if_pos FQ]
      have Ca : AZ.ok (⟨BH p L L.length, p.sec, p.tg⟩ : AZ) := ⟨Db p L _, by first | exact hp.2.1 | rfl, by first | exact hp.2.2.1 | rfl, (CE (i := L.length) hp).2.2.2⟩
      by_cases Ek : L = []
      ·
       exact zD (kR 1 H R λ a H => kX 21 (v := .bool false) H (Cs Hs (H.e R) (by rw [Iw, Ek]; rfl)) R λ a H => zA (zB (zF (Ag H R R ⟨by rw [Du (by rw [HL.out]; exact Ek)]; first | done | rfl, Aa⟩))))
      ·
       by_cases he : (⟨BH p L L.length, p.sec, p.tg⟩ : AZ) = p
       ·
        exact zD (kR 1 H R λ a H => kX 1 (v := .bool true) H (Cs Hs (H.e R) (by rw [Iw, decide_eq_false Ek]; rfl)) R λ a H => kG H R (kV (v := .agg (pv (⟨BH p L L.length, p.sec, p.tg⟩ : AZ))) H (Af b1 36 _ _ (H.e R) k1 C1 R (AR Ca)) R λ a H => kG H R (kV (v := .agg (pv p)) H (Af b0 36 _ _ (H.e R) k0 C1 R (AR hp)) R λ a H => kG H R (kX 14 (v := .bool true) H (Cd Ca hp (H.e R) (H.e R) (decide_eq_true he)) R λ a H => kY 2 H R (Bs (H.e R) R) R λ a H => zA (zB (zF (Ag H R R ⟨by rw [CB ⟨by rw [HL.out]; exact Ek, by rw [HL.out]; exact fun j s hj => Lm j s (List.getElem?_eq_some_iff.1 hj).1 hj, by rw [HL.out, GM]; exact he, by omega⟩]; first | done | rfl, Aa⟩)))))))
       ·
        exact zD (kR 1 H R λ a H => kX 1 (v := .bool true) H (Cs Hs (H.e R) (by rw [Iw, decide_eq_false Ek]; rfl)) R λ a H => kG H R (kV (v := .agg (pv (⟨BH p L L.length, p.sec, p.tg⟩ : AZ))) H (Af b1 36 _ _ (H.e R) k1 C1 R (AR Ca)) R λ a H => kG H R (kV (v := .agg (pv p)) H (Af b0 36 _ _ (H.e R) k0 C1 R (AR hp)) R λ a H => kG H R (kX 17 (v := .bool false) H (Cd Ca hp (H.e R) (H.e R) (decide_eq_false he)) R λ a H => zA (zB (zF (Ag H R R ⟨by rw [Dt (by rw [HL.out, GM]; exact he)]; first | done | rfl, Aa⟩)))))))
    ·
     refine kX 6 H (A9 U3 (H.e R) Am (AF (CP))) R λ a H => zA (zB (zC ?_))
     have GM : full p L = (⟨BH p L L.length, p.sec, p.tg⟩ : AZ) := by simp only [full, if_pos Ig, if_pos FQ]
     have Ca : AZ.ok (⟨BH p L L.length, p.sec, p.tg⟩ : AZ) := ⟨Db p L _, by first | exact hp.2.1 | rfl, by first | exact hp.2.2.1 | rfl, (CE (i := L.length) hp).2.2.2⟩
     by_cases Ek : L = []
     ·
      exact zD (kR 1 H R λ a H => kX 21 (v := .bool false) H (Cs Hs (H.e R) (by rw [Iw, Ek]; rfl)) R λ a H => zA (zB (zF (Ag H R R ⟨by rw [Du (by rw [HL.out]; exact Ek)]; first | done | rfl, Aa⟩))))
     ·
      by_cases he : (⟨BH p L L.length, p.sec, p.tg⟩ : AZ) = p
      ·
       exact zD (kR 1 H R λ a H => kX 1 (v := .bool true) H (Cs Hs (H.e R) (by rw [Iw, decide_eq_false Ek]; rfl)) R λ a H => kG H R (kV (v := .agg (pv (⟨BH p L L.length, p.sec, p.tg⟩ : AZ))) H (Af b1 36 _ _ (H.e R) k1 C1 R (AR Ca)) R λ a H => kG H R (kV (v := .agg (pv p)) H (Af b0 36 _ _ (H.e R) k0 C1 R (AR hp)) R λ a H => kG H R (kX 14 (v := .bool true) H (Cd Ca hp (H.e R) (H.e R) (decide_eq_true he)) R λ a H => kY 2 H R (Bs (H.e R) R) R λ a H => zA (zB (zF (Ag H R R ⟨by rw [CB ⟨by rw [HL.out]; exact Ek, by rw [HL.out]; exact fun j s hj => Lm j s (List.getElem?_eq_some_iff.1 hj).1 hj, by rw [HL.out, GM]; exact he, by omega⟩]; first | done | rfl, Aa⟩)))))))
      ·
       exact zD (kR 1 H R λ a H => kX 1 (v := .bool true) H (Cs Hs (H.e R) (by rw [Iw, decide_eq_false Ek]; rfl)) R λ a H => kG H R (kV (v := .agg (pv (⟨BH p L L.length, p.sec, p.tg⟩ : AZ))) H (Af b1 36 _ _ (H.e R) k1 C1 R (AR Ca)) R λ a H => kG H R (kV (v := .agg (pv p)) H (Af b0 36 _ _ (H.e R) k0 C1 R (AR hp)) R λ a H => kG H R (kX 17 (v := .bool false) H (Cd Ca hp (H.e R) (H.e R) (decide_eq_false he)) R λ a H => zA (zB (zF (Ag H R R ⟨by rw [Dt (by rw [HL.out, GM]; exact he)]; first | done | rfl, Aa⟩)))))))
   ·
    refine zD (kR 1 H R λ a H => kV H (Ai U3 R (H.e R) (AB k0 (AQ hp (j := 0) (by omega)))) R λ a H => kC 0 (GA _ _ FQ) (Av KG (H.e R)) H R fun w9 a hb H => ?_)
    replace k0 := k0.ups hb; replace k1 := k1.ups hb; replace hh := Da hh hb; replace Aa := Aa.tr hb; clear hb
    refine zA (zB (zG H R (zE (zB (zC (zD (kR 1 H R λ a H => kV H (Ai U3 R (H.e R) (AB k0 (AQ hp (j := 0) (by omega)))) R λ a H => ?_)))))))
    by_cases Fg : (p.fld 0) = 8
    ·
     refine kX 2 H (A9 U3 (H.e R) Am (AE (Fg))) R λ a H => kW H R (Ai U3 R (H.e R) (AB k0 (AQ hp (j := 3) (by omega)))) R λ a H => ?_
     by_cases F3 : (p.fld 3) = 0
     ·
      refine kY 2 H R (A9 U3 (H.e R) Am (AE (F3))) R λ a H => zA (zB (zC ?_))
      obtain ⟨v1, v2, v3, v4, v5, v6⟩ := DH (p := p) (by assumption) (by rw [HL.out]; exact fun j s hj => Lm j s (List.getElem?_eq_some_iff.1 hj).1 hj)
      have GM : full p L = (⟨BH p L L.length, p.sec, List.replicate 8 0⟩ : AZ) := by simp only [full, if_pos Ig, if_neg FQ]
      have Ca : AZ.ok (⟨BH p L L.length, p.sec, List.replicate 8 0⟩ : AZ) := ⟨Db p L _, by first | exact hp.2.1 | rfl, by first | exact hp.2.2.1 | rfl, (CE (i := L.length) hp).2.2.2⟩
      by_cases Ek : L = []
      ·
       exact zD (kR 1 H R λ a H => kX 21 (v := .bool false) H (Cs Hs (H.e R) (by rw [Iw, Ek]; rfl)) R λ a H => zA (zB (zF (Ag H R R ⟨by rw [Du (by rw [HL.out]; exact Ek)]; first | done | rfl, Aa⟩))))
      ·
       by_cases he : (⟨BH p L L.length, p.sec, List.replicate 8 0⟩ : AZ) = p
       ·
        refine zD (kR 1 H R λ a H => kX 1 (v := .bool true) H (Cs Hs (H.e R) (by rw [Iw, decide_eq_false Ek]; rfl)) R λ a H => kG H R (kV (v := .agg (pv (⟨BH p L L.length, p.sec, List.replicate 8 0⟩ : AZ))) H (Af b1 36 _ _ (H.e R) k1 C1 R (AR Ca)) R λ a H => kG H R (kV (v := .agg (pv p)) H (Af b0 36 _ _ (H.e R) k0 C1 R (AR hp)) R λ a H => kG H R (kX 5 (v := .bool true) H (Cd Ca hp (H.e R) (H.e R) (decide_eq_true he)) R λ a H => kY 1 H R (Ai U3 R (H.e R) (AB k0 (AQ hp (j := 7) (by omega)))) R λ a H => kW H R (Ai U3 R (H.e R) (AB k0 (AQ hp (j := 5) (by omega)))) R λ a H => kY 1 H R (Bm (q := (p.fld 7) + (p.fld 5)) U3 (H.e R) (H.e R)) R λ a H => kW H R (Ai U3 R (H.e R) (AB k0 (AQ hp (j := 6) (by omega)))) R λ a H => kW H R (Bm (q := ((p.fld 7) + (p.fld 5)) + (p.fld 6)) U3 (H.e R) (H.e R)) R λ a H => ?_))))
        by_cases FR : (((p.fld 7) + (p.fld 5)) + (p.fld 6)) > 0
        ·
         exact kY 1 H R (CU U3 (H.e R) Am (AE (FR))) R λ a H => kY 2 H R (Bs (H.e R) R) R λ a H => zA (zB (zF (Ag H R R ⟨by rw [FP (by omega)]; first | done | rfl, Aa⟩)))
        ·
         exact kY 1 H R (CU U3 (H.e R) Am (AF (FR))) R λ a H => kY 2 H R (Bs (H.e R) R) R λ a H => zA (zB (zF (Ag H R R ⟨by rw [CB ⟨by rw [HL.out]; exact Ek, by rw [HL.out]; exact fun j s hj => Lm j s (List.getElem?_eq_some_iff.1 hj).1 hj, by rw [HL.out, GM]; exact he, by omega⟩]; first | done | rfl, Aa⟩)))
       ·
        exact zD (kR 1 H R λ a H => kX 1 (v := .bool true) H (Cs Hs (H.e R) (by rw [Iw, decide_eq_false Ek]; rfl)) R λ a H => kG H R (kV (v := .agg (pv (⟨BH p L L.length, p.sec, List.replicate 8 0⟩ : AZ))) H (Af b1 36 _ _ (H.e R) k1 C1 R (AR Ca)) R λ a H => kG H R (kV (v := .agg (pv p)) H (Af b0 36 _ _ (H.e R) k0 C1 R (AR hp)) R λ a H => kG H R (kX 17 (v := .bool false) H (Cd Ca hp (H.e R) (H.e R) (decide_eq_false he)) R λ a H => zA (zB (zF (Ag H R R ⟨by rw [Dt (by rw [HL.out, GM]; exact he)]; first | done | rfl, Aa⟩)))))))
     ·
      refine kY 2 H R (A9 U3 (H.e R) Am (AF (F3))) R λ a H => zA (zB (zC ?_))
      obtain ⟨v1, v2, v3, v4, v5, v6⟩ := DH (p := p) (by assumption) (by rw [HL.out]; exact fun j s hj => Lm j s (List.getElem?_eq_some_iff.1 hj).1 hj)
      have GM : full p L = (⟨BH p L L.length, p.sec, List.replicate 8 0⟩ : AZ) := by simp only [full, if_pos Ig, if_neg FQ]
      have Ca : AZ.ok (⟨BH p L L.length, p.sec, List.replicate 8 0⟩ : AZ) := ⟨Db p L _, by first | exact hp.2.1 | rfl, by first | exact hp.2.2.1 | rfl, (CE (i := L.length) hp).2.2.2⟩
      by_cases Ek : L = []
      ·
       exact zD (kR 1 H R λ a H => kX 21 (v := .bool false) H (Cs Hs (H.e R) (by rw [Iw, Ek]; rfl)) R λ a H => zA (zB (zF (Ag H R R ⟨by rw [Du (by rw [HL.out]; exact Ek)]; first | done | rfl, Aa⟩))))
      ·
       by_cases he : (⟨BH p L L.length, p.sec, List.replicate 8 0⟩ : AZ) = p
       ·
        exact zD (kR 1 H R λ a H => kX 1 (v := .bool true) H (Cs Hs (H.e R) (by rw [Iw, decide_eq_false Ek]; rfl)) R λ a H => kG H R (kV (v := .agg (pv (⟨BH p L L.length, p.sec, List.replicate 8 0⟩ : AZ))) H (Af b1 36 _ _ (H.e R) k1 C1 R (AR Ca)) R λ a H => kG H R (kV (v := .agg (pv p)) H (Af b0 36 _ _ (H.e R) k0 C1 R (AR hp)) R λ a H => kG H R (kX 14 (v := .bool true) H (Cd Ca hp (H.e R) (H.e R) (decide_eq_true he)) R λ a H => kY 2 H R (Bs (H.e R) R) R λ a H => zA (zB (zF (Ag H R R ⟨by rw [CB ⟨by rw [HL.out]; exact Ek, by rw [HL.out]; exact fun j s hj => Lm j s (List.getElem?_eq_some_iff.1 hj).1 hj, by rw [HL.out, GM]; exact he, by omega⟩]; first | done | rfl, Aa⟩)))))))
       ·
        exact zD (kR 1 H R λ a H => kX 1 (v := .bool true) H (Cs Hs (H.e R) (by rw [Iw, decide_eq_false Ek]; rfl)) R λ a H => kG H R (kV (v := .agg (pv (⟨BH p L L.length, p.sec, List.replicate 8 0⟩ : AZ))) H (Af b1 36 _ _ (H.e R) k1 C1 R (AR Ca)) R λ a H => kG H R (kV (v := .agg (pv p)) H (Af b0 36 _ _ (H.e R) k0 C1 R (AR hp)) R λ a H => kG H R (kX 17 (v := .bool false) H (Cd Ca hp (H.e R) (H.e R) (decide_eq_false he)) R λ a H => zA (zB (zF (Ag H R R ⟨by rw [Dt (by rw [HL.out, GM]; exact he)]; first | done | rfl, Aa⟩)))))))
    ·
     refine kX 6 H (A9 U3 (H.e R) Am (AF (Fg))) R λ a H => zA (zB (zC ?_))
     have GM : full p L = (⟨BH p L L.length, p.sec, List.replicate 8 0⟩ : AZ) := by simp only [full, if_pos Ig, if_neg FQ]
     have Ca : AZ.ok (⟨BH p L L.length, p.sec, List.replicate 8 0⟩ : AZ) := ⟨Db p L _, by first | exact hp.2.1 | rfl, by first | exact hp.2.2.1 | rfl, (CE (i := L.length) hp).2.2.2⟩
     by_cases Ek : L = []
     ·
      exact zD (kR 1 H R λ a H => kX 21 (v := .bool false) H (Cs Hs (H.e R) (by rw [Iw, Ek]; rfl)) R λ a H => zA (zB (zF (Ag H R R ⟨by rw [Du (by rw [HL.out]; exact Ek)]; first | done | rfl, Aa⟩))))
     ·
      by_cases he : (⟨BH p L L.length, p.sec, List.replicate 8 0⟩ : AZ) = p
      ·
       exact zD (kR 1 H R λ a H => kX 1 (v := .bool true) H (Cs Hs (H.e R) (by rw [Iw, decide_eq_false Ek]; rfl)) R λ a H => kG H R (kV (v := .agg (pv (⟨BH p L L.length, p.sec, List.replicate 8 0⟩ : AZ))) H (Af b1 36 _ _ (H.e R) k1 C1 R (AR Ca)) R λ a H => kG H R (kV (v := .agg (pv p)) H (Af b0 36 _ _ (H.e R) k0 C1 R (AR hp)) R λ a H => kG H R (kX 14 (v := .bool true) H (Cd Ca hp (H.e R) (H.e R) (decide_eq_true he)) R λ a H => kY 2 H R (Bs (H.e R) R) R λ a H => zA (zB (zF (Ag H R R ⟨by rw [CB ⟨by rw [HL.out]; exact Ek, by rw [HL.out]; exact fun j s hj => Lm j s (List.getElem?_eq_some_iff.1 hj).1 hj, by rw [HL.out, GM]; exact he, by omega⟩]; first | done | rfl, Aa⟩)))))))
      ·
       exact zD (kR 1 H R λ a H => kX 1 (v := .bool true) H (Cs Hs (H.e R) (by rw [Iw, decide_eq_false Ek]; rfl)) R λ a H => kG H R (kV (v := .agg (pv (⟨BH p L L.length, p.sec, List.replicate 8 0⟩ : AZ))) H (Af b1 36 _ _ (H.e R) k1 C1 R (AR Ca)) R λ a H => kG H R (kV (v := .agg (pv p)) H (Af b0 36 _ _ (H.e R) k0 C1 R (AR hp)) R λ a H => kG H R (kX 17 (v := .bool false) H (Cd Ca hp (H.e R) (H.e R) (decide_eq_false he)) R λ a H => zA (zB (zF (Ag H R R ⟨by rw [Dt (by rw [HL.out, GM]; exact he)]; first | done | rfl, Aa⟩)))))))
  ·
   refine zD (kR 1 H R λ a H => kV H (Ai U3 R (H.e R) (AB k0 (AQ hp (j := 0) (by omega)))) R λ a H => kC 0 (M7 _ _ Ig) (Av Vi (H.e R)) H R fun w9 a hb H => ?_)
   replace k0 := k0.ups hb; replace k1 := k1.ups hb; replace hh := Da hh hb; replace Aa := Aa.tr hb; clear hb
   refine zA (zB (zG H R (zE (zB (zC (zC ?_))))))
   by_cases FQ : (5 ≤ p.fld 0 ∧ p.fld 0 ≤ 11)
   ·
    refine zD (kR 1 H R λ a H => kV H (Ai U3 R (H.e R) (AB k0 (AQ hp (j := 0) (by omega)))) R λ a H => kC 0 (G9 _ _ FQ) (Av KG (H.e R)) H R fun w9 a hb H => ?_)
    replace k0 := k0.ups hb; replace k1 := k1.ups hb; replace hh := Da hh hb; replace Aa := Aa.tr hb; clear hb
    refine zA (zB (zH H R (zD (kR 1 H R λ a H => kX 1 (v := .agg (p.tg.map u8v).toArray) H (AL (cs := p.tg.map u8v) (H.e R) (JE k0 hp) (by kernel_rfl) (by rw [List.length_map, hp.2.2.1]; exact LN) R) R λ a H => Cp 34 (.tmp 53) (.tmp 52) b1 28 36 (p.tg.map u8v).toArray _ (H.e R) (H.e R) k1 (by rw [List.size_toArray, List.length_map, hp.2.2.1]; exact LN) (by rw [List.size_toArray, List.length_map, hp.2.2.1]; show 28 + 8 ≤ (pv ⟨BH p L L.length, List.replicate 16 0, List.replicate 8 0⟩).size; rw [Tu (Db p L _) (by first | exact hp.2.1 | rfl) R]; omega) (bytes_one _) fun w' hb ho kq => ?_))))
    clear k1; have k1 := Mr (S := List.replicate 16 0) (Db p L _) (by first | exact hp.2.1 | rfl) (by rw [List.length_replicate, hp.2.2.1]) kq; replace k0 := Ae k0 (ho _ (by omega)); replace hh := HH hh (hb _ (Nat.le_refl _)) Xu; replace Aa := Aa.trans (hb _ g1); clear hb ho kq; refine Dz H λ a H => zA (zB (zC (zD (kR 1 H rfl λ a H => kV H (Ai U3 rfl (H.ev rfl) (AB k0 (AQ hp (j := 0) (by omega)))) rfl λ a H => ?_))))
    by_cases Hm : (p.fld 0) = 8
    ·
     refine kX 2 H (A9 U3 (H.e R) Am (AE (Hm))) R λ a H => kW H R (Ai U3 R (H.e R) (AB k0 (AQ hp (j := 3) (by omega)))) R λ a H => ?_
     by_cases IB : (p.fld 3) = 0
     ·
      refine kY 2 H R (A9 U3 (H.e R) Am (AE (IB))) R λ a H => zA (zB (zC ?_))
      obtain ⟨v1, v2, v3, v4, v5, v6⟩ := DH (p := p) (by assumption) (by rw [HL.out]; exact fun j s hj => Lm j s (List.getElem?_eq_some_iff.1 hj).1 hj)
      have GM : full p L = (⟨BH p L L.length, List.replicate 16 0, p.tg⟩ : AZ) := by simp only [full, if_neg Ig, if_pos FQ]
      have Ca : AZ.ok (⟨BH p L L.length, List.replicate 16 0, p.tg⟩ : AZ) := ⟨Db p L _, by first | exact hp.2.1 | rfl, by first | exact hp.2.2.1 | rfl, (CE (i := L.length) hp).2.2.2⟩
      by_cases Ek : L = []
      ·
       exact zD (kR 1 H R λ a H => kX 21 (v := .bool false) H (Cs Hs (H.e R) (by rw [Iw, Ek]; rfl)) R λ a H => zA (zB (zF (Ag H R R ⟨by rw [Du (by rw [HL.out]; exact Ek)]; first | done | rfl, Aa⟩))))
      ·
       by_cases he : (⟨BH p L L.length, List.replicate 16 0, p.tg⟩ : AZ) = p
       ·
        refine zD (kR 1 H R λ a H => kX 1 (v := .bool true) H (Cs Hs (H.e R) (by rw [Iw, decide_eq_false Ek]; rfl)) R λ a H => kG H R (kV (v := .agg (pv (⟨BH p L L.length, List.replicate 16 0, p.tg⟩ : AZ))) H (Af b1 36 _ _ (H.e R) k1 C1 R (AR Ca)) R λ a H => kG H R (kV (v := .agg (pv p)) H (Af b0 36 _ _ (H.e R) k0 C1 R (AR hp)) R λ a H => kG H R (kX 5 (v := .bool true) H (Cd Ca hp (H.e R) (H.e R) (decide_eq_true he)) R λ a H => kY 1 H R (Ai U3 R (H.e R) (AB k0 (AQ hp (j := 7) (by omega)))) R λ a H => kW H R (Ai U3 R (H.e R) (AB k0 (AQ hp (j := 5) (by omega)))) R λ a H => kY 1 H R (Bm (q := (p.fld 7) + (p.fld 5)) U3 (H.e R) (H.e R)) R λ a H => kW H R (Ai U3 R (H.e R) (AB k0 (AQ hp (j := 6) (by omega)))) R λ a H => kW H R (Bm (q := ((p.fld 7) + (p.fld 5)) + (p.fld 6)) U3 (H.e R) (H.e R)) R λ a H => ?_))))
        by_cases FM : (((p.fld 7) + (p.fld 5)) + (p.fld 6)) > 0
        ·
         exact kY 1 H R (CU U3 (H.e R) Am (AE (FM))) R λ a H => kY 2 H R (Bs (H.e R) R) R λ a H => zA (zB (zF (Ag H R R ⟨by rw [FP (by omega)]; first | done | rfl, Aa⟩)))
        ·
         exact kY 1 H R (CU U3 (H.e R) Am (AF (FM))) R λ a H => kY 2 H R (Bs (H.e R) R) R λ a H => zA (zB (zF (Ag H R R ⟨by rw [CB ⟨by rw [HL.out]; exact Ek, by rw [HL.out]; exact fun j s hj => Lm j s (List.getElem?_eq_some_iff.1 hj).1 hj, by rw [HL.out, GM]; exact he, by omega⟩]; first | done | rfl, Aa⟩)))
       ·
        exact zD (kR 1 H R λ a H => kX 1 (v := .bool true) H (Cs Hs (H.e R) (by rw [Iw, decide_eq_false Ek]; rfl)) R λ a H => kG H R (kV (v := .agg (pv (⟨BH p L L.length, List.replicate 16 0, p.tg⟩ : AZ))) H (Af b1 36 _ _ (H.e R) k1 C1 R (AR Ca)) R λ a H => kG H R (kV (v := .agg (pv p)) H (Af b0 36 _ _ (H.e R) k0 C1 R (AR hp)) R λ a H => kG H R (kX 17 (v := .bool false) H (Cd Ca hp (H.e R) (H.e R) (decide_eq_false he)) R λ a H => zA (zB (zF (Ag H R R ⟨by rw [Dt (by rw [HL.out, GM]; exact he)]; first | done | rfl, Aa⟩)))))))
     ·
      refine kY 2 H R (A9 U3 (H.e R) Am (AF (IB))) R λ a H => zA (zB (zC ?_))
      obtain ⟨v1, v2, v3, v4, v5, v6⟩ := DH (p := p) (by assumption) (by rw [HL.out]; exact fun j s hj => Lm j s (List.getElem?_eq_some_iff.1 hj).1 hj)
      have GM : full p L = (⟨BH p L L.length, List.replicate 16 0, p.tg⟩ : AZ) := by simp only [full, if_neg Ig, if_pos FQ]
      have Ca : AZ.ok (⟨BH p L L.length, List.replicate 16 0, p.tg⟩ : AZ) := ⟨Db p L _, by first | exact hp.2.1 | rfl, by first | exact hp.2.2.1 | rfl, (CE (i := L.length) hp).2.2.2⟩
      by_cases Ek : L = []
      ·
       exact zD (kR 1 H R λ a H => kX 21 (v := .bool false) H (Cs Hs (H.e R) (by rw [Iw, Ek]; rfl)) R λ a H => zA (zB (zF (Ag H R R ⟨by rw [Du (by rw [HL.out]; exact Ek)]; first | done | rfl, Aa⟩))))
      ·
       by_cases he : (⟨BH p L L.length, List.replicate 16 0, p.tg⟩ : AZ) = p
       ·
        exact zD (kR 1 H R λ a H => kX 1 (v := .bool true) H (Cs Hs (H.e R) (by rw [Iw, decide_eq_false Ek]; rfl)) R λ a H => kG H R (kV (v := .agg (pv (⟨BH p L L.length, List.replicate 16 0, p.tg⟩ : AZ))) H (Af b1 36 _ _ (H.e R) k1 C1 R (AR Ca)) R λ a H => kG H R (kV (v := .agg (pv p)) H (Af b0 36 _ _ (H.e R) k0 C1 R (AR hp)) R λ a H => kG H R (kX 14 (v := .bool true) H (Cd Ca hp (H.e R) (H.e R) (decide_eq_true he)) R λ a H => kY 2 H R (Bs (H.e R) R) R λ a H => zA (zB (zF (Ag H R R ⟨by rw [CB ⟨by rw [HL.out]; exact Ek, by rw [HL.out]; exact fun j s hj => Lm j s (List.getElem?_eq_some_iff.1 hj).1 hj, by rw [HL.out, GM]; exact he, by omega⟩]; first | done | rfl, Aa⟩)))))))
       ·
        exact zD (kR 1 H R λ a H => kX 1 (v := .bool true) H (Cs Hs (H.e R) (by rw [Iw, decide_eq_false Ek]; rfl)) R λ a H => kG H R (kV (v := .agg (pv (⟨BH p L L.length, List.replicate 16 0, p.tg⟩ : AZ))) H (Af b1 36 _ _ (H.e R) k1 C1 R (AR Ca)) R λ a H => kG H R (kV (v := .agg (pv p)) H (Af b0 36 _ _ (H.e R) k0 C1 R (AR hp)) R λ a H => kG H R (kX 17 (v := .bool false) H (Cd Ca hp (H.e R) (H.e R) (decide_eq_false he)) R λ a H => zA (zB (zF (Ag H R R ⟨by rw [Dt (by rw [HL.out, GM]; exact he)]; first | done | rfl, Aa⟩)))))))
    ·
     refine kX 6 H (A9 U3 (H.e R) Am (AF (Hm))) R λ a H => zA (zB (zC ?_))
     have GM : full p L = (⟨BH p L L.length, List.replicate 16 0, p.tg⟩ : AZ) := by simp only [full, if_neg Ig, if_pos FQ]
     have Ca : AZ.ok (⟨BH p L L.length, List.replicate 16 0, p.tg⟩ : AZ) := ⟨Db p L _, by first | exact hp.2.1 | rfl, by first | exact hp.2.2.1 | rfl, (CE (i := L.length) hp).2.2.2⟩
     by_cases Ek : L = []
     ·
      exact zD (kR 1 H R λ a H => kX 21 (v := .bool false) H (Cs Hs (H.e R) (by rw [Iw, Ek]; rfl)) R λ a H => zA (zB (zF (Ag H R R ⟨by rw [Du (by rw [HL.out]; exact Ek)]; first | done | rfl, Aa⟩))))
     ·
      by_cases he : (⟨BH p L L.length, List.replicate 16 0, p.tg⟩ : AZ) = p
      ·
       exact zD (kR 1 H R λ a H => kX 1 (v := .bool true) H (Cs Hs (H.e R) (by rw [Iw, decide_eq_false Ek]; rfl)) R λ a H => kG H R (kV (v := .agg (pv (⟨BH p L L.length, List.replicate 16 0, p.tg⟩ : AZ))) H (Af b1 36 _ _ (H.e R) k1 C1 R (AR Ca)) R λ a H => kG H R (kV (v := .agg (pv p)) H (Af b0 36 _ _ (H.e R) k0 C1 R (AR hp)) R λ a H => kG H R (kX 14 (v := .bool true) H (Cd Ca hp (H.e R) (H.e R) (decide_eq_true he)) R λ a H => kY 2 H R (Bs (H.e R) R) R λ a H => zA (zB (zF (Ag H R R ⟨by rw [CB ⟨by rw [HL.out]; exact Ek, by rw [HL.out]; exact fun j s hj => Lm j s (List.getElem?_eq_some_iff.1 hj).1 hj, by rw [HL.out, GM]; exact he, by omega⟩]; first | done | rfl, Aa⟩)))))))
      ·
       exact zD (kR 1 H R λ a H => kX 1 (v := .bool true) H (Cs Hs (H.e R) (by rw [Iw, decide_eq_false Ek]; rfl)) R λ a H => kG H R (kV (v := .agg (pv (⟨BH p L L.length, List.replicate 16 0, p.tg⟩ : AZ))) H (Af b1 36 _ _ (H.e R) k1 C1 R (AR Ca)) R λ a H => kG H R (kV (v := .agg (pv p)) H (Af b0 36 _ _ (H.e R) k0 C1 R (AR hp)) R λ a H => kG H R (kX 17 (v := .bool false) H (Cd Ca hp (H.e R) (H.e R) (decide_eq_false he)) R λ a H => zA (zB (zF (Ag H R R ⟨by rw [Dt (by rw [HL.out, GM]; exact he)]; first | done | rfl, Aa⟩)))))))
   ·
    refine zD (kR 1 H R λ a H => kV H (Ai U3 R (H.e R) (AB k0 (AQ hp (j := 0) (by omega)))) R λ a H => kC 0 (GA _ _ FQ) (Av KG (H.e R)) H R fun w9 a hb H => ?_)
    replace k0 := k0.ups hb; replace k1 := k1.ups hb; replace hh := Da hh hb; replace Aa := Aa.tr hb; clear hb
    refine zA (zB (zG H R (zE (zB (zC (zD (kR 1 H R λ a H => kV H (Ai U3 R (H.e R) (AB k0 (AQ hp (j := 0) (by omega)))) R λ a H => ?_)))))))
    by_cases I3 : (p.fld 0) = 8
    ·
     refine kX 2 H (A9 U3 (H.e R) Am (AE (I3))) R λ a H => kW H R (Ai U3 R (H.e R) (AB k0 (AQ hp (j := 3) (by omega)))) R λ a H => ?_
     by_cases aN : (p.fld 3) = 0
     ·
      refine kY 2 H R (A9 U3 (H.e R) Am (AE (aN))) R λ a H => zA (zB (zC ?_))
      obtain ⟨v1, v2, v3, v4, v5, v6⟩ := DH (p := p) (by assumption) (by rw [HL.out]; exact fun j s hj => Lm j s (List.getElem?_eq_some_iff.1 hj).1 hj)
      have GM : full p L = (⟨BH p L L.length, List.replicate 16 0, List.replicate 8 0⟩ : AZ) := by simp only [full, if_neg Ig, if_neg FQ]
      have Ca : AZ.ok (⟨BH p L L.length, List.replicate 16 0, List.replicate 8 0⟩ : AZ) := ⟨Db p L _, by first | exact hp.2.1 | rfl, by first | exact hp.2.2.1 | rfl, (CE (i := L.length) hp).2.2.2⟩
      by_cases Ek : L = []
      ·
       exact zD (kR 1 H R λ a H => kX 21 (v := .bool false) H (Cs Hs (H.e R) (by rw [Iw, Ek]; rfl)) R λ a H => zA (zB (zF (Ag H R R ⟨by rw [Du (by rw [HL.out]; exact Ek)]; first | done | rfl, Aa⟩))))
      ·
       by_cases he : (⟨BH p L L.length, List.replicate 16 0, List.replicate 8 0⟩ : AZ) = p
       ·
        refine zD (kR 1 H R λ a H => kX 1 (v := .bool true) H (Cs Hs (H.e R) (by rw [Iw, decide_eq_false Ek]; rfl)) R λ a H => kG H R (kV (v := .agg (pv (⟨BH p L L.length, List.replicate 16 0, List.replicate 8 0⟩ : AZ))) H (Af b1 36 _ _ (H.e R) k1 C1 R (AR Ca)) R λ a H => kG H R (kV (v := .agg (pv p)) H (Af b0 36 _ _ (H.e R) k0 C1 R (AR hp)) R λ a H => kG H R (kX 5 (v := .bool true) H (Cd Ca hp (H.e R) (H.e R) (decide_eq_true he)) R λ a H => kY 1 H R (Ai U3 R (H.e R) (AB k0 (AQ hp (j := 7) (by omega)))) R λ a H => kW H R (Ai U3 R (H.e R) (AB k0 (AQ hp (j := 5) (by omega)))) R λ a H => kY 1 H R (Bm (q := (p.fld 7) + (p.fld 5)) U3 (H.e R) (H.e R)) R λ a H => kW H R (Ai U3 R (H.e R) (AB k0 (AQ hp (j := 6) (by omega)))) R λ a H => kW H R (Bm (q := ((p.fld 7) + (p.fld 5)) + (p.fld 6)) U3 (H.e R) (H.e R)) R λ a H => ?_))))
        by_cases aM : (((p.fld 7) + (p.fld 5)) + (p.fld 6)) > 0
        ·
         exact kY 1 H R (CU U3 (H.e R) Am (AE (aM))) R λ a H => kY 2 H R (Bs (H.e R) R) R λ a H => zA (zB (zF (Ag H R R ⟨by rw [FP (by omega)]; first | done | rfl, Aa⟩)))
        ·
         exact kY 1 H R (CU U3 (H.e R) Am (AF (aM))) R λ a H => kY 2 H R (Bs (H.e R) R) R λ a H => zA (zB (zF (Ag H R R ⟨by rw [CB ⟨by rw [HL.out]; exact Ek, by rw [HL.out]; exact fun j s hj => Lm j s (List.getElem?_eq_some_iff.1 hj).1 hj, by rw [HL.out, GM]; exact he, by omega⟩]; first | done | rfl, Aa⟩)))
       ·
        exact zD (kR 1 H R λ a H => kX 1 (v := .bool true) H (Cs Hs (H.e R) (by rw [Iw, decide_eq_false Ek]; rfl)) R λ a H => kG H R (kV (v := .agg (pv (⟨BH p L L.length, List.replicate 16 0, List.replicate 8 0⟩ : AZ))) H (Af b1 36 _ _ (H.e R) k1 C1 R (AR Ca)) R λ a H => kG H R (kV (v := .agg (pv p)) H (Af b0 36 _ _ (H.e R) k0 C1 R (AR hp)) R λ a H => kG H R (kX 17 (v := .bool false) H (Cd Ca hp (H.e R) (H.e R) (decide_eq_false he)) R λ a H => zA (zB (zF (Ag H R R ⟨by rw [Dt (by rw [HL.out, GM]; exact he)]; first | done | rfl, Aa⟩)))))))
     ·
      refine kY 2 H R (A9 U3 (H.e R) Am (AF (aN))) R λ a H => zA (zB (zC ?_))
      obtain ⟨v1, v2, v3, v4, v5, v6⟩ := DH (p := p) (by assumption) (by rw [HL.out]; exact fun j s hj => Lm j s (List.getElem?_eq_some_iff.1 hj).1 hj)
      have GM : full p L = (⟨BH p L L.length, List.replicate 16 0, List.replicate 8 0⟩ : AZ) := by simp only [full, if_neg Ig, if_neg FQ]
      have Ca : AZ.ok (⟨BH p L L.length, List.replicate 16 0, List.replicate 8 0⟩ : AZ) := ⟨Db p L _, by first | exact hp.2.1 | rfl, by first | exact hp.2.2.1 | rfl, (CE (i := L.length) hp).2.2.2⟩
      by_cases Ek : L = []
      ·
       exact zD (kR 1 H R λ a H => kX 21 (v := .bool false) H (Cs Hs (H.e R) (by rw [Iw, Ek]; rfl)) R λ a H => zA (zB (zF (Ag H R R ⟨by rw [Du (by rw [HL.out]; exact Ek)]; first | done | rfl, Aa⟩))))
      ·
       by_cases he : (⟨BH p L L.length, List.replicate 16 0, List.replicate 8 0⟩ : AZ) = p
       ·
        exact zD (kR 1 H R λ a H => kX 1 (v := .bool true) H (Cs Hs (H.e R) (by rw [Iw, decide_eq_false Ek]; rfl)) R λ a H => kG H R (kV (v := .agg (pv (⟨BH p L L.length, List.replicate 16 0, List.replicate 8 0⟩ : AZ))) H (Af b1 36 _ _ (H.e R) k1 C1 R (AR Ca)) R λ a H => kG H R (kV (v := .agg (pv p)) H (Af b0 36 _ _ (H.e R) k0 C1 R (AR hp)) R λ a H => kG H R (kX 14 (v := .bool true) H (Cd Ca hp (H.e R) (H.e R) (decide_eq_true he)) R λ a H => kY 2 H R (Bs (H.e R) R) R λ a H => zA (zB (zF (Ag H R R ⟨by rw [CB ⟨by rw [HL.out]; exact Ek, by rw [HL.out]; exact fun j s hj => Lm j s (List.getElem?_eq_some_iff.1 hj).1 hj, by rw [HL.out, GM]; exact he, by omega⟩]; first | done | rfl, Aa⟩)))))))
       ·
        exact zD (kR 1 H R λ a H => kX 1 (v := .bool true) H (Cs Hs (H.e R) (by rw [Iw, decide_eq_false Ek]; rfl)) R λ a H => kG H R (kV (v := .agg (pv (⟨BH p L L.length, List.replicate 16 0, List.replicate 8 0⟩ : AZ))) H (Af b1 36 _ _ (H.e R) k1 C1 R (AR Ca)) R λ a H => kG H R (kV (v := .agg (pv p)) H (Af b0 36 _ _ (H.e R) k0 C1 R (AR hp)) R λ a H => kG H R (kX 17 (v := .bool false) H (Cd Ca hp (H.e R) (H.e R) (decide_eq_false he)) R λ a H => zA (zB (zF (Ag H R R ⟨by rw [Dt (by rw [HL.out, GM]; exact he)]; first | done | rfl, Aa⟩)))))))
    ·
     refine kX 6 H (A9 U3 (H.e R) Am (AF (I3))) R λ a H => zA (zB (zC ?_))
     have GM : full p L = (⟨BH p L L.length, List.replicate 16 0, List.replicate 8 0⟩ : AZ) := by simp only [full, if_neg Ig, if_neg FQ]
     have Ca : AZ.ok (⟨BH p L L.length, List.replicate 16 0, List.replicate 8 0⟩ : AZ) := ⟨Db p L _, by first | exact hp.2.1 | rfl, by first | exact hp.2.2.1 | rfl, (CE (i := L.length) hp).2.2.2⟩
     by_cases Ek : L = []
     ·
      exact zD (kR 1 H R λ a H => kX 21 (v := .bool false) H (Cs Hs (H.e R) (by rw [Iw, Ek]; rfl)) R λ a H => zA (zB (zF (Ag H R R ⟨by rw [Du (by rw [HL.out]; exact Ek)]; first | done | rfl, Aa⟩))))
     ·
      by_cases he : (⟨BH p L L.length, List.replicate 16 0, List.replicate 8 0⟩ : AZ) = p
      ·
       exact zD (kR 1 H R λ a H => kX 1 (v := .bool true) H (Cs Hs (H.e R) (by rw [Iw, decide_eq_false Ek]; rfl)) R λ a H => kG H R (kV (v := .agg (pv (⟨BH p L L.length, List.replicate 16 0, List.replicate 8 0⟩ : AZ))) H (Af b1 36 _ _ (H.e R) k1 C1 R (AR Ca)) R λ a H => kG H R (kV (v := .agg (pv p)) H (Af b0 36 _ _ (H.e R) k0 C1 R (AR hp)) R λ a H => kG H R (kX 14 (v := .bool true) H (Cd Ca hp (H.e R) (H.e R) (decide_eq_true he)) R λ a H => kY 2 H R (Bs (H.e R) R) R λ a H => zA (zB (zF (Ag H R R ⟨by rw [CB ⟨by rw [HL.out]; exact Ek, by rw [HL.out]; exact fun j s hj => Lm j s (List.getElem?_eq_some_iff.1 hj).1 hj, by rw [HL.out, GM]; exact he, by omega⟩]; first | done | rfl, Aa⟩)))))))
      ·
       exact zD (kR 1 H R λ a H => kX 1 (v := .bool true) H (Cs Hs (H.e R) (by rw [Iw, decide_eq_false Ek]; rfl)) R λ a H => kG H R (kV (v := .agg (pv (⟨BH p L L.length, List.replicate 16 0, List.replicate 8 0⟩ : AZ))) H (Af b1 36 _ _ (H.e R) k1 C1 R (AR Ca)) R λ a H => kG H R (kV (v := .agg (pv p)) H (Af b0 36 _ _ (H.e R) k0 C1 R (AR hp)) R λ a H => kG H R (kX 17 (v := .bool false) H (Cd Ca hp (H.e R) (H.e R) (decide_eq_false he)) R λ a H => zA (zB (zF (Ag H R R ⟨by rw [Dt (by rw [HL.out, GM]; exact he)]; first | done | rfl, Aa⟩)))))))
theorem IY (w : World) (p : AZ) (hp : p.ok) (h : Bg p = true) : Calls Tryz.prog 68 #[.agg (pv p)] w fun e w' => e = .returned (.bool true) ∧ Below w.heap.size w w' := by
 have := MK w p hp
 rwa [h] at this
theorem IZ (w : World) (p : AZ) (hp : p.ok) (h : ¬ Bg p = true) : Calls Tryz.prog 68 #[.agg (pv p)] w fun e w' => e = .returned (.bool false) ∧ Below w.heap.size w w' := by
 have := MK w p hp
 rwa [show Bg p = false by simpa using h] at this
theorem QC {w : World} {b D : Nat} {x : B8} (k : Ad w b 5 #[u8v x]) (h : D ≤ b) : Dg w D (.slice (some ⟨b, 0, none⟩) 1 1) [x] := ⟨rfl, .inr ⟨b, 1, _, rfl, h, k, Nat.le_refl _, by simp [maxLen], rfl, rfl⟩⟩
/-- the kind's byte and the first i slots' bytes -/
def Fb (p : AZ) (L : List (Nat × Nat × Nat × Nat)) (i : Nat) : List B8 := BitVec.ofInt 8 (p.fld 0) :: (L.take i).flatMap fun s => Fk (p.fld (DW s.1)) s.2.1 s.2.1
def Cx (p : AZ) : List B8 := (Fb p (AH (p.fld 0)) (AH (p.fld 0)).length ++ if 2 ≤ p.fld 0 ∧ p.fld 0 ≤ 4 then p.sec else []) ++ if 5 ≤ p.fld 0 ∧ p.fld 0 ≤ 11 then p.tg else []
theorem FD {p : AZ} {L : List (Nat × Nat × Nat × Nat)} (h : AH (p.fld 0) = L) : Cx p = (Fb p L L.length ++ if 2 ≤ p.fld 0 ∧ p.fld 0 ≤ 4 then p.sec else []) ++ if 5 ≤ p.fld 0 ∧ p.fld 0 ≤ 11 then p.tg else [] := by subst h; rfl
theorem JU {p : AZ} {L : List (Nat × Nat × Nat × Nat)} {i : Nat} {s : Nat × Nat × Nat × Nat} (h : L[i]? = some s) : Fb p L (i + 1) = Fb p L i ++ Fk (p.fld (DW s.1)) s.2.1 s.2.1 := by
 obtain ⟨hi, rfl⟩ := List.getElem?_eq_some_iff.1 h
 simp only [Fb, List.take_succ_eq_append_getElem hi, List.flatMap_append, List.flatMap_cons, List.flatMap_nil, List.append_nil, List.cons_append]
theorem Gz {kd : Int} {k : Nat} {s : Nat × Nat × Nat × Nat} (h : (AH kd)[k]? = some s) : 1 ≤ s.2.1 ∧ s.2.1 ≤ 7 := by
  have hm : s ∈ AH kd := List.mem_of_getElem? h
  clear h
  unfold AH at hm
  by_cases h1 : kd = 1
  ·
   rw [if_pos h1] at hm
   simp only [List.mem_cons, List.not_mem_nil, or_false] at hm
   rcases hm with rfl <;> simp
  rw [if_neg h1] at hm
  by_cases h2 : kd = 2
  ·
   rw [if_pos h2] at hm
   simp only [List.mem_cons, List.not_mem_nil, or_false] at hm
   rcases hm with rfl | rfl <;> simp
  rw [if_neg h2] at hm
  by_cases h3 : kd = 3
  ·
   rw [if_pos h3] at hm
   simp only [List.mem_cons, List.not_mem_nil, or_false] at hm
   rcases hm with rfl | rfl | rfl <;> simp
  rw [if_neg h3] at hm
  by_cases h4 : kd = 4
  ·
   rw [if_pos h4] at hm
   simp only [List.mem_cons, List.not_mem_nil, or_false] at hm
   rcases hm with rfl | rfl <;> simp
  rw [if_neg h4] at hm
  by_cases h5 : kd = 5
  ·
   rw [if_pos h5] at hm
   simp only [List.mem_cons, List.not_mem_nil, or_false] at hm
   rcases hm with rfl | rfl <;> simp
  rw [if_neg h5] at hm
  by_cases Nc : kd = 10
  ·
   rw [if_pos Nc] at hm
   simp only [List.mem_cons, List.not_mem_nil, or_false] at hm
   rcases hm with rfl | rfl <;> simp
  rw [if_neg Nc] at hm
  by_cases h6 : kd = 6
  ·
   rw [if_pos h6] at hm
   simp only [List.mem_cons, List.not_mem_nil, or_false] at hm
   rcases hm with rfl | rfl | rfl <;> simp
  rw [if_neg h6] at hm
  by_cases h7 : kd = 7
  ·
   rw [if_pos h7] at hm
   simp only [List.mem_cons, List.not_mem_nil, or_false] at hm
   rcases hm with rfl | rfl | rfl | rfl <;> simp
  rw [if_neg h7] at hm
  by_cases h8 : kd = 8
  ·
   rw [if_pos h8] at hm
   simp only [List.mem_cons, List.not_mem_nil, or_false] at hm
   rcases hm with rfl | rfl | rfl | rfl | rfl | rfl <;> simp
  rw [if_neg h8] at hm
  by_cases h9 : kd = 9
  ·
   rw [if_pos h9] at hm
   simp only [List.mem_cons, List.not_mem_nil, or_false] at hm
   rcases hm with rfl | rfl | rfl <;> simp
  rw [if_neg h9] at hm
  by_cases LV : kd = 11
  ·
   rw [if_pos LV] at hm
   simp only [List.mem_cons, List.not_mem_nil, or_false] at hm
   rcases hm with rfl | rfl | rfl <;> simp
  rw [if_neg LV] at hm
  by_cases Ln : kd = 12
  ·
   rw [if_pos Ln] at hm
   simp only [List.mem_cons, List.not_mem_nil, or_false] at hm
   rcases hm with rfl | rfl <;> simp
  rw [if_neg Ln] at hm
  cases hm
theorem G2 {p : AZ} {L : List (Nat × Nat × Nat × Nat)} (hL : AH (p.fld 0) = L) : ∀ {i : Nat}, i ≤ L.length → (Fb p L i).length ≤ 1 + 7 * i
 | 0, _ => by simp [Fb]
 | i + 1, h => by
  have ih := G2 hL (i := i) (by omega)
  have hs : L[i]? = some L[i] := List.getElem?_eq_getElem (by omega)
  have hz := Gz (show (AH (p.fld 0))[i]? = some L[i] by rw [hL]; exact hs)
  rw [JU hs, List.length_append, Kv]
  omega
theorem Gd {w : World} {b o : Nat} {l : List Value} (h : w.rangeAt b o l) : BJ w (some ⟨b, o, none⟩) l := fun j hj => ⟨b, o, rfl, by rw [List.getElem?_eq_getElem hj]; exact h j _ (List.getElem?_eq_getElem hj)⟩
def En1 (W : World) (p : AZ) (L : List (Nat × Nat × Nat × Nat)) (A : Option Addr) (b0 : Nat) (a : Act) (w : World) : Prop :=
 ∃ (i : Nat) (Ao : Option Addr) (co : Nat), Kn a 47 [(1, .pointer (some ⟨b0, 0, none⟩)), (4, .slice Ao (Fb p L i).length co), (16, .slice A L.length L.length), (17, J (L.length : Nat)), (18, J (i : Nat))] ∧ i ≤ L.length ∧ Dg w (b0 + 1) (.slice Ao (Fb p L i).length co) (Fb p L i) ∧ Ad w b0 36 (pv p) ∧ BJ w A (L.flatMap Lp) ∧ Below W.heap.size W w
theorem TS (w : World) (p : AZ) (hp : p.ok) : Calls Tryz.prog 107 #[.agg (pv p)] w fun e w' => ((Bg p = true ∧ ∃ A c, e = .returned (.tuple #[.slice A (Cx p).length c, J 0]) ∧ Dg w' w.heap.size (.slice A (Cx p).length c) (Cx p)) ∨ (Bg p = false ∧ e = .returned (.tuple #[.slice none 0 0, J 1]))) ∧ Below w.heap.size w w' := by
 have Aa := Below.refl w.heap.size w
 refine Az 47 Tryz.func107 R R λ a H => zC (zD (B7 36 (.tmp 0) (pv p) (H.e R) fun w0 b0 Ak hb k0 => ?_))
 have g0 := Nat.le_trans Aa.size Ak; replace Aa := Aa.tr hb; clear hb Ak; refine kL 2 H rfl λ a H => zA (zB (zC (zC ?_)))
 by_cases hR : Bg p = true
 ·
  refine zD (kV (v := .agg (pv p)) H (Af b0 36 _ _ (H.e R) k0 C1 R (AR hp)) R λ a H => kC 0 (IY _ p hp hR) (Av N8 (H.e R)) H R fun w9 a hb H => ?_)
  replace k0 := k0.ups hb; replace Aa := Aa.tr hb; clear hb
  refine kV H (Bs (H.e R) R) R λ a H => zA (zB (zG H R (zE (zB (zC (zD (kR 1 H R λ a H => kV H (Ai U3 R (H.e R) (AB k0 (AQ hp (j := 0) (by omega)))) R λ a H => kV H (Me U3 U5 (H.e R)) R λ a H => BP 30 1 #[(0, u8v (BitVec.ofInt 8 (p.fld 0)))] 5 #[u8v (BitVec.ofInt 8 (p.fld 0))] (by simp [H.ev (j := 12) R]) (fun w => by kernel_rfl) fun w1 bo Ak hb ko => ?_)))))))
  have Ah : Dg _ (b0 + 1) (.slice (some ⟨bo, 0, none⟩) 1 1) [BitVec.ofInt 8 (p.fld 0)] := QC ko (Nat.le_trans k0.lt Ak); replace k0 := k0.ups hb; replace Aa := Aa.tr hb; clear hb Ak ko; refine kL 1 H rfl λ a H => zA (zB (zC (zC (zD (kR 1 H rfl λ a H => kV H (Ai U3 rfl (H.ev rfl) (AB k0 (AQ hp (j := 0) (by omega)))) rfl λ a H => A8 _ _ _ (KZ _ (p.fld 0)) (Av eQ (H.ev rfl)) ?_)))))
  rintro e w9 ⟨⟨A, rfl, hh, hA⟩, hb⟩; refine ⟨_, rfl, ?_⟩; have KQ := aU hA hh; replace k0 := k0.ups hb; replace Ah := Bh Ah hb; replace Aa := Aa.tr hb; clear hb; obtain ⟨L, hL⟩ : ∃ L, AH (p.fld 0) = L := ⟨_, rfl⟩; rw [hL] at hh hA; have Yb : L.length ≤ 6 := (by rw [← hL]; exact GC _); have HL := Lib.hid hL; rw [hL]; clear hL; refine kl H rfl λ a H => kX 1 H (Ba Hs (H.ev rfl)) rfl λ a H => zA (zB (wp_block (wp_loop (En1 w p L A b0) (fun a _ => L.length - (intOf (a.eval (.tmp 18))).toNat) ⟨0, some ⟨bo, 0, none⟩, 1, H.pick [1, 4, 16, 17, 18], by omega, Ah, k0, hh, Aa⟩ ?_)))
  clear H Aa k0 Ah hh
  rintro a w' ⟨i, Ao, co, H, hi, Ah, k0, hh, Aa⟩
  have H0 := H
  have qR := G2 (i := i) HL.out hi
  by_cases CM : i < L.length
  ·
   obtain ⟨s, hs⟩ : ∃ s, L[i]? = some s := ⟨_, List.getElem?_eq_getElem CM⟩
   obtain ⟨g, Vd⟩ := Py hA hs
   subst Vd
   have KA := Nr (show (AH (p.fld 0))[i]? = some s by rw [HL.out]; exact hs)
   have If := Gz (show (AH (p.fld 0))[i]? = some s by rw [HL.out]; exact hs)
   have HS := Lib.hid (show (AH (p.fld 0))[i]? = some s by rw [HL.out]; exact hs)
   have HLS := Lib.hid hs
   clear hs
   refine zC (zD (kV H (By U3 (H.e R) (H.e R) dT) R λ a H => zA (zB (zC (zH H R (zE (zB (zC (wp_block (zC (zD (kV H (Bq (j := i) (q := 0 + i * 4) Hs Ie (H.e R) (H.e R) (by omega) R) R λ a H => kV H (AL (cs := [.func (.func s.1) #[] #[], J (s.2.1 : Nat), J (s.2.2.1 : Nat), J (s.2.2.2 : Nat)]) (H.e R) (IK hh HLS.out) (by kernel_rfl) Ie R) R λ a H => De 91 6 (.tmp 21) #[.func (.func s.1) #[] #[], J (s.2.1 : Nat), J (s.2.2.1 : Nat), J (s.2.2.2 : Nat)] _ Yd Ie R (by simp [Value.cells, Value.oneCell']) (fun p => (H.put 6 p R).ev R) (fun p => (H.put 6 p R).ev R) fun w2 b2 Ak hb k2 => ?_))))))))))))
   have g2 := Nat.le_trans Aa.size Ak; replace k0 := k0.ups hb; replace hh := Da hh hb; replace Ah := Bh Ah hb; replace Aa := Aa.tr hb; clear hb; clear Ak; refine kl H rfl λ a H => zA (zB (rB 10 (Dn [0, 1, 2, 6, 7] (.one 3 (.fl 4 (.fl 5 (.one 8 (.fl 9 .done)))))) fun hS => kQ 2 H rfl λ a H => kE 1 H rfl rfl (fun w' Aj => Ai oT rfl (H.ev rfl) ((Ad.cell (Ad.ups k2 Aj) 0).trans rfl)) rfl λ a H => kF H rfl rfl (fun w' Aj => Ai U3 rfl (H.ev rfl) ((Ad.cell (Ad.ups k2 Aj) 1).trans rfl)) rfl λ a H => Al (fun K hK => A7 rfl (kD (P7 _ b0 i HS.out) (Mf (P6 HS.out) (H.ev rfl) (H.ev rfl)) fun w9 hb => ?_))))
   replace hS := Below.trans hS (Below.mono hb (Below.size hS)); clear hb; refine kS 1 hK hS H rfl λ a H => ?_; clear hK K
   refine kF H R R (fun w' Aj => Ai U3 R (H.e R) (AB (Ad.ups k0 Aj) (AQ hp KA))) R λ a H => Al (fun K hK => A7 R (CQ _ _ _ (Y5 _ _ (Fb p L i) (p.fld (DW s.1)) s.2.1 _ R (Dg.row (Bh Ah hS)) (by omega) (by omega) (by omega)) (EH lP (H.e R) (H.e R) (H.e R)) ?_))
   rintro e w9 ⟨⟨D, A3, c3, I5, rfl, Bv⟩, hb⟩; refine ⟨_, rfl, ?_⟩; have Cq := DA Bv (show b0 + 1 ≤ D by rw [I5]; exact Nat.le_trans k0.lt (Below.size hS)); clear Ah Bv I5; replace hS := Below.trans hS (Below.mono hb (Below.size hS)); clear hb; refine kS 1 hK hS H rfl λ a H => ?_; clear hK K
   refine Aw (NoPanic.normal ?_)
   replace k0 := Ad.ups k0 hS
   replace hh := Da hh hS
   replace k2 := Ad.ups k2 hS
   replace Aa := Aa.trans (Below.mono hS Aa.size)
   clear hS
   refine AC (zB (zD (kX 1 H (Bm (q := ((i + 1 : Nat) : Int)) U3 (H.e R) Am) R λ a H => zA ?_)))
   rw [← JU HLS.out] at H Cq
   refine zI ⟨⟨i + 1, _, _, H.pick [1, 4, 16, 17, 18], by omega, Cq, k0, hh, Aa⟩, ?_⟩
   rw [H.ev (j := 18) rfl, H0.ev (j := 18) rfl]
   simp only [intOf]
   omega
  ·
   obtain rfl : i = L.length := by omega
   clear hh
   refine zC (zD (kV H (By U3 (H.e R) (H.e R) dF) R λ a H => zA (zB (zC (zG H R (wp_exit (AJ (AJ (BD (zB (zC (zC ?_))))))))))))
   by_cases Ig : (2 ≤ p.fld 0 ∧ p.fld 0 ≤ 4)
   ·
    refine zD (kR 1 H R λ a H => kV H (Ai U3 R (H.e R) (AB k0 (AQ hp (j := 0) (by omega)))) R λ a H => kC 0 (M6 _ _ Ig) (Av Vi (H.e R)) H R fun w9 a hb H => ?_)
    replace k0 := k0.ups hb; replace Ah := Bh Ah hb; replace Aa := Aa.tr hb; clear hb
    refine zA (zB (zH H R (zD (kR 2 H R λ a H => kV (v := .slice (some ⟨b0, 12, none⟩) 16 16) H (CN (b := b0) (o := 12) RG s5 (H.e R) (by omega)) R λ a H => ?_))))
    have D3 : b0 + 1 ≤ _ := k0.lt; refine BX 30 5 (.tmp 35) (.tmp 37) (b0 + 1) (.int .u8 0) 1 1 _ _ _ (some ⟨b0, 12, none⟩) 16 16 (p.sec.map u8v) (H.ev rfl) (H.ev rfl) CO i5 rfl (by omega) Ah (by rw [List.length_map, hp.2.1]) (Gd (IW k0 hp)) (CC _) (by unfold maxLen; first | omega | (simp only [List.length_append, hp.2.1]; omega)) (by first | omega | (simp only [List.length_append, hp.2.1]; omega)) D3 fun o2 w9 AU F0 Fz Cb => ?_; have Bv := G5 hp.2.1 AU; replace k0 := Ad.up k0 Cb (by omega); replace Aa := Aa.trans (Cb.mono (by omega)); clear D3 Ah AU F0 Fz Cb; have Ah := Bv; clear Bv; obtain ⟨A4, c4, GK⟩ := BZ Ah; subst GK; refine kl H rfl λ a H => ?_
    refine kR 1 H R λ a H => zA (zB (zC (zC ?_)))
    by_cases FQ : (5 ≤ p.fld 0 ∧ p.fld 0 ≤ 11)
    ·
     refine zD (kR 1 H R λ a H => kV H (Ai U3 R (H.e R) (AB k0 (AQ hp (j := 0) (by omega)))) R λ a H => kC 0 (G9 _ _ FQ) (Av KG (H.e R)) H R fun w9 a hb H => ?_)
     replace k0 := k0.ups hb; replace Ah := Bh Ah hb; replace Aa := Aa.tr hb; clear hb
     refine zA (zB (zH H R (zD (kR 2 H R λ a H => kV (v := .slice (some ⟨b0, 28, none⟩) 8 8) H (CN (b := b0) (o := 28) XU s5 (H.e R) (by omega)) R λ a H => ?_))))
     have D3 : b0 + 1 ≤ _ := k0.lt; refine BX 30 5 (.tmp 42) (.tmp 44) (b0 + 1) (.int .u8 0) 1 1 _ _ _ (some ⟨b0, 28, none⟩) 8 8 (p.tg.map u8v) (H.ev rfl) (H.ev rfl) CO i5 rfl (by omega) Ah (by rw [List.length_map, hp.2.2.1]) (Gd (JE k0 hp)) (CC _) (by unfold maxLen; first | omega | (simp only [List.length_append, hp.2.1]; omega)) (by first | omega | (simp only [List.length_append, hp.2.1]; omega)) D3 fun o2 w9 AU F0 Fz Cb => ?_; have Bv := G5 hp.2.2.1 AU; replace k0 := Ad.up k0 Cb (by omega); replace Aa := Aa.trans (Cb.mono (by omega)); clear D3 Ah AU F0 Fz Cb; have Ah := Bv; clear Bv; obtain ⟨A4, c4, GK⟩ := BZ Ah; subst GK; refine kl H rfl λ a H => ?_
     exact kR 1 H R λ a H => zA (zB (zC (zD (kR 3 H R λ a H => zA (zB (zF (GJ H R R R ⟨.inl ⟨hR, A4, c4, by rw [FD HL.out]; simp only [if_pos Ig, if_pos FQ, List.append_nil]; first | done | rfl, by rw [FD HL.out]; simp only [if_pos Ig, if_pos FQ, List.append_nil]; exact DA Ah (by omega)⟩, Aa⟩)))))))
    ·
     refine zD (kR 1 H R λ a H => kV H (Ai U3 R (H.e R) (AB k0 (AQ hp (j := 0) (by omega)))) R λ a H => kC 0 (GA _ _ FQ) (Av KG (H.e R)) H R fun w9 a hb H => ?_)
     replace k0 := k0.ups hb; replace Ah := Bh Ah hb; replace Aa := Aa.tr hb; clear hb
     exact zA (zB (zG H R (zE (zB (zC (zD (kR 3 H R λ a H => zA (zB (zF (GJ H R R R ⟨.inl ⟨hR, A4, c4, by rw [FD HL.out]; simp only [if_pos Ig, if_neg FQ, List.append_nil]; first | done | rfl, by rw [FD HL.out]; simp only [if_pos Ig, if_neg FQ, List.append_nil]; exact DA Ah (by omega)⟩, Aa⟩))))))))))
   ·
    refine zD (kR 1 H R λ a H => kV H (Ai U3 R (H.e R) (AB k0 (AQ hp (j := 0) (by omega)))) R λ a H => kC 0 (M7 _ _ Ig) (Av Vi (H.e R)) H R fun w9 a hb H => ?_)
    replace k0 := k0.ups hb; replace Ah := Bh Ah hb; replace Aa := Aa.tr hb; clear hb
    refine zA (zB (zG H R (zE (zB (zC (zC ?_))))))
    by_cases FQ : (5 ≤ p.fld 0 ∧ p.fld 0 ≤ 11)
    ·
     refine zD (kR 1 H R λ a H => kV H (Ai U3 R (H.e R) (AB k0 (AQ hp (j := 0) (by omega)))) R λ a H => kC 0 (G9 _ _ FQ) (Av KG (H.e R)) H R fun w9 a hb H => ?_)
     replace k0 := k0.ups hb; replace Ah := Bh Ah hb; replace Aa := Aa.tr hb; clear hb
     refine zA (zB (zH H R (zD (kR 2 H R λ a H => kV (v := .slice (some ⟨b0, 28, none⟩) 8 8) H (CN (b := b0) (o := 28) XU s5 (H.e R) (by omega)) R λ a H => ?_))))
     have D3 : b0 + 1 ≤ _ := k0.lt; refine BX 30 5 (.tmp 42) (.tmp 44) (b0 + 1) (.int .u8 0) 1 1 _ _ _ (some ⟨b0, 28, none⟩) 8 8 (p.tg.map u8v) (H.ev rfl) (H.ev rfl) CO i5 rfl (by omega) Ah (by rw [List.length_map, hp.2.2.1]) (Gd (JE k0 hp)) (CC _) (by unfold maxLen; first | omega | (simp only [List.length_append, hp.2.1]; omega)) (by first | omega | (simp only [List.length_append, hp.2.1]; omega)) D3 fun o2 w9 AU F0 Fz Cb => ?_; have Bv := G5 hp.2.2.1 AU; replace k0 := Ad.up k0 Cb (by omega); replace Aa := Aa.trans (Cb.mono (by omega)); clear D3 Ah AU F0 Fz Cb; have Ah := Bv; clear Bv; obtain ⟨A4, c4, GK⟩ := BZ Ah; subst GK; refine kl H rfl λ a H => ?_
     exact kR 1 H R λ a H => zA (zB (zC (zD (kR 3 H R λ a H => zA (zB (zF (GJ H R R R ⟨.inl ⟨hR, A4, c4, by rw [FD HL.out]; simp only [if_neg Ig, if_pos FQ, List.append_nil]; first | done | rfl, by rw [FD HL.out]; simp only [if_neg Ig, if_pos FQ, List.append_nil]; exact DA Ah (by omega)⟩, Aa⟩)))))))
    ·
     refine zD (kR 1 H R λ a H => kV H (Ai U3 R (H.e R) (AB k0 (AQ hp (j := 0) (by omega)))) R λ a H => kC 0 (GA _ _ FQ) (Av KG (H.e R)) H R fun w9 a hb H => ?_)
     replace k0 := k0.ups hb; replace Ah := Bh Ah hb; replace Aa := Aa.tr hb; clear hb
     exact zA (zB (zG H R (zE (zB (zC (zD (kR 3 H R λ a H => zA (zB (zF (GJ H R R R ⟨.inl ⟨hR, Ao, co, by rw [FD HL.out]; simp only [if_neg Ig, if_neg FQ, List.append_nil]; first | done | rfl, by rw [FD HL.out]; simp only [if_neg Ig, if_neg FQ, List.append_nil]; exact DA Ah (by omega)⟩, Aa⟩))))))))))
 ·
  refine zD (kV (v := .agg (pv p)) H (Af b0 36 _ _ (H.e R) k0 C1 R (AR hp)) R λ a H => kC 0 (IZ _ p hp hR) (Av N8 (H.e R)) H R fun w9 a hb H => ?_)
  replace k0 := k0.ups hb; replace Aa := Aa.tr hb; clear hb
  exact kV H (Bs (H.e R) R) R λ a H => zA (zB (zH H R (zC (zD (kR 2 H R λ a H => zA (zB (zF (zJ (GJ H R R R ⟨.inr ⟨by simpa using hR, R⟩, Aa⟩)))))))))
end Go.Proofs.YtbnmpoonkjlkjaaGreat
