/- Client: part ZRt of the proof. -/
import Derived.Test.YtbnmpoonkjlkjaaGreatXZEi
import Derived.ChangeSame
import Derived.ChangeOld
namespace Go.Proofs.YtbnmpoonkjlkjaaGreat
open Go.RowKit
set_option linter.unusedVariables false
set_option linter.unusedSimpArgs false
set_option maxRecDepth 100000
set_option maxHeartbeats 8000000
section
open Go.ChangeShapes Go.WideShapes Go.ChangeAt Go.Maps
theorem mC {w : World} {b q : Nat} {x : Ac} {vb : Value} (h : w.rangeAt b q (SS x vb)) : w.rangeAt b (q + 3) [J x.o.1, J x.o.2.1, J x.o.2.2.1, J x.o.2.2.2] := fun j v hj => by
 have := h (3 + j) v (by
  match j, hj with
  | 0, hj => exact hj
  | 1, hj => exact hj
  | 2, hj => exact hj
  | 3, hj => exact hj
  | j + 4, hj => simp at hj)
 rwa [← Nat.add_assoc] at this
theorem X8 {w w' : World} {b : Nat} {m : Option Nat} {c : Cl} (h : ∀ I : Dw, @Bn I w b m c) (hb : Below w.heap.size w w') : ∀ I : Dw, @Bn I w' b m c := fun I => (h I).up hb
theorem F2.up {w w' : World} {B : Nat} {v : Value} {ls : List Nat} (h : F2 w B v ls) (hb : Below w.heap.size w w') : F2 w' B v ls := by
 obtain ⟨vs, h2, h3⟩ := h
 exact ⟨vs, Bh h2 hb, fun i x n hx hn => by
  obtain ⟨bs, h4, h5⟩ := h3 i x n hx hn
  exact ⟨bs, h4, Bh h5 hb⟩⟩
def uG (I : Dw) (W : World) (bcl bdl : Nat) (A : Option Addr) (cc : Nat) (L : List Ac) (a : Act) (w : World) : Prop :=
 ∃ (i : Nat) (m : Option Nat) (c : Cl), Kn a 185 [(1, .slice A L.length cc), (5, .bool true), (7, .pointer (some ⟨bcl, 0, none⟩)), (8, .pointer (some ⟨bdl, 0, none⟩)), (9, J (i : Nat))] ∧ i ≤ L.length ∧ @Bn I w bcl m c ∧ @F1 I w bdl c ∧ Below W.heap.size W w
def uF (I : Dw) (W : World) (bcl bdl : Nat) (A : Option Addr) (cc : Nat) (L : List Ac) (i : Nat) (a : Act) (w : World) : Prop :=
 ∃ (x9 y9 : Value) (B1 B2 : Nat) (M : List (List B8)) (m : Option Nat) (c : Cl), Kn a 185 [(1, .slice A L.length cc), (5, .bool true), (7, .pointer (some ⟨bcl, 0, none⟩)), (8, .pointer (some ⟨bdl, 0, none⟩)), (9, J (i : Nat)), (10, x9), (11, y9), (12, .bool true)] ∧ AK w B1 x9 M ∧ W.heap.size ≤ B1 ∧ AK w B2 y9 M ∧ @Bn I w bcl m c ∧ @F1 I w bdl c ∧ Below W.heap.size W w
def uE (I : Dw) (W : World) (bcl bdl : Nat) (A : Option Addr) (cc : Nat) (L : List Ac) (i B : Nat) (Ax : Option Addr) (cx : Nat) (ls : List Nat) (m : Option Nat) (c : Cl) (a : Act) (w : World) : Prop :=
 ∃ t : Int, Kn a 185 [(1, .slice A L.length cc), (5, .bool true), (7, .pointer (some ⟨bcl, 0, none⟩)), (8, .pointer (some ⟨bdl, 0, none⟩)), (9, J (i : Nat)), (10, .slice Ax ls.length cx), (13, J t)] ∧ (-1 ≤ t ∧ t ≤ 18) ∧ F2 w B (.slice Ax ls.length cx) ls ∧ @Bn I w bcl m c ∧ @F1 I w bdl c ∧ Below W.heap.size W w
def uD (I : Dw) (W : World) (bcl bdl : Nat) (A : Option Addr) (cc : Nat) (L : List Ac) (i B : Nat) (Ax : Option Addr) (cx : Nat) (ls : List Nat) (m : Option Nat) (c : Cl) (a : Act) (w : World) : Prop :=
 ∃ n : Nat, Kn a 185 [(1, .slice A L.length cc), (5, .bool true), (7, .pointer (some ⟨bcl, 0, none⟩)), (8, .pointer (some ⟨bdl, 0, none⟩)), (9, J (i : Nat)), (10, .slice Ax ls.length cx), (18, J (n : Nat))] ∧ n ≤ ls.length ∧ F2 w B (.slice Ax ls.length cx) ls ∧ @Bn I w bcl m c ∧ @F1 I w bdl c ∧ Below W.heap.size W w
def uC (I : Dw) (W : World) (bcl bdl : Nat) (A : Option Addr) (cc : Nat) (L : List Ac) (i B : Nat) (Ax : Option Addr) (cx : Nat) (ls : List Nat) (m : Option Nat) (c : Cl) (n l : Nat) (a : Act) (w : World) : Prop :=
 ∃ j : Nat, Kn a 185 [(1, .slice A L.length cc), (5, .bool true), (7, .pointer (some ⟨bcl, 0, none⟩)), (8, .pointer (some ⟨bdl, 0, none⟩)), (9, J (i : Nat)), (10, .slice Ax ls.length cx), (18, J (n : Nat)), (19, J (j : Nat))] ∧ j ≤ l ∧ F2 w B (.slice Ax ls.length cx) ls ∧ @Bn I w bcl m c ∧ @F1 I w bdl c ∧ Below W.heap.size W w
theorem Us (w : World) (u : Int) (v : Value) (L : List Ac) (eZ : JC w v L) : Calls Tryz.prog 3 #[J (u), v] w fun e w' => e = .returned (.bool true) ∧ Below w.heap.size w w' := by
 obtain ⟨A, cc, zK⟩ := JC.shape eZ
 subst zK
 have Aa := Below.refl w.heap.size w
 refine Az 185 Tryz.func3 R R λ a H => zC (zD (kR 1 H R λ a H => zA (zB (zC (zD (kC 0 (Uv _) (Kt tS) H R fun w9 a hb H => ?_))))))
 replace Aa := Aa.tr hb; clear hb
 refine kR 1 H R λ a H => zA (zB (zC (zD (kR 1 H R λ a H => A8 _ _ _ (Zp _ _ L (JC.up eZ Aa)) (Av tR (H.e R)) ?_))))
 rintro e w9 ⟨⟨r, rfl, qQ⟩, hb⟩; refine ⟨_, rfl, ?_⟩; replace Aa := Aa.tr hb; clear hb; refine kL 1 H rfl λ a H => zA (zB (zC (zC ?_)))
 cases r
 ·
  exact zD (kR 1 H R λ a H => kV H (Bs (H.e R) R) R λ a H => zA (zB (zH H R (zC (zD (kR 2 H R λ a H => zA (zB (zF (zJ (Ag H R R ⟨R, Aa⟩))))))))))
 ·
  obtain ⟨KQ, hfb⟩ := qQ rfl
  refine zD (kR 1 H R λ a H => kV H (Bs (H.e R) R) R λ a H => zA (zB (zG H R (zE (zB (zC (zD (kR 1 H R λ a H => A8 _ _ _ (gA _ u _ R) (Av lJ (H.e R)) ?_))))))))
  rintro e w9 ⟨⟨bcl, rfl, Ak, Be⟩, hb⟩; refine ⟨_, rfl, ?_⟩; have JT : _ ≤ bcl := Nat.le_trans Aa.size Ak; replace Aa := Aa.tr hb; clear hb; clear Ak; refine kL 1 H rfl λ a H => zA (zB (zC (zD (kR 1 H rfl λ a H => A8 _ _ _ (bV _ u) (Av lD (H.ev rfl)) ?_))))
  rintro e w9 ⟨⟨bdl, rfl, Ak, Dy⟩, hb⟩; refine ⟨_, rfl, ?_⟩; have X0 : _ ≤ bdl := Nat.le_trans Aa.size Ak; have hcd : bcl < bdl := Nat.lt_of_lt_of_le (Be limZ).lt Ak; replace Be := X8 Be hb; replace Aa := Aa.tr hb; clear hb; clear Ak; obtain ⟨I, dY, dX⟩ : ∃ I : Dw, I.lim bcl = bdl + 1 ∧ I.lim bdl = bdl + 1 := ⟨pF bdl, Nat.max_eq_right (by omega), Nat.max_self _⟩; replace Be := Be I; replace Dy := Dy I; refine kL 1 H rfl λ a H => zA (zB (zC (zC (zD (kR 1 H rfl λ a H => kV H (Q0 (H.ev rfl) rfl) rfl λ a H => zA (zB (zG H rfl (zE (zB (zC (zC (zD (kR 1 H rfl λ a H => zA (zB (wp_block (wp_loop (uG I w bcl bdl A cc L) (fun a _ => L.length - (intOf (a.eval (.tmp 9))).toNat) ⟨0, _, _, H.pick [1, 5, 7, 8, 9], by omega, Be, Dy, Aa⟩ ?_))))))))))))))))
  clear H Aa Be Dy
  rintro a w' ⟨i, m, c, H, hi, Be, Dy, Aa⟩
  have H0 := H
  have hr := eZ
  by_cases CM : i < L.length
  ·
   obtain ⟨x, hx⟩ : ∃ x, L[i]? = some x := ⟨_, List.getElem?_eq_getElem CM⟩
   obtain ⟨YU, b, o, vb, hA, XZ, KO⟩ := JC.at hr hx
   subst hA
   have Ca := Be.ok
   have uY := hfb x (List.mem_of_getElem? hx)
   refine zC (zC (zD (kR 2 H R λ a H => kV H (Ba R6 (H.e R)) R λ a H => kV H (By U3 (H.e R) (H.e R) dT) R λ a H => zA (zB (zH H R (zE (zB (zC (wp_block (zC (zD (kR 1 H R λ a H => zA (zB (zC (zD (kR 1 H R λ a H => zA (zB (zC (zD (kR 1 H R λ a H => zA (zB (zC (zC (zD (kR 2 H R λ a H => kV (v := .pointer (some ⟨b, o + i * 59, none⟩)) H (Bq (j := i) (q := o + i * 59) R6 XW (H.e R) (H.e R) CM R) R λ a H => kV (v := .pointer (some ⟨b, o + i * 59 + 0, none⟩)) H (Br (q := o + i * 59 + 0) Zn (H.e R) R) R λ a H => kV (v := J (x.d)) H (Ai U3 R (H.e R) (Bo (FY KO Aa) 0 R)) R λ a H => zA (zB (JI (uF I w bcl bdl (some ⟨b, o, none⟩) cc L i) ?_ ?_)))))))))))))))))))))))))))
   ·
    refine wp_block (zC (zD ?_))
    by_cases BE : (x.d) = 0
    ·
     refine kX 1 H (A9 U3 (H.e R) Am (AE (BE))) R λ a H => zA (zB (zH H R (zC (zD (kR 1 H R λ a H => A8 _ _ _ (PM _ _ _ c Be) (Av Z4 (H.e R)) ?_)))))
     rintro e w9 ⟨⟨v1, rfl, Xi⟩, FN, CD⟩; refine ⟨_, rfl, ?_⟩; have Nb := Dy.lt; have iE := Aa.size; have TI := F1.two Dy Be (by omega) (by rw [dX]; omega) CD; replace Aa := Bn.down Be Aa JT (Below.size Aa) CD; clear Be Dy CD; have Be := FN; have Dy := TI; clear FN TI; refine kL 1 H rfl λ a H => zA (zB (zD (kR 1 H rfl λ a H => A8 _ _ _ (U0 _ _ c Dy) (Av tQ (H.ev rfl)) ?_)))
     rintro e w9 ⟨⟨v2, rfl, FJ⟩, FN, CD⟩; refine ⟨_, rfl, ?_⟩; have TJ := Bn.off79 Be Dy (by omega) (by rw [dY]; omega) CD; replace Xi := AK.only Xi CD Nb (fun q e => by cases e); clear Nb; replace Aa := Bi.down CD Aa X0 (Below.size Aa) (fun q e => by cases e); clear Be Dy CD; have Be := TJ; have Dy := FN; clear TJ FN; exact kL 1 H rfl λ a H => zA (AC ⟨rfl, _, _, _, _, _, _, _, H.pick [1, 5, 7, 8, 9, 10, 11, 12], Xi, iE, FJ, Be, Dy, Aa⟩)
    ·
     refine kX 1 H (A9 U3 (H.e R) Am (AF (BE))) R λ a H => zA (zB (zG H R (zC (zD ?_))))
     by_cases Cn : (x.d) = 2
     ·
      refine kX 1 H (A9 U3 (H.e R) Am (AE (Cn))) R λ a H => zA (zB (zH H R ?_))
      have rE := Aa
      have hS : AV w _ := Below.drew (Aa)
      refine rT (AV w) 16 (Dn [0, 1, 2, 3, 4, 5, 7, 8, 9, 10, 11, 12] (.one 6 (.one 13 (.fl 14 (.fl 15 .done))))) hS ?_
      replace Be := Bn.up Be (Below.drew (Below.refl _ _))
      replace Dy := F1.up Dy (Below.drew (Below.refl _ _))
      refine kQ 3 H R λ a H => kF (v := .pointer (some ⟨b, o + i * 59, none⟩)) H R R (fun w' Aj => Bq (j := i) (q := o + i * 59) R6 XW (H.e R) (H.e R) CM R) R λ a H => kF (v := .pointer (some ⟨b, o + i * 59 + 1, none⟩)) H R R (fun w' Aj => Br (q := o + i * 59 + 1) TQ (H.e R) R) R λ a H => kE 3 (v := J (x.n)) H R R (fun w' Aj => Ai U3 R (H.e R) (Bo (FY KO Aj) 1 R)) R λ a H => kF (v := .pointer (some ⟨b, o + i * 59, none⟩)) H R R (fun w' Aj => Bq (j := i) (q := o + i * 59) R6 XW (H.e R) (H.e R) CM R) R λ a H => kF (v := .pointer (some ⟨b, o + i * 59 + 1, none⟩)) H R R (fun w' Aj => Br (q := o + i * 59 + 1) TQ (H.e R) R) R λ a H => kF (v := J (x.n)) H R R (fun w' Aj => Ai U3 R (H.e R) (Bo (FY KO Aj) 1 R)) R λ a H => Al (fun K hK => A7 R (kD (Mu _ _ _ c Be x.n) (AA kZ (H.e R) (H.e R)) fun w9 ⟨⟨m9, FN, _⟩, CD⟩ => ?_))
      have TI := F1.two Dy Be (by omega) (by rw [dX]; omega) CD; replace hS := Bn.down Be hS JT (Below.size hS) CD; clear Be Dy CD; have Be := FN; have Dy := TI; clear FN TI; replace hS : AV w _ := hS; refine kS 0 hK hS H rfl λ a H => ?_; clear hK K
      refine Al (fun K hK => A7 R (kD (RU _ _ c Dy x.n) (AA tP (H.e R) (H.e R)) fun w9 ⟨FN, CD⟩ => ?_))
      have TJ := Bn.off79 Be Dy (by omega) (by rw [dY]; omega) CD; replace hS := Bi.down CD hS X0 (Below.size hS) (fun q e => by cases e); clear Be Dy CD; have Be := TJ; have Dy := FN; clear TJ FN; replace hS : AV w _ := hS; refine kS 0 hK hS H rfl λ a H => ?_; clear hK K
      refine kE 1 (v := .bool true) H R R (fun w' Aj => Q1 U4 (H.e R) (H.e R) (by simp)) R λ a H => Aw (NoPanic.normal ?_)
      replace Aa := hS
      clear hS
      exact AC ⟨R, _, _, _, 0, _, _, _, H.pick [1, 5, 7, 8, 9, 10, 11, 12], Bd, Nat.le_refl _, Bd, Be, Dy, Aa⟩
     ·
      refine kX 1 H (A9 U3 (H.e R) Am (AF (Cn))) R λ a H => zA (zB (zG H R (zC (zD ?_))))
      by_cases CP : (x.d) = 3
      ·
       refine kX 1 H (A9 U3 (H.e R) Am (AE (CP))) R λ a H => zA (zB (zH H R (zC (zD (kR 1 H R λ a H => kC 0 (Ox _ _ _ c Be) (Av kP (H.e R)) H R fun w9 a ⟨FN, CD⟩ H => ?_)))))
       have TI := F1.two Dy Be (by omega) (by rw [dX]; omega) CD; replace Aa := Bn.down Be Aa JT (Below.size Aa) CD; clear Be Dy CD; have Be := FN; have Dy := TI; clear FN TI
       refine zA (zB (zD (kR 1 H R λ a H => kC 0 (MH _ _ c Dy) (Av eS (H.e R)) H R fun w9 a ⟨FN, CD⟩ H => ?_)))
       have TJ := Bn.off79 Be Dy (by omega) (by rw [dY]; omega) CD; replace Aa := Bi.down CD Aa X0 (Below.size Aa) (fun q e => by cases e); clear Be Dy CD; have Be := TJ; have Dy := FN; clear TJ FN
       exact zA (AC ⟨R, _, _, _, 0, _, _, _, H.pick [1, 5, 7, 8, 9, 10, 11, 12], Bd, Nat.le_refl _, Bd, Be, Dy, Aa⟩)
      ·
       refine kX 1 H (A9 U3 (H.e R) Am (AF (CP))) R λ a H => zA (zB (zG H R (zC (zD ?_))))
       by_cases DJ : (x.d) = 4
       ·
        refine kX 1 H (A9 U3 (H.e R) Am (AE (DJ))) R λ a H => zA (zB (zH H R ?_))
        have rD := Aa
        have hS : AV w _ := Below.drew (Aa)
        refine rT (AV w) 16 (Dn [0, 1, 2, 3, 4, 5, 7, 8, 9, 10, 11, 12] (.one 6 (.one 13 (.fl 14 (.fl 15 .done))))) hS ?_
        replace Be := Bn.up Be (Below.drew (Below.refl _ _))
        replace Dy := F1.up Dy (Below.drew (Below.refl _ _))
        refine kQ 3 H R λ a H => kF (v := .pointer (some ⟨b, o + i * 59, none⟩)) H R R (fun w' Aj => Bq (j := i) (q := o + i * 59) R6 XW (H.e R) (H.e R) CM R) R λ a H => kF (v := .pointer (some ⟨b, o + i * 59 + 3, none⟩)) H R R (fun w' Aj => Br (q := o + i * 59 + 3) TP (H.e R) R) R λ a H => kE 3 (v := .agg (cN x.o)) H R R (fun w' Aj => AL (cs := [J x.o.1, J x.o.2.1, J x.o.2.2.1, J x.o.2.2.2]) (H.e R) (mC (FY KO Aj)) (by kernel_rfl) JY R) R λ a H => kF (v := .pointer (some ⟨b, o + i * 59, none⟩)) H R R (fun w' Aj => Bq (j := i) (q := o + i * 59) R6 XW (H.e R) (H.e R) CM R) R λ a H => kF (v := .pointer (some ⟨b, o + i * 59 + 3, none⟩)) H R R (fun w' Aj => Br (q := o + i * 59 + 3) TP (H.e R) R) R λ a H => kF (v := .agg (cN x.o)) H R R (fun w' Aj => AL (cs := [J x.o.1, J x.o.2.1, J x.o.2.2.1, J x.o.2.2.2]) (H.e R) (mC (FY KO Aj)) (by kernel_rfl) JY R) R λ a H => Al (fun K hK => A7 R (kD (NY _ _ _ c Be x.o (by rw [dY]; exact Nat.succ_le_of_lt Dy.lt)) (AA kN (H.e R) (H.e R)) fun w9 ⟨FN, CD⟩ => ?_))
        have TI := F1.two Dy Be (by omega) (by rw [dX]; omega) CD; replace hS := Bn.down Be hS JT (Below.size hS) CD; clear Be Dy CD; have Be := FN; have Dy := TI; clear FN TI; replace hS : AV w _ := hS; refine kS 0 hK hS H rfl λ a H => ?_; clear hK K
        refine Al (fun K hK => A7 R (kD (RX _ _ c Dy x.o (by rw [dX]; exact Nat.succ_le_of_lt Dy.lt)) (AA tO (H.e R) (H.e R)) fun w9 ⟨FN, CD⟩ => ?_))
        have TJ := Bn.off79 Be Dy (by omega) (by rw [dY]; omega) CD; replace hS := Bi.down CD hS X0 (Below.size hS) (fun q e => by cases e); clear Be Dy CD; have Be := TJ; have Dy := FN; clear TJ FN; replace hS : AV w _ := hS; refine kS 0 hK hS H rfl λ a H => ?_; clear hK K
        refine kE 1 (v := .bool true) H R R (fun w' Aj => Q1 U4 (H.e R) (H.e R) (by simp)) R λ a H => Aw (NoPanic.normal ?_)
        replace Aa := hS
        clear hS
        exact AC ⟨R, _, _, _, 0, _, _, _, H.pick [1, 5, 7, 8, 9, 10, 11, 12], Bd, Nat.le_refl _, Bd, Be, Dy, Aa⟩
       ·
        refine kX 1 H (A9 U3 (H.e R) Am (AF (DJ))) R λ a H => zA (zB (zG H R (zC (zD (kR 3 H R λ a H => kV (v := .pointer (some ⟨b, o + i * 59, none⟩)) H (Bq (j := i) (q := o + i * 59) R6 XW (H.e R) (H.e R) CM R) R λ a H => kV (v := .agg (RF x vb)) H (AL (cs := SS x vb) (H.e R) (FY KO Aa) (by kernel_rfl) (by rw [Uj YU]; exact XW) R) R λ a H => A8 _ _ _ (Jy _ x _ (Fw x) YU (B9.up XZ Aa) R) (Av Vl (H.e R)) ?_)))))
        rintro e w9 ⟨⟨v9, rfl, hv⟩, hb⟩; refine ⟨_, rfl, ?_⟩; replace Be := Bn.up Be hb; replace Dy := F1.up Dy hb; replace Aa := Aa.tr hb; clear hb; refine kl H rfl λ a H => A8 _ _ _ (PQ _ _ _ c Be _ (Fw x) hv (Oj YU uY) (by rw [dY]; exact Nat.succ_le_of_lt Dy.lt)) (AA XG (H.ev rfl) (H.ev rfl)) ?_
        rintro e w9 ⟨⟨v1, rfl, Xi⟩, ⟨m9, FN, _⟩, CD⟩; refine ⟨_, rfl, ?_⟩; have Nb := Dy.lt; have iE := Aa.size; clear hv; have TI := F1.two Dy Be (by omega) (by rw [dX]; omega) CD; replace Aa := Bn.down Be Aa JT (Below.size Aa) CD; clear Be Dy CD; have Be := FN; have Dy := TI; clear FN TI; refine kL 1 H rfl λ a H => zA (zB (zD (kR 3 H rfl λ a H => kV (v := .pointer (some ⟨b, o + i * 59, none⟩)) H (Bq (j := i) (q := o + i * 59) R6 XW (H.ev rfl) (H.ev rfl) CM rfl) rfl λ a H => kV (v := .agg (RF x vb)) H (AL (cs := SS x vb) (H.ev rfl) (FY KO Aa) (by kernel_rfl) (by rw [Uj YU]; exact XW) rfl) rfl λ a H => A8 _ _ _ (Jy _ x _ (Fw x) YU (B9.up XZ Aa) rfl) (Av Vl (H.ev rfl)) ?_)))
        rintro e w9 ⟨⟨v9, rfl, hv⟩, hb⟩; refine ⟨_, rfl, ?_⟩; replace Be := Bn.up Be hb; replace Dy := F1.up Dy hb; replace Xi := AK.up Xi hb; replace Aa := Aa.tr hb; clear hb; refine kl H rfl λ a H => A8 _ _ _ (U7 _ _ c Dy _ (Fw x) hv (Oj YU uY) (by rw [dX]; exact Nat.succ_le_of_lt Dy.lt)) (AA tN (H.ev rfl) (H.ev rfl)) ?_
        rintro e w9 ⟨⟨v2, rfl, FJ⟩, FN, CD⟩; refine ⟨_, rfl, ?_⟩; clear hv; have TJ := Bn.off79 Be Dy (by omega) (by rw [dY]; omega) CD; replace Xi := AK.only Xi CD Nb (fun q e => by cases e); clear Nb; replace Aa := Bi.down CD Aa X0 (Below.size Aa) (fun q e => by cases e); clear Be Dy CD; have Be := TJ; have Dy := FN; clear TJ FN; exact kL 1 H rfl λ a H => zA (AC ⟨rfl, _, _, _, _, _, _, _, H.pick [1, 5, 7, 8, 9, 10, 11, 12], Xi, iE, FJ, Be, Dy, Aa⟩)
   ·
    clear H Aa Be Dy
    rintro a w' ⟨x9, y9, B1, B2, M, m, c, H, KM, iE, Ok, Be, Dy, Aa⟩
    refine zB (zC (zC (zD (kR 1 H R λ a H => kX 3 H (Bs (H.e R) R) R λ a H => kG H R (kC 0 (Wp _ x9 y9 B1 B2 M KM Ok) (AA tM (H.e R) (H.e R)) H R fun w9 a hb H => ?_)))))
    replace Be := Bn.up Be hb; replace Dy := F1.up Dy hb; replace KM := AK.up KM hb; replace Ok := AK.up Ok hb; replace Aa := Aa.tr hb; clear hb
    refine kY 3 H R (Bs (H.e R) R) R λ a H => kG H R (kC 0 (NG _ _ _ c Be) (Av kM (H.e R)) H R fun w9 a hb H => ?_)
    replace Be := Bn.up Be hb; replace Dy := F1.up Dy hb; replace KM := AK.up KM hb; replace Ok := AK.up Ok hb; replace Aa := Aa.tr hb; clear hb
    refine kR 1 H R λ a H => kG H R (kC 0 (RT _ _ c Dy) (Av tL (H.e R)) H R fun w9 a hb H => ?_)
    replace Be := Bn.up Be hb; replace Dy := F1.up Dy hb; replace KM := AK.up KM hb; replace Ok := AK.up Ok hb; replace Aa := Aa.tr hb; clear hb
    refine kY 3 H R (E6 U3 (H.e R) (H.e R) dF) R λ a H => kG H R (kC 0 (L4 _ _ _ c Be) (Av kK (H.e R)) H R fun w9 a hb H => ?_)
    replace Be := Bn.up Be hb; replace Dy := F1.up Dy hb; replace KM := AK.up KM hb; replace Ok := AK.up Ok hb; replace Aa := Aa.tr hb; clear hb
    refine kR 1 H R λ a H => kG H R (kC 0 (OU _ _ c Dy) (Av tK (H.e R)) H R fun w9 a hb H => ?_)
    replace Be := Bn.up Be hb; replace Dy := F1.up Dy hb; replace KM := AK.up KM hb; replace Ok := AK.up Ok hb; replace Aa := Aa.tr hb; clear hb
    refine kY 3 H R (E6 U3 (H.e R) (H.e R) dF) R λ a H => kG H R (kC 0 (NF _ _ _ c Be) (Av kJ (H.e R)) H R fun w9 a hb H => ?_)
    replace Be := Bn.up Be hb; replace Dy := F1.up Dy hb; replace KM := AK.up KM hb; replace Ok := AK.up Ok hb; replace Aa := Aa.tr hb; clear hb
    refine kR 1 H R λ a H => kG H R (kC 0 (RS _ _ c Dy) (Av tJ (H.e R)) H R fun w9 a hb H => ?_)
    replace Be := Bn.up Be hb; replace Dy := F1.up Dy hb; replace KM := AK.up KM hb; replace Ok := AK.up Ok hb; replace Aa := Aa.tr hb; clear hb
    refine kY 3 H R (E6 U3 (H.e R) (H.e R) dF) R λ a H => kG H R (kC 0 (QO _ _ _ c Be) (Av kI (H.e R)) H R fun w9 a hb H => ?_)
    replace Be := Bn.up Be hb; replace Dy := F1.up Dy hb; replace KM := AK.up KM hb; replace Ok := AK.up Ok hb; replace Aa := Aa.tr hb; clear hb
    refine kR 1 H R λ a H => kG H R (kC 0 (UB _ _ c Dy) (Av tI (H.e R)) H R fun w9 a hb H => ?_)
    replace Be := Bn.up Be hb; replace Dy := F1.up Dy hb; replace KM := AK.up KM hb; replace Ok := AK.up Ok hb; replace Aa := Aa.tr hb; clear hb
    refine kY 1 H R (E6 O8 (H.e R) (H.e R) dF) R λ a H => zA (zB (zG H R (zE (zB (zC (zC ?_))))))
    obtain ⟨Ax, cx, yZ⟩ := AK.shape KM
    subst yZ
    clear Ok
    have hL := AK.lens KM
    have hMe := AK.le KM
    clear KM
    obtain ⟨ls, qB⟩ : ∃ ls, M.map List.length = ls := ⟨_, rfl⟩
    have vM : M.length = ls.length := by rw [← qB, List.length_map]
    rw [qB] at hL
    rw [vM] at hL hMe H
    clear qB vM
    refine zD (kR 1 H R λ a H => zA (zB (wp_block (wp_loop (uE I w bcl bdl (some ⟨b, o, none⟩) cc L i B1 Ax cx ls m c) (fun a _ => 19 - (intOf (a.eval (.tmp 13)) + 1).toNat) ⟨-1, H.pick [1, 5, 7, 8, 9, 10, 13], by omega, hL, Be, Dy, Aa⟩ ?_))))
    clear H Aa Be Dy hL
    rintro a w' ⟨t, H, ht, hL, Be, Dy, Aa⟩
    have H4 := H
    by_cases qaa : t ≤ 17
    ·
     refine zC (zC (zD (kR 1 H R λ a H => kV H (Fv U3 (H.e R) Am dT) R λ a H => zA (zB (zH H R (zE (zB (zC (wp_block (zC (zD (kR 2 H R λ a H => kC 0 (PJ _ _ _ c Be t (Fc (by omega))) (AA kH (H.e R) (H.e R)) H R fun w9 a hb H => ?_))))))))))))
     replace Be := Bn.up Be hb; replace Dy := F1.up Dy hb; replace hL := F2.up hL hb; replace Aa := Aa.tr hb; clear hb
     refine kR 3 H R λ a H => De 49 14 (.tmp 147) (cN ((c.vw t).getD CH)) _ V7 EZ R (by simp [Value.oneCell']) (fun p => (H.put 14 p R).ev R) (fun p => (H.put 14 p R).ev R) fun w14 b14 Ak hb Hr => ?_
     replace Be := Bn.up Be hb; replace Dy := F1.up Dy hb; replace hL := F2.up hL hb; replace Aa := Aa.tr hb; clear hb; clear Ak; refine kL 1 H rfl λ a H => zA (zB (zC (zD (kR 2 H rfl λ a H => kC 0 (Uy _ _ c Dy t) (AA tH (H.ev rfl) (H.ev rfl)) H rfl fun w9 a hb H => ?_))))
     replace Be := Bn.up Be hb; replace Dy := F1.up Dy hb; replace hL := F2.up hL hb; replace Hr := Hr.ups hb; replace Aa := Aa.tr hb; clear hb
     refine kR 3 H R λ a H => De 49 16 (.tmp 153) (cN ((c.vw t).getD CH)) _ V7 EZ R (by simp [Value.oneCell']) (fun p => (H.put 16 p R).ev R) (fun p => (H.put 16 p R).ev R) fun w16 b16 Ak hb JR => ?_
     replace Be := Bn.up Be hb; replace Dy := F1.up Dy hb; replace hL := F2.up hL hb; replace Hr := Hr.ups hb; replace Aa := Aa.tr hb; clear hb; clear Ak; refine kL 1 H rfl λ a H => zA (zB (zC (zD (kV (v := .agg (cN ((c.vw t).getD CH))) H (Af b14 49 _ _ (H.ev rfl) Hr PH rfl EZ) rfl λ a H => kV (v := .agg (cN ((c.vw t).getD CH))) H (Af b16 49 _ _ (H.ev rfl) JR PH rfl EZ) rfl λ a H => kX 3 (v := .bool false) H (bY (H.ev rfl) (H.ev rfl) (by simp)) rfl λ a H => kG H rfl (kX 1 (v := .bool false) H (WC U4 (H.ev rfl) (H.ev rfl) (by simp)) rfl λ a H => zA (zB (zG H rfl (zE (AC (zB (zD (kR 1 H rfl λ a H => kX 1 H (Bm (q := t + 1) U3 (H.ev rfl) Am) rfl λ a H => zA (zI ⟨⟨t + 1, H.pick [1, 5, 7, 8, 9, 10, 13], by omega, hL, Be, Dy, Aa⟩, ?_⟩)))))))))))))
     rw [H.ev (j := 13) rfl, H4.ev (j := 13) rfl]
     simp only [intOf]
     omega
    ·
     refine zC (zC (zD (kR 1 H R λ a H => kV H (Fv U3 (H.e R) Am dF) R λ a H => zA (zB (zG H R (wp_exit (AJ (AJ (BD (zB (zC (zD (kR 1 H R λ a H => zA (zB (wp_block (wp_loop (uD I w bcl bdl (some ⟨b, o, none⟩) cc L i B1 Ax cx ls m c) (fun a _ => ls.length - (intOf (a.eval (.tmp 18))).toNat) ⟨0, H.pick [1, 5, 7, 8, 9, 10, 18], by omega, hL, Be, Dy, Aa⟩ ?_))))))))))))))))
     clear H Aa Be Dy hL
     rintro a w' ⟨n, H, hn, hL, Be, Dy, Aa⟩
     have H6 := H
     by_cases YY : n < ls.length
     ·
      obtain ⟨g, Ze⟩ := F2.head hL (by omega)
      subst Ze
      obtain ⟨l, hl⟩ : ∃ l, ls[n]? = some l := ⟨_, List.getElem?_eq_getElem YY⟩
      refine zC (zC (zD (kR 2 H R λ a H => kV H (Ba Lu (H.e R)) R λ a H => kV H (By U3 (H.e R) (H.e R) dT) R λ a H => zA (zB (zH H R (zE (zB (zC (wp_block (zC (zD (kR 1 H R λ a H => zA (zB (wp_block (wp_loop (uC I w bcl bdl (some ⟨b, o, none⟩) cc L i B1 (some ⟨g, 0, none⟩) cx ls m c n l) (fun a _ => l - (intOf (a.eval (.tmp 19))).toNat) ⟨0, H.pick [1, 5, 7, 8, 9, 10, 18, 19], by omega, hL, Be, Dy, Aa⟩ ?_)))))))))))))))
      clear H Aa Be Dy hL
      rintro a w' ⟨j, H, hj, hL, Be, Dy, Aa⟩
      have H7 := H
      obtain ⟨Ay, cy, mR, qac, hy⟩ := hL.at hl
      by_cases gZ : j < l
      ·
       obtain ⟨q, C, UV, hBq, hlC, pG, KM⟩ := hy (by omega)
       subst UV
       obtain ⟨x9, KM⟩ := KM j gZ
       refine zC (zC (zD (kR 3 H R λ a H => kV (v := .pointer (some ⟨g, n, none⟩)) H (Bq (j := n) (q := n) Lu PD (H.e R) (H.e R) YY (by omega)) R λ a H => kV H (Ai CO R (H.e R) mR) R λ a H => kV H (Ba CO (H.e R)) R λ a H => kV H (By U3 (H.e R) (H.e R) dT) R λ a H => zA (zB (zH H R (zE (zB (zC (wp_block (zD (kR 2 H R λ a H => kV (v := .pointer (some ⟨g, n, none⟩)) H (Bq (j := n) (q := n) Lu PD (H.e R) (H.e R) YY (by omega)) R λ a H => kX 1 H (Ai CO R (H.e R) mR) R λ a H => kV (v := .pointer (some ⟨q, j, none⟩)) H (Bq (j := j) (q := j) CO s5 (H.e R) (H.e R) gZ (by omega)) R λ a H => AP 5 (.tmp 183) (.const (.int .u8 9)) q j 5 (.int .u8 9) C (H.e R) Am pG s5 (by show j + 1 ≤ C.size; omega) (by simp [Value.cells, Value.oneCell']) fun w' hb ho kq => ?_)))))))))))
       have RC : JA _ w' q j := ⟨ho, C, x9, 9#8, pG, KM, kq⟩; have iD := hb 0 (Nat.zero_le _); have uZ : _ ∧ _ ∧ _ ∧ _ := ⟨iD.os, iD.tape, iD.output, iD.size⟩; replace hL := F2.poke RC hL; replace Be := JA.cl RC uZ Be; replace Dy := JA.rat RC Dy; replace Aa := Aa.trans (hb _ (Nat.le_trans iE hBq)); clear mR hy hb ho kq pG RC iD uZ KM; refine Dz H λ a H => zA (AC (zB (zD (kR 1 H rfl λ a H => kX 1 H (Bm (q := ((j + 1 : Nat) : Int)) U3 (H.ev rfl) Am) rfl λ a H => zA (zI ⟨⟨j + 1, H.pick [1, 5, 7, 8, 9, 10, 18, 19], by omega, hL, Be, Dy, Aa⟩, ?_⟩)))))
       rw [H.ev (j := 19) rfl, H7.ev (j := 19) rfl]
       simp only [intOf]
       omega
      ·
       obtain rfl : j = l := by omega
       refine zC (zC (zD (kR 3 H R λ a H => kV (v := .pointer (some ⟨g, n, none⟩)) H (Bq (j := n) (q := n) Lu PD (H.e R) (H.e R) YY (by omega)) R λ a H => kV H (Ai CO R (H.e R) mR) R λ a H => kV H (Ba CO (H.e R)) R λ a H => kV H (By U3 (H.e R) (H.e R) dF) R λ a H => zA (zB (zG H R (wp_exit (AJ (AJ (BD (AC (zB (zD (kR 1 H R λ a H => kX 1 H (Bm (q := ((n + 1 : Nat) : Int)) U3 (H.e R) Am) R λ a H => zA (zI ⟨⟨n + 1, H.pick [1, 5, 7, 8, 9, 10, 18], by omega, hL, Be, Dy, Aa⟩, ?_⟩))))))))))))))
       rw [H.ev (j := 18) rfl, H6.ev (j := 18) rfl]
       simp only [intOf]
       omega
     ·
      obtain rfl : n = ls.length := by omega
      refine zC (zC (zD (kR 2 H R λ a H => kV H (Ba Lu (H.e R)) R λ a H => kV H (By U3 (H.e R) (H.e R) dF) R λ a H => zA (zB (zG H R (wp_exit (AJ (AJ (BD (AC (zB (zD (kR 1 H R λ a H => kX 1 H (Bm (q := ((i + 1 : Nat) : Int)) U3 (H.e R) Am) R λ a H => zA (zI ⟨⟨i + 1, _, _, H.pick [1, 5, 7, 8, 9], by omega, Be, Dy, Aa⟩, ?_⟩))))))))))))))
      rw [H.ev (j := 9) rfl, H0.ev (j := 9) rfl]
      simp only [intOf]
      omega
  ·
   obtain rfl : i = L.length := by omega
   exact zC (zC (zD (kR 2 H R λ a H => kV H (Ba R6 (H.e R)) R λ a H => kV H (By U3 (H.e R) (H.e R) dF) R λ a H => zA (zB (zG H R (wp_exit (AJ (AJ (BD (zB (zC (zD (kR 2 H R λ a H => zA (zB (zF (Ag H R R ⟨R, Aa⟩))))))))))))))))
theorem JW (os : Os) (started : os.Started) (H : Type) (enc : TypeId × Value → H) :
  ReturnsInHanded {} Tryz.checked os 3 .any (Rows.clientTellsSpec.pre6 enc Tryz.prog Tryz.f3 Rows.clientTellsRow.domain false) (Rows.clientTellsSpec.post enc Tryz.prog Tryz.f3 false true false false) := by
 refine returnsInHanded_of_change (C := Tryz.checked) eY started (by kernel_rfl) Tryz.func3
  (ChangeSpec.witness6 (enc := enc) (C := Tryz.checked) false ⟨#[], #[.int .i64 0, .slice none 0 0], []⟩ 8 (by kernel_rfl) (by kernel_rfl) (by kernel_rfl) (by kernel_rfl)) ?_
 intro W base args ds gs before ZZ hW qak _
 have cV : ∀ (j : Nat) t v, Tryz.f3.params[j]? = some t → args[j]? = some v → Value.okWide Tryz.prog W .any base t v := ZZ
 have hW' := hW
 obtain ⟨p, q, vP, hV, rfl, hfz, hnd⟩ := hW
 have hA : DataW.TrodAll enc Tryz.prog W 0 (fun _ => true) true Tryz.f3.params.toList args.toList ds p := vP
 rw [Tryz.params3] at hA cV
 obtain ⟨v0, vs0, d0, ds0, p0, q0, vH, rfl, rfl, h0, r0⟩ := trodAll_cons hA
 obtain ⟨v1, vs1, d1, ds1, p1, q1, rfl, rfl, rfl, h1, r1⟩ := trodAll_cons r0
 obtain ⟨rfl, rfl, rfl⟩ := trodAll_nil r1
 obtain rfl : args = #[v0, v1] := by cases args; simp_all
 obtain ⟨rfl, rfl⟩ := trodVars_none hV
 have k1 := h1
 have lt1 : ∀ x ∈ p1, x.block < W.heap.size := by obtain ⟨m, hm⟩ := k1; exact DataW.trod_lt m _ _ _ hm
 obtain ⟨u0, rfl, rfl, rfl, wu0⟩ := open_int U3 (cV 0 3 v0 rfl rfl) h0
 obtain ⟨L1, hL1⟩ := UK (cV 1 22 v1 rfl rfl) h1
 clear vP ZZ
 refine (Us W u0 v1 L1 hL1).mono fun e W' ⟨he, bel⟩ => ?_
 subst he
 exact ⟨_, R, _, _, _, [], _, [], hW', trodAll_mk1 (shut_bool U4 _), (trodAll_cons_mk (shut_int U3 wu0) (trodAll_cons_mk (Below.trod YP (by kernel_rfl) (of_decide_eq_true (by kernel_rfl)) k1 bel lt1) trodAll_mk0)), R, bel.frame _, fun h => by cases h⟩
theorem clientTells_holds : Rows.ClientTellsSaid :=
 OpenClaim.holds_of_wide 3 Tryz.f3 rfl rfl rfl rfl rfl rfl rfl ⟨rfl, rfl, rfl, rfl, rfl⟩ rfl rfl rfl rfl rfl (by kernel_rfl) Tryz.func3 (by kernel_rfl)
  (of_decide_eq_true (by kernel_rfl)) (by unfold Func.isWrapper; first | (rw [if_pos (by decide +kernel)]; kernel_rfl) | (rw [if_neg (by decide +kernel)]; exact ⟨rfl, rfl⟩))
  (fun os started H enc _ => JW os started H enc)
#print axioms clientTells_holds
end
end Go.Proofs.YtbnmpoonkjlkjaaGreat
