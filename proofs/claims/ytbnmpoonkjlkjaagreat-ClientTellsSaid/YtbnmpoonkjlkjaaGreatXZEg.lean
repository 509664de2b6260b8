/- Client: part ZEg of the proof. -/
import Derived.Test.YtbnmpoonkjlkjaaGreatXZEf
namespace Go.Proofs.YtbnmpoonkjlkjaaGreat
open Go.RowKit
set_option linter.unusedVariables false
set_option linter.unusedSimpArgs false
set_option maxRecDepth 100000
set_option maxHeartbeats 8000000
section
theorem XV {L : List Nt} {q : Nat} {y : Nt} (hq : q < L.length) : FV EM (L.set q y) = FV EM (L.take q) ++ (IV (EM y) ++ FV EM (L.drop (q + 1))) := by
 rw [List.set_eq_take_append_cons_drop, if_pos hq, G6, show y :: L.drop (q + 1) = [y] ++ L.drop (q + 1) from rfl, G6]
 congr 2
theorem Kd {c : Cl} {vi vo : Value} {q : Nat} {y : Nt} (h1 : c.ck.length = 16) (h2 : c.key.length = 16) (hy : y.1 = (q : Nat)) (hq : q < 17) : C3 (rA c vi vo) (46 + q * 4) (cN y).toList = rA { c with vw := Fd c.vw y } vi vo := by
 obtain ⟨L, hL⟩ : ∃ L, ((List.range 17).map fun u => (c.vw ((u : Nat) : Int)).getD CH) = L := ⟨_, rfl⟩
 have hl : L.length = 17 := by rw [← hL]; simp
 have e1 : PC c.vw = FV EM (L.take q) ++ (IV (EM L[q]) ++ FV EM (L.drop (q + 1))) := by
  rw [PC, hL, ← XV (by omega), List.set_getElem_self]
 have e2 : PC (Fd c.vw y) = FV EM (L.take q) ++ (IV (EM y) ++ FV EM (L.drop (q + 1))) := by rw [PC, bL hy hq, hL, XV (by omega)]
 obtain ⟨X, hX, hXl⟩ : ∃ X : List Value, (∀ V, rL { c with vw := V } vi vo = X ++ (PC V ++ [J c.code])) ∧ X.length = 46 := ⟨[J c.user, J c.now, J c.state, J c.nonce, J c.epoch] ++ (c.ck.map u8v ++ ([J c.id] ++ (c.key.map u8v ++ ([J c.beats, J c.seq, J c.ask, J c.beat, J c.say] ++ ([vo] ++ [J c.next, vi]))))), fun V => by simp [rL], by simp [h1, h2]⟩
 apply Array.ext'
 rw [IM (X := X ++ FV EM (L.take q)) (Y := IV (EM L[q])) (Z := FV EM (L.drop (q + 1)) ++ [J c.code]) (V := (cN y).toList) (by show rL c vi vo = _; rw [show rL c vi vo = _ from hX c.vw, e1]; simp only [List.append_assoc]) (by rw [List.length_append, hXl, Cu Cr, List.length_take]; omega) (by simp)]
 show _ = rL { c with vw := Fd c.vw y } vi vo
 rw [hX, e2]
 simp only [List.append_assoc]
 rfl
section
variable {c : Cl} {N y : Nt}
theorem Vq {vw : Int → Option Nt} (h : N.1 = 0) : ES vw N = vw := if_pos h
theorem mA (Ca : Dc c) (hy : (c.vw N.1).getD CH = y) (h1 : 1 ≤ N.1) : ES c.vw N = if (y.1 = 0 ∧ 0 < N.2.1) ∨ DN y N = true then Fd c.vw N else c.vw := by
 unfold ES
 rw [if_neg (by omega)]
 cases e : c.vw N.1 with
 | none =>
  rw [e] at hy
  subst hy
  have hn : ¬ DN CH N = true := fun h => by have := (of_decide_eq_true h).1; rw [show CH.1 = 0 from rfl] at this; omega
  show (if N.2.1 < 1 then c.vw else Fd c.vw N) = if (CH.1 = 0 ∧ 0 < N.2.1) ∨ DN CH N = true then _ else _
  by_cases h : N.2.1 < 1
  ·
   rw [if_pos h]
   exact (if_neg (fun h2 => by
    rcases h2 with ⟨_, h3⟩ | h3
    · omega
    · exact hn h3)).symm
  ·
   rw [if_neg h]
   exact (if_pos (.inl ⟨R, by omega⟩)).symm
 | some x =>
  rw [e] at hy
  subst hy
  have hx := (Ca.vw _ _ e).1
  show (if DN x N = true then Fd c.vw N else c.vw) = if (x.1 = 0 ∧ 0 < N.2.1) ∨ DN x N = true then Fd c.vw N else c.vw
  by_cases h : DN x N = true
  · rw [if_pos h, if_pos (.inr h)]
  ·
   rw [if_neg h]
   exact (if_neg (fun h2 => by
    rcases h2 with ⟨h3, _⟩ | h3
    · omega
    · exact h h3)).symm
theorem KI (Ca : Dc c) (hy : (c.vw N.1).getD CH = y) (h1 : 1 ≤ N.1) (h : (y.1 = 0 ∧ 0 < N.2.1) ∨ DN y N = true) : ES c.vw N = Fd c.vw N := (mA Ca hy h1).trans (if_pos h)
theorem Ug (Ca : Dc c) (hy : (c.vw N.1).getD CH = y) (h1 : 1 ≤ N.1) (h : ¬ ((y.1 = 0 ∧ 0 < N.2.1) ∨ DN y N = true)) : ES c.vw N = c.vw := (mA Ca hy h1).trans (if_neg h)
end
def Nr0 [Dw] (W : World) (b : Nat) (c : Cl) (T : (Int × List It) × List Nt) (vi vo : Value) (a : Act) (w : World) : Prop :=
 ∃ (As An : Option Addr) (cs cn b1 : Nat), Kn a 93 [(0, .pointer (some ⟨b, 0, none⟩)), (5, .pointer (some ⟨b1, 0, none⟩)), (6, .slice An T.2.length cn)] ∧ Ad w b1 70 #[J T.1.1, .slice As T.1.2.length cs] ∧ b < b1 ∧ Ad w b 79 (rA c vi vo) ∧ (ET w (.slice As T.1.2.length cs) T.1.2 ∧ Ct (Dw.lim b) (.slice As T.1.2.length cs)) ∧ (V5 w (.slice An T.2.length cn) T.2 ∧ Ct (Dw.lim b) (.slice An T.2.length cn)) ∧ Id w vo c.os ∧ Bi b none W w
def Nr1 (W : World) (b : Nat) (c : Cl) (p : AZ) (T : (Int × List It) × List Nt) (vo : Value) (As An : Option Addr) (cs cn : Nat) (a : Act) (w : World) : Prop :=
 ∃ i : Nat, Kn a 93 [(0, .pointer (some ⟨b, 0, none⟩)), (6, .slice An T.2.length cn), (7, J (i : Nat))] ∧ i ≤ T.2.length ∧ Ad w b 79 (rA (C8 c p i) (.slice As T.1.2.length cs) vo) ∧ ET w (.slice As T.1.2.length cs) T.1.2 ∧ V5 w (.slice An T.2.length cn) T.2 ∧ Id w vo c.os ∧ Bi b none W w
theorem Qk [Dw] (w : World) (b : Nat) (c : Cl) (h : F1 w b c)(p : AZ) (hp : p.ok) (hr : Bg p = true) (hk : p.fld 0 = 8) (Ah : Fm c p = true) (hX : Dw.lim b ≤ w.heap.size) : Calls Tryz.prog 59 #[.pointer (some ⟨b, 0, none⟩), .agg (pv p)] w fun e w' => (∃ v, e = .returned v ∧ AK w' w.heap.size v (Nz c p)) ∧ F1 w' b (LR c p) ∧ Bi b none w w' := by
 obtain ⟨hc, vi, vo, k, ⟨AN, Ch⟩, AD, BM⟩ := h
 have AM := hc.ck
 have AO := hc.key
 have IF := hc.now
 have Gu := hc.seq
 have Jf := hc.beats
 have IE := hc.nonce
 have Aa := Bi.refl b none w
 have Cm := Mg hr hk
 refine Az 93 Tryz.func59 R R λ a H => zC (zD (B7 36 (.tmp 1) (pv p) (H.e R) fun w0 b0 Ak hb k0 => ?_))
 have g0 := Nat.le_trans Aa.size Ak; have PF : b < b0 := Nat.lt_of_lt_of_le k.lt Ak; replace k := k.ups hb; replace AN := AG.up AN hb; replace AD := AG.up AD hb; replace Aa := Aa.tr hb; clear hb; clear Ak; refine kL 1 H rfl λ a H => zA (zB (zC ?_))
 obtain ⟨T, hT⟩ : ∃ T, takeF c.next c.items (KL p) = T := ⟨_, rfl⟩
 have iF := Ms (n := c.next) (x := KL p) hc.items
 rw [hT] at iF
 have HT := Lib.hid hT
 clear hT
 refine JI (Nr0 w b c T vi vo) ?_ ?_
 ·
  have FO := Aa
  refine rB 23 (Dn [0, 1, 2, 3, 4, 5, 6, 7, 8, 9, 10, 11, 12, 13, 14, 15] (.two 16 (Dn [17, 18, 19] (.one 20 (.one 21 (.fl 22 .done)))) 20 (.one 16 (Dn [17, 18, 19] (.one 21 (.fl 22 .done)))))) fun hS => kQ 3 H R λ a H => kE 1 H R R (fun w' Aj => AL (cs := [J (c.next), vi]) (H.e R) ((OX (c := c) AM AO (Ad.ups k Aj) : World.rangeAt _ b 44 [J (c.next), vi])) (by kernel_rfl) DU R) R λ a H => kE 1 H R R (fun w' Aj => Ai U3 R (H.e R) (AB (Ad.ups k0 Aj) (AQ hp (j := 2) (by omega)))) R λ a H => kE 1 H R R (fun w' Aj => Ai U3 R (H.e R) (AB (Ad.ups k0 Aj) (AQ hp (j := 3) (by omega)))) R λ a H => kE 1 H R R (fun w' Aj => Ai U3 R (H.e R) (AB (Ad.ups k0 Aj) (AQ hp (j := 7) (by omega)))) R λ a H => kE 1 H R R (fun w' Aj => Ai U3 R (H.e R) (AB (Ad.ups k0 Aj) (AQ hp (j := 5) (by omega)))) R λ a H => kF H R R (fun w' Aj => Ai U3 R (H.e R) (AB (Ad.ups k0 Aj) (AQ hp (j := 6) (by omega)))) R λ a H => kF H R R (fun w' Aj => Bl #[(0, J (p.fld 3)), (1, J (p.fld 7)), (2, J (p.fld 5)), (3, J (p.fld 6))] (.agg #[J (p.fld 3), J (p.fld 7), J (p.fld 5), J (p.fld 6)]) (by simp [Am, H.ev (j := 20) R, H.ev (j := 22) R, H.ev (j := 24) R, H.ev (j := 26) R]) (fun w => by kernel_rfl)) R λ a H => kF H R R (fun w' Aj => Bl #[(0, J (p.fld 2)), (1, .agg #[J (p.fld 3), J (p.fld 7), J (p.fld 5), J (p.fld 6)])] (.agg #[J (p.fld 2), J (p.fld 3), J (p.fld 7), J (p.fld 5), J (p.fld 6)]) (by simp [Am, H.ev (j := 18) R, H.ev (j := 27) R]) (fun w => by kernel_rfl)) R λ a H => ?_
  refine FB (fun K hK => ?_) (fun K hK => ?_)
  ·
   refine A7 R (CQ _ _ _ (NL _ c.next vi c.items (KL p) (AG.up AN hS) (by have := hc.items; omega) (by have := Cm.2; omega) (by have := Cm.2; omega)) (AA jM (H.e R) (H.e R)) ?_); rintro e w9 ⟨⟨s0, o0, rfl, ⟨DG, KP⟩, ⟨DK, LT⟩⟩, hb⟩; refine ⟨_, R, ?_⟩; have Jh := Nat.le_trans (Nat.le_trans hX (show w.heap.size ≤ (Cy FO).heap.size from FO.size)) (Below.size hS); replace KP := Ct.base KP Jh; replace LT := Ct.base LT Jh; replace hS := Below.trans hS (Below.mono hb (Below.size hS)); clear hb Jh; have dV := HT.out; rw [dV] at DG DK; rw [dV]; clear dV; obtain ⟨As, cs, Hf⟩ := CY DG; subst Hf; obtain ⟨An, cn, Fa⟩ := CY DK; subst Fa; refine kS 3 hK hS H R λ a H => ?_; clear hK K
   refine Al (fun K hK => A7 R (D8 70 #[J 0, .slice none 0 0] VG fun w1 b1 Ak hb k1 => ?_))
   have eD : b < b1 := Nat.lt_of_lt_of_le (Nat.lt_of_lt_of_le (show b < (Cy FO).heap.size from k.lt) (Below.size hS)) Ak; have Ps := Nat.le_trans (Below.size hS) Ak; have aK := Ak; have aP := hb; replace hS := Below.trans hS (Below.mono hb (Below.size hS)); clear hb Ak; refine kS 0 hK hS H rfl λ a H => ?_; clear hK K
   refine Al (fun K hK => A7 R (CW 70 (.tmp 5) (.tmp 30) b1 70 #[J T.1.1, .slice As T.1.2.length cs] _ (H.e R) (H.e R) k1 DU R (by simp [Value.oneCell']) fun w' hb ho kq => ?_))
   clear k1; have k1 := kq; replace DG := AG.step DG aK aP (hb _ (Nat.le_refl _)); replace DK := AG.step DK aK aP (hb _ (Nat.le_refl _)); clear aK aP; replace hS := Below.trans hS (hb _ Ps); clear hb ho kq; refine kU 1 hK hS H rfl λ a H => ?_; clear hK K
   refine Aw (NoPanic.normal ?_)
   replace k := Ad.ups k hS
   replace AN := AG.up AN hS
   replace AD := AG.up AD hS
   replace k0 := Ad.ups k0 hS
   replace Aa := Aa.trans (Below.mono hS Aa.size)
   clear hS
   exact ⟨R, _, _, _, _, _, H.pick [0, 5, 6], k1, eD, k, ⟨DG, KP⟩, ⟨DK, LT⟩, AD, Aa⟩
  ·
   refine A7 R (D8 70 #[J 0, .slice none 0 0] VG fun w1 b1 Ak hb k1 => ?_); have eD : b < b1 := Nat.lt_of_lt_of_le (Nat.lt_of_lt_of_le (show b < (Cy FO).heap.size from k.lt) (Below.size hS)) Ak; have Ps := Nat.le_trans (Below.size hS) Ak; replace hS := Below.trans hS (Below.mono hb (Below.size hS)); clear hb Ak; refine kS 0 hK hS H R λ a H => ?_; clear hK K
   refine Al (fun K hK => A7 R (CQ _ _ _ (NL _ c.next vi c.items (KL p) (AG.up AN hS) (by have := hc.items; omega) (by have := Cm.2; omega) (by have := Cm.2; omega)) (AA jM (H.e R) (H.e R)) ?_))
   rintro e w9 ⟨⟨s0, o0, rfl, ⟨DG, KP⟩, ⟨DK, LT⟩⟩, hb⟩; refine ⟨_, rfl, ?_⟩; have hJ : Ct (b1 + 1) s0 := Ct.base KP (Nat.succ_le_of_lt k1.lt); have hI : Ct (b1 + 1) o0 := Ct.base LT (Nat.succ_le_of_lt k1.lt); replace k1 := k1.ups hb; have Jh := Nat.le_trans (Nat.le_trans hX (show w.heap.size ≤ (Cy FO).heap.size from FO.size)) (Below.size hS); replace KP := Ct.base KP Jh; replace LT := Ct.base LT Jh; replace hS := Below.trans hS (Below.mono hb (Below.size hS)); clear hb Jh; have dV := HT.out; rw [dV] at DG DK; rw [dV]; clear dV; obtain ⟨As, cs, Hf⟩ := CY DG; subst Hf; obtain ⟨An, cn, Fa⟩ := CY DK; subst Fa; refine kS 3 hK hS H rfl λ a H => ?_; clear hK K
   refine Al (fun K hK => A7 R (CW 70 (.tmp 5) (.tmp 30) b1 70 #[J T.1.1, .slice As T.1.2.length cs] _ (H.e R) (H.e R) k1 DU R (by simp [Value.oneCell']) fun w' hb ho kq => ?_))
   clear k1; have k1 := kq; replace DG := AG.store DG hJ ho; replace DK := AG.store DK hI ho; clear hJ hI; replace hS := Below.trans hS (hb _ Ps); clear hb ho kq; refine kU 1 hK hS H rfl λ a H => ?_; clear hK K
   refine Aw (NoPanic.normal ?_)
   replace k := Ad.ups k hS
   replace AN := AG.up AN hS
   replace AD := AG.up AD hS
   replace k0 := Ad.ups k0 hS
   replace Aa := Aa.trans (Below.mono hS Aa.size)
   clear hS
   exact ⟨R, _, _, _, _, _, H.pick [0, 5, 6], k1, eD, k, ⟨DG, KP⟩, ⟨DK, LT⟩, AD, Aa⟩
 ·
  clear H Aa k k0 AN AD Ch
  rintro a w' ⟨As, An, cs, cn, b1, H, k1, eD, k, ⟨DG, KP⟩, ⟨DK, LT⟩, AD, Aa⟩
  refine zB (zC (zD (kR 1 H R λ a H => kX 2 H (AL (cs := [J T.1.1, .slice As T.1.2.length cs]) (H.e R) (Ar k1) (by kernel_rfl) DU R) R λ a H => Cp 70 (.tmp 35) (.tmp 33) b 44 79 #[J T.1.1, .slice As T.1.2.length cs] _ (H.e R) (H.e R) k DU (by rw [Eb (c := c) AM AO]; show 44 + 2 ≤ 115; omega) (by simp [Value.oneCell']) fun w' hb ho kq => ?_)))
  clear k; rw [OO (c := c) AM AO] at kq; have k : Ad _ b 79 (rA ({ c with next := T.1.1 }) (.slice As T.1.2.length cs) vo) := kq; replace k1 := Ae k1 (ho _ (by omega)); replace DG := AG.store DG (fx KP) ho; replace DK := AG.store DK (fx LT) ho; replace AD := AG.store AD (fx BM) ho; replace Aa := Aa.store (hb b (Nat.le_refl _)) ho; clear hb ho kq; refine Dz H λ a H => zA (zB (zC (zC (zD (kR 1 H rfl λ a H => zA (zB (wp_block ?_)))))))
  have VA := fun i => KV (i := i) hc (Lj Ah) hr hk
  have k9 := k
  change Ad _ b 79 (rA { c with next := T.1.1, items := T.1.2 } _ _) at k9
  rw [← DX HT.out] at k9
  clear k k1 AM AO
  have AM := fun i => (VA i).ck
  have AO := fun i => (VA i).key
  refine wp_loop (Nr1 w b c p T vo As An cs cn) (fun a _ => T.2.length - (intOf (a.eval (.tmp 7))).toNat) ⟨0, H.pick [0, 6, 7], by omega, k9, DG, DK, AD, Aa⟩ ?_
  clear H Aa k9 DG DK AD
  rintro a w' ⟨i, H, hi, k, DG, DK, AD, Aa⟩
  have H0 := H
  replace AM := AM i
  replace AO := AO i
  by_cases CM : i < T.2.length
  ·
   obtain ⟨bn, on, hA, KO⟩ := CK Cr (BW DK) (by omega) CM
   subst hA
   obtain ⟨n, TG⟩ : ∃ n, T.2[i] = n := ⟨_, rfl⟩
   rw [TG] at KO
   have Xj : T.2[i]? = some n := by rw [← TG]; exact List.getElem?_eq_getElem CM
   clear TG
   have UX : Pj n := (Hx (n := c.next) hc.notes Cm.1).2 n (by rw [HT.out]; exact List.mem_of_getElem? Xj)
   obtain ⟨q, n2, rfl⟩ : ∃ (q : Nat) (n2 : Int × Int × Int), n = ((q : Int), n2) := ⟨n.1.toNat, n.2, Prod.ext (Int.toNat_of_nonneg UX.1).symm rfl⟩
   have zV : (q : Int) ≤ 16 := UX.2.1
   have HNI := Lib.hid Xj
   clear Xj
   refine zC (zC (zD (kR 2 H R λ a H => kV H (Ba Yc (H.e R)) R λ a H => kV H (By U3 (H.e R) (H.e R) dT) R λ a H => zA (zB (zH H R (zE (zB (zC (wp_block (zC (zD (kR 2 H R λ a H => kV H (Bq (j := i) (q := on + i * 4) Yc EZ (H.e R) (H.e R) (by omega) R) R λ a H => kV H (AL (cs := [J (q : Nat), J n2.1, J n2.2.1, J n2.2.2]) (H.e R) (KO) (by kernel_rfl) EZ R) R λ a H => De 49 8 (.tmp 45) #[J (q : Nat), J n2.1, J n2.2.1, J n2.2.2] _ V7 EZ R (Di [(q : Nat), n2.1, n2.2.1, n2.2.2]) (fun p => (H.put 8 p R).ev R) (fun p => (H.put 8 p R).ev R) fun w2 b2 Ak hb k2 => ?_))))))))))))
   have g2 := Nat.le_trans Aa.size Ak; have db2 : b < b2 := Nat.lt_of_lt_of_le k.lt Ak; replace k := k.ups hb; replace DG := AG.up DG hb; replace DK := AG.up DK hb; replace AD := AG.up AD hb; replace Aa := Aa.tr hb; clear hb; clear Ak; refine kl H rfl λ a H => zA (zB (zC (zC (zD (kR 1 H rfl λ a H => kV H (Ai U3 rfl (H.ev rfl) ((Ad.cell k2 0).trans rfl)) rfl λ a H => ?_)))))
   by_cases BE : ((q : Nat) : Int) = 0
   ·
    refine kV H (A9 U3 (H.e R) Am (AE (BE))) R λ a H => zA (zB (zH H R (wp_exit (AJ (BD (zB (zD (kR 1 H R λ a H => kX 1 H (Bm (q := ((i + 1 : Nat) : Int)) U3 (H.e R) Am) R λ a H => zA ?_))))))))
    have Nx := k
    rw [show (C8 c p i) = C8 c p (i + 1) from by rw [← DY HT.out HNI.out, I0, Vq (by omega)]] at Nx
    refine zI ⟨⟨i + 1, H.pick [0, 6, 7], by omega, Nx, DG, DK, AD, Aa⟩, ?_⟩
    rw [H.ev (j := 7) rfl, H0.ev (j := 7) rfl]
    simp only [intOf]
    omega
   ·
    refine kV H (A9 U3 (H.e R) Am (AF (BE))) R λ a H => zA (zB (zG H R (zE (zB (zC ?_)))))
    clear KO
    obtain ⟨y, hy⟩ : ∃ y, ((C8 c p i).vw (q : Nat)).getD CH = y := ⟨_, rfl⟩
    have HY := Lib.hid hy
    clear hy
    have Bc := Aa
    refine rB 9 (Dn [0, 1, 2, 3, 4, 5, 6] (.one 7 (.one 8 .done))) fun hS => kQ 2 H R λ a H => kE 2 H R R (fun w' Aj => Ai U3 R (H.e R) ((Ad.cell (Ad.ups k2 Aj) 0).trans R)) R λ a H => kF H R R (fun w' Aj => C2 (j := q) (q := 46 + q * 4) Tryz.underlying77 EZ (H.e R) (H.e R) (by omega) (by omega)) R λ a H => kF H R R (fun w' Aj => AL (cs := [J y.1, J y.2.1, J y.2.2.1, J y.2.2.2]) (H.e R) ((OW AM AO (Ad.ups k Aj) HY.out (by omega))) (by kernel_rfl) EZ R) R λ a H => Al (fun K hK => A7 R (D8 49 (cN CH) V7 fun w3 b3 Ak hb k3 => ?_))
    have rM := Nat.le_trans (Below.size hS) Ak; have db3 : b < b3 := Nat.lt_of_lt_of_le (show b < (Cy Bc).heap.size from k.lt) rM; have d23 : b2 < b3 := Nat.lt_of_lt_of_le (show b2 < (Cy Bc).heap.size from k2.lt) rM; replace hS := Below.trans hS (Below.mono hb (Below.size hS)); clear hb Ak; refine kS 0 hK hS H rfl λ a H => ?_; clear hK K
    refine Al (fun K hK => A7 R (CW 49 (.tmp 9) (.tmp 55) b3 49 (cN y) _ (H.e R) (H.e R) k3 EZ R (by simp [Value.oneCell']) fun w' hb ho kq => ?_))
    clear k3; have k3 := kq; replace hS := Below.trans hS (hb _ rM); clear hb ho kq; refine kU 0 hK hS H rfl λ a H => ?_; clear hK K
    refine Aw (NoPanic.normal ?_)
    replace k := Ad.ups k hS
    replace DG := AG.up DG hS
    replace DK := AG.up DK hS
    replace AD := AG.up AD hS
    replace k2 := Ad.ups k2 hS
    replace Aa := Aa.trans (Below.mono hS Aa.size)
    clear hS
    refine zB (zC ?_)
    by_cases PE : DN y ((q : Int), n2) = true
    ·
     refine zD (kR 1 H R λ a H => kV H (Ai U3 R (H.e R) ((Ad.cell k3 0).trans R)) R λ a H => ?_)
     by_cases Cn : y.1 = 0
     ·
      refine kX 2 H (A9 U3 (H.e R) Am (AE (Cn))) R λ a H => kW H R (Ai U3 R (H.e R) ((Ad.cell k2 1).trans R)) R λ a H => ?_
      by_cases CP : n2.1 > 0
      ·
       refine kY 6 H R (CU U3 (H.e R) Am (AE (CP))) R λ a H => zA (zB (zH H R ?_))
       have Xv := Aa
       refine rB 7 (Dn [0, 1, 2, 3, 4, 5, 6] (.one 7 .done)) fun hS => kQ 2 H R λ a H => kF H R R (fun w' Aj => Ai U3 R (H.e R) ((Ad.cell (Ad.ups k2 Aj) 0).trans R)) R λ a H => kE 2 H R R (fun w' Aj => AL (cs := [J (q : Nat), J n2.1, J n2.2.1, J n2.2.2]) (H.e R) (Ar (Ad.ups k2 Aj)) (by kernel_rfl) EZ R) R λ a H => kF H R R (fun w' Aj => C2 (j := q) (q := 46 + q * 4) Tryz.underlying77 EZ (H.e R) (H.e R) (by omega) (by omega)) R λ a H => Al (fun K hK => ?_)
       replace k := Ad.ups k hS
       replace DG := AG.up DG hS
       replace DK := AG.up DK hS
       replace AD := AG.up AD hS
       replace k2 := Ad.ups k2 hS
       replace k3 := Ad.ups k3 hS
       replace Aa := Aa.trans (Below.mono hS Aa.size)
       refine A7 R (E9 49 (.tmp 75) (.tmp 72) b (46 + q * 4) 79 (cN ((q : Int), n2)) _ (H.e R) (H.e R) k EZ (by rw [Eb AM AO]; show 46 + q * 4 + 4 ≤ 115; omega) (by simp [Value.oneCell']) fun w' hb ho kq => ?_); clear k; rw [Kd (y := ((q : Int), n2)) AM AO rfl (by omega)] at kq; have k : Ad _ b 79 (rA { (C8 c p i) with vw := Fd (C8 c p i).vw ((q : Int), n2) } (.slice As T.1.2.length cs) vo) := kq; replace DG := AG.store DG (fx KP) ho; replace DK := AG.store DK (fx LT) ho; replace AD := AG.store AD (fx BM) ho; replace k2 := Ae k2 (ho _ (by omega)); replace k3 := Ae k3 (ho _ (by omega)); replace Aa := Aa.store (hb b (Nat.le_refl _)) ho; clear hb ho kq; refine hK _ _ ⟨(fun h => absurd R h), ?_⟩; clear hK K hS
       refine Aw (NoPanic.normal (AC (zB (zD (kR 1 H R λ a H => kX 1 H (Bm (q := ((i + 1 : Nat) : Int)) U3 (H.e R) Am) R λ a H => zA ?_)))))
       have Nx := k
       rw [show { (C8 c p i) with vw := Fd (C8 c p i).vw ((q : Int), n2) } = C8 c p (i + 1) from by rw [← DY HT.out HNI.out, I0, KI (VA i) HY.out (by omega) (by exact .inr PE)]] at Nx
       refine zI ⟨⟨i + 1, H.pick [0, 6, 7], by omega, Nx, DG, DK, AD, Aa⟩, ?_⟩
       rw [H.ev (j := 7) rfl, H0.ev (j := 7) rfl]
       simp only [intOf]
       omega
      ·
       refine kY 2 H R (CU U3 (H.e R) Am (AF (CP))) R λ a H => kW H R (AL (cs := [J y.1, J y.2.1, J y.2.2.1, J y.2.2.2]) (H.e R) (Ar k3) (by kernel_rfl) EZ R) R λ a H => kW H R (AL (cs := [J (q : Nat), J n2.1, J n2.2.1, J n2.2.2]) (H.e R) (Ar k2) (by kernel_rfl) EZ R) R λ a H => kG H R (A8 _ _ _ (Ip _ y ((q : Int), n2)) (AA Zx (H.e R) (H.e R)) ?_)
       rintro e w9 ⟨rfl, hb⟩; refine ⟨_, rfl, ?_⟩; rw [PE]; replace k := k.ups hb; replace DG := AG.up DG hb; replace DK := AG.up DK hb; replace AD := AG.up AD hb; replace k2 := k2.ups hb; replace k3 := k3.ups hb; replace Aa := Aa.tr hb; clear hb; refine kL 1 H rfl λ a H => zA (zB (zH H rfl ?_))
       have Xv := Aa
       refine rB 7 (Dn [0, 1, 2, 3, 4, 5, 6] (.one 7 .done)) fun hS => kQ 2 H R λ a H => kF H R R (fun w' Aj => Ai U3 R (H.e R) ((Ad.cell (Ad.ups k2 Aj) 0).trans R)) R λ a H => kE 2 H R R (fun w' Aj => AL (cs := [J (q : Nat), J n2.1, J n2.2.1, J n2.2.2]) (H.e R) (Ar (Ad.ups k2 Aj)) (by kernel_rfl) EZ R) R λ a H => kF H R R (fun w' Aj => C2 (j := q) (q := 46 + q * 4) Tryz.underlying77 EZ (H.e R) (H.e R) (by omega) (by omega)) R λ a H => Al (fun K hK => ?_)
       replace k := Ad.ups k hS
       replace DG := AG.up DG hS
       replace DK := AG.up DK hS
       replace AD := AG.up AD hS
       replace k2 := Ad.ups k2 hS
       replace k3 := Ad.ups k3 hS
       replace Aa := Aa.trans (Below.mono hS Aa.size)
       refine A7 R (E9 49 (.tmp 75) (.tmp 72) b (46 + q * 4) 79 (cN ((q : Int), n2)) _ (H.e R) (H.e R) k EZ (by rw [Eb AM AO]; show 46 + q * 4 + 4 ≤ 115; omega) (by simp [Value.oneCell']) fun w' hb ho kq => ?_); clear k; rw [Kd (y := ((q : Int), n2)) AM AO rfl (by omega)] at kq; have k : Ad _ b 79 (rA { (C8 c p i) with vw := Fd (C8 c p i).vw ((q : Int), n2) } (.slice As T.1.2.length cs) vo) := kq; replace DG := AG.store DG (fx KP) ho; replace DK := AG.store DK (fx LT) ho; replace AD := AG.store AD (fx BM) ho; replace k2 := Ae k2 (ho _ (by omega)); replace k3 := Ae k3 (ho _ (by omega)); replace Aa := Aa.store (hb b (Nat.le_refl _)) ho; clear hb ho kq; refine hK _ _ ⟨(fun h => absurd R h), ?_⟩; clear hK K hS
       refine Aw (NoPanic.normal (AC (zB (zD (kR 1 H R λ a H => kX 1 H (Bm (q := ((i + 1 : Nat) : Int)) U3 (H.e R) Am) R λ a H => zA ?_)))))
       have Nx := k
       rw [show { (C8 c p i) with vw := Fd (C8 c p i).vw ((q : Int), n2) } = C8 c p (i + 1) from by rw [← DY HT.out HNI.out, I0, KI (VA i) HY.out (by omega) (by exact .inr PE)]] at Nx
       refine zI ⟨⟨i + 1, H.pick [0, 6, 7], by omega, Nx, DG, DK, AD, Aa⟩, ?_⟩
       rw [H.ev (j := 7) rfl, H0.ev (j := 7) rfl]
       simp only [intOf]
       omega
     ·
      refine kX 6 H (A9 U3 (H.e R) Am (AF (Cn))) R λ a H => kW H R (AL (cs := [J y.1, J y.2.1, J y.2.2.1, J y.2.2.2]) (H.e R) (Ar k3) (by kernel_rfl) EZ R) R λ a H => kW H R (AL (cs := [J (q : Nat), J n2.1, J n2.2.1, J n2.2.2]) (H.e R) (Ar k2) (by kernel_rfl) EZ R) R λ a H => kG H R (A8 _ _ _ (Ip _ y ((q : Int), n2)) (AA Zx (H.e R) (H.e R)) ?_)
      rintro e w9 ⟨rfl, hb⟩; refine ⟨_, rfl, ?_⟩; rw [PE]; replace k := k.ups hb; replace DG := AG.up DG hb; replace DK := AG.up DK hb; replace AD := AG.up AD hb; replace k2 := k2.ups hb; replace k3 := k3.ups hb; replace Aa := Aa.tr hb; clear hb; refine kL 1 H rfl λ a H => zA (zB (zH H rfl ?_))
      have Xv := Aa
      refine rB 7 (Dn [0, 1, 2, 3, 4, 5, 6] (.one 7 .done)) fun hS => kQ 2 H R λ a H => kF H R R (fun w' Aj => Ai U3 R (H.e R) ((Ad.cell (Ad.ups k2 Aj) 0).trans R)) R λ a H => kE 2 H R R (fun w' Aj => AL (cs := [J (q : Nat), J n2.1, J n2.2.1, J n2.2.2]) (H.e R) (Ar (Ad.ups k2 Aj)) (by kernel_rfl) EZ R) R λ a H => kF H R R (fun w' Aj => C2 (j := q) (q := 46 + q * 4) Tryz.underlying77 EZ (H.e R) (H.e R) (by omega) (by omega)) R λ a H => Al (fun K hK => ?_)
      replace k := Ad.ups k hS
      replace DG := AG.up DG hS
      replace DK := AG.up DK hS
      replace AD := AG.up AD hS
      replace k2 := Ad.ups k2 hS
      replace k3 := Ad.ups k3 hS
      replace Aa := Aa.trans (Below.mono hS Aa.size)
      refine A7 R (E9 49 (.tmp 75) (.tmp 72) b (46 + q * 4) 79 (cN ((q : Int), n2)) _ (H.e R) (H.e R) k EZ (by rw [Eb AM AO]; show 46 + q * 4 + 4 ≤ 115; omega) (by simp [Value.oneCell']) fun w' hb ho kq => ?_); clear k; rw [Kd (y := ((q : Int), n2)) AM AO rfl (by omega)] at kq; have k : Ad _ b 79 (rA { (C8 c p i) with vw := Fd (C8 c p i).vw ((q : Int), n2) } (.slice As T.1.2.length cs) vo) := kq; replace DG := AG.store DG (fx KP) ho; replace DK := AG.store DK (fx LT) ho; replace AD := AG.store AD (fx BM) ho; replace k2 := Ae k2 (ho _ (by omega)); replace k3 := Ae k3 (ho _ (by omega)); replace Aa := Aa.store (hb b (Nat.le_refl _)) ho; clear hb ho kq; refine hK _ _ ⟨(fun h => absurd R h), ?_⟩; clear hK K hS
      refine Aw (NoPanic.normal (AC (zB (zD (kR 1 H R λ a H => kX 1 H (Bm (q := ((i + 1 : Nat) : Int)) U3 (H.e R) Am) R λ a H => zA ?_)))))
      have Nx := k
      rw [show { (C8 c p i) with vw := Fd (C8 c p i).vw ((q : Int), n2) } = C8 c p (i + 1) from by rw [← DY HT.out HNI.out, I0, KI (VA i) HY.out (by omega) (by exact .inr PE)]] at Nx
      refine zI ⟨⟨i + 1, H.pick [0, 6, 7], by omega, Nx, DG, DK, AD, Aa⟩, ?_⟩
      rw [H.ev (j := 7) rfl, H0.ev (j := 7) rfl]
      simp only [intOf]
      omega
    ·
     refine zD (kR 1 H R λ a H => kV H (Ai U3 R (H.e R) ((Ad.cell k3 0).trans R)) R λ a H => ?_)
     by_cases DJ : y.1 = 0
     ·
      refine kX 2 H (A9 U3 (H.e R) Am (AE (DJ))) R λ a H => kW H R (Ai U3 R (H.e R) ((Ad.cell k2 1).trans R)) R λ a H => ?_
      by_cases Em : n2.1 > 0
      ·
       refine kY 6 H R (CU U3 (H.e R) Am (AE (Em))) R λ a H => zA (zB (zH H R (rB 7 (Dn [0, 1, 2, 3, 4, 5, 6] (.one 7 .done)) fun hS => kQ 2 H R λ a H => kF H R R (fun w' Aj => Ai U3 R (H.e R) ((Ad.cell (Ad.ups k2 Aj) 0).trans R)) R λ a H => kE 2 H R R (fun w' Aj => AL (cs := [J (q : Nat), J n2.1, J n2.2.1, J n2.2.2]) (H.e R) (Ar (Ad.ups k2 Aj)) (by kernel_rfl) EZ R) R λ a H => kF H R R (fun w' Aj => C2 (j := q) (q := 46 + q * 4) Tryz.underlying77 EZ (H.e R) (H.e R) (by omega) (by omega)) R λ a H => Al (fun K hK => ?_))))
       replace k := Ad.ups k hS
       replace DG := AG.up DG hS
       replace DK := AG.up DK hS
       replace AD := AG.up AD hS
       replace k2 := Ad.ups k2 hS
       replace k3 := Ad.ups k3 hS
       replace Aa := Aa.trans (Below.mono hS Aa.size)
       refine A7 R (E9 49 (.tmp 75) (.tmp 72) b (46 + q * 4) 79 (cN ((q : Int), n2)) _ (H.e R) (H.e R) k EZ (by rw [Eb AM AO]; show 46 + q * 4 + 4 ≤ 115; omega) (by simp [Value.oneCell']) fun w' hb ho kq => ?_); clear k; rw [Kd (y := ((q : Int), n2)) AM AO rfl (by omega)] at kq; have k : Ad _ b 79 (rA { (C8 c p i) with vw := Fd (C8 c p i).vw ((q : Int), n2) } (.slice As T.1.2.length cs) vo) := kq; replace DG := AG.store DG (fx KP) ho; replace DK := AG.store DK (fx LT) ho; replace AD := AG.store AD (fx BM) ho; replace k2 := Ae k2 (ho _ (by omega)); replace k3 := Ae k3 (ho _ (by omega)); replace Aa := Aa.store (hb b (Nat.le_refl _)) ho; clear hb ho kq; refine hK _ _ ⟨(fun h => absurd R h), ?_⟩; clear hK K hS
       refine Aw (NoPanic.normal (AC (zB (zD (kR 1 H R λ a H => kX 1 H (Bm (q := ((i + 1 : Nat) : Int)) U3 (H.e R) Am) R λ a H => zA ?_)))))
       have Nx := k
       rw [show { (C8 c p i) with vw := Fd (C8 c p i).vw ((q : Int), n2) } = C8 c p (i + 1) from by rw [← DY HT.out HNI.out, I0, KI (VA i) HY.out (by omega) (by exact .inl ⟨by omega, by omega⟩)]] at Nx
       refine zI ⟨⟨i + 1, H.pick [0, 6, 7], by omega, Nx, DG, DK, AD, Aa⟩, ?_⟩
       rw [H.ev (j := 7) rfl, H0.ev (j := 7) rfl]
       simp only [intOf]
       omega
      ·
       refine kY 2 H R (CU U3 (H.e R) Am (AF (Em))) R λ a H => kW H R (AL (cs := [J y.1, J y.2.1, J y.2.2.1, J y.2.2.2]) (H.e R) (Ar k3) (by kernel_rfl) EZ R) R λ a H => kW H R (AL (cs := [J (q : Nat), J n2.1, J n2.2.1, J n2.2.2]) (H.e R) (Ar k2) (by kernel_rfl) EZ R) R λ a H => kG H R (A8 _ _ _ (Ip _ y ((q : Int), n2)) (AA Zx (H.e R) (H.e R)) ?_)
       rintro e w9 ⟨rfl, hb⟩; refine ⟨_, rfl, ?_⟩; rw [show DN y ((q : Int), n2) = false by simpa using PE]; replace k := k.ups hb; replace DG := AG.up DG hb; replace DK := AG.up DK hb; replace AD := AG.up AD hb; replace k2 := k2.ups hb; replace k3 := k3.ups hb; replace Aa := Aa.tr hb; clear hb; refine kL 1 H rfl λ a H => zA (zB (zG H rfl (zE (AC (zB (zD (kR 1 H rfl λ a H => kX 1 H (Bm (q := ((i + 1 : Nat) : Int)) U3 (H.ev rfl) Am) rfl λ a H => zA ?_)))))))
       have Nx := k
       rw [show (C8 c p i) = C8 c p (i + 1) from by rw [← DY HT.out HNI.out, I0, Ug (VA i) HY.out (by omega) (fun h => h.elim (fun ⟨h1, h2⟩ => by have h3 : 0 < n2.1 := h2; omega) PE)]] at Nx
       refine zI ⟨⟨i + 1, H.pick [0, 6, 7], by omega, Nx, DG, DK, AD, Aa⟩, ?_⟩
       rw [H.ev (j := 7) rfl, H0.ev (j := 7) rfl]
       simp only [intOf]
       omega
     ·
      refine kX 6 H (A9 U3 (H.e R) Am (AF (DJ))) R λ a H => kW H R (AL (cs := [J y.1, J y.2.1, J y.2.2.1, J y.2.2.2]) (H.e R) (Ar k3) (by kernel_rfl) EZ R) R λ a H => kW H R (AL (cs := [J (q : Nat), J n2.1, J n2.2.1, J n2.2.2]) (H.e R) (Ar k2) (by kernel_rfl) EZ R) R λ a H => kG H R (A8 _ _ _ (Ip _ y ((q : Int), n2)) (AA Zx (H.e R) (H.e R)) ?_)
      rintro e w9 ⟨rfl, hb⟩; refine ⟨_, rfl, ?_⟩; rw [show DN y ((q : Int), n2) = false by simpa using PE]; replace k := k.ups hb; replace DG := AG.up DG hb; replace DK := AG.up DK hb; replace AD := AG.up AD hb; replace k2 := k2.ups hb; replace k3 := k3.ups hb; replace Aa := Aa.tr hb; clear hb; refine kL 1 H rfl λ a H => zA (zB (zG H rfl (zE (AC (zB (zD (kR 1 H rfl λ a H => kX 1 H (Bm (q := ((i + 1 : Nat) : Int)) U3 (H.ev rfl) Am) rfl λ a H => zA ?_)))))))
      have Nx := k
      rw [show (C8 c p i) = C8 c p (i + 1) from by rw [← DY HT.out HNI.out, I0, Ug (VA i) HY.out (by omega) (fun h => h.elim (fun ⟨h1, h2⟩ => by have h3 : 0 < n2.1 := h2; omega) PE)]] at Nx
      refine zI ⟨⟨i + 1, H.pick [0, 6, 7], by omega, Nx, DG, DK, AD, Aa⟩, ?_⟩
      rw [H.ev (j := 7) rfl, H0.ev (j := 7) rfl]
      simp only [intOf]
      omega
  ·
   obtain rfl : i = T.2.length := by omega
   clear DK
   rw [In HT.out] at k
   rw [In HT.out] at AM AO
   refine zC (zC (zD (kR 2 H R λ a H => kV H (Ba Yc (H.e R)) R λ a H => kV H (By U3 (H.e R) (H.e R) dF) R λ a H => zA (zB (zG H R (wp_exit (AJ (AJ (BD (zB (zC ?_)))))))))))
   have Rf := OF hc (Lj Ah) hr hk
   have iB : T.1.2.length ≤ 7 := by have := Rf.items; rwa [show (DC c p).items = T.1.2 by rw [← HT.out]; rfl] at this
   have Xw := SR T.1.1 T.1.2
   have Nx : (DC c p).next = T.1.1 := by rw [← HT.out]; rfl
   have hid := Rf.id
   refine zD (kR 3 H R λ a H => kV (v := .agg #[J T.1.1, .slice As T.1.2.length cs]) H (by rw [← Nx]; exact AL (cs := [J (DC c p).next, .slice As T.1.2.length cs]) (H.e R) (OX AM AO k) (by kernel_rfl) DU R) R λ a H => kC 0 (W8 _ T.1.1 _ T.1.2 DG (by have := iB; omega)) (Av sO (H.e R)) H R fun w9 a hb H => ?_)
   replace k := k.ups hb; replace DG := AG.up DG hb; replace AD := AG.up AD hb; replace Aa := Aa.tr hb; clear hb
   refine kR 5 H R λ a H => zA (zB (zC (zD (kR 4 H R λ a H => kX 2 H (Ai U3 R (H.e R) ((show _ = some (J ((DC c p).id)) from L8 (c := (DC c p)) AM AO k))) R λ a H => kV (v := .agg (pv ((LX (Ey T.1.1 T.1.2).1 (Ey T.1.1 T.1.2).2).set 1 (DC c p).id))) H (Bl #[(0, J 9), (1, J (DC c p).id), (8, J (Ey T.1.1 T.1.2).1), (9, J (Ey T.1.1 T.1.2).2)] (.agg (pv ((LX (Ey T.1.1 T.1.2).1 (Ey T.1.1 T.1.2).2).set 1 (DC c p).id))) (by simp [Am, H.ev (j := 88) R, H.ev (j := 89) R, H.ev (j := 90) R]) (fun w => by kernel_rfl)) R λ a H => A8 _ _ _ (Ld _ b (DC c p) _ _ Rf k ((LX (Ey T.1.1 T.1.2).1 (Ey T.1.1 T.1.2).2).set 1 (DC c p).id) (Cg (P8 Xw) (by omega))) (AA eR (H.e R) (H.e R)) ?_))))
   rintro e w9 ⟨⟨v, rfl, D1⟩, hb⟩; refine ⟨_, rfl, ?_⟩; replace D1 := AK.base D1 Aa.size; replace k := k.ups hb; replace DG := AG.up DG hb; replace AD := AG.up AD hb; replace Aa := Aa.tr hb; clear hb; refine kL 1 H rfl λ a H => zA (zB (zF ?_))
   rw [show LR c p = DC c p from if_pos Ah]
   exact Ag H R R ⟨⟨_, R, by rw [Nz, if_pos Ah, show (DC c p).next = T.1.1 by rw [← HT.out]; rfl, show (DC c p).items = T.1.2 by rw [← HT.out]; rfl]; exact D1⟩, ⟨Rf, _, _, k, ⟨by rw [show (DC c p).items = T.1.2 by rw [← HT.out]; rfl]; exact DG, KP⟩, AD, BM⟩, Aa⟩
end
end Go.Proofs.YtbnmpoonkjlkjaaGreat
