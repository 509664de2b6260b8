/- Client: part ZEd of the proof. -/
import Derived.Test.YtbnmpoonkjlkjaaGreatXZEc
namespace Go.Proofs.YtbnmpoonkjlkjaaGreat
open Go.RowKit
set_option linter.unusedVariables false
set_option linter.unusedSimpArgs false
set_option maxRecDepth 100000
set_option maxHeartbeats 8000000
noncomputable def RR (c : Cl) (p : AZ) : List (List B8) := if Cf p = true then JO (BK c.key p) else []
noncomputable def XQ (c : Cl) : List (List B8) := if c.state = 1 then Pu c else Oh c
theorem pC {o : Nt} (h6 : o.1 ≠ 6) (h7 : o.1 ≠ 7) : decide (o = (10, 0, 0, 0)) = decide (Ej o) := by
 obtain ⟨a, b, c, d⟩ := o
 apply decide_eq_decide.2
 unfold Ej
 simp only [Prod.mk.injEq]
 constructor <;> intro hh <;> simp only at h6 h7 <;> omega
theorem Ld (w : World) (b : Nat) (c : Cl) (vi vo : Value) (hc : Dc c) (k : Ad w b 79 (rA c vi vo)) (p : AZ) (hp : p.ok) : Calls Tryz.prog 49 #[.pointer (some ⟨b, 0, none⟩), .agg (pv p)] w fun e w' => (∃ v, e = .returned v ∧ AK w' w.heap.size v (RR c p)) ∧ Below w.heap.size w w' := by
 have AM := hc.ck
 have AO := hc.key
 have Aa := Below.refl w.heap.size w
 refine Az 20 Tryz.func49 R R λ a H => zC (zD (B7 36 (.tmp 1) (pv p) (H.e R) fun w0 b0 Ak hb k0 => ?_))
 have g0 := Nat.le_trans Aa.size Ak; have PF : b < b0 := Nat.lt_of_lt_of_le k.lt Ak; replace k := k.ups hb; replace Aa := Aa.tr hb; clear hb; clear Ak; refine kL 1 H rfl λ a H => zA (zB (zC (rB 12 (Dn [0, 1, 2, 3, 4] (.two 5 (Dn [6, 7, 8] (.one 9 (.one 10 (.fl 11 .done)))) 9 (.one 5 (Dn [6, 7, 8] (.one 10 (.fl 11 .done)))))) fun hS => kQ 3 H rfl λ a H => kF H rfl rfl (fun w' Aj => AL (cs := (c.key).map u8v) (H.ev rfl) (Sa (c := c) AM AO (Ad.ups k Aj) : World.rangeAt _ b 22 ((c.key).map u8v)) (by kernel_rfl) (by rw [List.length_map, AO]; exact Ft) rfl) rfl λ a H => kF H rfl rfl (fun w' Aj => Af b0 36 _ _ (H.ev rfl) (Ad.ups k0 Aj) C1 rfl (AR hp)) rfl λ a H => FB (fun K hK => ?_) (fun K hK => ?_))))
 ·
  refine A7 R (kD (Jr _ c.key p AO hp) (AA Z3 (H.e R) (H.e R)) fun w9 hb => ?_); replace hS := Below.trans hS (Below.mono hb (Below.size hS)); clear hb; obtain ⟨SG, Pr⟩ : ∃ SG, (if Cf p = true then BK c.key p else Ec) = SG := ⟨_, rfl⟩; have GY : SG.ok := (by rw [← Pr]; exact F6 hp); rw [Pr]; have HSG := Lib.hid Pr; clear Pr; refine kS 3 hK hS H R λ a H => ?_; clear hK K
  refine Al (fun K hK => A7 R (D8 36 (pv Ec) Jn fun w1 b1 Ak hb k1 => ?_))
  have Ps := Nat.le_trans (Below.size hS) Ak; replace hS := Below.trans hS (Below.mono hb (Below.size hS)); clear hb Ak; refine kS 0 hK hS H rfl λ a H => ?_; clear hK K
  refine Al (fun K hK => A7 R (CW 36 (.tmp 5) (.tmp 14) b1 36 (pv SG) _ (H.e R) (H.e R) k1 (AR GY) (by rw [AI Bz, AI GY]) (BU _) fun w' hb ho kq => ?_))
  clear k1; have k1 := kq; replace hS := Below.trans hS (hb _ Ps); clear hb ho kq; refine kU 1 hK hS H rfl λ a H => ?_; clear hK K
  refine Aw (NoPanic.normal ?_)
  replace k := Ad.ups k hS
  replace k0 := Ad.ups k0 hS
  replace Aa := Aa.trans (Below.mono hS Aa.size)
  clear hS
  refine zB (zC (zC ?_))
  obtain ⟨so, Hf⟩ : ∃ so, Cf p = so := ⟨_, rfl⟩
  rw [Hf] at H
  have HSO := Lib.hid Hf
  clear Hf
  cases so
  ·
   exact zD (kR 1 H R λ a H => kV H (Bs (H.e R) R) R λ a H => zA (zB (zH H R (zC (zD (kR 1 H R λ a H => zA (zB (zF (zJ (Ag H R R ⟨⟨_, R, by rw [RR, if_neg (by rw [HSO.out]; simp)]; exact Bd⟩, Aa⟩))))))))))
  ·
   have Vc : SG = BK c.key p := by rw [← HSG.out, if_pos HSO.out]
   refine zD (kR 1 H R λ a H => kV H (Bs (H.e R) R) R λ a H => zA (zB (zG H R (zE (zB (zC (zD (kV H (Af b1 36 _ _ (H.e R) k1 C1 R (AR GY)) R λ a H => A8 _ _ _ (Kk _ SG GY) (Av Zy (H.e R)) ?_))))))))
   rintro e w9 ⟨⟨v, rfl, D1⟩, hb⟩; refine ⟨_, rfl, ?_⟩; replace D1 := AK.base D1 Aa.size; replace k := k.ups hb; replace k0 := k0.ups hb; replace k1 := k1.ups hb; replace Aa := Aa.tr hb; clear hb; exact kL 1 H rfl λ a H => zA (zB (zF (Ag H rfl rfl ⟨⟨_, rfl, by rw [RR, if_pos HSO.out, ← Vc]; exact D1⟩, Aa⟩)))
 ·
  refine A7 R (D8 36 (pv Ec) Jn fun w1 b1 Ak hb k1 => ?_); have Ps := Nat.le_trans (Below.size hS) Ak; replace hS := Below.trans hS (Below.mono hb (Below.size hS)); clear hb Ak; refine kS 0 hK hS H R λ a H => ?_; clear hK K
  refine Al (fun K hK => A7 R (kD (Jr _ c.key p AO hp) (AA Z3 (H.e R) (H.e R)) fun w9 hb => ?_))
  replace k1 := k1.ups hb; replace hS := Below.trans hS (Below.mono hb (Below.size hS)); clear hb; obtain ⟨SG, Pr⟩ : ∃ SG, (if Cf p = true then BK c.key p else Ec) = SG := ⟨_, rfl⟩; have GY : SG.ok := (by rw [← Pr]; exact F6 hp); rw [Pr]; have HSG := Lib.hid Pr; clear Pr; refine kS 3 hK hS H rfl λ a H => ?_; clear hK K
  refine Al (fun K hK => A7 R (CW 36 (.tmp 5) (.tmp 14) b1 36 (pv SG) _ (H.e R) (H.e R) k1 (AR GY) (by rw [AI Bz, AI GY]) (BU _) fun w' hb ho kq => ?_))
  clear k1; have k1 := kq; replace hS := Below.trans hS (hb _ Ps); clear hb ho kq; refine kU 1 hK hS H rfl λ a H => ?_; clear hK K
  refine Aw (NoPanic.normal ?_)
  replace k := Ad.ups k hS
  replace k0 := Ad.ups k0 hS
  replace Aa := Aa.trans (Below.mono hS Aa.size)
  clear hS
  refine zB (zC (zC ?_))
  obtain ⟨so, Hf⟩ : ∃ so, Cf p = so := ⟨_, rfl⟩
  rw [Hf] at H
  have HSO := Lib.hid Hf
  clear Hf
  cases so
  ·
   exact zD (kR 1 H R λ a H => kV H (Bs (H.e R) R) R λ a H => zA (zB (zH H R (zC (zD (kR 1 H R λ a H => zA (zB (zF (zJ (Ag H R R ⟨⟨_, R, by rw [RR, if_neg (by rw [HSO.out]; simp)]; exact Bd⟩, Aa⟩))))))))))
  ·
   have Vc : SG = BK c.key p := by rw [← HSG.out, if_pos HSO.out]
   refine zD (kR 1 H R λ a H => kV H (Bs (H.e R) R) R λ a H => zA (zB (zG H R (zE (zB (zC (zD (kV H (Af b1 36 _ _ (H.e R) k1 C1 R (AR GY)) R λ a H => A8 _ _ _ (Kk _ SG GY) (Av Zy (H.e R)) ?_))))))))
   rintro e w9 ⟨⟨v, rfl, D1⟩, hb⟩; refine ⟨_, rfl, ?_⟩; replace D1 := AK.base D1 Aa.size; replace k := k.ups hb; replace k0 := k0.ups hb; replace k1 := k1.ups hb; replace Aa := Aa.tr hb; clear hb; exact kL 1 H rfl λ a H => zA (zB (zF (Ag H rfl rfl ⟨⟨_, rfl, by rw [RR, if_pos HSO.out, ← Vc]; exact D1⟩, Aa⟩)))
theorem W7 (w : World) (b : Nat) (c : Cl) (vi vo : Value) (hc : Dc c) (k : Ad w b 79 (rA c vi vo)) : Calls Tryz.prog 48 #[.pointer (some ⟨b, 0, none⟩)] w fun e w' => (∃ v, e = .returned v ∧ AK w' w.heap.size v (XQ c)) ∧ Ad w' b 79 (rA (JS c) vi vo) ∧ Bi b none w w' := by
 have AM := hc.ck
 have AO := hc.key
 have IF := hc.now
 have Gu := hc.seq
 have Jf := hc.beats
 have IE := hc.nonce
 have Aa := Bi.refl b none w
 refine Az 40 Tryz.func48 R R λ a H => zC (zD (kR 1 H R λ a H => zA (zB (zC (zD (kR 4 H R λ a H => kV H (Ai U3 R (H.e R) ((show _ = some (J (c.now)) from Fu (c := c) AM AO k))) R λ a H => kX 2 H (Bm (q := (c.now) + 4) U3 (H.e R) Am) R λ a H => Gb (new := rA ({ c with ask := ((c.now) + 4) }) vi vo) (H.e R) (H.e R) k s3 (Cv AM AO R) oI (My AM AO) Aa H fun w' hb ho k Aa a H => ?_))))))
 clear hb ho
 refine zA (zB (zC (zC (zD (kR 3 H R λ a H => kV H (Ai U3 R (H.e R) ((show _ = some (J (c.state)) from DZ (c := { c with ask := ((c.now) + 4) }) AM AO k))) R λ a H => ?_)))))
 by_cases BE : (c.state) = 1
 ·
  refine kV H (A9 U3 (H.e R) Am (AE (BE))) R λ a H => zA (zB (zH H R (zC (zD (kR 3 H R λ a H => kV H (Ai U3 R (H.e R) ((show _ = some (J (c.nonce)) from FX (c := { c with ask := ((c.now) + 4) }) AM AO k))) R λ a H => kV (v := .agg (pv (E1 c.nonce))) H (Bl #[(0, J 1), (10, J (c.nonce))] (.agg (pv (E1 c.nonce))) (by simp [Am, H.ev (j := 19) R]) (fun w => by kernel_rfl)) R λ a H => A8 _ _ _ (Kk _ (E1 c.nonce) (Re hc)) (Av Zy (H.e R)) ?_)))))
  rintro e w9 ⟨⟨v, rfl, D1⟩, hb⟩; refine ⟨_, rfl, ?_⟩; replace D1 := AK.base D1 Aa.size; replace k := k.ups hb; replace Aa := Aa.tr hb; clear hb; exact kL 1 H rfl λ a H => zA (zB (zF (zJ (Ag H rfl rfl ⟨⟨_, rfl, by rw [XQ, if_pos (by omega)]; exact D1⟩, k, Aa⟩))))
 ·
  refine kV H (A9 U3 (H.e R) Am (AF (BE))) R λ a H => zA (zB (zG H R (zE (zB (zC (rB 19 (Dn [0, 1, 2, 3, 4, 5, 6, 7, 8, 9, 10, 11, 12, 13, 14, 15, 16] (.one 17 (.fl 18 .done))) fun hS => kQ 3 H R λ a H => kE 3 H R R (fun w' Aj => Ai U3 R (H.e R) ((show _ = some (J (c.user)) from Tk (c := { c with ask := ((c.now) + 4) }) AM AO (Ad.ups k Aj)))) R λ a H => kE 3 H R R (fun w' Aj => Ai U3 R (H.e R) ((show _ = some (J (c.nonce)) from FX (c := { c with ask := ((c.now) + 4) }) AM AO (Ad.ups k Aj)))) R λ a H => kE 3 H R R (fun w' Aj => Ai U3 R (H.e R) ((show _ = some (J (c.epoch)) from Qn (c := { c with ask := ((c.now) + 4) }) AM AO (Ad.ups k Aj)))) R λ a H => kF H R R (fun w' Aj => AL (cs := (c.ck).map u8v) (H.e R) (ZM (c := { c with ask := ((c.now) + 4) }) AM AO (Ad.ups k Aj) : World.rangeAt _ b 5 ((c.ck).map u8v)) (by kernel_rfl) (by rw [List.length_map, AM]; exact Ft) R) R λ a H => kF (v := .agg (pv (Gg c.user c.nonce c.epoch c.ck))) H R R (fun w' Aj => Sj AM (H.e R) (H.e R) (H.e R) (H.e R)) R λ a H => Al (fun K hK => A7 R (CQ _ _ _ (Kk _ (Gg c.user c.nonce c.epoch c.ck) (TX hc)) (Av Zy (H.e R)) ?_))))))))
  rintro e w9 ⟨⟨v, rfl, D1⟩, hb⟩; refine ⟨_, rfl, ?_⟩; replace D1 := AK.base D1 (Nat.le_trans Aa.size (Below.size hS)); replace hS := Below.trans hS (Below.mono hb (Below.size hS)); clear hb; refine kS 1 hK hS H rfl λ a H => ?_; clear hK K
  refine Aw (NoPanic.normal ?_)
  replace k := Ad.ups k hS
  replace Aa := Aa.trans (Below.mono hS Aa.size)
  clear hS
  exact zB (zF (Ag H R R ⟨⟨_, R, by rw [XQ, if_neg (by omega)]; exact D1⟩, k, Aa⟩))
theorem Qm (w : World) (o : Nt) : Calls Tryz.prog 51 #[.agg (cN o)] w fun e w' => e = .returned (.bool (decide (Ej o))) ∧ Below w.heap.size w w' := by
 have Aa := Below.refl w.heap.size w
 refine Az 53 Tryz.func51 R R λ a H => zC (zD (B7 32 _ #[J o.1, J o.2.1, J o.2.2.1, J o.2.2.2] (H.e R) fun w0 b0 Ak hb k0 => ?_))
 have g0 := Nat.le_trans Aa.size Ak; replace Aa := Aa.tr hb; clear hb; clear Ak; refine kL 1 H rfl λ a H => zA (zB (zC (zC (zD (kR 1 H rfl λ a H => kV H (Ai U3 rfl (H.ev rfl) ((Ad.cell k0 0).trans rfl)) rfl λ a H => zA (zB (wp_block (zC (zD ?_)))))))))
 by_cases BE : o.1 = 6
 ·
  refine kX 1 H (A9 U3 (H.e R) Am (AE (BE))) R λ a H => zA (zB (zH H R (zC (zD (kR 1 H R λ a H => kV H (Ai U3 R (H.e R) ((Ad.cell k0 1).trans R)) R λ a H => ?_)))))
  by_cases Cn : o.2.1 ≥ 1
  ·
   refine kX 2 H (CV U3 (H.e R) Am (AE (Cn))) R λ a H => kW H R (Ai U3 R (H.e R) ((Ad.cell k0 1).trans R)) R λ a H => ?_
   by_cases CP : o.2.1 ≤ 3
   ·
    refine kY 3 H R (Fv U3 (H.e R) Am (AE (CP))) R λ a H => kW H R (Ai U3 R (H.e R) ((Ad.cell k0 2).trans R)) R λ a H => ?_
    by_cases DJ : o.2.2.1 = 0
    ·
     refine kY 3 H R (A9 U3 (H.e R) Am (AE (DJ))) R λ a H => kW H R (Ai U3 R (H.e R) ((Ad.cell k0 3).trans R)) R λ a H => ?_
     by_cases Em : o.2.2.2 = 0
     ·
      exact kY 2 H R (A9 U3 (H.e R) Am (AE (Em))) R λ a H => zA (zB (zF (AS (zJ (Ag H R R ⟨by rw [decide_eq_true (show Ej o by unfold Ej; omega)], Aa⟩)))))
     ·
      exact kY 2 H R (A9 U3 (H.e R) Am (AF (Em))) R λ a H => zA (zB (zF (AS (zJ (Ag H R R ⟨by rw [decide_eq_false (show ¬ Ej o by unfold Ej; omega)], Aa⟩)))))
    ·
     exact kY 7 H R (A9 U3 (H.e R) Am (AF (DJ))) R λ a H => zA (zB (zF (AS (zJ (Ag H R R ⟨by rw [decide_eq_false (show ¬ Ej o by unfold Ej; omega)], Aa⟩)))))
   ·
    exact kY 12 H R (Fv U3 (H.e R) Am (AF (CP))) R λ a H => zA (zB (zF (AS (zJ (Ag H R R ⟨by rw [decide_eq_false (show ¬ Ej o by unfold Ej; omega)], Aa⟩)))))
  ·
   exact kX 16 H (CV U3 (H.e R) Am (AF (Cn))) R λ a H => zA (zB (zF (AS (zJ (Ag H R R ⟨by rw [decide_eq_false (show ¬ Ej o by unfold Ej; omega)], Aa⟩)))))
 ·
  refine kX 1 H (A9 U3 (H.e R) Am (AF (BE))) R λ a H => zA (zB (zG H R (zC (zD ?_))))
  by_cases Fg : o.1 = 7
  ·
   refine kX 1 H (A9 U3 (H.e R) Am (AE (Fg))) R λ a H => zA (zB (zH H R (zC (zD (kR 1 H R λ a H => kV H (Ai U3 R (H.e R) ((Ad.cell k0 2).trans R)) R λ a H => ?_)))))
   by_cases F3 : o.2.2.1 ≥ 1
   ·
    refine kX 2 H (CV U3 (H.e R) Am (AE (F3))) R λ a H => kW H R (Ai U3 R (H.e R) ((Ad.cell k0 2).trans R)) R λ a H => ?_
    by_cases FR : o.2.2.1 ≤ 7
    ·
     refine kY 3 H R (Fv U3 (H.e R) Am (AE (FR))) R λ a H => kW H R (Ai U3 R (H.e R) ((Ad.cell k0 3).trans R)) R λ a H => ?_
     by_cases Hm : o.2.2.2 ≥ 1
     ·
      refine kY 3 H R (CV U3 (H.e R) Am (AE (Hm))) R λ a H => kW H R (Ai U3 R (H.e R) ((Ad.cell k0 3).trans R)) R λ a H => ?_
      by_cases IB : o.2.2.2 ≤ 16
      ·
       refine kY 3 H R (Fv U3 (H.e R) Am (AE (IB))) R λ a H => kW H R (Ai U3 R (H.e R) ((Ad.cell k0 1).trans R)) R λ a H => ?_
       by_cases FM : o.2.1 = 0
       ·
        exact kY 2 H R (A9 U3 (H.e R) Am (AE (FM))) R λ a H => zA (zB (zF (AS (zJ (Ag H R R ⟨by rw [decide_eq_true (show Ej o by unfold Ej; omega)], Aa⟩)))))
       ·
        exact kY 2 H R (A9 U3 (H.e R) Am (AF (FM))) R λ a H => zA (zB (zF (AS (zJ (Ag H R R ⟨by rw [decide_eq_false (show ¬ Ej o by unfold Ej; omega)], Aa⟩)))))
      ·
       exact kY 7 H R (Fv U3 (H.e R) Am (AF (IB))) R λ a H => zA (zB (zF (AS (zJ (Ag H R R ⟨by rw [decide_eq_false (show ¬ Ej o by unfold Ej; omega)], Aa⟩)))))
     ·
      exact kY 12 H R (CV U3 (H.e R) Am (AF (Hm))) R λ a H => zA (zB (zF (AS (zJ (Ag H R R ⟨by rw [decide_eq_false (show ¬ Ej o by unfold Ej; omega)], Aa⟩)))))
    ·
     exact kY 17 H R (Fv U3 (H.e R) Am (AF (FR))) R λ a H => zA (zB (zF (AS (zJ (Ag H R R ⟨by rw [decide_eq_false (show ¬ Ej o by unfold Ej; omega)], Aa⟩)))))
   ·
    exact kX 21 H (CV U3 (H.e R) Am (AF (F3))) R λ a H => zA (zB (zF (AS (zJ (Ag H R R ⟨by rw [decide_eq_false (show ¬ Ej o by unfold Ej; omega)], Aa⟩)))))
  ·
   exact kX 1 H (A9 U3 (H.e R) Am (AF (Fg))) R λ a H => zA (zB (zG H R (zE (AC (zB (zC (zD (kV (v := .agg (cN o)) H (AL (cs := [J o.1, J o.2.1, J o.2.2.1, J o.2.2.2]) (H.e R) (Ar k0) (by kernel_rfl) JY R) R λ a H => kV (v := .agg (cN (10, 0, 0, 0))) H (Bl #[(0, J 10)] (.agg (cN (10, 0, 0, 0))) (by simp [Am]) (fun w => by kernel_rfl)) R λ a H => kX 1 (v := .bool (decide (o = (10, 0, 0, 0)))) H (Pe (H.e R) (H.e R)) R λ a H => zA (zB (zF (Ag H R R ⟨by rw [pC (by omega) (by omega)], Aa⟩)))))))))))
theorem RX [Dw] (w : World) (b : Nat) (c : Cl) (h : F1 w b c) (o : Nt) (hX : Dw.lim b ≤ w.heap.size) : Calls Tryz.prog 22 #[.pointer (some ⟨b, 0, none⟩), .agg (cN o)] w fun e w' => e = .returned (.bool (decide (¬ BO c o))) ∧ F1 w' b (EE c o) ∧ Bi b none w w' := by
 obtain ⟨hc, vi, vo, k, ⟨AN, Ch⟩, AD, BM⟩ := h
 have AM := hc.ck
 have AO := hc.key
 have IF := hc.now
 have Gu := hc.seq
 have Jf := hc.beats
 have IE := hc.nonce
 have Aa := Bi.refl b none w
 obtain ⟨Ao, co, Su⟩ := CY AD
 subst Su
 have IE := AD.slice_le
 have QU := hc.os
 refine Az 35 Tryz.func22 R R λ a H => zC (zD (B7 32 _ #[J o.1, J o.2.1, J o.2.2.1, J o.2.2.2] (H.e R) fun w0 b0 Ak hb k0 => ?_))
 have g0 := Nat.le_trans Aa.size Ak; have PF : b < b0 := Nat.lt_of_lt_of_le k.lt Ak; replace k := k.ups hb; replace AN := AG.up AN hb; replace AD := AG.up AD hb; replace Aa := Aa.tr hb; clear hb; clear Ak; refine kL 1 H rfl λ a H => zA (zB (zC (zC ?_)))
 by_cases N4 : Ej o
 ·
  refine zD (kR 3 H R λ a H => kV H (Ai U3 R (H.e R) ((show _ = some (J (c.state)) from DZ (c := c) AM AO k))) R λ a H => ?_)
  by_cases BE : (c.state) = 0
  ·
   refine kX 13 H (A9 U3 (H.e R) Am (AE (BE))) R λ a H => zA (zB (zH H R (zC (zD (kR 1 H R λ a H => zA (zB (zF (zJ ?_))))))))
   have Cm : BO c o := by unfold BO; first | exact .inl (by omega) | exact .inr (.inl N4) | exact .inr (.inr (by omega))
   have e : EE c o = c := if_pos Cm
   rw [e]
   exact Ag H R R ⟨by rw [decide_eq_false (show ¬ ¬ BO c o from fun h => h Cm)], ⟨hc, _, _, k, ⟨AN, Ch⟩, AD, BM⟩, Aa⟩
  ·
   refine kX 1 H (A9 U3 (H.e R) Am (AF (BE))) R λ a H => kW H R (AL (cs := [J o.1, J o.2.1, J o.2.2.1, J o.2.2.2]) (H.e R) (Ar k0) (by kernel_rfl) JY R) R λ a H => kG H R (A8 _ _ _ (Qm _ o) (Av jX (H.e R)) ?_)
   rintro e w9 ⟨rfl, hb⟩; refine ⟨_, rfl, ?_⟩; rw [decide_eq_true N4]; replace k := k.ups hb; replace AN := AG.up AN hb; replace AD := AG.up AD hb; replace k0 := k0.ups hb; replace Aa := Aa.tr hb; clear hb; refine kl H rfl λ a H => kY 5 H rfl (Bs (H.ev rfl) rfl) rfl λ a H => kW H rfl (Ai FG rfl (H.ev rfl) ((show _ = some (.slice Ao c.os.length co : Value) from IP (c := c) AM AO k))) rfl λ a H => kW H rfl (Ba FG (H.ev rfl)) rfl λ a H => ?_
   by_cases Cn : ((c.os.length : Nat) : Int) ≥ 8
   ·
    refine kY 1 H R (CV U3 (H.e R) Am (AE (Cn))) R λ a H => zA (zB (zH H R (zC (zD (kR 1 H R λ a H => zA (zB (zF (zJ ?_))))))))
    have Cm : BO c o := by unfold BO; first | exact .inl (by omega) | exact .inr (.inl N4) | exact .inr (.inr (by omega))
    have e : EE c o = c := if_pos Cm
    rw [e]
    exact Ag H R R ⟨by rw [decide_eq_false (show ¬ ¬ BO c o from fun h => h Cm)], ⟨hc, _, _, k, ⟨AN, Ch⟩, AD, BM⟩, Aa⟩
   ·
    refine kY 1 H R (CV U3 (H.e R) Am (AF (Cn))) R λ a H => zA (zB (zG H R (zE (zB (zC ?_)))))
    have DT := Aa
    refine rB 12 (Dn [0, 2, 3, 4, 5, 7] (.two 1 (.two 6 (.one 8 (.one 9 (.fl 10 (.fl 11 (.one 12 .done))))) 8 (.one 6 (.one 9 (.fl 10 (.fl 11 (.one 12 .done)))))) 8 (.one 1 (.one 6 (.one 9 (.fl 10 (.fl 11 (.one 12 .done)))))))) fun hS => kQ 4 H R λ a H => kF H R R (fun w' Aj => Ai FG R (H.e R) ((show _ = some (.slice Ao c.os.length co : Value) from IP (c := c) AM AO (Ad.ups k Aj)))) R λ a H => kF H R R (fun w' Aj => AL (cs := [J o.1, J o.2.1, J o.2.2.1, J o.2.2.2]) (H.e R) (Ar (Ad.ups k0 Aj)) (by kernel_rfl) JY R) R λ a H => FB (fun K hK => ?_) (fun K hK => ?_)
    ·
     refine A7 R (Co 73 0 #[] 32 #[] (by simp) (fun w => by kernel_rfl) fun w1 be Ak hb kk => ?_); have q0 := Dk (base := (Cy DT).heap.size) (size := 4) kk (Nat.le_trans (Below.size hS) Ak); replace hS := Below.trans hS (Below.mono hb (Below.size hS)); clear hb Ak kk; refine kS 0 hK hS H R λ a H => ?_; clear hK K
     refine FB (fun K hK => ?_) (fun K hK => ?_)
     ·
      refine A7 R (BA 73 32 (.tmp 24) (.tmp 28) (Cy DT).heap.size (.agg #[J 0, J 0, J 0, J 0]) 4 32 _ 0 [] Ao c.os.length co (FV EM c.os) (H.e R) (H.e R) FG QQ R (by omega) q0 (by rw [Cu Cr]) ((BW AD).up hS) (CI _ _) (by unfold maxLen; omega) (by omega) (Below.size hS) fun v6 w6 q6 hg hv Cb => ?_); replace hS := Below.trans hS Cb; clear Cb hg hv q0; refine kS 0 hK hS H R λ a H => ?_; clear hK K
      refine Al (fun K hK => A7 R (Co 73 1 #[(0, .agg #[J o.1, J o.2.1, J o.2.2.1, J o.2.2.2])] 32 #[J o.1, J o.2.1, J o.2.2.1, J o.2.2.2] (by simp [H.ev (j := 30) R]) (fun w => by kernel_rfl) fun wl bl Ak hb kl => ?_))
      have YX : (True) := trivial; replace q6 := Bh q6 hb; replace hS := Below.trans hS (Below.mono hb (Below.size hS)); clear hb Ak; refine kS 0 hK hS H rfl λ a H => ?_; clear hK K
      refine Al (fun K hK => A7 R (BA 73 32 (.tmp 29) (.tmp 31) (Cy DT).heap.size (.agg #[J 0, J 0, J 0, J 0]) 4 32 v6 _ _ (some ⟨bl, 0, none⟩) 1 1 (FV EM [o]) (H.e R) (H.e R) FG QQ R (by omega) q6 (by rw [Cu Cr]; rfl) (BG kl R) (CI _ _) (by unfold maxLen; omega) (by omega) (Below.size hS) fun v2 w9 Ah _ _ hb => ?_))
      have AU : BN EM 32 4 w9 (Cy DT).heap.size v2 (c.os ++ [o]) := Hh (by simpa using Ah); clear Ah q6 kl; replace hS := Below.trans hS hb; clear hb; replace AU := GG AU (Nat.le_trans hX (show w.heap.size ≤ (Cy DT).heap.size from DT.size)); obtain ⟨A2, c2, Xd⟩ := HB AU; subst Xd; refine kS 2 hK hS H rfl λ a H => ?_; clear hK K
      refine Al (fun K hK => ?_)
      replace k := Ad.ups k hS
      replace AN := AG.up AN hS
      replace AD := AG.up AD hS
      replace k0 := Ad.ups k0 hS
      replace Aa := Aa.trans (Below.mono hS Aa.size)
      refine A7 R (AX 73 (.tmp 34) (.tmp 32) b 43 79 (.slice A2 (c.os ++ [o]).length c2) _ (H.e R) (H.e R) k ZK (by rw [Eb (c := c) AM AO]; show 43 + 1 ≤ 115; omega) (by simp [Value.cells, Value.oneCell']) fun w' hb ho kq => ?_); clear k; rw [PV (c := c) AM AO] at kq; have k : Ad _ b 79 (rA c vi (.slice A2 (c.os ++ [o]).length c2)) := kq; replace AN := AG.store AN (fx Ch) ho; have Hk : Ct (Dw.lim b) (.slice A2 (c.os ++ [o]).length c2) := C0 AU (Nat.le_refl _); have Lk : Id _ (.slice A2 (c.os ++ [o]).length c2) (c.os ++ [o]) := AG.store (BN.row AU Cr (by omega)) (fx Hk) ho; clear AD AU; replace k0 := Ae k0 (ho _ (by omega)); replace Aa := Aa.store (hb b (Nat.le_refl _)) ho; clear hb ho kq; refine hK _ _ ⟨(fun h => absurd R h), ?_⟩; clear hK K hS
      refine Aw (NoPanic.normal (zB (zC (zD (kR 1 H R λ a H => zA (zB (zF ?_)))))))
      have e : EE c o = { c with os := c.os ++ [o] } := if_neg (fun h => by unfold BO at h; rcases h with h | h | h <;> first | omega | exact h N4)
      have Ca := K0 hc o
      rw [e] at Ca ⊢
      exact Ag H rfl rfl ⟨by rw [decide_eq_true (show ¬ BO c o from fun h => by unfold BO at h; rcases h with h | h | h <;> first | omega | exact h N4)], ⟨Ca, _, _, k, ⟨AN, Ch⟩, Lk, Hk⟩, Aa⟩
     ·
      refine A7 R (Co 73 1 #[(0, .agg #[J o.1, J o.2.1, J o.2.2.1, J o.2.2.2])] 32 #[J o.1, J o.2.1, J o.2.2.1, J o.2.2.2] (by simp [H.ev (j := 30) R]) (fun w => by kernel_rfl) fun wl bl Ak hb kl => ?_); have YX : (be ≠ bl) := (by have := (q0.lt be rfl).2; omega); replace q0 := Bh q0 hb; replace hS := Below.trans hS (Below.mono hb (Below.size hS)); clear hb Ak; refine kS 0 hK hS H R λ a H => ?_; clear hK K
      refine Al (fun K hK => A7 R (BA 73 32 (.tmp 24) (.tmp 28) (Cy DT).heap.size (.agg #[J 0, J 0, J 0, J 0]) 4 32 _ 0 [] Ao c.os.length co (FV EM c.os) (H.e R) (H.e R) FG QQ R (by omega) q0 (by rw [Cu Cr]) ((BW AD).up hS) (CI _ _) (by unfold maxLen; omega) (by omega) (Below.size hS) fun v6 w6 q6 hg hv Cb => ?_))
      replace kl := Ad.grown kl hg (by simp [Value.ownBlock]; omega); replace hS := Below.trans hS Cb; clear Cb hg hv q0; refine kS 0 hK hS H rfl λ a H => ?_; clear hK K
      refine Al (fun K hK => A7 R (BA 73 32 (.tmp 29) (.tmp 31) (Cy DT).heap.size (.agg #[J 0, J 0, J 0, J 0]) 4 32 v6 _ _ (some ⟨bl, 0, none⟩) 1 1 (FV EM [o]) (H.e R) (H.e R) FG QQ R (by omega) q6 (by rw [Cu Cr]; rfl) (BG kl R) (CI _ _) (by unfold maxLen; omega) (by omega) (Below.size hS) fun v2 w9 Ah _ _ hb => ?_))
      have AU : BN EM 32 4 w9 (Cy DT).heap.size v2 (c.os ++ [o]) := Hh (by simpa using Ah); clear Ah q6 kl; replace hS := Below.trans hS hb; clear hb; replace AU := GG AU (Nat.le_trans hX (show w.heap.size ≤ (Cy DT).heap.size from DT.size)); obtain ⟨A2, c2, Xd⟩ := HB AU; subst Xd; refine kS 2 hK hS H rfl λ a H => ?_; clear hK K
      refine Al (fun K hK => ?_)
      replace k := Ad.ups k hS
      replace AN := AG.up AN hS
      replace AD := AG.up AD hS
      replace k0 := Ad.ups k0 hS
      replace Aa := Aa.trans (Below.mono hS Aa.size)
      refine A7 R (AX 73 (.tmp 34) (.tmp 32) b 43 79 (.slice A2 (c.os ++ [o]).length c2) _ (H.e R) (H.e R) k ZK (by rw [Eb (c := c) AM AO]; show 43 + 1 ≤ 115; omega) (by simp [Value.cells, Value.oneCell']) fun w' hb ho kq => ?_); clear k; rw [PV (c := c) AM AO] at kq; have k : Ad _ b 79 (rA c vi (.slice A2 (c.os ++ [o]).length c2)) := kq; replace AN := AG.store AN (fx Ch) ho; have Hk : Ct (Dw.lim b) (.slice A2 (c.os ++ [o]).length c2) := C0 AU (Nat.le_refl _); have Lk : Id _ (.slice A2 (c.os ++ [o]).length c2) (c.os ++ [o]) := AG.store (BN.row AU Cr (by omega)) (fx Hk) ho; clear AD AU; replace k0 := Ae k0 (ho _ (by omega)); replace Aa := Aa.store (hb b (Nat.le_refl _)) ho; clear hb ho kq; refine hK _ _ ⟨(fun h => absurd R h), ?_⟩; clear hK K hS
      refine Aw (NoPanic.normal (zB (zC (zD (kR 1 H R λ a H => zA (zB (zF ?_)))))))
      have e : EE c o = { c with os := c.os ++ [o] } := if_neg (fun h => by unfold BO at h; rcases h with h | h | h <;> first | omega | exact h N4)
      have Ca := K0 hc o
      rw [e] at Ca ⊢
      exact Ag H rfl rfl ⟨by rw [decide_eq_true (show ¬ BO c o from fun h => by unfold BO at h; rcases h with h | h | h <;> first | omega | exact h N4)], ⟨Ca, _, _, k, ⟨AN, Ch⟩, Lk, Hk⟩, Aa⟩
    ·
     refine A7 R (Co 73 1 #[(0, .agg #[J o.1, J o.2.1, J o.2.2.1, J o.2.2.2])] 32 #[J o.1, J o.2.1, J o.2.2.1, J o.2.2.2] (by simp [H.ev (j := 30) R]) (fun w => by kernel_rfl) fun wl bl Ak hb kl => ?_); have YX : (True) := trivial; replace hS := Below.trans hS (Below.mono hb (Below.size hS)); clear hb Ak; refine kS 0 hK hS H R λ a H => ?_; clear hK K
     refine Al (fun K hK => A7 R (Co 73 0 #[] 32 #[] (by simp) (fun w => by kernel_rfl) fun w1 be Ak hb kk => ?_))
     have q0 := Dk (base := (Cy DT).heap.size) (size := 4) kk (Nat.le_trans (Below.size hS) Ak); have YX : be ≠ bl := (by have := kl.lt; omega); replace kl := kl.ups hb; replace hS := Below.trans hS (Below.mono hb (Below.size hS)); clear hb Ak kk; refine kS 0 hK hS H rfl λ a H => ?_; clear hK K
     refine Al (fun K hK => A7 R (BA 73 32 (.tmp 24) (.tmp 28) (Cy DT).heap.size (.agg #[J 0, J 0, J 0, J 0]) 4 32 _ 0 [] Ao c.os.length co (FV EM c.os) (H.e R) (H.e R) FG QQ R (by omega) q0 (by rw [Cu Cr]) ((BW AD).up hS) (CI _ _) (by unfold maxLen; omega) (by omega) (Below.size hS) fun v6 w6 q6 hg hv Cb => ?_))
     replace kl := Ad.grown kl hg (by simp [Value.ownBlock]; omega); replace hS := Below.trans hS Cb; clear Cb hg hv q0; refine kS 0 hK hS H rfl λ a H => ?_; clear hK K
     refine Al (fun K hK => A7 R (BA 73 32 (.tmp 29) (.tmp 31) (Cy DT).heap.size (.agg #[J 0, J 0, J 0, J 0]) 4 32 v6 _ _ (some ⟨bl, 0, none⟩) 1 1 (FV EM [o]) (H.e R) (H.e R) FG QQ R (by omega) q6 (by rw [Cu Cr]; rfl) (BG kl R) (CI _ _) (by unfold maxLen; omega) (by omega) (Below.size hS) fun v2 w9 Ah _ _ hb => ?_))
     have AU : BN EM 32 4 w9 (Cy DT).heap.size v2 (c.os ++ [o]) := Hh (by simpa using Ah); clear Ah q6 kl; replace hS := Below.trans hS hb; clear hb; replace AU := GG AU (Nat.le_trans hX (show w.heap.size ≤ (Cy DT).heap.size from DT.size)); obtain ⟨A2, c2, Xd⟩ := HB AU; subst Xd; refine kS 2 hK hS H rfl λ a H => ?_; clear hK K
     refine Al (fun K hK => ?_)
     replace k := Ad.ups k hS
     replace AN := AG.up AN hS
     replace AD := AG.up AD hS
     replace k0 := Ad.ups k0 hS
     replace Aa := Aa.trans (Below.mono hS Aa.size)
     refine A7 R (AX 73 (.tmp 34) (.tmp 32) b 43 79 (.slice A2 (c.os ++ [o]).length c2) _ (H.e R) (H.e R) k ZK (by rw [Eb (c := c) AM AO]; show 43 + 1 ≤ 115; omega) (by simp [Value.cells, Value.oneCell']) fun w' hb ho kq => ?_); clear k; rw [PV (c := c) AM AO] at kq; have k : Ad _ b 79 (rA c vi (.slice A2 (c.os ++ [o]).length c2)) := kq; replace AN := AG.store AN (fx Ch) ho; have Hk : Ct (Dw.lim b) (.slice A2 (c.os ++ [o]).length c2) := C0 AU (Nat.le_refl _); have Lk : Id _ (.slice A2 (c.os ++ [o]).length c2) (c.os ++ [o]) := AG.store (BN.row AU Cr (by omega)) (fx Hk) ho; clear AD AU; replace k0 := Ae k0 (ho _ (by omega)); replace Aa := Aa.store (hb b (Nat.le_refl _)) ho; clear hb ho kq; refine hK _ _ ⟨(fun h => absurd R h), ?_⟩; clear hK K hS
     refine Aw (NoPanic.normal (zB (zC (zD (kR 1 H R λ a H => zA (zB (zF ?_)))))))
     have e : EE c o = { c with os := c.os ++ [o] } := if_neg (fun h => by unfold BO at h; rcases h with h | h | h <;> first | omega | exact h N4)
     have Ca := K0 hc o
     rw [e] at Ca ⊢
     exact Ag H rfl rfl ⟨by rw [decide_eq_true (show ¬ BO c o from fun h => by unfold BO at h; rcases h with h | h | h <;> first | omega | exact h N4)], ⟨Ca, _, _, k, ⟨AN, Ch⟩, Lk, Hk⟩, Aa⟩
 ·
  refine zD (kR 3 H R λ a H => kV H (Ai U3 R (H.e R) ((show _ = some (J (c.state)) from DZ (c := c) AM AO k))) R λ a H => ?_)
  by_cases CP : (c.state) = 0
  ·
   refine kX 13 H (A9 U3 (H.e R) Am (AE (CP))) R λ a H => zA (zB (zH H R (zC (zD (kR 1 H R λ a H => zA (zB (zF (zJ ?_))))))))
   have Cm : BO c o := by unfold BO; first | exact .inl (by omega) | exact .inr (.inl N4) | exact .inr (.inr (by omega))
   have e : EE c o = c := if_pos Cm
   rw [e]
   exact Ag H R R ⟨by rw [decide_eq_false (show ¬ ¬ BO c o from fun h => h Cm)], ⟨hc, _, _, k, ⟨AN, Ch⟩, AD, BM⟩, Aa⟩
  ·
   refine kX 1 H (A9 U3 (H.e R) Am (AF (CP))) R λ a H => kW H R (AL (cs := [J o.1, J o.2.1, J o.2.2.1, J o.2.2.2]) (H.e R) (Ar k0) (by kernel_rfl) JY R) R λ a H => kG H R (A8 _ _ _ (Qm _ o) (Av jX (H.e R)) ?_)
   rintro e w9 ⟨rfl, hb⟩; refine ⟨_, rfl, ?_⟩; rw [decide_eq_false N4]; replace k := k.ups hb; replace AN := AG.up AN hb; replace AD := AG.up AD hb; replace k0 := k0.ups hb; replace Aa := Aa.tr hb; clear hb; refine kl H rfl λ a H => kY 9 H rfl (Bs (H.ev rfl) rfl) rfl λ a H => zA (zB (zH H rfl (zC (zD (kR 1 H rfl λ a H => zA (zB (zF (zJ ?_))))))))
   have Cm : BO c o := by unfold BO; first | exact .inl (by omega) | exact .inr (.inl N4) | exact .inr (.inr (by omega))
   have e : EE c o = c := if_pos Cm
   rw [e]
   exact Ag H R R ⟨by rw [decide_eq_false (show ¬ ¬ BO c o from fun h => h Cm)], ⟨hc, _, _, k, ⟨AN, Ch⟩, AD, BM⟩, Aa⟩
end Go.Proofs.YtbnmpoonkjlkjaaGreat
