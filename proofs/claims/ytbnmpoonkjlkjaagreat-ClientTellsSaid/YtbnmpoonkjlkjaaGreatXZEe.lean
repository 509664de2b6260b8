/- Client: part ZEe of the proof. -/
import Derived.Test.YtbnmpoonkjlkjaaGreatXZEd
namespace Go.Proofs.YtbnmpoonkjlkjaaGreat
open Go.RowKit
set_option linter.unusedVariables false
set_option linter.unusedSimpArgs false
set_option maxRecDepth 100000
set_option maxHeartbeats 8000000
theorem PZ (c : Cl) (p : AZ) : (RR c p).length ≤ 1 := by
 unfold RR JO
 split
 · split <;> simp
 · simp
theorem eV {c : Cl} (h : c.state = 1 ∨ c.state = 2) : (if c.state = 1 then Pu c else if c.state = 2 then Oh c else []) = XQ c := by
 unfold XQ
 split
 · rfl
 · exact if_pos (by omega)
theorem F1.next [Dw] {w w' : World} {b : Nat} {c c' : Cl} {vi vo : Value} (ok : Dc c') (k : Ad w' b 79 (rA c' vi vo)) (AN : ET w vi c.items) (Ch : Ct (Dw.lim b) vi) (AD : Id w vo c.os) (BM : Ct (Dw.lim b) vo)
  (ho : Bi b none w w') (hi : c'.items = c.items) (hs : c'.os = c.os) : F1 w' b c' :=
 ⟨ok, vi, vo, k, ⟨by rw [hi]; exact AN.gone (fx Ch) ho, Ch⟩, by rw [hs]; exact AD.gone (fx BM) ho, BM⟩
def Rt1 (W : World) (b : Nat) (c1 : Cl) (vi : Value) (Ao : Option Addr) (n co : Nat) (a : Act) (w : World) : Prop :=
 ∃ v3, Kn a 128 [(0, .pointer (some ⟨b, 0, none⟩)), (3, v3)] ∧ AK w W.heap.size v3 (KJ c1) ∧ Ad w b 79 (rA (D4 c1) vi (.slice Ao n co)) ∧ Bi b none W w
theorem Yt [Dw] (w : World) (b : Nat) (c : Cl) (vi vo : Value) (hc : Dc c) (k : Ad w b 79 (rA c vi vo)) (AD : Id w vo c.os) (BM : Ct (Dw.lim b) vo) : Calls Tryz.prog 16 #[.pointer (some ⟨b, 0, none⟩)] w fun e w' => (∃ v, e = .returned v ∧ AK w' w.heap.size v (Eo c)) ∧ Ad w' b 79 (rA (DD c) vi vo) ∧ Bi b none w w' := by
 have AM := hc.ck
 have AO := hc.key
 have IF := hc.now
 have Gu := hc.seq
 have Jf := hc.beats
 have IE := hc.nonce
 have Aa := Bi.refl b none w
 obtain ⟨Ao, co, Su⟩ := CY AD
 subst Su
 have SD := k.lt
 refine Az 128 Tryz.func16 R R λ a H => zC (zD (kR 1 H R λ a H => zA (zB (zC (zC (zD (kR 3 H R λ a H => kV H (Ai U3 R (H.e R) ((show _ = some (J (c.state)) from DZ (c := c) AM AO k))) R λ a H => ?_)))))))
 by_cases BE : (c.state) = 0
 ·
  exact kV H (A9 U3 (H.e R) Am (AE (BE))) R λ a H => zA (zB (zH H R (zC (zD (kR 1 H R λ a H => zA (zB (zF (zJ (Ag H R R ⟨⟨_, R, by rw [Eo, if_pos (by omega)]; exact Bd⟩, by rw [DD, if_pos (by omega)]; exact k, Aa⟩)))))))))
 ·
  refine kV H (A9 U3 (H.e R) Am (AF (BE))) R λ a H => zA (zB (zG H R (zE (zB (zC (zD (kR 4 H R λ a H => kV H (Ai U3 R (H.e R) ((show _ = some (J (c.now)) from Fu (c := c) AM AO k))) R λ a H => kV H (Bm (q := (c.now) + 1) U3 (H.e R) Am) R λ a H => kX 2 H (IS (q := (if 1099511627776 < ((c.now) + 1) then 1099511627776 else ((c.now) + 1))) (H.e R) Am R) R λ a H => Gb (new := rA ({ c with now := (if 1099511627776 < ((c.now) + 1) then 1099511627776 else ((c.now) + 1)) }) vi (.slice Ao c.os.length co)) (H.e R) (H.e R) k s3 (Cv AM AO R) oI (Wc AM AO) Aa H fun w' hb ho k Aa a H => ?_)))))))
  clear hb ho
  refine zA (zB (zC (zC ?_)))
  obtain ⟨c1, he⟩ : ∃ c1, G8 c = c1 := ⟨_, rfl⟩
  have Gk : Dc c1 := by rw [← he]; exact OK hc
  have k1 : Ad _ b 79 (rA (G8 c) vi (.slice Ao c.os.length co)) := k
  rw [he] at k1
  clear k
  have k := k1
  clear k1
  have Sy : c1.os = c.os := by rw [← he]; rfl
  have zR : c1.state = c.state := by rw [← he]; rfl
  have HE := Lib.hid he
  clear he AM AO IF Gu Jf IE
  have AM := Gk.ck
  have AO := Gk.key
  have IF := Gk.now
  have Gu := Gk.seq
  have Jf := Gk.beats
  have qaj := Gk.state
  refine zD (kR 3 H R λ a H => kV H (Ai U3 R (H.e R) ((show _ = some (J (c1.state)) from DZ (c := c1) AM AO k))) R λ a H => ?_)
  by_cases Cn : (c1.state) ≠ 3
  ·
   refine kV H (E6 U3 (H.e R) Am (AE (Cn))) R λ a H => zA (zB (zH H R (zC (zC (rB 9 (Dn [0, 1, 2, 3, 4, 5, 6, 7, 8] .done) fun hS => kQ 3 H R λ a H => kE 3 H R R (fun w' Aj => Ai U3 R (H.e R) ((show _ = some (J (c1.now)) from Fu (c := c1) AM AO (Ad.ups k Aj)))) R λ a H => kF H R R (fun w' Aj => Ai U3 R (H.e R) ((show _ = some (J (c1.ask)) from W0 (c := c1) AM AO (Ad.ups k Aj)))) R λ a H => ?_)))))
   by_cases CP : (c1.now) < (c1.ask)
   ·
    refine kF H R R (fun w' Aj => By U3 (H.e R) (H.e R) (AE (CP))) R λ a H => Aw (NoPanic.normal ?_)
    replace k := Ad.ups k hS
    replace Aa := Aa.trans (Below.mono hS Aa.size)
    clear hS
    exact zB (zH H R (zC (zD (kR 1 H R λ a H => zA (zB (zF (zJ (zJ (Ag H R R ⟨⟨_, R, by rw [Eo, if_neg (by omega), HE.out, Fs, if_neg (by omega), if_pos (by omega)]; exact Bd⟩, by rw [DD, if_neg (by omega), HE.out, EC, if_neg (by omega), if_pos (by omega)]; exact k, Aa⟩)))))))))
   ·
    refine kF H R R (fun w' Aj => By U3 (H.e R) (H.e R) (AF (CP))) R λ a H => Aw (NoPanic.normal ?_)
    replace k := Ad.ups k hS
    replace Aa := Aa.trans (Below.mono hS Aa.size)
    clear hS
    refine zB (zG H R (zE (zB (zC (zD (kR 1 H R λ a H => A8 _ _ _ (W7 _ b c1 vi _ Gk k) (Av jZ (H.e R)) ?_))))))
    rintro e w9 ⟨⟨v, rfl, D1⟩, k2, CD⟩; refine ⟨_, rfl, ?_⟩; clear k; have k := k2; clear k2; replace D1 := AK.base D1 Aa.size; replace Aa := Bi.thin Aa CD; exact kL 1 H rfl λ a H => zA (zB (zF (zJ (Ag H rfl rfl ⟨⟨_, rfl, by rw [Eo, if_neg (by omega), HE.out, Fs, if_neg (by omega), if_neg (by omega), eV (by omega)]; exact D1⟩, by rw [DD, if_neg (by omega), HE.out, EC, if_neg (by omega), if_neg (by omega), if_pos (by omega)]; exact k, Aa⟩))))
  ·
   refine kV H (E6 U3 (H.e R) Am (AF (Cn))) R λ a H => zA (zB (zG H R (zE (zB (zC (zD (kR 1 H R λ a H => zA (zB (zC (zC (rB 9 (Dn [0, 1, 2, 3, 4, 5, 6, 7, 8] .done) fun hS => kQ 3 H R λ a H => kE 3 H R R (fun w' Aj => Ai U3 R (H.e R) ((show _ = some (J (c1.now)) from Fu (c := c1) AM AO (Ad.ups k Aj)))) R λ a H => kF H R R (fun w' Aj => Ai U3 R (H.e R) ((show _ = some (J (c1.beat)) from Tl (c := c1) AM AO (Ad.ups k Aj)))) R λ a H => kF (v := .bool (decide (c1.now ≥ c1.beat))) H R R (fun w' Aj => CV U3 (H.e R) (H.e R) R) R λ a H => Aw (NoPanic.normal ?_))))))))))))
   replace k := Ad.ups k hS
   replace Aa := Aa.trans (Below.mono hS Aa.size)
   clear hS
   refine zB (JI (Rt1 w b c1 vi Ao c.os.length co) ?_ ?_)
   ·
    by_cases LC : c1.now ≥ c1.beat
    ·
     rw [decide_eq_true LC] at H
     refine zH H R (zC (zD (kR 4 H R λ a H => kV H (Ai U3 R (H.e R) ((show _ = some (J (c1.beats)) from MD (c := c1) AM AO k))) R λ a H => kV H (Bm (q := (c1.beats) + 1) U3 (H.e R) Am) R λ a H => kX 2 H (IS (q := (if 1073741825 < ((c1.beats) + 1) then 1073741825 else ((c1.beats) + 1))) (H.e R) Am R) R λ a H => Gb (new := rA ({ c1 with beats := (if 1073741825 < ((c1.beats) + 1) then 1073741825 else ((c1.beats) + 1)) }) vi (.slice Ao c.os.length co)) (H.e R) (H.e R) k s3 (Cv AM AO R) oI (Mx AM AO) Aa H fun w' hb ho k Aa a H => ?_)))
     clear hb ho
     refine zA (zB (zC (zD (kR 4 H R λ a H => kV H (Ai U3 R (H.e R) ((show _ = some (J (c1.now)) from Fu (c := { c1 with beats := (if 1073741825 < ((c1.beats) + 1) then 1073741825 else ((c1.beats) + 1)) }) AM AO k))) R λ a H => kX 2 H (Bm (q := (c1.now) + 4) U3 (H.e R) Am) R λ a H => Gb (new := rA ({ c1 with beats := (if 1073741825 < ((c1.beats) + 1) then 1073741825 else ((c1.beats) + 1)), beat := ((c1.now) + 4) }) vi (.slice Ao c.os.length co)) (H.e R) (H.e R) k s3 (Cv AM AO R) oI (OQ AM AO) Aa H fun w' hb ho k Aa a H => ?_))))
     clear hb ho
     refine zA (zB ?_)
     have dO : Dc { c1 with beats := (if 1073741825 < ((c1.beats) + 1) then 1073741825 else ((c1.beats) + 1)), beat := ((c1.now) + 4) } := by have := Gx Gk; rwa [D4, if_neg (by omega)] at this
     have qY := dO.beats
     have qag := Gk.id
     have Rg : D4 c1 = { c1 with beats := (if 1073741825 < ((c1.beats) + 1) then 1073741825 else ((c1.beats) + 1)), beat := ((c1.now) + 4) } := by rw [D4, if_neg (by omega)]; rfl
     have dU := Aa
     refine V2.rB 12 (Dn [0, 1, 2, 3, 4, 5, 6, 7, 8, 9, 10] (.one 11 (.one 12 (.one 13 .done)))) fun hS => V2.kQ 5 H R λ a H => V2.kE 3 H R R (fun w' Aj => Ai U3 R (H.e R) ((show _ = some (J (c1.id)) from L8 (c := { c1 with beats := (if 1073741825 < ((c1.beats) + 1) then 1073741825 else ((c1.beats) + 1)), beat := ((c1.now) + 4) }) AM AO (Ad.ups k Aj)))) R λ a H => V2.kF H R R (fun w' Aj => Ai U3 R (H.e R) ((show _ = some (J ((if 1073741825 < ((c1.beats) + 1) then 1073741825 else ((c1.beats) + 1)))) from MD (c := { c1 with beats := (if 1073741825 < ((c1.beats) + 1) then 1073741825 else ((c1.beats) + 1)), beat := ((c1.now) + 4) }) AM AO (Ad.ups k Aj)))) R λ a H => V2.kF (v := .agg (pv ((Jj (if 1073741825 < ((c1.beats) + 1) then 1073741825 else ((c1.beats) + 1))).set 1 c1.id))) H R R (fun w' Aj => Bl #[(0, J 5), (1, J (c1.id)), (2, J ((if 1073741825 < ((c1.beats) + 1) then 1073741825 else ((c1.beats) + 1))))] (.agg (pv ((Jj (if 1073741825 < ((c1.beats) + 1) then 1073741825 else ((c1.beats) + 1))).set 1 c1.id))) (by simp [Am, H.ev (j := 66) R, H.ev (j := 70) R]) (fun w => by kernel_rfl)) R λ a H => V2.Al (fun K hK => A7 R (CQ _ _ _ (Ld _ b { c1 with beats := (if 1073741825 < ((c1.beats) + 1) then 1073741825 else ((c1.beats) + 1)), beat := ((c1.now) + 4) } vi _ dO (Ad.ups k hS) ((Jj (if 1073741825 < ((c1.beats) + 1) then 1073741825 else ((c1.beats) + 1))).set 1 c1.id) (Cg (Rw qY) (by omega))) (AA eR (H.e R) (H.e R)) ?_))
     rintro e w9 ⟨⟨v9, rfl, D1⟩, hb⟩; refine ⟨_, rfl, ?_⟩; replace D1 := AK.base D1 (Below.size hS); replace hS := Below.trans hS (Below.mono hb (Below.size hS)); clear hb; refine V2.kS 0 hK hS H rfl λ a H => ?_; clear hK K
     refine V2.Al (fun K hK => ?_)
     replace k := Ad.ups k hS
     replace Aa := Aa.trans (Below.mono hS Aa.size)
     refine A7 R (Ii (Bd (B := w.heap.size)) (T1 hS) SD D1 (Nat.le_trans (Nat.add_le_add (Nat.le_refl 0) (PZ _ _)) (show 0 + 1 ≤ 2 by omega)) dU.size (H.e R) (H.e R) fun v3 w3 Ll Om => ?_); replace k := Ad.up k Om SD; replace Aa := Aa.trans Om; refine hK _ _ ⟨(fun h => absurd h (by omega)), ?_⟩; clear hK K hS; refine V2.kt H R λ a H => V2.Al (fun K hK => A7 R ?_)
     unfold Oper.wp; rw [GE (H.ev rfl)]; refine hK _ _ ⟨(fun h => absurd h (by omega)), ?_⟩; clear hK K; exact V2.kt H rfl λ a H => V2.Aw (NoPanic.normal ⟨rfl, v3, H.pick [0, 3], by rw [KJ, if_neg (by omega)]; exact Ll, by rw [Rg]; exact k, Aa⟩)
    ·
     rw [decide_eq_false LC] at H
     exact zG H R (zE ⟨R, .slice none 0 0, H.pick [0, 3], by rw [KJ, if_pos (by omega)]; exact Bd, by rw [D4, if_pos (by omega)]; exact k, Aa⟩)
   ·
    clear H Aa k
    rintro a w' ⟨v1, H, Ff, k, Aa⟩
    obtain ⟨c2, fD⟩ : ∃ c2, D4 c1 = c2 := ⟨_, rfl⟩
    have Sz : Dc c2 := by rw [← fD]; exact Gx Gk
    have dB : c2.os = c.os := by rw [← fD, J6, Sy]
    have Ya : c2.now = c1.now := by rw [← fD]; unfold D4; split <;> rfl
    have MW := Ia c1
    rw [fD] at k
    have HE2 := Lib.hid fD
    clear fD AM AO IF Gu Jf
    have AM := Sz.ck
    have AO := Sz.key
    have IF := Sz.now
    have Gu := Sz.seq
    have qaf := Sz.id
    replace AD := AG.gone AD (fx BM) Aa
    refine zB (zC (zC ?_))
    by_cases hL : c.os.length = 0
    ·
     have Hf : I9 c2 = c2 ∧ Kj c2 = [] := Qb (by rw [dB]; exact List.eq_nil_of_length_eq_zero hL)
     have dS := Aa
     refine rB 17 (Dn [0, 1, 2, 3, 4, 5, 6, 7, 8, 9, 10, 11, 12, 13, 14, 15, 16] .done) fun hS => kQ 3 H R λ a H => kF H R R (fun w' Aj => Ai FG R (H.e R) ((show _ = some (.slice Ao c.os.length co : Value) from IP (c := c2) AM AO (Ad.ups k Aj)))) R λ a H => kF H R R (fun w' Aj => Ba FG (H.e R)) R λ a H => kE 11 H R R (fun w' Aj => CU U3 (H.e R) Am dF) R λ a H => Aw (NoPanic.normal ?_)
     replace k := Ad.ups k hS
     replace AD := AG.up AD hS
     replace Ff := AK.up Ff hS
     replace Aa := Aa.trans (Below.mono hS Aa.size)
     clear hS
     exact zB (zG H R (zE (zB (zC (zD (kR 2 H R λ a H => zA (zB (zF (Ag H R R ⟨⟨_, R, by rw [Eo, if_neg (by omega), HE.out, Fs, if_pos (by omega), HE2.out]; rw [Hf.2, List.append_nil]; exact Ff⟩, by rw [DD, if_neg (by omega), HE.out, EC, if_pos (by omega), HE2.out]; rw [Hf.1]; exact k, Aa⟩)))))))))
    ·
     obtain ⟨o, l, UW⟩ : ∃ o l, c.os = o :: l := by
      cases he : c.os with
      | nil => exact absurd (by rw [he]; rfl) hL
      | cons o l => exact ⟨o, l, rfl⟩
     have HOS := Lib.hid (dB.trans UW)
     clear UW
     have hmo := Sz.may o (by rw [HOS.out]; simp)
     by_cases LC : c2.say ≤ c2.now
     ·
      have dS := Aa
      refine rB 17 (Dn [0, 1, 2, 3, 4, 5, 6, 7, 8, 9, 10, 11, 12, 13, 14, 15, 16] .done) fun hS => kQ 3 H R λ a H => kF H R R (fun w' Aj => Ai FG R (H.e R) ((show _ = some (.slice Ao c.os.length co : Value) from IP (c := c2) AM AO (Ad.ups k Aj)))) R λ a H => kF H R R (fun w' Aj => Ba FG (H.e R)) R λ a H => kE 4 H R R (fun w' Aj => CU U3 (H.e R) Am dT) R λ a H => kE 3 H R R (fun w' Aj => Ai U3 R (H.e R) ((show _ = some (J (c2.now)) from Fu (c := c2) AM AO (Ad.ups k Aj)))) R λ a H => kF H R R (fun w' Aj => Ai U3 R (H.e R) ((show _ = some (J (c2.say)) from RZ (c := c2) AM AO (Ad.ups k Aj)))) R λ a H => kE 1 H R R (fun w' Aj => CV U3 (H.e R) (H.e R) dT) R λ a H => Aw (NoPanic.normal ?_)
      replace k := Ad.ups k hS
      replace AD := AG.up AD hS
      replace Ff := AK.up Ff hS
      replace Aa := Aa.trans (Below.mono hS Aa.size)
      clear hS
      refine zB (zH H R (zC ?_))
      obtain ⟨bo, oo, hA, hr⟩ := CK Cr (BW AD) (by omega) (j := 0) (by omega)
      subst hA
      rw [show c.os[0] = o by simp [dB.symm, HOS.out]] at hr
      refine zD (kR 3 H R λ a H => kV H (Ai FG R (H.e R) ((show _ = some (.slice (some ⟨bo, oo, none⟩) c.os.length co : Value) from IP (c := c2) AM AO k))) R λ a H => kV (v := .pointer (some ⟨bo, oo + 0 * 4, none⟩)) H (Bq (j := 0) (q := oo + 0 * 4) FG JY (H.e R) Am (by omega) R) R λ a H => kV H (AL (cs := [J o.1, J o.2.1, J o.2.2.1, J o.2.2.2]) (H.e R) (hr) (by kernel_rfl) JY R) R λ a H => De 32 4 (.tmp 96) #[J o.1, J o.2.1, J o.2.2.1, J o.2.2.2] _ mH JY R (Di [o.1, o.2.1, o.2.2.1, o.2.2.2]) (fun p => (H.put 4 p R).ev R) (fun p => (H.put 4 p R).ev R) fun w0 b0 Ak hb k0 => ?_)
      have g0 := Nat.le_trans Aa.size Ak; have PF : b < b0 := Nat.lt_of_lt_of_le k.lt Ak; replace k := k.ups hb; replace AD := AG.up AD hb; replace Ff := AK.up Ff hb; replace Aa := Aa.tr hb; clear hb; clear Ak; refine kl H rfl λ a H => zA (zB (zC ?_))
      clear hr AD
      refine zD (kR 4 H R λ a H => kV H (Ai U3 R (H.e R) ((show _ = some (J (c2.now)) from Fu (c := c2) AM AO k))) R λ a H => kX 2 H (Bm (q := (c2.now) + 4) U3 (H.e R) Am) R λ a H => Gb (new := rA ({ c2 with say := ((c2.now) + 4) }) vi (.slice (some ⟨bo, oo, none⟩) c.os.length co)) (H.e R) (H.e R) k s3 (Cv AM AO R) oI (OP AM AO) Aa H fun w' hb ho k Aa a H => ?_)
      replace Ff := AK.keep Ff fun q hq _ => ho q (by omega); replace k0 := Ae k0 (ho _ (by omega)); clear hb ho
      refine zA (zB ?_)
      have dN : Dc { c2 with say := ((c2.now) + 4) } := { Sz with say := ⟨(by show 0 ≤ c2.now + 4; omega), (by show c2.now + 4 ≤ 1099511627780; omega)⟩ }
      have pS := Ff
      have dR := Aa
      refine V2.rB 21 (Dn [0, 1, 2, 3, 4, 5, 6, 7, 8, 9, 10, 11, 12, 13, 14, 15, 16, 17, 18, 19] (.one 20 (.one 21 (.one 22 .done)))) fun hS => V2.kQ 3 H R λ a H => V2.kE 3 H R R (fun w' Aj => Ai U3 R (H.e R) ((Ad.cell (Ad.ups k0 Aj) 0).trans R)) R λ a H => V2.kE 3 H R R (fun w' Aj => Ai U3 R (H.e R) ((show _ = some (J (c2.id)) from L8 (c := { c2 with say := ((c2.now) + 4) }) AM AO (Ad.ups k Aj)))) R λ a H => V2.kF H R R (fun w' Aj => Ai U3 R (H.e R) ((show _ = some (J (c2.seq)) from RY (c := { c2 with say := ((c2.now) + 4) }) AM AO (Ad.ups k Aj)))) R λ a H => V2.kE 1 H R R (fun w' Aj => Bm (q := (c2.seq) + 1) U3 (H.e R) Am (by omega) (by omega)) R λ a H => V2.kE 1 H R R (fun w' Aj => Ai U3 R (H.e R) ((Ad.cell (Ad.ups k0 Aj) 1).trans R)) R λ a H => V2.kE 1 H R R (fun w' Aj => Ai U3 R (H.e R) ((Ad.cell (Ad.ups k0 Aj) 2).trans R)) R λ a H => V2.kF H R R (fun w' Aj => Ai U3 R (H.e R) ((Ad.cell (Ad.ups k0 Aj) 3).trans R)) R λ a H => V2.kF (v := .agg (pv ((LP o (c2.seq + 1)).set 1 c2.id))) H R R (fun w' Aj => Bl #[(0, J o.1), (1, J (c2.id)), (2, J (c2.seq + 1)), (5, J o.2.1), (4, J o.2.2.1), (3, J o.2.2.2)] (.agg (pv ((LP o (c2.seq + 1)).set 1 c2.id))) (by simp [H.ev (j := 108) R, H.ev (j := 112) R, H.ev (j := 117) R, H.ev (j := 119) R, H.ev (j := 121) R, H.ev (j := 123) R]) (fun w => by kernel_rfl)) R λ a H => ?_
      refine V2.Al (fun K hK => A7 R (CQ _ _ _ (Ld _ b { c2 with say := ((c2.now) + 4) } vi _ dN (Ad.ups k hS) ((LP o (c2.seq + 1)).set 1 c2.id) (Cg (T0 hmo (by omega)) (by omega))) (AA eR (H.e R) (H.e R)) ?_))
      rintro e w9 ⟨⟨v9, rfl, D1⟩, hb⟩; refine ⟨_, rfl, ?_⟩; replace D1 := AK.base D1 (Below.size hS); replace hS := Below.trans hS (Below.mono hb (Below.size hS)); clear hb; refine V2.kS 0 hK hS H rfl λ a H => ?_; clear hK K
      refine V2.Al (fun K hK => ?_)
      replace k := Ad.ups k hS
      replace k0 := Ad.ups k0 hS
      replace Aa := Aa.trans (Below.mono hS Aa.size)
      refine A7 R (Ii pS (T1 hS) SD D1 (Nat.add_le_add MW (PZ _ _)) dR.size (H.e R) (H.e R) fun v3 w3 Ll Om => ?_); replace k := Ad.up k Om SD; replace Aa := Aa.trans Om; refine hK _ _ ⟨(fun h => absurd h (by omega)), ?_⟩; clear hK K hS; refine V2.kt H R λ a H => V2.Al (fun K hK => A7 R ?_)
      unfold Oper.wp; rw [GE (H.ev rfl)]; refine hK _ _ ⟨(fun h => absurd h (by omega)), ?_⟩; clear hK K; exact V2.kt H rfl λ a H => V2.Aw (NoPanic.normal (zB (zC (zD (kR 2 H rfl λ a H => zA (zB (zF (Ag H rfl rfl ⟨⟨_, rfl, by rw [Eo, if_neg (by omega), HE.out, Fs, if_pos (by omega), HE2.out]; rw [Qd HOS.out (by omega)]; exact Ll⟩, by rw [DD, if_neg (by omega), HE.out, EC, if_pos (by omega), HE2.out]; rw [Qe HOS.out (by omega)]; exact k, Aa⟩))))))))
     ·
      have Hf : I9 c2 = c2 ∧ Kj c2 = [] := Qc HOS.out (by omega)
      refine rB 17 (Dn [0, 1, 2, 3, 4, 5, 6, 7, 8, 9, 10, 11, 12, 13, 14, 15, 16] .done) fun hS => kQ 3 H R λ a H => kF H R R (fun w' Aj => Ai FG R (H.e R) ((show _ = some (.slice Ao c.os.length co : Value) from IP (c := c2) AM AO (Ad.ups k Aj)))) R λ a H => kF H R R (fun w' Aj => Ba FG (H.e R)) R λ a H => kE 4 H R R (fun w' Aj => CU U3 (H.e R) Am dT) R λ a H => kE 3 H R R (fun w' Aj => Ai U3 R (H.e R) ((show _ = some (J (c2.now)) from Fu (c := c2) AM AO (Ad.ups k Aj)))) R λ a H => kF H R R (fun w' Aj => Ai U3 R (H.e R) ((show _ = some (J (c2.say)) from RZ (c := c2) AM AO (Ad.ups k Aj)))) R λ a H => kE 1 H R R (fun w' Aj => CV U3 (H.e R) (H.e R) dF) R λ a H => Aw (NoPanic.normal ?_)
      replace k := Ad.ups k hS
      replace AD := AG.up AD hS
      replace Ff := AK.up Ff hS
      replace Aa := Aa.trans (Below.mono hS Aa.size)
      clear hS
      exact zB (zG H R (zE (zB (zC (zD (kR 2 H R λ a H => zA (zB (zF (Ag H R R ⟨⟨_, R, by rw [Eo, if_neg (by omega), HE.out, Fs, if_pos (by omega), HE2.out]; rw [Hf.2, List.append_nil]; exact Ff⟩, by rw [DD, if_neg (by omega), HE.out, EC, if_pos (by omega), HE2.out]; rw [Hf.1]; exact k, Aa⟩)))))))))
theorem U0 [Dw] (w : World) (b : Nat) (c : Cl) (h : F1 w b c) : Calls Tryz.prog 16 #[.pointer (some ⟨b, 0, none⟩)] w fun e w' => (∃ v, e = .returned v ∧ AK w' w.heap.size v (Eo c)) ∧ F1 w' b (DD c) ∧ Bi b none w w' := by
 obtain ⟨hc, vi, vo, k, ⟨AN, Ch⟩, AD, BM⟩ := h
 exact (Yt w b c vi vo hc k AD BM).mono fun e w' ⟨h1, h2, h3⟩ => ⟨h1, .next (Tb hc) h2 AN Ch AD BM h3 (Hv c).1 (Hv c).2.1, h3⟩
end Go.Proofs.YtbnmpoonkjlkjaaGreat
