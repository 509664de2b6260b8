/- Client: part ZEh of the proof. -/
import Derived.Test.YtbnmpoonkjlkjaaGreatXZEg
namespace Go.Proofs.YtbnmpoonkjlkjaaGreat
open Go.RowKit
set_option linter.unusedVariables false
set_option linter.unusedSimpArgs false
set_option maxRecDepth 100000
set_option maxHeartbeats 8000000
def Ns0 (W : World) (b b0 : Nat) (c : Cl) (p : AZ) (vi vo : Value) (a : Act) (w : World) : Prop :=
 Kn a 142 [(0, .pointer (some ⟨b, 0, none⟩)), (5, .pointer (some ⟨b0, 0, none⟩)), (8, .bool (Fm c p))] ∧ Ad w b0 36 (pv p) ∧ Ad w b 79 (rA c vi vo) ∧ ET w vi c.items ∧ Id w vo c.os ∧ Bi b none W w
theorem U7 [Dw] (w : World) (b : Nat) (c : Cl) (h : F1 w b c) (vb : Value) (bs : List B8) (Jh : B9 w vb bs) (fE : bs.length ≤ 1000000) (hX : Dw.lim b ≤ w.heap.size) : Calls Tryz.prog 25 #[.pointer (some ⟨b, 0, none⟩), vb] w fun e w' => (∃ v, e = .returned v ∧ AK w' w.heap.size v (DQ c bs)) ∧ F1 w' b (DR c bs) ∧ Bi b none w w' := by
 obtain ⟨hc, vi, vo, k, ⟨AN, Ch⟩, AD, BM⟩ := h
 have AM := hc.ck
 have AO := hc.key
 have IF := hc.now
 have Gu := hc.seq
 have Jf := hc.beats
 have IE := hc.nonce
 have Aa := Bi.refl b none w
 refine Az 142 Tryz.func25 R R λ a H => zC (zD (kR 1 H R λ a H => zA (zB (zC (zD (kR 1 H R λ a H => A8 _ _ _ (Qu _ vb bs Jh fE) (Av Vj (H.e R)) ?_))))))
 rintro e w9 ⟨rfl, hb⟩; refine ⟨_, rfl, ?_⟩; clear Jh; replace k := k.ups hb; replace AN := AG.up AN hb; replace AD := AG.up AD hb; replace Aa := Aa.tr hb; clear hb; have EJ : (GQ bs).ok := TW bs; obtain ⟨p, Xf⟩ : ∃ p, GQ bs = p := ⟨_, rfl⟩; rw [Xf] at EJ; rw [Xf]; have HP := Lib.hid Xf; clear Xf; refine kL 3 H rfl λ a H => De 36 5 (.tmp 12) (pv p) _ Jn (AR EJ) (by rw [AI Bz, AI EJ]) (BU _) (fun p => (H.put 5 p rfl).ev rfl) (fun p => (H.put 5 p rfl).ev rfl) fun w0 b0 Ak hb k0 => ?_
 have g0 := Nat.le_trans Aa.size Ak; have PF : b < b0 := Nat.lt_of_lt_of_le k.lt Ak; replace k := k.ups hb; replace AN := AG.up AN hb; replace AD := AG.up AD hb; replace Aa := Aa.tr hb; clear hb; clear Ak; refine kL 1 H rfl λ a H => zA (zB (zC (zC ?_)))
 by_cases Hl : ID bs = 0
 ·
  obtain ⟨hr, -⟩ := Ov Hl
  rw [HP.out] at hr
  refine zD (kR 1 H R λ a H => kV H (E6 O8 (H.e R) Am dF) R λ a H => zA (zB (zG H R (zE (zB (zC (rB 7 (Dn [0, 1, 2, 3, 4] (.one 5 (.fl 6 .done))) fun hS => kQ 3 H R λ a H => kF H R R (fun w' Aj => AL (cs := (c.key).map u8v) (H.e R) (Sa (c := c) AM AO (Ad.ups k Aj) : World.rangeAt _ b 22 ((c.key).map u8v)) (by kernel_rfl) (by rw [List.length_map, AO]; exact Ft) R) R λ a H => kF H R R (fun w' Aj => Af b0 36 _ _ (H.e R) (Ad.ups k0 Aj) C1 R (AR EJ)) R λ a H => Al (fun K hK => A7 R (kD (NO _ c.key p AO EJ) (AA kB (H.e R) (H.e R)) fun w9 hb => ?_)))))))))
  replace hS := Below.trans hS (Below.mono hb (Below.size hS)); clear hb; refine kS 1 hK hS H rfl λ a H => ?_; clear hK K
  refine Aw (NoPanic.normal ?_)
  replace k := Ad.ups k hS
  replace AN := AG.up AN hS
  replace AD := AG.up AD hS
  replace k0 := Ad.ups k0 hS
  replace Aa := Aa.trans (Below.mono hS Aa.size)
  clear hS
  refine zB (zC (JI (Ns0 w b b0 c p vi vo) ?_ ?_))
  ·
   refine rB 18 (Dn [0, 1, 2, 3, 4, 5, 6, 7, 8, 9, 10, 11, 12, 13, 14, 15, 16, 17] .done) fun hS => kQ 3 H R λ a H => kF H R R (fun w' Aj => Ai U3 R (H.e R) ((show _ = some (J (c.state)) from DZ (c := c) AM AO (Ad.ups k Aj)))) R λ a H => ?_
   by_cases BE : (c.state) = 3
   ·
    refine kE 2 H R R (fun w' Aj => A9 U3 (H.e R) Am (AE (BE))) R λ a H => kE 3 H R R (fun w' Aj => Ai U3 R (H.e R) (AB (Ad.ups k0 Aj) (AQ EJ (j := 1) (by omega)))) R λ a H => kF H R R (fun w' Aj => Ai U3 R (H.e R) ((show _ = some (J (c.id)) from L8 (c := c) AM AO (Ad.ups k Aj)))) R λ a H => ?_
    by_cases Cn : (p.fld 1) = (c.id)
    ·
     refine kE 5 H R R (fun w' Aj => A9 U3 (H.e R) (H.e R) (AE (Cn))) R λ a H => Aw (NoPanic.normal ?_)
     replace k := Ad.ups k hS
     replace AN := AG.up AN hS
     replace AD := AG.up AD hS
     replace k0 := Ad.ups k0 hS
     replace Aa := Aa.trans (Below.mono hS Aa.size)
     clear hS
     refine ⟨R, ?_, k0, k, AN, AD, Aa⟩
     rw [show Fm c p = HJ c.key p by rw [Fm, decide_eq_true (⟨by assumption, by assumption⟩ : c.state = 3 ∧ p.fld 1 = c.id), Bool.true_and]]
     exact H.pick [0, 5, 8]
    ·
     refine kE 5 H R R (fun w' Aj => A9 U3 (H.e R) (H.e R) (AF (Cn))) R λ a H => Aw (NoPanic.normal ?_)
     replace k := Ad.ups k hS
     replace AN := AG.up AN hS
     replace AD := AG.up AD hS
     replace k0 := Ad.ups k0 hS
     replace Aa := Aa.trans (Below.mono hS Aa.size)
     clear hS
     refine ⟨R, ?_, k0, k, AN, AD, Aa⟩
     rw [show Fm c p = false by rw [Fm, decide_eq_false (by omega), Bool.false_and]]
     exact H.pick [0, 5, 8]
   ·
    refine kE 13 H R R (fun w' Aj => A9 U3 (H.e R) Am (AF (BE))) R λ a H => Aw (NoPanic.normal ?_)
    replace k := Ad.ups k hS
    replace AN := AG.up AN hS
    replace AD := AG.up AD hS
    replace k0 := Ad.ups k0 hS
    replace Aa := Aa.trans (Below.mono hS Aa.size)
    clear hS
    refine ⟨R, ?_, k0, k, AN, AD, Aa⟩
    rw [show Fm c p = false by rw [Fm, decide_eq_false (by omega), Bool.false_and]]
    exact H.pick [0, 5, 8]
  ·
   clear H Aa k k0 AN AD
   rintro a w' ⟨H, k0, k, AN, AD, Aa⟩
   refine zB (zC (zC (zD (kR 1 H R λ a H => kV H (Ai U3 R (H.e R) (AB k0 (AQ EJ (j := 0) (by omega)))) R λ a H => zA (zB (wp_block (zC (zD ?_))))))))
   by_cases CP : (p.fld 0) = 2
   ·
    refine kX 1 H (A9 U3 (H.e R) Am (AE (CP))) R λ a H => zA (zB (zH H R (zC (rB 14 (Dn [0, 1, 2, 3, 4, 5, 6, 7, 8, 9, 10, 11, 12, 13] .done) fun hS => kQ 3 H R λ a H => kF H R R (fun w' Aj => Ai U3 R (H.e R) ((show _ = some (J (c.state)) from DZ (c := c) AM AO (Ad.ups k Aj)))) R λ a H => ?_))))
    by_cases DJ : (c.state) = 1
    ·
     refine kE 2 H R R (fun w' Aj => A9 U3 (H.e R) Am (AE (DJ))) R λ a H => kE 3 H R R (fun w' Aj => Ai U3 R (H.e R) (AB (Ad.ups k0 Aj) (AQ EJ (j := 10) (by omega)))) R λ a H => kF H R R (fun w' Aj => Ai U3 R (H.e R) ((show _ = some (J (c.nonce)) from FX (c := c) AM AO (Ad.ups k Aj)))) R λ a H => ?_
     by_cases Em : (p.fld 10) = (c.nonce)
     ·
      refine kE 1 H R R (fun w' Aj => A9 U3 (H.e R) (H.e R) (AE (Em))) R λ a H => Aw (NoPanic.normal ?_)
      replace k := Ad.ups k hS
      replace k0 := Ad.ups k0 hS
      replace AN := AG.up AN hS
      replace AD := AG.up AD hS
      replace Aa := Aa.trans (Below.mono hS Aa.size)
      clear hS
      refine zB (zH H R (zC (zD (kR 2 H R λ a H => kX 2 H (Ai U3 R (H.e R) (AB k0 (AQ EJ (j := 11) (by omega)))) R λ a H => Gb (new := rA ({ c with epoch := (p.fld 11) }) vi vo) (H.e R) (H.e R) k s3 (Cv AM AO R) oI (PW AM AO) Aa H fun w' hb ho k Aa a H => ?_))))
      replace k0 := Ae k0 (ho _ (by omega)); replace AN := AG.store AN (fx Ch) ho; replace AD := AG.store AD (fx BM) ho; clear hb ho
      refine zA (zB (zC (zD (kR 2 H R λ a H => kX 2 H (AL (cs := (p.sec).map u8v) (H.e R) (IW k0 EJ) (by kernel_rfl) (by rw [List.length_map, EJ.2.1]; exact Ft) R) R λ a H => Cp 33 (.tmp 66) (.tmp 64) b 5 79 (BL (p.sec)) _ (H.e R) (H.e R) k (by rw [Bk, EJ.2.1]; exact Ft) (by rw [Eb (c := { c with epoch := (p.fld 11) }) AM AO]; rw [Bk, EJ.2.1]; omega) (D5 _) fun w' hb ho kq => ?_))))
      clear k; rw [ZH (c := { c with epoch := (p.fld 11) }) AM EJ.2.1] at kq; have hc1' := EJ.2.1; clear AM; have AM := hc1'; clear hc1'; have k : Ad _ b 79 (rA ({ c with epoch := (p.fld 11), ck := p.sec }) vi vo) := kq; replace k0 := Ae k0 (ho _ (by omega)); replace AN := AG.store AN (fx Ch) ho; replace AD := AG.store AD (fx BM) ho; replace Aa := Aa.store (hb b (Nat.le_refl _)) ho; clear hb ho kq; refine Dz H λ a H => zA (zB (zC (zD (kR 3 H rfl λ a H => Gb (new := rA ({ c with epoch := (p.fld 11), ck := p.sec, state := 2 }) vi vo) (H.ev rfl) Am k s3 (Cv AM AO rfl) oI (GB AM AO) Aa H fun w' hb ho k Aa a H => ?_))))
      replace k0 := Ae k0 (ho _ (by omega)); replace AN := AG.store AN (fx Ch) ho; replace AD := AG.store AD (fx BM) ho; clear hb ho
      refine zA (zB (zC (zD (kR 1 H R λ a H => A8 _ _ _ (W7 _ b (Nj c p) _ _ (Nk hc EJ hr (by omega)) k) (Av jZ (H.e R)) ?_))))
      rintro e w9 ⟨⟨v, rfl, D1⟩, k2, CD⟩; refine ⟨_, rfl, ?_⟩; clear k; have k := k2; clear k2; replace D1 := AK.base D1 Aa.size; replace AN := AG.gone AN (fx Ch) CD; replace AD := AG.gone AD (fx BM) CD; replace Aa := Bi.thin Aa CD; refine kL 1 H rfl λ a H => zA (zB (zF (AS (zJ ?_))))
      rw [DR, DQ, if_pos Hl, if_pos Hl, HP.out, Hp, if_pos (by omega), Ho, if_pos (by omega)]
      exact Ag H R R ⟨⟨_, R, by rw [LI, if_pos ⟨by omega, by omega⟩]; exact D1⟩, by rw [LJ, if_pos ⟨by omega, by omega⟩]; exact ⟨Nd (Nk hc EJ hr (by omega)), _, _, k, ⟨AN, Ch⟩, AD, BM⟩, Aa⟩
     ·
      refine kE 1 H R R (fun w' Aj => A9 U3 (H.e R) (H.e R) (AF (Em))) R λ a H => Aw (NoPanic.normal ?_)
      replace k := Ad.ups k hS
      replace k0 := Ad.ups k0 hS
      replace AN := AG.up AN hS
      replace AD := AG.up AD hS
      replace Aa := Aa.trans (Below.mono hS Aa.size)
      clear hS
      refine zB (zG H R (zE (AC (zB (zC (zD (kR 1 H R λ a H => zA (zB (zF ?_)))))))))
      rw [DR, DQ, if_pos Hl, if_pos Hl, HP.out, Hp, if_pos (by omega), Ho, if_pos (by omega)]
      exact Ag H R R ⟨⟨_, R, by rw [LI, if_neg (by omega)]; exact Bd⟩, by rw [LJ, if_neg (by omega)]; exact ⟨hc, _, _, k, ⟨AN, Ch⟩, AD, BM⟩, Aa⟩
    ·
     refine kE 9 H R R (fun w' Aj => A9 U3 (H.e R) Am (AF (DJ))) R λ a H => Aw (NoPanic.normal ?_)
     replace k := Ad.ups k hS
     replace k0 := Ad.ups k0 hS
     replace AN := AG.up AN hS
     replace AD := AG.up AD hS
     replace Aa := Aa.trans (Below.mono hS Aa.size)
     clear hS
     refine zB (zG H R (zE (AC (zB (zC (zD (kR 1 H R λ a H => zA (zB (zF ?_)))))))))
     rw [DR, DQ, if_pos Hl, if_pos Hl, HP.out, Hp, if_pos (by omega), Ho, if_pos (by omega)]
     exact Ag H R R ⟨⟨_, R, by rw [LI, if_neg (by omega)]; exact Bd⟩, by rw [LJ, if_neg (by omega)]; exact ⟨hc, _, _, k, ⟨AN, Ch⟩, AD, BM⟩, Aa⟩
   ·
    refine kX 1 H (A9 U3 (H.e R) Am (AF (CP))) R λ a H => zA (zB (zG H R (zC (zD ?_))))
    by_cases Fg : (p.fld 0) = 4
    ·
     refine kX 1 H (A9 U3 (H.e R) Am (AE (Fg))) R λ a H => zA (zB (zH H R (zC (rB 14 (Dn [0, 1, 2, 3, 4, 5, 6, 7, 8, 9, 10, 11, 12, 13] .done) fun hS => kQ 3 H R λ a H => kF H R R (fun w' Aj => Ai U3 R (H.e R) ((show _ = some (J (c.state)) from DZ (c := c) AM AO (Ad.ups k Aj)))) R λ a H => ?_))))
     by_cases F3 : (c.state) = 2
     ·
      refine kE 2 H R R (fun w' Aj => A9 U3 (H.e R) Am (AE (F3))) R λ a H => kE 3 H R R (fun w' Aj => Ai U3 R (H.e R) (AB (Ad.ups k0 Aj) (AQ EJ (j := 10) (by omega)))) R λ a H => kF H R R (fun w' Aj => Ai U3 R (H.e R) ((show _ = some (J (c.nonce)) from FX (c := c) AM AO (Ad.ups k Aj)))) R λ a H => ?_
      by_cases FR : (p.fld 10) = (c.nonce)
      ·
       refine kE 1 H R R (fun w' Aj => A9 U3 (H.e R) (H.e R) (AE (FR))) R λ a H => Aw (NoPanic.normal ?_)
       replace k := Ad.ups k hS
       replace k0 := Ad.ups k0 hS
       replace AN := AG.up AN hS
       replace AD := AG.up AD hS
       replace Aa := Aa.trans (Below.mono hS Aa.size)
       clear hS
       refine zB (zH H R (zC (zD (kR 2 H R λ a H => kX 2 H (Ai U3 R (H.e R) (AB k0 (AQ EJ (j := 1) (by omega)))) R λ a H => Gb (new := rA ({ c with id := (p.fld 1) }) vi vo) (H.e R) (H.e R) k s3 (Cv AM AO R) oI (ZG AM AO) Aa H fun w' hb ho k Aa a H => ?_))))
       replace k0 := Ae k0 (ho _ (by omega)); replace AN := AG.store AN (fx Ch) ho; replace AD := AG.store AD (fx BM) ho; clear hb ho
       refine zA (zB (zC (zD (kR 2 H R λ a H => kX 2 H (AL (cs := (p.sec).map u8v) (H.e R) (IW k0 EJ) (by kernel_rfl) (by rw [List.length_map, EJ.2.1]; exact Ft) R) R λ a H => Cp 33 (.tmp 97) (.tmp 95) b 22 79 (BL (p.sec)) _ (H.e R) (H.e R) k (by rw [Bk, EJ.2.1]; exact Ft) (by rw [Eb (c := { c with id := (p.fld 1) }) AM AO]; rw [Bk, EJ.2.1]; omega) (D5 _) fun w' hb ho kq => ?_))))
       clear k; rw [Wd (c := { c with id := (p.fld 1) }) AM AO EJ.2.1] at kq; have hc2' := EJ.2.1; clear AO; have AO := hc2'; clear hc2'; have k : Ad _ b 79 (rA ({ c with id := (p.fld 1), key := p.sec }) vi vo) := kq; replace k0 := Ae k0 (ho _ (by omega)); replace AN := AG.store AN (fx Ch) ho; replace AD := AG.store AD (fx BM) ho; replace Aa := Aa.store (hb b (Nat.le_refl _)) ho; clear hb ho kq; refine Dz H λ a H => zA (zB (zC (zD (kR 3 H rfl λ a H => Gb (new := rA ({ c with id := (p.fld 1), key := p.sec, state := 3 }) vi vo) (H.ev rfl) Am k s3 (Cv AM AO rfl) oI (GB AM AO) Aa H fun w' hb ho k Aa a H => ?_))))
       replace k0 := Ae k0 (ho _ (by omega)); replace AN := AG.store AN (fx Ch) ho; replace AD := AG.store AD (fx BM) ho; clear hb ho
       refine zA (zB (zC (zD (kR 3 H R λ a H => Gb (new := rA ({ c with id := (p.fld 1), key := p.sec, state := 3, beats := 0 }) vi vo) (H.e R) Am k s3 (Cv AM AO R) oI (Mx AM AO) Aa H fun w' hb ho k Aa a H => ?_))))
       replace k0 := Ae k0 (ho _ (by omega)); replace AN := AG.store AN (fx Ch) ho; replace AD := AG.store AD (fx BM) ho; clear hb ho
       refine zA (zB (zC (zD (kR 3 H R λ a H => Gb (new := rA ({ c with id := (p.fld 1), key := p.sec, state := 3, beats := 0, seq := 0 }) vi vo) (H.e R) Am k s3 (Cv AM AO R) oI (RP AM AO) Aa H fun w' hb ho k Aa a H => ?_))))
       replace k0 := Ae k0 (ho _ (by omega)); replace AN := AG.store AN (fx Ch) ho; replace AD := AG.store AD (fx BM) ho; clear hb ho
       refine zA (zB (zC (zD (kR 4 H R λ a H => kX 2 H (Ai U3 R (H.e R) ((show _ = some (J (c.now)) from Fu (c := { c with id := (p.fld 1), key := p.sec, state := 3, beats := 0, seq := 0 }) AM AO k))) R λ a H => Gb (new := rA ({ c with id := (p.fld 1), key := p.sec, state := 3, beats := 0, seq := 0, beat := (c.now) }) vi vo) (H.e R) (H.e R) k s3 (Cv AM AO R) oI (OQ AM AO) Aa H fun w' hb ho k Aa a H => ?_))))
       replace k0 := Ae k0 (ho _ (by omega)); replace AN := AG.store AN (fx Ch) ho; replace AD := AG.store AD (fx BM) ho; clear hb ho
       refine zA (zB (zC (zD (kR 4 H R λ a H => kX 2 H (Ai U3 R (H.e R) ((show _ = some (J (c.now)) from Fu (c := { c with id := (p.fld 1), key := p.sec, state := 3, beats := 0, seq := 0, beat := (c.now) }) AM AO k))) R λ a H => Gb (new := rA ({ c with id := (p.fld 1), key := p.sec, state := 3, beats := 0, seq := 0, beat := (c.now), say := (c.now) }) vi vo) (H.e R) (H.e R) k s3 (Cv AM AO R) oI (OP AM AO) Aa H fun w' hb ho k Aa a H => ?_))))
       replace k0 := Ae k0 (ho _ (by omega)); replace AN := AG.store AN (fx Ch) ho; replace AD := AG.store AD (fx BM) ho; clear hb ho
       refine zA (zB (zD (kR 1 H R λ a H => kC 0 (Yu _) (Kt sY) H R fun w9 a hb H => ?_)))
       replace k := k.ups hb; replace k0 := k0.ups hb; replace AN := AG.up AN hb; replace AD := AG.up AD hb; replace Aa := Aa.tr hb; clear hb
       refine kR 2 H R λ a H => Cp 70 (.tmp 124) (.tmp 122) b 44 79 #[J 1, .slice none 0 0] _ (H.e R) (H.e R) k DU (by rw [Eb (c := { c with id := (p.fld 1), key := p.sec, state := 3, beats := 0, seq := 0, beat := (c.now), say := (c.now) }) AM AO]; show 44 + 2 ≤ 115; omega) (by simp [Value.oneCell']) fun w' hb ho kq => ?_
       clear k; rw [OO (c := { c with id := (p.fld 1), key := p.sec, state := 3, beats := 0, seq := 0, beat := (c.now), say := (c.now) }) AM AO] at kq; have k : Ad _ b 79 (rA ({ c with id := (p.fld 1), key := p.sec, state := 3, beats := 0, seq := 0, beat := (c.now), say := (c.now), next := 1 }) (.slice none 0 0) vo) := kq; replace k0 := Ae k0 (ho _ (by omega)); replace AN := AG.store AN (fx Ch) ho; replace AD := AG.store AD (fx BM) ho; replace Aa := Aa.store (hb b (Nat.le_refl _)) ho; clear hb ho kq; refine Dz H λ a H => zA (AC (zB (zC (zD (kR 1 H rfl λ a H => zA (zB (zF ?_)))))))
       rw [DR, DQ, if_pos Hl, if_pos Hl, HP.out, Hp, if_neg (by omega), if_pos (by omega), Ho, if_neg (by omega), if_neg (by omega)]
       have e : NB c p = { c with state := 3, id := p.fld 1, key := p.sec, beats := 0, seq := 0, beat := c.now, say := c.now, next := 1, items := [] } := if_pos ⟨by omega, by omega⟩
       have Ca := XS hc EJ hr (by omega)
       rw [e] at Ca ⊢
       exact Ag H R R ⟨⟨_, R, Bd⟩, ⟨Ca, _, _, k, ⟨AG.nil, Cj⟩, AD, BM⟩, Aa⟩
      ·
       refine kE 1 H R R (fun w' Aj => A9 U3 (H.e R) (H.e R) (AF (FR))) R λ a H => Aw (NoPanic.normal ?_)
       replace k := Ad.ups k hS
       replace k0 := Ad.ups k0 hS
       replace AN := AG.up AN hS
       replace AD := AG.up AD hS
       replace Aa := Aa.trans (Below.mono hS Aa.size)
       clear hS
       refine zB (zG H R (zE (AC (zB (zC (zD (kR 1 H R λ a H => zA (zB (zF ?_)))))))))
       rw [DR, DQ, if_pos Hl, if_pos Hl, HP.out, Hp, if_neg (by omega), if_pos (by omega), Ho, if_neg (by omega), if_neg (by omega)]
       exact Ag H R R ⟨⟨_, R, Bd⟩, by rw [NB, if_neg (by omega)]; exact ⟨hc, _, _, k, ⟨AN, Ch⟩, AD, BM⟩, Aa⟩
     ·
      refine kE 9 H R R (fun w' Aj => A9 U3 (H.e R) Am (AF (F3))) R λ a H => Aw (NoPanic.normal ?_)
      replace k := Ad.ups k hS
      replace k0 := Ad.ups k0 hS
      replace AN := AG.up AN hS
      replace AD := AG.up AD hS
      replace Aa := Aa.trans (Below.mono hS Aa.size)
      clear hS
      refine zB (zG H R (zE (AC (zB (zC (zD (kR 1 H R λ a H => zA (zB (zF ?_)))))))))
      rw [DR, DQ, if_pos Hl, if_pos Hl, HP.out, Hp, if_neg (by omega), if_pos (by omega), Ho, if_neg (by omega), if_neg (by omega)]
      exact Ag H R R ⟨⟨_, R, Bd⟩, by rw [NB, if_neg (by omega)]; exact ⟨hc, _, _, k, ⟨AN, Ch⟩, AD, BM⟩, Aa⟩
    ·
     refine kX 1 H (A9 U3 (H.e R) Am (AF (Fg))) R λ a H => zA (zB (zG H R (zC (zD ?_))))
     by_cases Hm : (p.fld 0) = 12
     ·
      refine kX 1 H (A9 U3 (H.e R) Am (AE (Hm))) R λ a H => zA (zB (zH H R (zD (kR 1 H R λ a H => kV H (Af b0 36 _ _ (H.e R) k0 C1 R (AR EJ)) R λ a H => kC 0 (OV _ b c ⟨hc, _, _, k, ⟨AN, Ch⟩, AD, BM⟩ p EJ hr (by omega)) (AA sX (H.e R) (H.e R)) H R fun w9 a ⟨Be, CD⟩ H => ?_))))
      clear k AN AD; replace Aa := Bi.thin Aa CD
      refine zA (AC (zB (zC (zD (kR 1 H R λ a H => zA (zB (zF ?_)))))))
      rw [DR, DQ, if_pos Hl, if_pos Hl, HP.out, Hp, if_neg (by omega), if_neg (by omega), if_pos (by omega), Ho, if_neg (by omega), if_neg (by omega)]
      exact Ag H R R ⟨⟨_, R, Bd⟩, Be, Aa⟩
     ·
      refine kX 1 H (A9 U3 (H.e R) Am (AF (Hm))) R λ a H => zA (zB (zG H R (zC (zD ?_))))
      by_cases IB : (p.fld 0) = 8
      ·
       refine kX 1 H (A9 U3 (H.e R) Am (AE (IB))) R λ a H => zA (zB (zH H R (zC ?_)))
       cases Ah : Fm c p
       ·
        rw [Ah] at H
        refine zD (kR 1 H R λ a H => zA (zB (zG H R (zE (AC (zB (zC (zD (kR 1 H R λ a H => zA (zB (zF ?_)))))))))))
        rw [DR, DQ, if_pos Hl, if_pos Hl, HP.out, Hp, if_neg (by omega), if_neg (by omega), if_neg (by omega), if_pos (by omega), Ho, if_neg (by omega), if_pos (by omega)]
        exact Ag H R R ⟨⟨_, R, by rw [Nz, if_neg (by rw [Ah]; simp)]; exact Bd⟩, by rw [LR, if_neg (by rw [Ah]; simp)]; exact ⟨hc, _, _, k, ⟨AN, Ch⟩, AD, BM⟩, Aa⟩
       ·
        rw [Ah] at H
        refine zD (kR 1 H R λ a H => zA (zB (zH H R (zC (zD (kR 1 H R λ a H => kV H (Af b0 36 _ _ (H.e R) k0 C1 R (AR EJ)) R λ a H => A8 _ _ _ (Qk _ b c ⟨hc, _, _, k, ⟨AN, Ch⟩, AD, BM⟩ p EJ hr (by omega) Ah (Nat.le_trans hX Aa.size)) (AA sW (H.e R) (H.e R)) ?_))))))
        rintro e w9 ⟨⟨v, rfl, D1⟩, Be, CD⟩; refine ⟨_, rfl, ?_⟩; replace D1 := AK.base D1 Aa.size; clear k AN AD; replace Aa := Bi.thin Aa CD; refine kL 1 H rfl λ a H => zA (zB (zF (AS (zJ ?_))))
        rw [DR, DQ, if_pos Hl, if_pos Hl, HP.out, Hp, if_neg (by omega), if_neg (by omega), if_neg (by omega), if_pos (by omega), Ho, if_neg (by omega), if_pos (by omega)]
        exact Ag H R R ⟨⟨_, R, D1⟩, Be, Aa⟩
      ·
       refine kX 1 H (A9 U3 (H.e R) Am (AF (IB))) R λ a H => zA (zB (zG H R (zC (zD ?_))))
       by_cases FM : (p.fld 0) = 11
       ·
        refine kX 1 H (A9 U3 (H.e R) Am (AE (FM))) R λ a H => zA (zB (zH H R (zC ?_)))
        cases Ah : Fm c p
        ·
         rw [Ah] at H
         refine zD (kR 1 H R λ a H => zA (zB (zG H R (zE (AC (zB (zC (zD (kR 1 H R λ a H => zA (zB (zF ?_)))))))))))
         rw [DR, DQ, if_pos Hl, if_pos Hl, HP.out, Hp, if_neg (by omega), if_neg (by omega), if_neg (by omega), if_neg (by omega), if_pos (by omega), Ho, if_neg (by omega), if_neg (by omega)]
         exact Ag H R R ⟨⟨_, R, Bd⟩, by rw [Ma (.inl (by rw [Ah]; simp))]; exact ⟨hc, _, _, k, ⟨AN, Ch⟩, AD, BM⟩, Aa⟩
        ·
         rw [Ah] at H
         refine zD (kR 1 H R λ a H => zA (zB (zH H R (zD (kR 1 H R λ a H => kV H (Af b0 36 _ _ (H.e R) k0 C1 R (AR EJ)) R λ a H => kC 0 (RW _ b c ⟨hc, _, _, k, ⟨AN, Ch⟩, AD, BM⟩ p EJ hr (by omega) Ah (Nat.le_trans hX Aa.size)) (AA sV (H.e R) (H.e R)) H R fun w9 a ⟨Be, CD⟩ H => ?_)))))
         clear k AN AD; replace Aa := Bi.thin Aa CD
         refine zA (AC (zB (zC (zD (kR 1 H R λ a H => zA (zB (zF ?_)))))))
         rw [DR, DQ, if_pos Hl, if_pos Hl, HP.out, Hp, if_neg (by omega), if_neg (by omega), if_neg (by omega), if_neg (by omega), if_pos (by omega), Ho, if_neg (by omega), if_neg (by omega)]
         exact Ag H R R ⟨⟨_, R, Bd⟩, Be, Aa⟩
       ·
        refine kX 1 H (A9 U3 (H.e R) Am (AF (FM))) R λ a H => zA (zB (zG H R (zE (AC (zB (zC (zD (kR 1 H R λ a H => zA (zB (zF ?_))))))))))
        rw [DR, DQ, if_pos Hl, if_pos Hl, HP.out, Hp, if_neg (by omega), if_neg (by omega), if_neg (by omega), if_neg (by omega), if_neg (by omega), Ho, if_neg (by omega), if_neg (by omega)]
        exact Ag H R R ⟨⟨_, R, Bd⟩, ⟨hc, _, _, k, ⟨AN, Ch⟩, AD, BM⟩, Aa⟩
 ·
  exact zD (kR 1 H R λ a H => kV H (E6 O8 (H.e R) Am dT) R λ a H => zA (zB (zH H R (zC (zD (kR 1 H R λ a H => zA (zB (zF (zJ (Ag H R R ⟨⟨_, R, by rw [DQ, if_neg Hl]; exact Bd⟩, by rw [DR, if_neg Hl]; exact ⟨hc, _, _, k, ⟨AN, Ch⟩, AD, BM⟩, Aa⟩))))))))))
end Go.Proofs.YtbnmpoonkjlkjaaGreat
