/- Client: part ZEf of the proof. -/
import Derived.Test.YtbnmpoonkjlkjaaGreatXZEe
namespace Go.Proofs.YtbnmpoonkjlkjaaGreat
open Go.RowKit
set_option linter.unusedVariables false
set_option linter.unusedSimpArgs false
set_option maxRecDepth 100000
set_option maxHeartbeats 8000000
theorem xX : (Tryz.prog.info? 77).map (·.zero) = some (some (.agg (V8 fun _ => none))) := by kernel_rfl
theorem Yu (w : World) : Calls Tryz.prog 57 #[] w fun e w' => e = .returned (.agg #[J 1, .slice none 0 0]) ∧ Below w.heap.size w w' := by
 have Aa := Below.refl w.heap.size w
 refine Az 2 Tryz.func57 R R λ a H => zC (zD (Bj 70 #[J 0, .slice none 0 0] VG fun w0 b0 Ak hb k0 => ?_))
 have g0 := Nat.le_trans Aa.size Ak; replace Aa := Aa.tr hb; clear hb Ak; refine kl H rfl λ a H => zA (zB (zC (zD (kV (v := .agg #[J 1, .slice none 0 0]) H (Bl #[(0, J 1)] (.agg #[J 1, .slice none 0 0]) (by simp [Am]) (fun w => by kernel_rfl)) rfl λ a H => AP 70 (.tmp 0) (.tmp 1) b0 0 70 (.agg #[J 1, .slice none 0 0]) _ (H.ev rfl) (H.ev rfl) k0 DU (by simp [Value.cells]) (by simp [Value.cells, Value.oneCell']) fun w' hb ho kq => ?_))))
 clear k0; have k0 : Ad _ b0 70 #[J 1, .slice none 0 0] := kq; replace Aa := Aa.trans (hb _ g0); clear hb ho kq; exact Dz H λ a H => zA (zB (zF (Cw H rfl rfl k0 ND rfl DU ⟨rfl, Aa⟩)))
theorem OV [Dw] (w : World) (b : Nat) (c : Cl) (h : F1 w b c)(p : AZ) (hp : p.ok) (hr : Bg p = true) (hk : p.fld 0 = 12) : Calls Tryz.prog 58 #[.pointer (some ⟨b, 0, none⟩), .agg (pv p)] w fun e w' => e = .returned (.tuple #[]) ∧ F1 w' b (Ep c p) ∧ Bi b none w w' := by
 obtain ⟨hc, vi, vo, k, ⟨AN, Ch⟩, AD, BM⟩ := h
 have AM := hc.ck
 have AO := hc.key
 have IF := hc.now
 have Gu := hc.seq
 have Jf := hc.beats
 have IE := hc.nonce
 have Aa := Bi.refl b none w
 refine Az 75 Tryz.func58 R R λ a H => zC (zD (B7 36 (.tmp 1) (pv p) (H.e R) fun w0 b0 Ak hb k0 => ?_))
 have g0 := Nat.le_trans Aa.size Ak; have PF : b < b0 := Nat.lt_of_lt_of_le k.lt Ak; replace k := k.ups hb; replace AN := AG.up AN hb; replace AD := AG.up AD hb; replace Aa := Aa.tr hb; clear hb; clear Ak; refine kl H rfl λ a H => zA (zB (zC (rB 14 (Dn [0, 1, 2, 3, 4, 5, 6, 7, 8, 9, 10, 11, 12, 13] .done) fun hS => kQ 3 H rfl λ a H => kF H rfl rfl (fun w' Aj => Ai U3 rfl (H.ev rfl) ((show _ = some (J (c.state)) from DZ (c := c) AM AO (Ad.ups k Aj)))) rfl λ a H => ?_)))
 by_cases BE : (c.state) = 2
 ·
  refine kE 2 H R R (fun w' Aj => A9 U3 (H.e R) Am (AE (BE))) R λ a H => kE 3 H R R (fun w' Aj => Ai U3 R (H.e R) (AB (Ad.ups k0 Aj) (AQ hp (j := 10) (by omega)))) R λ a H => kF H R R (fun w' Aj => Ai U3 R (H.e R) ((show _ = some (J (c.nonce)) from FX (c := c) AM AO (Ad.ups k Aj)))) R λ a H => ?_
  by_cases Cn : (p.fld 10) = (c.nonce)
  ·
   refine kE 1 H R R (fun w' Aj => A9 U3 (H.e R) (H.e R) (AE (Cn))) R λ a H => Aw (NoPanic.normal ?_)
   replace k := Ad.ups k hS
   replace AN := AG.up AN hS
   replace AD := AG.up AD hS
   replace k0 := Ad.ups k0 hS
   replace Aa := Aa.trans (Below.mono hS Aa.size)
   clear hS
   refine zB (zH H R (zC (zD (kR 3 H R λ a H => Gb (new := rA ({ c with state := 1 }) vi vo) (H.e R) Am k s3 (Cv AM AO R) oI (GB AM AO) Aa H fun w' hb ho k Aa a H => ?_))))
   replace AN := AG.store AN (fx Ch) ho; replace AD := AG.store AD (fx BM) ho; replace k0 := Ae k0 (ho _ (by omega)); clear hb ho
   refine zA (zB (zC (zD (kR 4 H R λ a H => kV H (Ai U3 R (H.e R) ((show _ = some (J (c.now)) from Fu (c := { c with state := 1 }) AM AO k))) R λ a H => kX 2 H (Bm (q := (c.now) + 4) U3 (H.e R) Am) R λ a H => Gb (new := rA ({ c with state := 1, ask := ((c.now) + 4) }) vi vo) (H.e R) (H.e R) k s3 (Cv AM AO R) oI (My AM AO) Aa H fun w' hb ho k Aa a H => ?_))))
   replace AN := AG.store AN (fx Ch) ho; replace AD := AG.store AD (fx BM) ho; replace k0 := Ae k0 (ho _ (by omega)); clear hb ho
   refine zA (zB (zD (kR 2 H R λ a H => kX 2 H (Ai U3 R (H.e R) (AB k0 (AQ hp (j := 4) (by omega)))) R λ a H => Gb (new := rA ({ c with state := 1, ask := ((c.now) + 4), code := (p.fld 4) }) vi vo) (H.e R) (H.e R) k Wr (Cv AM AO R) oI (Jp AM AO) Aa H fun w' hb ho k Aa a H => ?_)))
   replace AN := AG.store AN (fx Ch) ho; replace AD := AG.store AD (fx BM) ho; replace k0 := Ae k0 (ho _ (by omega)); clear hb ho
   refine zA ?_
   have e : Ep c p = { c with ask := c.now + 4, state := 1, code := p.fld 4 } := by rw [Ep, if_pos ⟨by omega, by omega⟩]
   have Ca := ED hc hr hk
   rw [e] at Ca ⊢
   exact EF H R ⟨R, ⟨Ca, _, _, k, ⟨AN, Ch⟩, AD, BM⟩, Aa⟩
  ·
   refine kE 1 H R R (fun w' Aj => A9 U3 (H.e R) (H.e R) (AF (Cn))) R λ a H => Aw (NoPanic.normal ?_)
   replace k := Ad.ups k hS
   replace AN := AG.up AN hS
   replace AD := AG.up AD hS
   replace k0 := Ad.ups k0 hS
   replace Aa := Aa.trans (Below.mono hS Aa.size)
   clear hS
   refine zB (zG H R (zC ?_))
   have EK := Aa
   refine rB 19 (Dn [0, 1, 2, 3, 4, 5, 6, 7, 8, 9, 10, 11, 12, 13, 14, 15, 16, 17, 18] .done) fun hS => kQ 3 H R λ a H => kF H R R (fun w' Aj => Ai U3 R (H.e R) ((show _ = some (J (c.state)) from DZ (c := c) AM AO (Ad.ups k Aj)))) R λ a H => ?_
   by_cases CP : (c.state) = 3
   ·
    refine kE 2 H R R (fun w' Aj => A9 U3 (H.e R) Am (AE (CP))) R λ a H => kE 3 H R R (fun w' Aj => Ai U3 R (H.e R) (AB (Ad.ups k0 Aj) (AQ hp (j := 10) (by omega)))) R λ a H => kF H R R (fun w' Aj => Ai U3 R (H.e R) ((show _ = some (J (c.id)) from L8 (c := c) AM AO (Ad.ups k Aj)))) R λ a H => ?_
    by_cases DJ : (p.fld 10) = (c.id)
    ·
     refine kE 3 H R R (fun w' Aj => A9 U3 (H.e R) (H.e R) (AE (DJ))) R λ a H => kF H R R (fun w' Aj => Ai U3 R (H.e R) (AB (Ad.ups k0 Aj) (AQ hp (j := 4) (by omega)))) R λ a H => ?_
     by_cases Em : (p.fld 4) = 6
     ·
      refine kE 1 H R R (fun w' Aj => A9 U3 (H.e R) Am (AE (Em))) R λ a H => Aw (NoPanic.normal ?_)
      replace k := Ad.ups k hS
      replace AN := AG.up AN hS
      replace AD := AG.up AD hS
      replace k0 := Ad.ups k0 hS
      replace Aa := Aa.trans (Below.mono hS Aa.size)
      clear hS
      refine zB (zH H R (zC (zD (kR 4 H R λ a H => kV H (Ai U3 R (H.e R) ((show _ = some (J (c.nonce)) from FX (c := c) AM AO k))) R λ a H => kV H (Bm (q := (c.nonce) + 1) U3 (H.e R) Am) R λ a H => kX 2 (v := J ((c.nonce + 1) % 1073741825)) H (Pd U3 (H.e R) Am (by omega) (by omega)) R λ a H => Gb (new := rA ({ c with nonce := ((c.nonce + 1) % 1073741825) }) vi vo) (H.e R) (H.e R) k s3 (Cv AM AO R) oI (Ke AM AO) Aa H fun w' hb ho k Aa a H => ?_))))
      replace AN := AG.store AN (fx Ch) ho; replace AD := AG.store AD (fx BM) ho; replace k0 := Ae k0 (ho _ (by omega)); clear hb ho
      refine zA (zB (zC (zD (kR 3 H R λ a H => Gb (new := rA ({ c with nonce := ((c.nonce + 1) % 1073741825), state := 1 }) vi vo) (H.e R) Am k s3 (Cv AM AO R) oI (GB AM AO) Aa H fun w' hb ho k Aa a H => ?_))))
      replace AN := AG.store AN (fx Ch) ho; replace AD := AG.store AD (fx BM) ho; replace k0 := Ae k0 (ho _ (by omega)); clear hb ho
      refine zA (zB (zC (zD (kR 4 H R λ a H => kX 2 H (Ai U3 R (H.e R) ((show _ = some (J (c.now)) from Fu (c := { c with nonce := ((c.nonce + 1) % 1073741825), state := 1 }) AM AO k))) R λ a H => Gb (new := rA ({ c with nonce := ((c.nonce + 1) % 1073741825), state := 1, ask := (c.now) }) vi vo) (H.e R) (H.e R) k s3 (Cv AM AO R) oI (My AM AO) Aa H fun w' hb ho k Aa a H => ?_))))
      replace AN := AG.store AN (fx Ch) ho; replace AD := AG.store AD (fx BM) ho; replace k0 := Ae k0 (ho _ (by omega)); clear hb ho
      refine zA (zB (zD (kR 3 H R λ a H => Gb (new := rA ({ c with nonce := ((c.nonce + 1) % 1073741825), state := 1, ask := (c.now), code := 6 }) vi vo) (H.e R) Am k Wr (Cv AM AO R) oI (Jp AM AO) Aa H fun w' hb ho k Aa a H => ?_)))
      replace AN := AG.store AN (fx Ch) ho; replace AD := AG.store AD (fx BM) ho; replace k0 := Ae k0 (ho _ (by omega)); clear hb ho
      refine zA ?_
      have h4 : p.fld 4 = 6 := by omega
      have e : Ep c p = { c with nonce := (c.nonce + 1) % 1073741825, ask := c.now, state := 1, code := 6 } := by rw [Ep, if_neg (by omega), if_pos ⟨by omega, by omega, by omega⟩, h4]
      have Ca := ED hc hr hk
      rw [e] at Ca ⊢
      exact EF H R ⟨R, ⟨Ca, _, _, k, ⟨AN, Ch⟩, AD, BM⟩, Aa⟩
     ·
      refine kE 1 H R R (fun w' Aj => A9 U3 (H.e R) Am (AF (Em))) R λ a H => Aw (NoPanic.normal ?_)
      replace k := Ad.ups k hS
      replace AN := AG.up AN hS
      replace AD := AG.up AD hS
      replace k0 := Ad.ups k0 hS
      replace Aa := Aa.trans (Below.mono hS Aa.size)
      clear hS
      refine zB (zG H R (zE ?_))
      have e : Ep c p = c := by rw [Ep, if_neg (by omega), if_neg (by omega)]
      have Ca := ED hc hr hk
      rw [e] at Ca ⊢
      exact EF H R ⟨R, ⟨Ca, _, _, k, ⟨AN, Ch⟩, AD, BM⟩, Aa⟩
    ·
     refine kE 6 H R R (fun w' Aj => A9 U3 (H.e R) (H.e R) (AF (DJ))) R λ a H => Aw (NoPanic.normal ?_)
     replace k := Ad.ups k hS
     replace AN := AG.up AN hS
     replace AD := AG.up AD hS
     replace k0 := Ad.ups k0 hS
     replace Aa := Aa.trans (Below.mono hS Aa.size)
     clear hS
     refine zB (zG H R (zE ?_))
     have e : Ep c p = c := by rw [Ep, if_neg (by omega), if_neg (by omega)]
     have Ca := ED hc hr hk
     rw [e] at Ca ⊢
     exact EF H R ⟨R, ⟨Ca, _, _, k, ⟨AN, Ch⟩, AD, BM⟩, Aa⟩
   ·
    refine kE 14 H R R (fun w' Aj => A9 U3 (H.e R) Am (AF (CP))) R λ a H => Aw (NoPanic.normal ?_)
    replace k := Ad.ups k hS
    replace AN := AG.up AN hS
    replace AD := AG.up AD hS
    replace k0 := Ad.ups k0 hS
    replace Aa := Aa.trans (Below.mono hS Aa.size)
    clear hS
    refine zB (zG H R (zE ?_))
    have e : Ep c p = c := by rw [Ep, if_neg (by omega), if_neg (by omega)]
    have Ca := ED hc hr hk
    rw [e] at Ca ⊢
    exact EF H R ⟨R, ⟨Ca, _, _, k, ⟨AN, Ch⟩, AD, BM⟩, Aa⟩
 ·
  refine kE 9 H R R (fun w' Aj => A9 U3 (H.e R) Am (AF (BE))) R λ a H => Aw (NoPanic.normal ?_)
  replace k := Ad.ups k hS
  replace AN := AG.up AN hS
  replace AD := AG.up AD hS
  replace k0 := Ad.ups k0 hS
  replace Aa := Aa.trans (Below.mono hS Aa.size)
  clear hS
  refine zB (zG H R (zC (rB 19 (Dn [0, 1, 2, 3, 4, 5, 6, 7, 8, 9, 10, 11, 12, 13, 14, 15, 16, 17, 18] .done) fun hS => kQ 3 H R λ a H => kF H R R (fun w' Aj => Ai U3 R (H.e R) ((show _ = some (J (c.state)) from DZ (c := c) AM AO (Ad.ups k Aj)))) R λ a H => ?_)))
  by_cases Fg : (c.state) = 3
  ·
   refine kE 2 H R R (fun w' Aj => A9 U3 (H.e R) Am (AE (Fg))) R λ a H => kE 3 H R R (fun w' Aj => Ai U3 R (H.e R) (AB (Ad.ups k0 Aj) (AQ hp (j := 10) (by omega)))) R λ a H => kF H R R (fun w' Aj => Ai U3 R (H.e R) ((show _ = some (J (c.id)) from L8 (c := c) AM AO (Ad.ups k Aj)))) R λ a H => ?_
   by_cases F3 : (p.fld 10) = (c.id)
   ·
    refine kE 3 H R R (fun w' Aj => A9 U3 (H.e R) (H.e R) (AE (F3))) R λ a H => kF H R R (fun w' Aj => Ai U3 R (H.e R) (AB (Ad.ups k0 Aj) (AQ hp (j := 4) (by omega)))) R λ a H => ?_
    by_cases FR : (p.fld 4) = 6
    ·
     refine kE 1 H R R (fun w' Aj => A9 U3 (H.e R) Am (AE (FR))) R λ a H => Aw (NoPanic.normal ?_)
     replace k := Ad.ups k hS
     replace AN := AG.up AN hS
     replace AD := AG.up AD hS
     replace k0 := Ad.ups k0 hS
     replace Aa := Aa.trans (Below.mono hS Aa.size)
     clear hS
     refine zB (zH H R (zC (zD (kR 4 H R λ a H => kV H (Ai U3 R (H.e R) ((show _ = some (J (c.nonce)) from FX (c := c) AM AO k))) R λ a H => kV H (Bm (q := (c.nonce) + 1) U3 (H.e R) Am) R λ a H => kX 2 (v := J ((c.nonce + 1) % 1073741825)) H (Pd U3 (H.e R) Am (by omega) (by omega)) R λ a H => Gb (new := rA ({ c with nonce := ((c.nonce + 1) % 1073741825) }) vi vo) (H.e R) (H.e R) k s3 (Cv AM AO R) oI (Ke AM AO) Aa H fun w' hb ho k Aa a H => ?_))))
     replace AN := AG.store AN (fx Ch) ho; replace AD := AG.store AD (fx BM) ho; replace k0 := Ae k0 (ho _ (by omega)); clear hb ho
     refine zA (zB (zC (zD (kR 3 H R λ a H => Gb (new := rA ({ c with nonce := ((c.nonce + 1) % 1073741825), state := 1 }) vi vo) (H.e R) Am k s3 (Cv AM AO R) oI (GB AM AO) Aa H fun w' hb ho k Aa a H => ?_))))
     replace AN := AG.store AN (fx Ch) ho; replace AD := AG.store AD (fx BM) ho; replace k0 := Ae k0 (ho _ (by omega)); clear hb ho
     refine zA (zB (zC (zD (kR 4 H R λ a H => kX 2 H (Ai U3 R (H.e R) ((show _ = some (J (c.now)) from Fu (c := { c with nonce := ((c.nonce + 1) % 1073741825), state := 1 }) AM AO k))) R λ a H => Gb (new := rA ({ c with nonce := ((c.nonce + 1) % 1073741825), state := 1, ask := (c.now) }) vi vo) (H.e R) (H.e R) k s3 (Cv AM AO R) oI (My AM AO) Aa H fun w' hb ho k Aa a H => ?_))))
     replace AN := AG.store AN (fx Ch) ho; replace AD := AG.store AD (fx BM) ho; replace k0 := Ae k0 (ho _ (by omega)); clear hb ho
     refine zA (zB (zD (kR 3 H R λ a H => Gb (new := rA ({ c with nonce := ((c.nonce + 1) % 1073741825), state := 1, ask := (c.now), code := 6 }) vi vo) (H.e R) Am k Wr (Cv AM AO R) oI (Jp AM AO) Aa H fun w' hb ho k Aa a H => ?_)))
     replace AN := AG.store AN (fx Ch) ho; replace AD := AG.store AD (fx BM) ho; replace k0 := Ae k0 (ho _ (by omega)); clear hb ho
     refine zA ?_
     have h4 : p.fld 4 = 6 := by omega
     have e : Ep c p = { c with nonce := (c.nonce + 1) % 1073741825, ask := c.now, state := 1, code := 6 } := by rw [Ep, if_neg (by omega), if_pos ⟨by omega, by omega, by omega⟩, h4]
     have Ca := ED hc hr hk
     rw [e] at Ca ⊢
     exact EF H R ⟨R, ⟨Ca, _, _, k, ⟨AN, Ch⟩, AD, BM⟩, Aa⟩
    ·
     refine kE 1 H R R (fun w' Aj => A9 U3 (H.e R) Am (AF (FR))) R λ a H => Aw (NoPanic.normal ?_)
     replace k := Ad.ups k hS
     replace AN := AG.up AN hS
     replace AD := AG.up AD hS
     replace k0 := Ad.ups k0 hS
     replace Aa := Aa.trans (Below.mono hS Aa.size)
     clear hS
     refine zB (zG H R (zE ?_))
     have e : Ep c p = c := by rw [Ep, if_neg (by omega), if_neg (by omega)]
     have Ca := ED hc hr hk
     rw [e] at Ca ⊢
     exact EF H R ⟨R, ⟨Ca, _, _, k, ⟨AN, Ch⟩, AD, BM⟩, Aa⟩
   ·
    refine kE 6 H R R (fun w' Aj => A9 U3 (H.e R) (H.e R) (AF (F3))) R λ a H => Aw (NoPanic.normal ?_)
    replace k := Ad.ups k hS
    replace AN := AG.up AN hS
    replace AD := AG.up AD hS
    replace k0 := Ad.ups k0 hS
    replace Aa := Aa.trans (Below.mono hS Aa.size)
    clear hS
    refine zB (zG H R (zE ?_))
    have e : Ep c p = c := by rw [Ep, if_neg (by omega), if_neg (by omega)]
    have Ca := ED hc hr hk
    rw [e] at Ca ⊢
    exact EF H R ⟨R, ⟨Ca, _, _, k, ⟨AN, Ch⟩, AD, BM⟩, Aa⟩
  ·
   refine kE 14 H R R (fun w' Aj => A9 U3 (H.e R) Am (AF (Fg))) R λ a H => Aw (NoPanic.normal ?_)
   replace k := Ad.ups k hS
   replace AN := AG.up AN hS
   replace AD := AG.up AD hS
   replace k0 := Ad.ups k0 hS
   replace Aa := Aa.trans (Below.mono hS Aa.size)
   clear hS
   refine zB (zG H R (zE ?_))
   have e : Ep c p = c := by rw [Ep, if_neg (by omega), if_neg (by omega)]
   have Ca := ED hc hr hk
   rw [e] at Ca ⊢
   exact EF H R ⟨R, ⟨Ca, _, _, k, ⟨AN, Ch⟩, AD, BM⟩, Aa⟩
theorem RW [Dw] (w : World) (b : Nat) (c : Cl) (h : F1 w b c)(p : AZ) (hp : p.ok) (hr : Bg p = true) (hk : p.fld 0 = 11) (Ah : Fm c p = true) (hX : Dw.lim b ≤ w.heap.size) : Calls Tryz.prog 60 #[.pointer (some ⟨b, 0, none⟩), .agg (pv p)] w fun e w' => e = .returned (.tuple #[]) ∧ F1 w' b (Hi c p) ∧ Bi b none w w' := by
 obtain ⟨hc, vi, vo, k, ⟨AN, Ch⟩, AD, BM⟩ := h
 have AM := hc.ck
 have AO := hc.key
 have IF := hc.now
 have Gu := hc.seq
 have Jf := hc.beats
 have IE := hc.nonce
 have Aa := Bi.refl b none w
 obtain ⟨Ao, co, Su⟩ := CY AD
 subst Su
 have QU := hc.os
 have pP := AN
 refine Az 77 Tryz.func60 R R λ a H => zC (zD (B7 36 (.tmp 1) (pv p) (H.e R) fun w0 b0 Ak hb k0 => ?_))
 have g0 := Nat.le_trans Aa.size Ak; have PF : b < b0 := Nat.lt_of_lt_of_le k.lt Ak; replace k := k.ups hb; replace AN := AG.up AN hb; replace AD := AG.up AD hb; replace Aa := Aa.tr hb; clear hb; clear Ak; refine kl H rfl λ a H => zA (zB (zC (zC ?_)))
 by_cases hL : c.os.length = 0
 ·
  have FO := Aa
  refine rB 16 (Dn [0, 1, 2, 3, 4, 5, 6, 7, 8, 9, 10, 11, 12, 13, 14, 15] .done) fun hS => kQ 3 H R λ a H => kF H R R (fun w' Aj => Ai FG R (H.e R) ((show _ = some (.slice Ao c.os.length co : Value) from IP (c := c) AM AO (Ad.ups k Aj)))) R λ a H => kF H R R (fun w' Aj => Ba FG (H.e R)) R λ a H => kE 10 H R R (fun w' Aj => A9 U3 (H.e R) Am dT) R λ a H => Aw (NoPanic.normal ?_)
  replace k := Ad.ups k hS
  replace AN := AG.up AN hS
  replace AD := AG.up AD hS
  replace k0 := Ad.ups k0 hS
  replace Aa := Aa.trans (Below.mono hS Aa.size)
  clear hS
  refine zB (zH H R (zF (zJ ?_)))
  have e : Hi c p = c := Qs (List.eq_nil_of_length_eq_zero hL)
  rw [e]
  exact Je H R ⟨R, ⟨hc, _, _, k, ⟨AN, Ch⟩, AD, BM⟩, Aa⟩
 ·
  obtain ⟨o, l, UW⟩ : ∃ o l, c.os = o :: l := by
   cases he : c.os with
   | nil => exact absurd (by rw [he]; rfl) hL
   | cons o l => exact ⟨o, l, rfl⟩
  have HOS := Lib.hid UW
  have aG : c.os.length = l.length + 1 := by rw [UW]; rfl
  clear UW
  refine rB 16 (Dn [0, 1, 2, 3, 4, 5, 6, 7, 8, 9, 10, 11, 12, 13, 14, 15] .done) fun hS => kQ 3 H R λ a H => kF H R R (fun w' Aj => Ai FG R (H.e R) ((show _ = some (.slice Ao c.os.length co : Value) from IP (c := c) AM AO (Ad.ups k Aj)))) R λ a H => kF H R R (fun w' Aj => Ba FG (H.e R)) R λ a H => kE 2 H R R (fun w' Aj => A9 U3 (H.e R) Am dF) R λ a H => kE 3 H R R (fun w' Aj => Ai U3 R (H.e R) (AB (Ad.ups k0 Aj) (AQ hp (j := 2) (by omega)))) R λ a H => kF H R R (fun w' Aj => Ai U3 R (H.e R) ((show _ = some (J (c.seq)) from RY (c := c) AM AO (Ad.ups k Aj)))) R λ a H => kF H R R (fun w' Aj => Bm (q := (c.seq) + 1) U3 (H.e R) Am (by omega) (by omega)) R λ a H => ?_
  by_cases BE : (p.fld 2) ≠ ((c.seq) + 1)
  ·
   refine kE 1 H R R (fun w' Aj => E6 U3 (H.e R) (H.e R) (AE (BE))) R λ a H => Aw (NoPanic.normal ?_)
   replace k := Ad.ups k hS
   replace AN := AG.up AN hS
   replace AD := AG.up AD hS
   replace k0 := Ad.ups k0 hS
   replace Aa := Aa.trans (Below.mono hS Aa.size)
   clear hS
   refine zB (zH H R (zF (zJ ?_)))
   have e : Hi c p = c := Ma (.inr (by omega))
   rw [e]
   exact Je H R ⟨R, ⟨hc, _, _, k, ⟨AN, Ch⟩, AD, BM⟩, Aa⟩
  ·
   refine kE 1 H R R (fun w' Aj => E6 U3 (H.e R) (H.e R) (AF (BE))) R λ a H => Aw (NoPanic.normal ?_)
   replace k := Ad.ups k hS
   replace AN := AG.up AN hS
   replace AD := AG.up AD hS
   replace k0 := Ad.ups k0 hS
   replace Aa := Aa.trans (Below.mono hS Aa.size)
   clear hS
   refine zB (zG H R (zE (zB (zC ?_))))
   obtain ⟨bo, oo, hA, KO⟩ := CK Cr (BW AD) (by omega) (j := 0) (by omega)
   subst hA
   have aB := AD.slice_le
   rw [show c.os[0] = o by simp [HOS.out]] at KO
   refine zD (kR 3 H R λ a H => kV H (Ai FG R (H.e R) ((show _ = some (.slice (some ⟨bo, oo, none⟩) c.os.length co : Value) from IP (c := c) AM AO k))) R λ a H => kV (v := .pointer (some ⟨bo, oo + 0 * 4, none⟩)) H (Bq (j := 0) (q := oo + 0 * 4) FG JY (H.e R) Am (by omega) R) R λ a H => kV H (AL (cs := [J o.1, J o.2.1, J o.2.2.1, J o.2.2.2]) (H.e R) (KO) (by kernel_rfl) JY R) R λ a H => De 32 4 (.tmp 28) #[J o.1, J o.2.1, J o.2.2.1, J o.2.2.2] _ mH JY R (Di [o.1, o.2.1, o.2.2.1, o.2.2.2]) (fun p => (H.put 4 p R).ev R) (fun p => (H.put 4 p R).ev R) fun w1 b1 Ak hb k1 => ?_)
   have g1 := Nat.le_trans Aa.size Ak; have eD : b < b1 := Nat.lt_of_lt_of_le k.lt Ak; replace k := k.ups hb; replace AN := AG.up AN hb; replace AD := AG.up AD hb; replace k0 := k0.ups hb; replace Aa := Aa.tr hb; clear hb; clear Ak; refine kl H rfl λ a H => zA (zB (zC ?_))
   clear KO
   refine zD (kR 1 H R λ a H => BP 73 0 #[] 32 #[] (by simp) (fun w => by kernel_rfl) fun w1 be Ak hb kk => ?_)
   have q0 := Dk (base := w.heap.size) (size := 4) kk (Nat.le_trans Aa.size Ak); have YZ := k.lt; have qae := k0.lt; have qad := k1.lt; replace k := k.ups hb; replace AN := AG.up AN hb; replace AD := AG.up AD hb; replace k0 := k0.ups hb; replace k1 := k1.ups hb; replace Aa := Aa.tr hb; clear hb; clear kk; refine kL 3 H rfl λ a H => kV H (Ai FG rfl (H.ev rfl) ((show _ = some (.slice (some ⟨bo, oo, none⟩) c.os.length co : Value) from IP (c := c) AM AO k))) rfl λ a H => kV (v := .slice (C6 (some ⟨bo, oo, none⟩) co 1 4) l.length (co - 1)) H (BS FG (.slice (some ⟨bo, oo, none⟩) c.os.length co) (some (J (1 : Nat))) none none (H.ev rfl) rfl rfl rfl (CF 1 c.os.length FG JY _ _ (.inr rfl) (.inl ⟨rfl, rfl⟩) (by omega) (by omega) rfl (by omega) rfl)) rfl λ a H => BX 73 32 (.tmp 30) (.tmp 35) w.heap.size (.agg #[J 0, J 0, J 0, J 0]) 4 32 _ 0 [] (C6 (some ⟨bo, oo, none⟩) co 1 4) l.length (co - 1) (FV EM l) (H.ev rfl) (H.ev rfl) FG QQ rfl (by omega) q0 (Cu Cr _) (BW (AG.tl HOS.out aG AD)) (CI _ _) (by unfold maxLen; omega) (by omega) Aa.size fun v8 w9 Ah hg _ hb => ?_
   have AU : BN EM 32 4 w9 w.heap.size v8 l := Jc Cr (by omega) Ah rfl; clear Ah q0 AD; replace AU := GG AU hX; replace k := Ad.grown k hg (by simp [Value.ownBlock]; omega); replace k0 := Ad.grown k0 hg (by simp [Value.ownBlock]; omega); replace k1 := Ad.grown k1 hg (by simp [Value.ownBlock]; omega); replace Aa := Aa.trans hb; clear AN; have AN := AG.gone pP (fx Ch) Aa; obtain ⟨A2, c2, Xd⟩ := HB AU; subst Xd; refine kL 2 H rfl λ a H => Gb (new := rA c vi (.slice A2 l.length c2)) (H.ev rfl) (H.ev rfl) k ZK (Cv AM AO rfl) oS (PV AM AO) Aa H fun w' hb ho k Aa a H => ?_
   replace AN := AG.store AN (fx Ch) ho; replace k0 := Ae k0 (ho _ (by omega)); replace k1 := Ae k1 (ho _ (by omega)); have Hk : Ct (Dw.lim b) (.slice A2 l.length c2) := C0 AU (Nat.le_refl _); have AD : Id _ (.slice A2 l.length c2) l := AG.store (BN.row AU Cr (by omega)) (fx Hk) ho; clear AU BM; have BM := Hk; clear Hk; clear hb ho
   refine zA (zB (zC (zD (kR 2 H R λ a H => kX 2 H (Ai U3 R (H.e R) (AB k0 (AQ hp (j := 2) (by omega)))) R λ a H => Gb (new := rA ({ c with seq := (p.fld 2) }) vi (.slice A2 l.length c2)) (H.e R) (H.e R) k s3 (Cv AM AO R) oI (RP AM AO) Aa H fun w' hb ho k Aa a H => ?_))))
   replace AN := AG.store AN (fx Ch) ho; replace k0 := Ae k0 (ho _ (by omega)); replace k1 := Ae k1 (ho _ (by omega)); replace AD := AG.store AD (fx BM) ho; clear hb ho
   refine zA (zB (zC (zD (kR 4 H R λ a H => kX 2 H (Ai U3 R (H.e R) ((show _ = some (J (c.now)) from Fu (c := { c with seq := (p.fld 2) }) AM AO k))) R λ a H => Gb (new := rA ({ c with seq := (p.fld 2), say := (c.now) }) vi (.slice A2 l.length c2)) (H.e R) (H.e R) k s3 (Cv AM AO R) oI (OP AM AO) Aa H fun w' hb ho k Aa a H => ?_))))
   replace AN := AG.store AN (fx Ch) ho; replace k0 := Ae k0 (ho _ (by omega)); replace k1 := Ae k1 (ho _ (by omega)); replace AD := AG.store AD (fx BM) ho; clear hb ho
   refine zA (zB (zC (zD (kR 2 H R λ a H => kX 2 H (Ai U3 R (H.e R) (AB k0 (AQ hp (j := 4) (by omega)))) R λ a H => Gb (new := rA ({ c with seq := (p.fld 2), say := (c.now), code := (p.fld 4) }) vi (.slice A2 l.length c2)) (H.e R) (H.e R) k Wr (Cv AM AO R) oI (Jp AM AO) Aa H fun w' hb ho k Aa a H => ?_))))
   replace AN := AG.store AN (fx Ch) ho; replace k0 := Ae k0 (ho _ (by omega)); replace k1 := Ae k1 (ho _ (by omega)); replace AD := AG.store AD (fx BM) ho; clear hb ho
   refine zA (zB (zC (zD (kR 1 H R λ a H => kV H (Ai U3 R (H.e R) ((Ad.cell k1 0).trans R)) R λ a H => ?_))))
   by_cases Cn : o.1 = 10
   ·
    refine kV H (A9 U3 (H.e R) Am (AE (Cn))) R λ a H => zA (zB (zH H R (zC (zD (kR 3 H R λ a H => kV (v := .agg (V8 (c.vw))) H (AL (cs := PC (c.vw)) (H.e R) (MC (c := { c with seq := (p.fld 2), say := (c.now), code := (p.fld 4) }) AM AO k : World.rangeAt _ b 46 (PC c.vw)) (by kernel_rfl) fL R) R λ a H => De 77 5 (.tmp 62) (V8 (c.vw)) _ xX Yr (by rw [IH, IH]) (OD _) (fun p => (H.put 5 p R).ev R) (fun p => (H.put 5 p R).ev R) fun w2 b2 Ak hb k2 => ?_)))))
    have g2 := Nat.le_trans Aa.size Ak; have db2 : b < b2 := Nat.lt_of_lt_of_le k.lt Ak; replace k := k.ups hb; replace AN := AG.up AN hb; replace k0 := k0.ups hb; replace k1 := k1.ups hb; replace AD := AG.up AD hb; replace Aa := Aa.tr hb; clear hb; clear Ak; refine kl H rfl λ a H => zA (zB (zC (zD (kR 3 H rfl λ a H => kX 1 H (Ai O8 rfl (H.ev rfl) ((show _ = some (J ((p.fld 4))) from OY (c := { c with seq := (p.fld 2), say := (c.now), code := (p.fld 4) }) AM AO k))) rfl λ a H => zA (zB (zC (zD (kR 1 H rfl λ a H => kC 0 (Qv _ b { c with seq := (p.fld 2), say := (c.now), code := (p.fld 4) } _ _ hc.user AM AO k) (Av eS (H.ev rfl)) H rfl fun w9 a ⟨k9, CD⟩ H => ?_))))))))
    clear k AN AD Ch BM AM AO; have k := k9; clear k9; have AM : EB.length = 16 := E5; have AO : EB.length = 16 := E5; replace k2 := Ad.onlym k2 (by omega) (show AW _ none (fun _ => none) from fun u => rfl) CD; clear k1 k0; replace Aa := Bi.thin Aa CD
    refine zA (zB (zC (zD (kR 1 H R λ a H => kX 2 (v := .agg (V8 (c.vw))) H (Af b2 77 _ _ (H.e R) k2 Tryz.underlying77 R Yr) R λ a H => Cp 77 (.tmp 72) (.tmp 70) b 46 79 (V8 (c.vw)) _ (H.e R) (H.e R) k (Yr (V := c.vw)) (by rw [Eb (c := (G3 c.user)) AM AO]; rw [IH]; omega) (OD _) fun w' hb ho kq => ?_))))
    clear k; rw [PU (c := (G3 c.user)) AM AO] at kq; have k : Ad _ b 79 (rA ({ (G3 c.user) with vw := c.vw }) (.slice none 0 0) (.slice none 0 0)) := kq; replace k2 := Ae k2 (ho _ (by omega)); replace Aa := Aa.store (hb b (Nat.le_refl _)) ho; clear hb ho kq; refine Dz H λ a H => zA (zB (zD (kR 4 H rfl λ a H => Gb (new := rA ({ (G3 c.user) with vw := c.vw, code := ((p.fld 4)) }) (.slice none 0 0) (.slice none 0 0)) (H.ev rfl) (H.ev rfl) k Wr (Cv AM AO rfl) oI (Jp AM AO) Aa H fun w' hb ho k Aa a H => ?_)))
    replace k2 := Ae k2 (ho _ (by omega)); clear hb ho
    refine zA ?_
    have e : Hi c p = Gp c p o l := Km HOS.out ⟨Ah, by omega⟩
    have Ca := Pb hc hr hk
    rw [e, Gp, if_pos (by omega)] at Ca
    rw [e, Gp, if_pos (by omega)]
    exact EF H R ⟨R, ⟨Ca, _, _, k, ⟨AG.nil, Cj⟩, AG.nil, Cj⟩, Aa⟩
   ·
    refine kV H (A9 U3 (H.e R) Am (AF (Cn))) R λ a H => zA (zB (zG H R (zE ?_)))
    have e : Hi c p = Gp c p o l := Km HOS.out ⟨Ah, by omega⟩
    have Ca := Pb hc hr hk
    rw [e, Gp, if_neg (by omega)] at Ca
    rw [e, Gp, if_neg (by omega)]
    exact EF H R ⟨R, ⟨Ca, _, _, k, ⟨AN, Ch⟩, AD, BM⟩, Aa⟩
end Go.Proofs.YtbnmpoonkjlkjaaGreat
