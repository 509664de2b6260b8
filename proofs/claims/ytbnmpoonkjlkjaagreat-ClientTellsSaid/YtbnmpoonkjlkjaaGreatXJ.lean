/- Client: part J of the proof. -/
import Derived.Test.YtbnmpoonkjlkjaaGreatXI
namespace Go.Proofs.YtbnmpoonkjlkjaaGreat
open Go.RowKit
set_option linter.unusedVariables false
set_option linter.unusedSimpArgs false
set_option maxRecDepth 100000
set_option maxHeartbeats 8000000
section
theorem Nk {c : Cl} {p : AZ} (h : Dc c) (hp : p.ok) (hr : Bg p = true) (hk : p.fld 0 = 2) : Dc (Nj c p) := by
 have h2 := DM hr (s := (99, 4, 0, 1073741824)) (by rw [hk]; decide)
 exact { h with ck := hp.2.1, epoch := h2, state := ⟨show (0 : Int) ≤ 2 by decide, show (2 : Int) ≤ 3 by decide⟩, on := fun e => absurd (show (2 : Int) = 3 from e) (by decide), off := fun e => absurd (show (2 : Int) = 0 from e) (by decide) }
theorem QN {i bt sy nx : Int} {l : List B8} {v : Value} (hl : l.length = 16) : (YM i l bt sy nx v).size = 23 := by simp [YM, hl]
theorem YL {i bt sy nx : Int} {l : List B8} {A : Option Addr} {n c : Nat} : (YM i l bt sy nx (.slice A n c)).all (·.oneCell') = true := by simp [YM, Value.oneCell']
theorem Rw {q : Int} (h : 0 ≤ q ∧ q ≤ 1073741825) : (Jj q).ok := Jd rfl rfl rfl fun x hx => by
 simp only [List.mem_cons, List.not_mem_nil, or_false] at hx
 omega
theorem T0 {o : Nt} {q : Int} (h : Ej o) (hq : 0 ≤ q ∧ q ≤ 1073741826) : (LP o q).ok := Jd rfl rfl rfl fun x hx => by
 unfold Ej at h
 simp only [List.mem_cons, List.not_mem_nil, or_false] at hx
 omega
theorem CY {α : Type} {enc : α → List Int} {w : World} {v : Value} {L : List α} (h : AG enc w v L) : ∃ A c, v = .slice A L.length c := by
 obtain ⟨A, c, e, _⟩ := h
 exact ⟨A, c, e⟩
section
variable {d : Option Tmp} {tt : TypeId} {ps : String} {af : Array Edge} {gd : Option (Nat × Bool)} {a : Act} {w : World} {x0 x1 x4 x5 x6 x y : Operand} {t t2 : TypeId}
theorem bZ {i bt sy : Int} {k : List B8} (hk : k.length = 16) (h0 : a.eval x0 = J i) (h1 : a.eval x1 = .agg (BL k)) (h4 : a.eval x4 = J bt) (h5 : a.eval x5 = J sy) (h6 : a.eval x6 = .agg #[J 1, .slice none 0 0]) :
  (execOp a.eval ⟨d, .build 72 #[(0, x0), (1, x1), (4, x4), (5, x5), (6, x6)], tt, ps, af, gd⟩).run Tryz.prog w = .ok (.value (.agg (YM i k bt sy 1 (.slice none 0 0)))) w := by
 obtain ⟨s0, s1, s2, s3, s4, s5, s6, s7, s8, s9, s10, s11, s12, s13, s14, s15, rfl⟩ := BV hk
 exact Bl #[(0, J i), (1, .agg (BL [s0, s1, s2, s3, s4, s5, s6, s7, s8, s9, s10, s11, s12, s13, s14, s15])), (4, J bt), (5, J sy), (6, .agg #[J 1, .slice none 0 0])] _ (by simp [h0, h1, h4, h5, h6]) (fun w => by kernel_rfl)
theorem Pd {P : Program} {m n : Int} (ht : P.underlying t = some (.int .i64)) (hx : a.eval x = J m) (hy : a.eval y = J n) (hm : 0 ≤ m) (hn : 0 < n) : (execOp a.eval ⟨d, .binOp .rem t x y t2, tt, ps, af, gd⟩).run P w = .ok (.value (J (m % n))) w := by
 obtain ⟨p, rfl⟩ := Int.eq_ofNat_of_zero_le hm
 obtain ⟨q, rfl⟩ := Int.eq_ofNat_of_zero_le (Int.le_of_lt hn)
 exact MI ht hx hy (by omega)
end
theorem Qb {c : Cl} (h : c.os = []) : I9 c = c ∧ Kj c = [] := by
 unfold I9 Kj
 split
 · exact ⟨rfl, rfl⟩
 ·
  rename_i e
  rw [h] at e
  cases e
theorem Qe {c : Cl} {o : Nt} {l : List Nt} (h : c.os = o :: l) (hn : ¬ c.now < c.say) : I9 c = { c with say := c.now + 4 } := by
 unfold I9
 split
 ·
  rename_i e
  rw [h] at e
  cases e
 · exact if_neg hn
theorem Qd {c : Cl} {o : Nt} {l : List Nt} (h : c.os = o :: l) (hn : ¬ c.now < c.say) : Kj c = I8 c (LP o (c.seq + 1)) := by
 unfold Kj
 split
 ·
  rename_i e
  rw [h] at e
  cases e
 ·
  rename_i e
  rw [h] at e
  injection e with e1 e2
  subst e1
  exact if_neg hn
theorem Qc {c : Cl} {o : Nt} {l : List Nt} (h : c.os = o :: l) (hn : c.now < c.say) : I9 c = c ∧ Kj c = [] := by
 unfold I9 Kj
 split
 · exact ⟨rfl, rfl⟩
 · exact ⟨if_pos hn, if_pos hn⟩
theorem Rq [Dw] (w : World) (b : Nat) (m : Option Nat) (c : Cl) (h : Bn w b m c)(p : AZ) (hp : p.ok) (hr : Bg p = true) (hk : p.fld 0 = 2) : Calls Tryz.prog 52 #[.pointer (some ⟨b, 0, none⟩), .agg (pv p)] w fun e w' => (∃ v, e = .returned v ∧ AK w' w.heap.size v (LI c p)) ∧ Bn w' b m (LJ c p) ∧ Bi b m w w' := by
 obtain ⟨hc, ⟨vi, vo, k, ⟨AN, Ch⟩, AD, BM⟩, Bw, Dr⟩ := h
 have AM := hc.ck
 have AO := hc.key
 have IF := hc.now
 have Gu := hc.seq
 have Jf := hc.beats
 have IE := hc.nonce
 have Aa := Bi.refl b m w
 refine Az 34 Tryz.func52 R R λ a H => zC (zD (B7 36 (.tmp 1) (pv p) (H.e R) fun w0 b0 Ak hb k0 => ?_))
 have g0 := Nat.le_trans Aa.size Ak; have PF : b < b0 := Nat.lt_of_lt_of_le k.lt Ak; replace k := k.ups hb; replace AN := AG.up AN hb; replace AD := AG.up AD hb; replace Bw := AW.ups Bw hb; replace Aa := Aa.tr hb; clear hb; clear Ak; refine kL 1 H rfl λ a H => zA (zB (zC (zC (rB 14 (Dn [0, 1, 2, 3, 4, 5, 6, 7, 8, 9, 10, 11, 12, 13] .done) fun hS => kQ 3 H rfl λ a H => kF H rfl rfl (fun w' Aj => Ai U3 rfl (H.ev rfl) ((show _ = some (J (c.state)) from CS (c := c) AM AO (Ad.ups k Aj)))) rfl λ a H => ?_))))
 by_cases BE : (c.state) ≠ 1
 ·
  refine kE 9 H R R (fun w' Aj => E6 U3 (H.e R) Am (AE (BE))) R λ a H => Aw (NoPanic.normal ?_)
  replace k := Ad.ups k hS
  replace AN := AG.up AN hS
  replace AD := AG.up AD hS
  replace Bw := AW.ups Bw hS
  replace k0 := Ad.ups k0 hS
  replace Aa := Aa.trans (Below.mono hS Aa.size)
  clear hS
  exact zB (zH H R (zC (zD (kR 1 H R λ a H => zA (zB (zF (zJ (Ag H R R ⟨⟨_, R, by rw [LI, if_neg (by omega)]; exact Bd⟩, by rw [LJ, if_neg (by omega)]; exact ⟨hc, ⟨_, _, k, ⟨AN, Ch⟩, AD, BM⟩, Bw, Dr⟩, Aa⟩))))))))
 ·
  refine kE 2 H R R (fun w' Aj => E6 U3 (H.e R) Am (AF (BE))) R λ a H => kE 3 H R R (fun w' Aj => Ai U3 R (H.e R) (AB (Ad.ups k0 Aj) (AQ hp (j := 10) (by omega)))) R λ a H => kF H R R (fun w' Aj => Ai U3 R (H.e R) ((show _ = some (J (c.nonce)) from GR (c := c) AM AO (Ad.ups k Aj)))) R λ a H => ?_
  by_cases Cn : (p.fld 10) ≠ (c.nonce)
  ·
   refine kE 1 H R R (fun w' Aj => E6 U3 (H.e R) (H.e R) (AE (Cn))) R λ a H => Aw (NoPanic.normal ?_)
   replace k := Ad.ups k hS
   replace AN := AG.up AN hS
   replace AD := AG.up AD hS
   replace Bw := AW.ups Bw hS
   replace k0 := Ad.ups k0 hS
   replace Aa := Aa.trans (Below.mono hS Aa.size)
   clear hS
   exact zB (zH H R (zC (zD (kR 1 H R λ a H => zA (zB (zF (zJ (Ag H R R ⟨⟨_, R, by rw [LI, if_neg (by omega)]; exact Bd⟩, by rw [LJ, if_neg (by omega)]; exact ⟨hc, ⟨_, _, k, ⟨AN, Ch⟩, AD, BM⟩, Bw, Dr⟩, Aa⟩))))))))
  ·
   refine kE 1 H R R (fun w' Aj => E6 U3 (H.e R) (H.e R) (AF (Cn))) R λ a H => Aw (NoPanic.normal ?_)
   replace k := Ad.ups k hS
   replace AN := AG.up AN hS
   replace AD := AG.up AD hS
   replace Bw := AW.ups Bw hS
   replace k0 := Ad.ups k0 hS
   replace Aa := Aa.trans (Below.mono hS Aa.size)
   clear hS
   refine zB (zG H R (zE (zB (zC ?_))))
   have DT := Aa
   have hS : Cz b (Cy DT) _ := Ed _ _
   refine rT (Cz b (Cy DT)) 16 (Dn [0, 1, 2, 3, 4, 5, 6, 7, 8] (.one 9 (.fl 10 (.fl 11 (.one 12 (.fl 13 (.fl 14 (.one 15 .done)))))))) hS ?_
   have Nw := BB (c := c) AM AO k
   have Mh := k0
   replace k := Ad.ups k (Below.drew (Below.refl _ _))
   replace AN := AG.up AN (Below.drew (Below.refl _ _))
   replace AD := AG.up AD (Below.drew (Below.refl _ _))
   replace Bw := AW.ups Bw (Below.drew (Below.refl _ _))
   replace k0 := Ad.ups k0 (Below.drew (Below.refl _ _))
   replace Aa := Aa.trans (Below.drew (Below.refl _ _))
   refine kQ 4 H R λ a H => kE 1 H R R (fun w' Aj => Ai U3 R (H.e R) (AB (Ad.grown Mh Aj.1 (by simp; omega)) (AQ hp (j := 11) (by omega)))) R λ a H => kE 2 H R R (fun w' Aj => AL (cs := (p.sec).map u8v) (H.e R) (IW (Ad.grown Mh Aj.1 (by simp; omega)) hp) (by kernel_rfl) (by rw [List.length_map, hp.2.1]; exact Ft) R) R λ a H => Al (fun K hK => A7 R ?_)
   have Cm := BB (c := c) AM AO k; refine AX 3 (.tmp 27) (.tmp 23) b 4 76 (J (p.fld 11)) _ (H.ev rfl) (H.ev rfl) k s3 (by rw [Cc (c := c) AM AO]; show 4 + 1 ≤ 48; omega) (by simp [Value.cells, Value.oneCell']) fun w' hb ho kq => ?_; clear k; rw [VZ (c := c) AM AO] at kq; have k : Ad _ b 76 (Dm { c with epoch := (p.fld 11) } vi vo m) := kq; replace AN := AG.store AN (fx Ch) ho; replace AD := AG.store AD (fx BM) ho; replace Bw := AW.store Bw Dr (hb b (Nat.le_refl _)) ho; replace k0 := Ae k0 (ho _ (by omega)); replace Aa := Aa.store (hb b (Nat.le_refl _)) ho; replace hS := Cz.store hS (hb b (Nat.le_refl _)) ho ((BB (c := { c with epoch := (p.fld 11) }) AM AO k).trans Cm.symm); clear Cm; clear hb ho kq; refine kU 2 hK hS H rfl λ a H => ?_; clear hK K
   refine Al (fun K hK => A7 R ?_)
   have Cm := BB (c := { c with epoch := (p.fld 11) }) AM AO k; refine E9 33 (.tmp 29) (.tmp 25) b 5 76 (BL (p.sec)) _ (H.ev rfl) (H.ev rfl) k (by rw [Bk, hp.2.1]; exact Ft) (by rw [Cc (c := { c with epoch := (p.fld 11) }) AM AO, Bk, hp.2.1]; omega) (D5 _) fun w' hb ho kq => ?_; clear k; rw [fJ (c := { c with epoch := (p.fld 11) }) AM AO hp.2.1] at kq; have hc1' := hp.2.1; clear AM; have AM := hc1'; clear hc1'; have k : Ad _ b 76 (Dm { c with epoch := (p.fld 11), ck := p.sec } vi vo m) := kq; replace AN := AG.store AN (fx Ch) ho; replace AD := AG.store AD (fx BM) ho; replace Bw := AW.store Bw Dr (hb b (Nat.le_refl _)) ho; replace k0 := Ae k0 (ho _ (by omega)); replace Aa := Aa.store (hb b (Nat.le_refl _)) ho; replace hS := Cz.store hS (hb b (Nat.le_refl _)) ho ((BB (c := { c with epoch := (p.fld 11), ck := p.sec }) AM AO k).trans Cm.symm); clear Cm; clear hb ho kq; refine kU 2 hK hS H rfl λ a H => ?_; clear hK K
   refine Al (fun K hK => A7 R ?_)
   have Cm := BB (c := { c with epoch := (p.fld 11), ck := p.sec }) AM AO k; refine AX 3 (.tmp 31) (.const (J 2)) b 1 76 (J 2) _ (H.ev rfl) Am k s3 (by rw [Cc (c := { c with epoch := (p.fld 11), ck := p.sec }) AM AO]; show 1 + 1 ≤ 48; omega) (by simp [Value.cells, Value.oneCell']) fun w' hb ho kq => ?_; clear k; rw [H2 (c := { c with epoch := (p.fld 11), ck := p.sec }) AM AO] at kq; have k : Ad _ b 76 (Dm { c with epoch := (p.fld 11), ck := p.sec, state := 2 } vi vo m) := kq; replace AN := AG.store AN (fx Ch) ho; replace AD := AG.store AD (fx BM) ho; replace Bw := AW.store Bw Dr (hb b (Nat.le_refl _)) ho; replace k0 := Ae k0 (ho _ (by omega)); replace Aa := Aa.store (hb b (Nat.le_refl _)) ho; replace hS := Cz.store hS (hb b (Nat.le_refl _)) ho ((BB (c := { c with epoch := (p.fld 11), ck := p.sec, state := 2 }) AM AO k).trans Cm.symm); clear Cm; clear hb ho kq; refine kU 0 hK hS H rfl λ a H => ?_; clear hK K
   refine Aw (NoPanic.normal ?_)
   clear hS Nw Mh
   refine zB (zC (zD (kR 1 H R λ a H => A8 _ _ _ (Xb _ b m (Nj c p) ⟨Nk hc hp hr hk, ⟨_, _, k, ⟨AN, Ch⟩, AD, BM⟩, Bw, Dr⟩) (Av kA (H.e R)) ?_)))
   rintro e w9 ⟨⟨v, rfl, D1⟩, Be, CD⟩; refine ⟨_, rfl, ?_⟩; replace D1 := AK.base D1 Aa.size; replace Aa := Bi.comp Aa (Eg.same _ _) CD; exact kL 1 H rfl λ a H => zA (zB (zF (Ag H rfl rfl ⟨⟨_, rfl, by rw [LI, if_pos ⟨by omega, by omega⟩]; exact D1⟩, by rw [LJ, if_pos ⟨by omega, by omega⟩]; exact Be, Aa⟩)))
theorem P9 [Dw] (w : World) (b : Nat) (m : Option Nat) (c : Cl) (h : Bn w b m c)(p : AZ) (hp : p.ok) (hr : Bg p = true) (hk : p.fld 0 = 4) : Calls Tryz.prog 53 #[.pointer (some ⟨b, 0, none⟩), .agg (pv p)] w fun e w' => (∃ v, e = .returned v ∧ AK w' w.heap.size v ([])) ∧ Bn w' b m (NB c p) ∧ Bi b m w w' := by
 obtain ⟨hc, ⟨vi, vo, k, ⟨AN, Ch⟩, AD, BM⟩, Bw, Dr⟩ := h
 have AM := hc.ck
 have AO := hc.key
 have IF := hc.now
 have Gu := hc.seq
 have Jf := hc.beats
 have IE := hc.nonce
 have Aa := Bi.refl b m w
 refine Az 39 Tryz.func53 R R λ a H => zC (zD (B7 36 (.tmp 1) (pv p) (H.e R) fun w0 b0 Ak hb k0 => ?_))
 have g0 := Nat.le_trans Aa.size Ak; have PF : b < b0 := Nat.lt_of_lt_of_le k.lt Ak; replace k := k.ups hb; replace AN := AG.up AN hb; replace AD := AG.up AD hb; replace Bw := AW.ups Bw hb; replace Aa := Aa.tr hb; clear hb; clear Ak; refine kL 1 H rfl λ a H => zA (zB (zC (zC (rB 14 (Dn [0, 1, 2, 3, 4, 5, 6, 7, 8, 9, 10, 11, 12, 13] .done) fun hS => kQ 3 H rfl λ a H => kF H rfl rfl (fun w' Aj => Ai U3 rfl (H.ev rfl) ((show _ = some (J (c.state)) from CS (c := c) AM AO (Ad.ups k Aj)))) rfl λ a H => ?_))))
 by_cases BE : (c.state) = 2
 ·
  refine kE 2 H R R (fun w' Aj => A9 U3 (H.e R) Am (AE (BE))) R λ a H => kE 3 H R R (fun w' Aj => Ai U3 R (H.e R) (AB (Ad.ups k0 Aj) (AQ hp (j := 10) (by omega)))) R λ a H => kF H R R (fun w' Aj => Ai U3 R (H.e R) ((show _ = some (J (c.nonce)) from GR (c := c) AM AO (Ad.ups k Aj)))) R λ a H => ?_
  by_cases Cn : (p.fld 10) = (c.nonce)
  ·
   refine kE 1 H R R (fun w' Aj => A9 U3 (H.e R) (H.e R) (AE (Cn))) R λ a H => Aw (NoPanic.normal ?_)
   replace k := Ad.ups k hS
   replace AN := AG.up AN hS
   replace AD := AG.up AD hS
   replace Bw := AW.ups Bw hS
   replace k0 := Ad.ups k0 hS
   replace Aa := Aa.trans (Below.mono hS Aa.size)
   clear hS
   refine zB (zH H R (zC (zD (kR 3 H R λ a H => Gb (new := Dm ({ c with state := 3 }) vi vo m) (H.e R) Am k s3 (FT AM AO R) oI (H2 AM AO) Aa H fun w' hb ho k Aa a H => ?_))))
   replace AN := AG.store AN (fx Ch) ho; replace AD := AG.store AD (fx BM) ho; replace Bw := AW.store Bw Dr hb ho; replace k0 := Ae k0 (ho _ (by omega)); clear hb ho
   refine zA (zB (rB 17 (Dn [0, 1, 2, 3, 4, 5, 6, 7, 8, 9, 10, 11, 12] (.one 13 (Dn [14, 15, 16] (.one 17 .done)))) fun hS => kQ 2 H R λ a H => kE 1 H R R (fun w' Aj => Ai U3 R (H.e R) (AB (Ad.ups k0 Aj) (AQ hp (j := 1) (by omega)))) R λ a H => kE 3 H R R (fun w' Aj => AL (cs := (p.sec).map u8v) (H.e R) (IW (Ad.ups k0 Aj) hp) (by kernel_rfl) (by rw [List.length_map, hp.2.1]; exact Ft) R) R λ a H => kE 3 H R R (fun w' Aj => Ai U3 R (H.e R) ((show _ = some (J (c.now)) from BB (c := { c with state := 3 }) AM AO (Ad.ups k Aj)))) R λ a H => kF H R R (fun w' Aj => Ai U3 R (H.e R) ((show _ = some (J (c.now)) from BB (c := { c with state := 3 }) AM AO (Ad.ups k Aj)))) R λ a H => Al (fun K hK => A7 R (kD (Uu _) (Kt sP) fun w9 hb => ?_))))
   replace hS := Below.trans hS (Below.mono hb (Below.size hS)); clear hb; refine kS 0 hK hS H rfl λ a H => ?_; clear hK K
   refine kE 2 (v := .agg (YM (p.fld 1) p.sec c.now c.now 1 (.slice none 0 0))) H R R (fun w' Aj => bZ hp.2.1 (H.e R) (H.e R) (H.e R) (H.e R) (H.e R)) R λ a H => Al (fun K hK => ?_)
   replace k := Ad.ups k hS
   replace AN := AG.up AN hS
   replace AD := AG.up AD hS
   replace Bw := AW.ups Bw hS
   replace k0 := Ad.ups k0 hS
   replace Aa := Aa.trans (Below.mono hS Aa.size)
   refine A7 R (E9 72 (.tmp 38) (.tmp 36) b 22 76 (YM (p.fld 1) p.sec c.now c.now 1 (.slice none 0 0)) _ (H.e R) (H.e R) k (by rw [QN hp.2.1]; exact yT) (by rw [Cc (c := { c with state := 3 }) AM AO, QN hp.2.1]; omega) YL fun w' hb ho kq => ?_); clear k; rw [Yo (c := { c with state := 3 }) AM AO hp.2.1] at kq; have k := kq; replace AN := AG.store AN (fx Ch) ho; replace AD := AG.store AD (fx BM) ho; replace Bw := AW.store Bw Dr (hb b (Nat.le_refl _)) ho; replace k0 := Ae k0 (ho _ (by omega)); replace Aa := Aa.store (hb b (Nat.le_refl _)) ho; clear hb ho kq; refine hK _ _ ⟨(fun h => absurd R h), ?_⟩; clear hK K hS
   refine Aw (NoPanic.normal (zB (zC (zD (kR 1 H R λ a H => zA (zB (zF ?_)))))))
   have e : NB c p = { c with state := 3, id := p.fld 1, key := p.sec, beats := 0, seq := 0, beat := c.now, say := c.now, next := 1, items := [] } := if_pos ⟨by omega, by omega⟩
   have Ca := XS hc hp hr hk
   rw [e] at Ca ⊢
   exact Ag H R R ⟨⟨_, R, Bd⟩, ⟨Ca, ⟨_, _, k, ⟨AG.nil, Cj⟩, AD, BM⟩, Bw, Dr⟩, Aa⟩
  ·
   refine kE 1 H R R (fun w' Aj => A9 U3 (H.e R) (H.e R) (AF (Cn))) R λ a H => Aw (NoPanic.normal ?_)
   replace k := Ad.ups k hS
   replace AN := AG.up AN hS
   replace AD := AG.up AD hS
   replace Bw := AW.ups Bw hS
   replace k0 := Ad.ups k0 hS
   replace Aa := Aa.trans (Below.mono hS Aa.size)
   clear hS
   exact zB (zG H R (zE (zB (zC (zD (kR 1 H R λ a H => zA (zB (zF (Ag H R R ⟨⟨_, R, Bd⟩, by rw [NB, if_neg (by omega)]; exact ⟨hc, ⟨_, _, k, ⟨AN, Ch⟩, AD, BM⟩, Bw, Dr⟩, Aa⟩)))))))))
 ·
  refine kE 9 H R R (fun w' Aj => A9 U3 (H.e R) Am (AF (BE))) R λ a H => Aw (NoPanic.normal ?_)
  replace k := Ad.ups k hS
  replace AN := AG.up AN hS
  replace AD := AG.up AD hS
  replace Bw := AW.ups Bw hS
  replace k0 := Ad.ups k0 hS
  replace Aa := Aa.trans (Below.mono hS Aa.size)
  clear hS
  exact zB (zG H R (zE (zB (zC (zD (kR 1 H R λ a H => zA (zB (zF (Ag H R R ⟨⟨_, R, Bd⟩, by rw [NB, if_neg (by omega)]; exact ⟨hc, ⟨_, _, k, ⟨AN, Ch⟩, AD, BM⟩, Bw, Dr⟩, Aa⟩)))))))))
theorem Qt [Dw] (w : World) (b : Nat) (m : Option Nat) (c : Cl) (h : Bn w b m c)(p : AZ) (hp : p.ok) (hr : Bg p = true) (hk : p.fld 0 = 12) : Calls Tryz.prog 54 #[.pointer (some ⟨b, 0, none⟩), .agg (pv p)] w fun e w' => (∃ v, e = .returned v ∧ AK w' w.heap.size v ([])) ∧ Bn w' b m (Ep c p) ∧ Bi b m w w' := by
 obtain ⟨hc, ⟨vi, vo, k, ⟨AN, Ch⟩, AD, BM⟩, Bw, Dr⟩ := h
 have AM := hc.ck
 have AO := hc.key
 have IF := hc.now
 have Gu := hc.seq
 have Jf := hc.beats
 have IE := hc.nonce
 have Aa := Bi.refl b m w
 refine Az 73 Tryz.func54 R R λ a H => zC (zD (B7 36 (.tmp 1) (pv p) (H.e R) fun w0 b0 Ak hb k0 => ?_))
 have g0 := Nat.le_trans Aa.size Ak; have PF : b < b0 := Nat.lt_of_lt_of_le k.lt Ak; replace k := k.ups hb; replace AN := AG.up AN hb; replace AD := AG.up AD hb; replace Bw := AW.ups Bw hb; replace Aa := Aa.tr hb; clear hb; clear Ak; refine kL 1 H rfl λ a H => zA (zB (zC (wp_block (zC (rB 15 (Dn [0, 1, 2, 3, 4, 5, 6, 7, 8, 9, 10, 11, 12, 13, 14] .done) fun hS => kQ 3 H rfl λ a H => kF H rfl rfl (fun w' Aj => Ai U3 rfl (H.ev rfl) ((show _ = some (J (c.state)) from CS (c := c) AM AO (Ad.ups k Aj)))) rfl λ a H => ?_)))))
 by_cases BE : (c.state) = 2
 ·
  refine kE 2 H R R (fun w' Aj => A9 U3 (H.e R) Am (AE (BE))) R λ a H => kE 3 H R R (fun w' Aj => Ai U3 R (H.e R) (AB (Ad.ups k0 Aj) (AQ hp (j := 10) (by omega)))) R λ a H => kF H R R (fun w' Aj => Ai U3 R (H.e R) ((show _ = some (J (c.nonce)) from GR (c := c) AM AO (Ad.ups k Aj)))) R λ a H => ?_
  by_cases Cn : (p.fld 10) = (c.nonce)
  ·
   refine kE 2 H R R (fun w' Aj => A9 U3 (H.e R) (H.e R) (AE (Cn))) R λ a H => Aw (NoPanic.normal ?_)
   replace k := Ad.ups k hS
   replace AN := AG.up AN hS
   replace AD := AG.up AD hS
   replace Bw := AW.ups Bw hS
   replace k0 := Ad.ups k0 hS
   replace Aa := Aa.trans (Below.mono hS Aa.size)
   clear hS
   refine zB (zH H R (zD (kR 4 H R λ a H => kV H (Ai U3 R (H.e R) ((show _ = some (J (c.now)) from BB (c := c) AM AO k))) R λ a H => kX 2 H (Bm (q := (c.now) + 4) U3 (H.e R) Am) R λ a H => Gb (new := Dm ({ c with ask := ((c.now) + 4) }) vi vo m) (H.e R) (H.e R) k s3 (FT AM AO R) oI (Mw AM AO) Aa H fun w' hb ho k Aa a H => ?_)))
   replace AN := AG.store AN (fx Ch) ho; replace AD := AG.store AD (fx BM) ho; replace Bw := AW.store Bw Dr hb ho; replace k0 := Ae k0 (ho _ (by omega)); clear hb ho
   refine zA (AC (zB (zC ?_)))
   have Fp := Aa
   have hS : Cz b (Cy Fp) _ := Ed _ _
   refine rT (Cz b (Cy Fp)) 10 (Dn [0, 1, 2, 3, 4, 5] (.one 6 (.fl 7 (.fl 8 (.one 9 .done))))) hS ?_
   have Nw := BB (c := { c with ask := ((c.now) + 4) }) AM AO k
   have Mh := k0
   replace k := Ad.ups k (Below.drew (Below.refl _ _))
   replace AN := AG.up AN (Below.drew (Below.refl _ _))
   replace AD := AG.up AD (Below.drew (Below.refl _ _))
   replace Bw := AW.ups Bw (Below.drew (Below.refl _ _))
   replace k0 := Ad.ups k0 (Below.drew (Below.refl _ _))
   replace Aa := Aa.trans (Below.drew (Below.refl _ _))
   refine kQ 3 H R λ a H => kE 2 H R R (fun w' Aj => Ai U3 R (H.e R) (AB (Ad.grown Mh Aj.1 (by simp; omega)) (AQ hp (j := 4) (by omega)))) R λ a H => Al (fun K hK => A7 R ?_)
   have Cm := BB (c := { c with ask := ((c.now) + 4) }) AM AO k; refine AX 3 (.tmp 70) (.const (J 1)) b 1 76 (J 1) _ (H.ev rfl) Am k s3 (by rw [Cc (c := { c with ask := ((c.now) + 4) }) AM AO]; show 1 + 1 ≤ 48; omega) (by simp [Value.cells, Value.oneCell']) fun w' hb ho kq => ?_; clear k; rw [H2 (c := { c with ask := ((c.now) + 4) }) AM AO] at kq; have k : Ad _ b 76 (Dm { c with ask := ((c.now) + 4), state := 1 } vi vo m) := kq; replace AN := AG.store AN (fx Ch) ho; replace AD := AG.store AD (fx BM) ho; replace Bw := AW.store Bw Dr (hb b (Nat.le_refl _)) ho; replace k0 := Ae k0 (ho _ (by omega)); replace Aa := Aa.store (hb b (Nat.le_refl _)) ho; replace hS := Cz.store hS (hb b (Nat.le_refl _)) ho ((BB (c := { c with ask := ((c.now) + 4), state := 1 }) AM AO k).trans Cm.symm); clear Cm; clear hb ho kq; refine kU 2 hK hS H rfl λ a H => ?_; clear hK K
   refine Al (fun K hK => A7 R ?_)
   have Cm := BB (c := { c with ask := ((c.now) + 4), state := 1 }) AM AO k; refine AX 46 (.tmp 72) (.tmp 68) b 47 76 (J (p.fld 4)) _ (H.ev rfl) (H.ev rfl) k Wr (by rw [Cc (c := { c with ask := ((c.now) + 4), state := 1 }) AM AO]; show 47 + 1 ≤ 48; omega) (by simp [Value.cells, Value.oneCell']) fun w' hb ho kq => ?_; clear k; rw [Kc (c := { c with ask := ((c.now) + 4), state := 1 }) AM AO] at kq; have k : Ad _ b 76 (Dm { c with ask := ((c.now) + 4), state := 1, code := (p.fld 4) } vi vo m) := kq; replace AN := AG.store AN (fx Ch) ho; replace AD := AG.store AD (fx BM) ho; replace Bw := AW.store Bw Dr (hb b (Nat.le_refl _)) ho; replace k0 := Ae k0 (ho _ (by omega)); replace Aa := Aa.store (hb b (Nat.le_refl _)) ho; replace hS := Cz.store hS (hb b (Nat.le_refl _)) ho ((BB (c := { c with ask := ((c.now) + 4), state := 1, code := (p.fld 4) }) AM AO k).trans Cm.symm); clear Cm; clear hb ho kq; refine kU 0 hK hS H rfl λ a H => ?_; clear hK K
   refine Aw (NoPanic.normal ?_)
   clear hS Nw Mh
   refine zB (zC (zD (kR 1 H R λ a H => zA (zB (zF ?_)))))
   have e : Ep c p = { c with ask := c.now + 4, state := 1, code := p.fld 4 } := by rw [Ep, if_pos ⟨by omega, by omega⟩]
   have Ca := ED hc hr hk
   rw [e] at Ca ⊢
   exact Ag H R R ⟨⟨_, R, Bd⟩, ⟨Ca, ⟨_, _, k, ⟨AN, Ch⟩, AD, BM⟩, Bw, Dr⟩, Aa⟩
  ·
   refine kE 2 H R R (fun w' Aj => A9 U3 (H.e R) (H.e R) (AF (Cn))) R λ a H => Aw (NoPanic.normal ?_)
   replace k := Ad.ups k hS
   replace AN := AG.up AN hS
   replace AD := AG.up AD hS
   replace Bw := AW.ups Bw hS
   replace k0 := Ad.ups k0 hS
   replace Aa := Aa.trans (Below.mono hS Aa.size)
   clear hS
   refine zB (zG H R (zC ?_))
   have Oo := Aa
   refine rB 21 (Dn [0, 1, 2, 3, 4, 5, 6, 7, 8, 9, 10, 11, 12, 13, 14, 15, 16, 17, 18, 19, 20] .done) fun hS => kQ 3 H R λ a H => kF H R R (fun w' Aj => Ai U3 R (H.e R) ((show _ = some (J (c.state)) from CS (c := c) AM AO (Ad.ups k Aj)))) R λ a H => ?_
   by_cases CP : (c.state) = 3
   ·
    refine kE 2 H R R (fun w' Aj => A9 U3 (H.e R) Am (AE (CP))) R λ a H => kE 3 H R R (fun w' Aj => Ai U3 R (H.e R) (AB (Ad.ups k0 Aj) (AQ hp (j := 10) (by omega)))) R λ a H => kF H R R (fun w' Aj => Br (q := 22) KD (H.e R) R) R λ a H => kF H R R (fun w' Aj => Ai U3 R (H.e R) ((show _ = some (J (c.id)) from Rs (c := c) AM AO (Ad.ups k Aj)))) R λ a H => ?_
    by_cases DJ : (p.fld 10) = (c.id)
    ·
     refine kE 3 H R R (fun w' Aj => A9 U3 (H.e R) (H.e R) (AE (DJ))) R λ a H => kF H R R (fun w' Aj => Ai U3 R (H.e R) (AB (Ad.ups k0 Aj) (AQ hp (j := 4) (by omega)))) R λ a H => ?_
     by_cases Em : (p.fld 4) = 6
     ·
      refine kE 2 H R R (fun w' Aj => A9 U3 (H.e R) Am (AE (Em))) R λ a H => Aw (NoPanic.normal ?_)
      replace k := Ad.ups k hS
      replace AN := AG.up AN hS
      replace AD := AG.up AD hS
      replace Bw := AW.ups Bw hS
      replace k0 := Ad.ups k0 hS
      replace Aa := Aa.trans (Below.mono hS Aa.size)
      clear hS
      refine zB (zH H R ?_)
      have EK := Aa
      have hS : Cz b (Cy EK) _ := Ed _ _
      refine rT (Cz b (Cy EK)) 18 (Dn [0, 1, 2, 3, 4, 8, 9, 10, 11] (.one 5 (Dn [6, 7, 12, 13] (.one 14 (.fl 15 (.fl 16 (.one 17 .done))))))) hS ?_
      have Nw := BB (c := c) AM AO k
      have Mh := k0
      replace k := Ad.ups k (Below.drew (Below.refl _ _))
      replace AN := AG.up AN (Below.drew (Below.refl _ _))
      replace AD := AG.up AD (Below.drew (Below.refl _ _))
      replace Bw := AW.ups Bw (Below.drew (Below.refl _ _))
      replace k0 := Ad.ups k0 (Below.drew (Below.refl _ _))
      replace Aa := Aa.trans (Below.drew (Below.refl _ _))
      refine kQ 8 H R λ a H => kF H R R (fun w' Aj => Ai U3 R (H.e R) (((Aj.2.trans Nw : _ = some (J (c.now)))))) R λ a H => Al (fun K hK => A7 R (Ly _ _ (Ai U3 R (H.e R) ((show _ = some (J (c.nonce)) from GR (c := c) AM AO k))) (kS 0 hK hS H R λ a H => ?_)))
      clear hK K
      refine kF H R R (fun w' Aj => Bm (q := (c.nonce) + 1) U3 (H.e R) Am (by omega) (by omega)) R λ a H => kE 2 (v := J ((c.nonce + 1) % 1073741825)) H R R (fun w' Aj => Pd U3 (H.e R) Am (by omega) (by omega)) R λ a H => Al (fun K hK => A7 R ?_)
      have Cm := BB (c := c) AM AO k; refine AX 3 (.tmp 62) (.tmp 56) b 3 76 (J ((c.nonce + 1) % 1073741825)) _ (H.ev rfl) (H.ev rfl) k s3 (by rw [Cc (c := c) AM AO]; show 3 + 1 ≤ 48; omega) (by simp [Value.cells, Value.oneCell']) fun w' hb ho kq => ?_; clear k; rw [Mv (c := c) AM AO] at kq; have k : Ad _ b 76 (Dm { c with nonce := ((c.nonce + 1) % 1073741825) } vi vo m) := kq; replace AN := AG.store AN (fx Ch) ho; replace AD := AG.store AD (fx BM) ho; replace Bw := AW.store Bw Dr (hb b (Nat.le_refl _)) ho; replace k0 := Ae k0 (ho _ (by omega)); replace Aa := Aa.store (hb b (Nat.le_refl _)) ho; replace hS := Cz.store hS (hb b (Nat.le_refl _)) ho ((BB (c := { c with nonce := ((c.nonce + 1) % 1073741825) }) AM AO k).trans Cm.symm); clear Cm; clear hb ho kq; refine kU 2 hK hS H rfl λ a H => ?_; clear hK K
      refine Al (fun K hK => A7 R ?_)
      have Cm := BB (c := { c with nonce := ((c.nonce + 1) % 1073741825) }) AM AO k; refine AX 3 (.tmp 64) (.tmp 60) b 21 76 (J (c.now)) _ (H.ev rfl) (H.ev rfl) k s3 (by rw [Cc (c := { c with nonce := ((c.nonce + 1) % 1073741825) }) AM AO]; show 21 + 1 ≤ 48; omega) (by simp [Value.cells, Value.oneCell']) fun w' hb ho kq => ?_; clear k; rw [Mw (c := { c with nonce := ((c.nonce + 1) % 1073741825) }) AM AO] at kq; have k : Ad _ b 76 (Dm { c with nonce := ((c.nonce + 1) % 1073741825), ask := (c.now) } vi vo m) := kq; replace AN := AG.store AN (fx Ch) ho; replace AD := AG.store AD (fx BM) ho; replace Bw := AW.store Bw Dr (hb b (Nat.le_refl _)) ho; replace k0 := Ae k0 (ho _ (by omega)); replace Aa := Aa.store (hb b (Nat.le_refl _)) ho; replace hS := Cz.store hS (hb b (Nat.le_refl _)) ho ((BB (c := { c with nonce := ((c.nonce + 1) % 1073741825), ask := (c.now) }) AM AO k).trans Cm.symm); clear Cm; clear hb ho kq; refine kU 0 hK hS H rfl λ a H => ?_; clear hK K
      refine Aw (NoPanic.normal ?_)
      clear hS Nw Mh
      refine AC (zB (zC ?_))
      have Fp := Aa
      have hS : Cz b (Cy Fp) _ := Ed _ _
      refine rT (Cz b (Cy Fp)) 10 (Dn [0, 1, 2, 3, 4, 5] (.one 6 (.fl 7 (.fl 8 (.one 9 .done))))) hS ?_
      have Nw := BB (c := { c with nonce := ((c.nonce + 1) % 1073741825), ask := (c.now) }) AM AO k
      have Mh := k0
      replace k := Ad.ups k (Below.drew (Below.refl _ _))
      replace AN := AG.up AN (Below.drew (Below.refl _ _))
      replace AD := AG.up AD (Below.drew (Below.refl _ _))
      replace Bw := AW.ups Bw (Below.drew (Below.refl _ _))
      replace k0 := Ad.ups k0 (Below.drew (Below.refl _ _))
      replace Aa := Aa.trans (Below.drew (Below.refl _ _))
      refine kQ 3 H R λ a H => kE 2 H R R (fun w' Aj => Ai U3 R (H.e R) (AB (Ad.grown Mh Aj.1 (by simp; omega)) (AQ hp (j := 4) (by omega)))) R λ a H => Al (fun K hK => A7 R ?_)
      have Cm := BB (c := { c with nonce := ((c.nonce + 1) % 1073741825), ask := (c.now) }) AM AO k; refine AX 3 (.tmp 70) (.const (J 1)) b 1 76 (J 1) _ (H.ev rfl) Am k s3 (by rw [Cc (c := { c with nonce := ((c.nonce + 1) % 1073741825), ask := (c.now) }) AM AO]; show 1 + 1 ≤ 48; omega) (by simp [Value.cells, Value.oneCell']) fun w' hb ho kq => ?_; clear k; rw [H2 (c := { c with nonce := ((c.nonce + 1) % 1073741825), ask := (c.now) }) AM AO] at kq; have k : Ad _ b 76 (Dm { c with nonce := ((c.nonce + 1) % 1073741825), ask := (c.now), state := 1 } vi vo m) := kq; replace AN := AG.store AN (fx Ch) ho; replace AD := AG.store AD (fx BM) ho; replace Bw := AW.store Bw Dr (hb b (Nat.le_refl _)) ho; replace k0 := Ae k0 (ho _ (by omega)); replace Aa := Aa.store (hb b (Nat.le_refl _)) ho; replace hS := Cz.store hS (hb b (Nat.le_refl _)) ho ((BB (c := { c with nonce := ((c.nonce + 1) % 1073741825), ask := (c.now), state := 1 }) AM AO k).trans Cm.symm); clear Cm; clear hb ho kq; refine kU 2 hK hS H rfl λ a H => ?_; clear hK K
      refine Al (fun K hK => A7 R ?_)
      have Cm := BB (c := { c with nonce := ((c.nonce + 1) % 1073741825), ask := (c.now), state := 1 }) AM AO k; refine AX 46 (.tmp 72) (.tmp 68) b 47 76 (J (p.fld 4)) _ (H.ev rfl) (H.ev rfl) k Wr (by rw [Cc (c := { c with nonce := ((c.nonce + 1) % 1073741825), ask := (c.now), state := 1 }) AM AO]; show 47 + 1 ≤ 48; omega) (by simp [Value.cells, Value.oneCell']) fun w' hb ho kq => ?_; clear k; rw [Kc (c := { c with nonce := ((c.nonce + 1) % 1073741825), ask := (c.now), state := 1 }) AM AO] at kq; have k : Ad _ b 76 (Dm { c with nonce := ((c.nonce + 1) % 1073741825), ask := (c.now), state := 1, code := (p.fld 4) } vi vo m) := kq; replace AN := AG.store AN (fx Ch) ho; replace AD := AG.store AD (fx BM) ho; replace Bw := AW.store Bw Dr (hb b (Nat.le_refl _)) ho; replace k0 := Ae k0 (ho _ (by omega)); replace Aa := Aa.store (hb b (Nat.le_refl _)) ho; replace hS := Cz.store hS (hb b (Nat.le_refl _)) ho ((BB (c := { c with nonce := ((c.nonce + 1) % 1073741825), ask := (c.now), state := 1, code := (p.fld 4) }) AM AO k).trans Cm.symm); clear Cm; clear hb ho kq; refine kU 0 hK hS H rfl λ a H => ?_; clear hK K
      refine Aw (NoPanic.normal ?_)
      clear hS Nw Mh
      refine zB (zC (zD (kR 1 H R λ a H => zA (zB (zF ?_)))))
      have e : Ep c p = { c with nonce := (c.nonce + 1) % 1073741825, ask := c.now, state := 1, code := p.fld 4 } := by rw [Ep, if_neg (by omega), if_pos ⟨by omega, by omega, by omega⟩]
      have Ca := ED hc hr hk
      rw [e] at Ca ⊢
      exact Ag H R R ⟨⟨_, R, Bd⟩, ⟨Ca, ⟨_, _, k, ⟨AN, Ch⟩, AD, BM⟩, Bw, Dr⟩, Aa⟩
     ·
      refine kE 2 H R R (fun w' Aj => A9 U3 (H.e R) Am (AF (Em))) R λ a H => Aw (NoPanic.normal ?_)
      replace k := Ad.ups k hS
      replace AN := AG.up AN hS
      replace AD := AG.up AD hS
      replace Bw := AW.ups Bw hS
      replace k0 := Ad.ups k0 hS
      replace Aa := Aa.trans (Below.mono hS Aa.size)
      clear hS
      refine zB (zG H R (zC (zD (kR 1 H R λ a H => zA (zB (zF (AS (zJ ?_))))))))
      have e : Ep c p = c := by rw [Ep, if_neg (by omega), if_neg (by omega)]
      have Ca := ED hc hr hk
      rw [e] at Ca ⊢
      exact Ag H R R ⟨⟨_, R, Bd⟩, ⟨Ca, ⟨_, _, k, ⟨AN, Ch⟩, AD, BM⟩, Bw, Dr⟩, Aa⟩
    ·
     refine kE 7 H R R (fun w' Aj => A9 U3 (H.e R) (H.e R) (AF (DJ))) R λ a H => Aw (NoPanic.normal ?_)
     replace k := Ad.ups k hS
     replace AN := AG.up AN hS
     replace AD := AG.up AD hS
     replace Bw := AW.ups Bw hS
     replace k0 := Ad.ups k0 hS
     replace Aa := Aa.trans (Below.mono hS Aa.size)
     clear hS
     refine zB (zG H R (zC (zD (kR 1 H R λ a H => zA (zB (zF (AS (zJ ?_))))))))
     have e : Ep c p = c := by rw [Ep, if_neg (by omega), if_neg (by omega)]
     have Ca := ED hc hr hk
     rw [e] at Ca ⊢
     exact Ag H R R ⟨⟨_, R, Bd⟩, ⟨Ca, ⟨_, _, k, ⟨AN, Ch⟩, AD, BM⟩, Bw, Dr⟩, Aa⟩
   ·
    refine kE 16 H R R (fun w' Aj => A9 U3 (H.e R) Am (AF (CP))) R λ a H => Aw (NoPanic.normal ?_)
    replace k := Ad.ups k hS
    replace AN := AG.up AN hS
    replace AD := AG.up AD hS
    replace Bw := AW.ups Bw hS
    replace k0 := Ad.ups k0 hS
    replace Aa := Aa.trans (Below.mono hS Aa.size)
    clear hS
    refine zB (zG H R (zC (zD (kR 1 H R λ a H => zA (zB (zF (AS (zJ ?_))))))))
    have e : Ep c p = c := by rw [Ep, if_neg (by omega), if_neg (by omega)]
    have Ca := ED hc hr hk
    rw [e] at Ca ⊢
    exact Ag H R R ⟨⟨_, R, Bd⟩, ⟨Ca, ⟨_, _, k, ⟨AN, Ch⟩, AD, BM⟩, Bw, Dr⟩, Aa⟩
 ·
  refine kE 10 H R R (fun w' Aj => A9 U3 (H.e R) Am (AF (BE))) R λ a H => Aw (NoPanic.normal ?_)
  replace k := Ad.ups k hS
  replace AN := AG.up AN hS
  replace AD := AG.up AD hS
  replace Bw := AW.ups Bw hS
  replace k0 := Ad.ups k0 hS
  replace Aa := Aa.trans (Below.mono hS Aa.size)
  clear hS
  refine zB (zG H R (zC (rB 21 (Dn [0, 1, 2, 3, 4, 5, 6, 7, 8, 9, 10, 11, 12, 13, 14, 15, 16, 17, 18, 19, 20] .done) fun hS => kQ 3 H R λ a H => kF H R R (fun w' Aj => Ai U3 R (H.e R) ((show _ = some (J (c.state)) from CS (c := c) AM AO (Ad.ups k Aj)))) R λ a H => ?_)))
  by_cases Fg : (c.state) = 3
  ·
   refine kE 2 H R R (fun w' Aj => A9 U3 (H.e R) Am (AE (Fg))) R λ a H => kE 3 H R R (fun w' Aj => Ai U3 R (H.e R) (AB (Ad.ups k0 Aj) (AQ hp (j := 10) (by omega)))) R λ a H => kF H R R (fun w' Aj => Br (q := 22) KD (H.e R) R) R λ a H => kF H R R (fun w' Aj => Ai U3 R (H.e R) ((show _ = some (J (c.id)) from Rs (c := c) AM AO (Ad.ups k Aj)))) R λ a H => ?_
   by_cases F3 : (p.fld 10) = (c.id)
   ·
    refine kE 3 H R R (fun w' Aj => A9 U3 (H.e R) (H.e R) (AE (F3))) R λ a H => kF H R R (fun w' Aj => Ai U3 R (H.e R) (AB (Ad.ups k0 Aj) (AQ hp (j := 4) (by omega)))) R λ a H => ?_
    by_cases FR : (p.fld 4) = 6
    ·
     refine kE 2 H R R (fun w' Aj => A9 U3 (H.e R) Am (AE (FR))) R λ a H => Aw (NoPanic.normal ?_)
     replace k := Ad.ups k hS
     replace AN := AG.up AN hS
     replace AD := AG.up AD hS
     replace Bw := AW.ups Bw hS
     replace k0 := Ad.ups k0 hS
     replace Aa := Aa.trans (Below.mono hS Aa.size)
     clear hS
     refine zB (zH H R ?_)
     have EK := Aa
     have hS : Cz b (Cy EK) _ := Ed _ _
     refine rT (Cz b (Cy EK)) 18 (Dn [0, 1, 2, 3, 4, 8, 9, 10, 11] (.one 5 (Dn [6, 7, 12, 13] (.one 14 (.fl 15 (.fl 16 (.one 17 .done))))))) hS ?_
     have Nw := BB (c := c) AM AO k
     have Mh := k0
     replace k := Ad.ups k (Below.drew (Below.refl _ _))
     replace AN := AG.up AN (Below.drew (Below.refl _ _))
     replace AD := AG.up AD (Below.drew (Below.refl _ _))
     replace Bw := AW.ups Bw (Below.drew (Below.refl _ _))
     replace k0 := Ad.ups k0 (Below.drew (Below.refl _ _))
     replace Aa := Aa.trans (Below.drew (Below.refl _ _))
     refine kQ 8 H R λ a H => kF H R R (fun w' Aj => Ai U3 R (H.e R) (((Aj.2.trans Nw : _ = some (J (c.now)))))) R λ a H => Al (fun K hK => A7 R (Ly _ _ (Ai U3 R (H.e R) ((show _ = some (J (c.nonce)) from GR (c := c) AM AO k))) (kS 0 hK hS H R λ a H => ?_)))
     clear hK K
     refine kF H R R (fun w' Aj => Bm (q := (c.nonce) + 1) U3 (H.e R) Am (by omega) (by omega)) R λ a H => kE 2 (v := J ((c.nonce + 1) % 1073741825)) H R R (fun w' Aj => Pd U3 (H.e R) Am (by omega) (by omega)) R λ a H => Al (fun K hK => A7 R ?_)
     have Cm := BB (c := c) AM AO k; refine AX 3 (.tmp 62) (.tmp 56) b 3 76 (J ((c.nonce + 1) % 1073741825)) _ (H.ev rfl) (H.ev rfl) k s3 (by rw [Cc (c := c) AM AO]; show 3 + 1 ≤ 48; omega) (by simp [Value.cells, Value.oneCell']) fun w' hb ho kq => ?_; clear k; rw [Mv (c := c) AM AO] at kq; have k : Ad _ b 76 (Dm { c with nonce := ((c.nonce + 1) % 1073741825) } vi vo m) := kq; replace AN := AG.store AN (fx Ch) ho; replace AD := AG.store AD (fx BM) ho; replace Bw := AW.store Bw Dr (hb b (Nat.le_refl _)) ho; replace k0 := Ae k0 (ho _ (by omega)); replace Aa := Aa.store (hb b (Nat.le_refl _)) ho; replace hS := Cz.store hS (hb b (Nat.le_refl _)) ho ((BB (c := { c with nonce := ((c.nonce + 1) % 1073741825) }) AM AO k).trans Cm.symm); clear Cm; clear hb ho kq; refine kU 2 hK hS H rfl λ a H => ?_; clear hK K
     refine Al (fun K hK => A7 R ?_)
     have Cm := BB (c := { c with nonce := ((c.nonce + 1) % 1073741825) }) AM AO k; refine AX 3 (.tmp 64) (.tmp 60) b 21 76 (J (c.now)) _ (H.ev rfl) (H.ev rfl) k s3 (by rw [Cc (c := { c with nonce := ((c.nonce + 1) % 1073741825) }) AM AO]; show 21 + 1 ≤ 48; omega) (by simp [Value.cells, Value.oneCell']) fun w' hb ho kq => ?_; clear k; rw [Mw (c := { c with nonce := ((c.nonce + 1) % 1073741825) }) AM AO] at kq; have k : Ad _ b 76 (Dm { c with nonce := ((c.nonce + 1) % 1073741825), ask := (c.now) } vi vo m) := kq; replace AN := AG.store AN (fx Ch) ho; replace AD := AG.store AD (fx BM) ho; replace Bw := AW.store Bw Dr (hb b (Nat.le_refl _)) ho; replace k0 := Ae k0 (ho _ (by omega)); replace Aa := Aa.store (hb b (Nat.le_refl _)) ho; replace hS := Cz.store hS (hb b (Nat.le_refl _)) ho ((BB (c := { c with nonce := ((c.nonce + 1) % 1073741825), ask := (c.now) }) AM AO k).trans Cm.symm); clear Cm; clear hb ho kq; refine kU 0 hK hS H rfl λ a H => ?_; clear hK K
     refine Aw (NoPanic.normal ?_)
     clear hS Nw Mh
     refine AC (zB (zC ?_))
     have Fp := Aa
     have hS : Cz b (Cy Fp) _ := Ed _ _
     refine rT (Cz b (Cy Fp)) 10 (Dn [0, 1, 2, 3, 4, 5] (.one 6 (.fl 7 (.fl 8 (.one 9 .done))))) hS ?_
     have Nw := BB (c := { c with nonce := ((c.nonce + 1) % 1073741825), ask := (c.now) }) AM AO k
     have Mh := k0
     replace k := Ad.ups k (Below.drew (Below.refl _ _))
     replace AN := AG.up AN (Below.drew (Below.refl _ _))
     replace AD := AG.up AD (Below.drew (Below.refl _ _))
     replace Bw := AW.ups Bw (Below.drew (Below.refl _ _))
     replace k0 := Ad.ups k0 (Below.drew (Below.refl _ _))
     replace Aa := Aa.trans (Below.drew (Below.refl _ _))
     refine kQ 3 H R λ a H => kE 2 H R R (fun w' Aj => Ai U3 R (H.e R) (AB (Ad.grown Mh Aj.1 (by simp; omega)) (AQ hp (j := 4) (by omega)))) R λ a H => Al (fun K hK => A7 R ?_)
     have Cm := BB (c := { c with nonce := ((c.nonce + 1) % 1073741825), ask := (c.now) }) AM AO k; refine AX 3 (.tmp 70) (.const (J 1)) b 1 76 (J 1) _ (H.ev rfl) Am k s3 (by rw [Cc (c := { c with nonce := ((c.nonce + 1) % 1073741825), ask := (c.now) }) AM AO]; show 1 + 1 ≤ 48; omega) (by simp [Value.cells, Value.oneCell']) fun w' hb ho kq => ?_; clear k; rw [H2 (c := { c with nonce := ((c.nonce + 1) % 1073741825), ask := (c.now) }) AM AO] at kq; have k : Ad _ b 76 (Dm { c with nonce := ((c.nonce + 1) % 1073741825), ask := (c.now), state := 1 } vi vo m) := kq; replace AN := AG.store AN (fx Ch) ho; replace AD := AG.store AD (fx BM) ho; replace Bw := AW.store Bw Dr (hb b (Nat.le_refl _)) ho; replace k0 := Ae k0 (ho _ (by omega)); replace Aa := Aa.store (hb b (Nat.le_refl _)) ho; replace hS := Cz.store hS (hb b (Nat.le_refl _)) ho ((BB (c := { c with nonce := ((c.nonce + 1) % 1073741825), ask := (c.now), state := 1 }) AM AO k).trans Cm.symm); clear Cm; clear hb ho kq; refine kU 2 hK hS H rfl λ a H => ?_; clear hK K
     refine Al (fun K hK => A7 R ?_)
     have Cm := BB (c := { c with nonce := ((c.nonce + 1) % 1073741825), ask := (c.now), state := 1 }) AM AO k; refine AX 46 (.tmp 72) (.tmp 68) b 47 76 (J (p.fld 4)) _ (H.ev rfl) (H.ev rfl) k Wr (by rw [Cc (c := { c with nonce := ((c.nonce + 1) % 1073741825), ask := (c.now), state := 1 }) AM AO]; show 47 + 1 ≤ 48; omega) (by simp [Value.cells, Value.oneCell']) fun w' hb ho kq => ?_; clear k; rw [Kc (c := { c with nonce := ((c.nonce + 1) % 1073741825), ask := (c.now), state := 1 }) AM AO] at kq; have k : Ad _ b 76 (Dm { c with nonce := ((c.nonce + 1) % 1073741825), ask := (c.now), state := 1, code := (p.fld 4) } vi vo m) := kq; replace AN := AG.store AN (fx Ch) ho; replace AD := AG.store AD (fx BM) ho; replace Bw := AW.store Bw Dr (hb b (Nat.le_refl _)) ho; replace k0 := Ae k0 (ho _ (by omega)); replace Aa := Aa.store (hb b (Nat.le_refl _)) ho; replace hS := Cz.store hS (hb b (Nat.le_refl _)) ho ((BB (c := { c with nonce := ((c.nonce + 1) % 1073741825), ask := (c.now), state := 1, code := (p.fld 4) }) AM AO k).trans Cm.symm); clear Cm; clear hb ho kq; refine kU 0 hK hS H rfl λ a H => ?_; clear hK K
     refine Aw (NoPanic.normal ?_)
     clear hS Nw Mh
     refine zB (zC (zD (kR 1 H R λ a H => zA (zB (zF ?_)))))
     have e : Ep c p = { c with nonce := (c.nonce + 1) % 1073741825, ask := c.now, state := 1, code := p.fld 4 } := by rw [Ep, if_neg (by omega), if_pos ⟨by omega, by omega, by omega⟩]
     have Ca := ED hc hr hk
     rw [e] at Ca ⊢
     exact Ag H R R ⟨⟨_, R, Bd⟩, ⟨Ca, ⟨_, _, k, ⟨AN, Ch⟩, AD, BM⟩, Bw, Dr⟩, Aa⟩
    ·
     refine kE 2 H R R (fun w' Aj => A9 U3 (H.e R) Am (AF (FR))) R λ a H => Aw (NoPanic.normal ?_)
     replace k := Ad.ups k hS
     replace AN := AG.up AN hS
     replace AD := AG.up AD hS
     replace Bw := AW.ups Bw hS
     replace k0 := Ad.ups k0 hS
     replace Aa := Aa.trans (Below.mono hS Aa.size)
     clear hS
     refine zB (zG H R (zC (zD (kR 1 H R λ a H => zA (zB (zF (AS (zJ ?_))))))))
     have e : Ep c p = c := by rw [Ep, if_neg (by omega), if_neg (by omega)]
     have Ca := ED hc hr hk
     rw [e] at Ca ⊢
     exact Ag H R R ⟨⟨_, R, Bd⟩, ⟨Ca, ⟨_, _, k, ⟨AN, Ch⟩, AD, BM⟩, Bw, Dr⟩, Aa⟩
   ·
    refine kE 7 H R R (fun w' Aj => A9 U3 (H.e R) (H.e R) (AF (F3))) R λ a H => Aw (NoPanic.normal ?_)
    replace k := Ad.ups k hS
    replace AN := AG.up AN hS
    replace AD := AG.up AD hS
    replace Bw := AW.ups Bw hS
    replace k0 := Ad.ups k0 hS
    replace Aa := Aa.trans (Below.mono hS Aa.size)
    clear hS
    refine zB (zG H R (zC (zD (kR 1 H R λ a H => zA (zB (zF (AS (zJ ?_))))))))
    have e : Ep c p = c := by rw [Ep, if_neg (by omega), if_neg (by omega)]
    have Ca := ED hc hr hk
    rw [e] at Ca ⊢
    exact Ag H R R ⟨⟨_, R, Bd⟩, ⟨Ca, ⟨_, _, k, ⟨AN, Ch⟩, AD, BM⟩, Bw, Dr⟩, Aa⟩
  ·
   refine kE 16 H R R (fun w' Aj => A9 U3 (H.e R) Am (AF (Fg))) R λ a H => Aw (NoPanic.normal ?_)
   replace k := Ad.ups k hS
   replace AN := AG.up AN hS
   replace AD := AG.up AD hS
   replace Bw := AW.ups Bw hS
   replace k0 := Ad.ups k0 hS
   replace Aa := Aa.trans (Below.mono hS Aa.size)
   clear hS
   refine zB (zG H R (zC (zD (kR 1 H R λ a H => zA (zB (zF (AS (zJ ?_))))))))
   have e : Ep c p = c := by rw [Ep, if_neg (by omega), if_neg (by omega)]
   have Ca := ED hc hr hk
   rw [e] at Ca ⊢
   exact Ag H R R ⟨⟨_, R, Bd⟩, ⟨Ca, ⟨_, _, k, ⟨AN, Ch⟩, AD, BM⟩, Bw, Dr⟩, Aa⟩
theorem Ib (w : World) (b : Nat) (m : Option Nat) (c : Cl) (vi vo : Value) (hc : Dc c) (k : Ad w b 76 (Dm c vi vo m)) : Calls Tryz.prog 46 #[.pointer (some ⟨b, 0, none⟩)] w fun e w' => (∃ v, e = .returned v ∧ AK w' w.heap.size v (KJ c)) ∧ Ad w' b 76 (Dm (D4 c) vi vo m) ∧ Bi b none w w' := by
 have AM := hc.ck
 have AO := hc.key
 have IF := hc.now
 have Gu := hc.seq
 have Jf := hc.beats
 have IE := hc.nonce
 have Aa := Bi.refl b none w
 refine Az 40 Tryz.func46 R R λ a H => zC (zD (kR 1 H R λ a H => zA (zB (zC (zD (kR 4 H R λ a H => zA (zB (zC (zC ?_)))))))))
 by_cases LC : c.beat ≤ c.now
 ·
  have Gf := Aa
  refine rB 9 (Dn [0, 1, 2, 3, 4, 5, 6] (.one 7 (.fl 8 .done))) fun hS => kQ 6 H R λ a H => kF H R R (fun w' Aj => Ai U3 R (H.e R) ((show _ = some (J (c.now)) from BB (c := c) AM AO (Ad.ups k Aj)))) R λ a H => Al (fun K hK => A7 R (kD (PL _ b m c c.now vi vo hc (Ad.ups k hS)) (AA jR (H.e R) (H.e R)) fun w9 hb => ?_))
  rw [decide_eq_true LC]; replace hS := Below.trans hS (Below.mono hb (Below.size hS)); clear hb; refine kS 0 hK hS H rfl λ a H => ?_; clear hK K
  refine kF H R R (fun w' Aj => Bs (H.e R) R) R λ a H => Aw (NoPanic.normal ?_)
  replace k := Ad.ups k hS
  replace Aa := Aa.trans (Below.mono hS Aa.size)
  clear hS
  refine zB (zG H R (zE (zB (zC ?_))))
  have Oo := Aa
  have hS : Cz b (Cy Oo) _ := Ed _ _
  refine rT (Cz b (Cy Oo)) 19 (Dn [0, 1, 2, 3, 4, 8, 9, 10, 11, 12] (.one 5 (Dn [6, 7, 13, 14] (.one 15 (.fl 16 (.fl 17 (.one 18 .done))))))) hS ?_
  have Nw := BB (c := c) AM AO k
  replace k := Ad.ups k (Below.drew (Below.refl _ _))
  replace Aa := Aa.trans (Below.drew (Below.refl _ _))
  refine kQ 4 H R λ a H => kE 3 H R R (fun w' Aj => Br (q := 22 + 17) Pw (H.e R) R) R λ a H => kF H R R (fun w' Aj => Ai U3 R (H.e R) (((Aj.2.trans Nw : _ = some (J (c.now)))))) R λ a H => kF H R R (fun w' Aj => Bm (q := (c.now) + 4) U3 (H.e R) Am (by omega) (by omega)) R λ a H => Al (fun K hK => A7 R (Ly _ _ (Ai U3 R (H.e R) ((show _ = some (J (c.beats)) from Rt (c := c) AM AO k))) (kS 0 hK hS H R λ a H => ?_)))
  clear hK K
  refine kF H R R (fun w' Aj => Bm (q := (c.beats) + 1) U3 (H.e R) Am (by omega) (by omega)) R λ a H => kE 1 H R R (fun w' Aj => IS (q := (if 1073741825 < ((c.beats) + 1) then 1073741825 else ((c.beats) + 1))) (H.e R) Am R) R λ a H => kF H R R (fun w' Aj => Br (q := 22 + 17) Pw (H.e R) R) R λ a H => Al (fun K hK => A7 R ?_)
  have Cm := BB (c := c) AM AO k; refine AX 3 (.tmp 30) (.tmp 23) b 39 76 (J (if 1073741825 < ((c.beats) + 1) then 1073741825 else ((c.beats) + 1))) _ (H.ev rfl) (H.ev rfl) k s3 (by rw [Cc (c := c) AM AO]; show 39 + 1 ≤ 48; omega) (by simp [Value.cells, Value.oneCell']) fun w' hb ho kq => ?_; clear k; rw [Wa (c := c) AM AO] at kq; have k : Ad _ b 76 (Dm { c with beats := (if 1073741825 < ((c.beats) + 1) then 1073741825 else ((c.beats) + 1)) } vi vo m) := kq; replace Aa := Aa.store (hb b (Nat.le_refl _)) ho; replace hS := Cz.store hS (hb b (Nat.le_refl _)) ho ((BB (c := { c with beats := (if 1073741825 < ((c.beats) + 1) then 1073741825 else ((c.beats) + 1)) }) AM AO k).trans Cm.symm); clear Cm; clear hb ho kq; refine kU 1 hK hS H rfl λ a H => ?_; clear hK K
  refine kF H R R (fun w' Aj => Br (q := 22 + 19) TN (H.e R) R) R λ a H => Al (fun K hK => A7 R ?_)
  have Cm := BB (c := { c with beats := (if 1073741825 < ((c.beats) + 1) then 1073741825 else ((c.beats) + 1)) }) AM AO k; refine AX 3 (.tmp 32) (.tmp 28) b 41 76 (J ((c.now) + 4)) _ (H.ev rfl) (H.ev rfl) k s3 (by rw [Cc (c := { c with beats := (if 1073741825 < ((c.beats) + 1) then 1073741825 else ((c.beats) + 1)) }) AM AO]; show 41 + 1 ≤ 48; omega) (by simp [Value.cells, Value.oneCell']) fun w' hb ho kq => ?_; clear k; rw [Yp (c := { c with beats := (if 1073741825 < ((c.beats) + 1) then 1073741825 else ((c.beats) + 1)) }) AM AO] at kq; have k : Ad _ b 76 (Dm { c with beats := (if 1073741825 < ((c.beats) + 1) then 1073741825 else ((c.beats) + 1)), beat := ((c.now) + 4) } vi vo m) := kq; replace Aa := Aa.store (hb b (Nat.le_refl _)) ho; replace hS := Cz.store hS (hb b (Nat.le_refl _)) ho ((BB (c := { c with beats := (if 1073741825 < ((c.beats) + 1) then 1073741825 else ((c.beats) + 1)), beat := ((c.now) + 4) }) AM AO k).trans Cm.symm); clear Cm; clear hb ho kq; refine kU 0 hK hS H rfl λ a H => ?_; clear hK K
  refine Aw (NoPanic.normal ?_)
  clear hS Nw
  refine zB (zC ?_)
  have dO : Dc { c with beats := (if 1073741825 < ((c.beats) + 1) then 1073741825 else ((c.beats) + 1)), beat := ((c.now) + 4) } := by have := Gx hc; rwa [D4, if_neg (by omega)] at this
  have qY := dO.beats
  refine zD (kR 3 H R λ a H => kV H (Br (q := 22 + 17) Pw (H.e R) R) R λ a H => kV H (Ai U3 R (H.e R) ((show _ = some (J ((if 1073741825 < ((c.beats) + 1) then 1073741825 else ((c.beats) + 1)))) from Rt (c := { c with beats := (if 1073741825 < ((c.beats) + 1) then 1073741825 else ((c.beats) + 1)), beat := ((c.now) + 4) }) AM AO k))) R λ a H => kV (v := .agg (pv (Jj (if 1073741825 < ((c.beats) + 1) then 1073741825 else ((c.beats) + 1))))) H (Bl #[(0, J 5), (2, J ((if 1073741825 < ((c.beats) + 1) then 1073741825 else ((c.beats) + 1))))] (.agg (pv (Jj (if 1073741825 < ((c.beats) + 1) then 1073741825 else ((c.beats) + 1))))) (by simp [Am, H.ev (j := 37) R]) (fun w => by kernel_rfl)) R λ a H => A8 _ _ _ (IL _ b m { c with beats := (if 1073741825 < ((c.beats) + 1) then 1073741825 else ((c.beats) + 1)), beat := ((c.now) + 4) } (Jj (if 1073741825 < ((c.beats) + 1) then 1073741825 else ((c.beats) + 1))) vi vo dO k (Rw qY)) (AA Zz (H.e R) (H.e R)) ?_)
  rintro e w9 ⟨⟨v, rfl, D1⟩, hb⟩; refine ⟨_, rfl, ?_⟩; replace D1 := AK.base D1 Aa.size; replace k := k.ups hb; replace Aa := Aa.tr hb; clear hb; exact kL 1 H rfl λ a H => zA (zB (zF (Ag H rfl rfl ⟨⟨_, rfl, by rw [KJ, if_neg (by omega)]; exact D1⟩, by rw [D4, if_neg (by omega)]; exact k, Aa⟩)))
 ·
  refine rB 9 (Dn [0, 1, 2, 3, 4, 5, 6] (.one 7 (.fl 8 .done))) fun hS => kQ 6 H R λ a H => kF H R R (fun w' Aj => Ai U3 R (H.e R) ((show _ = some (J (c.now)) from BB (c := c) AM AO (Ad.ups k Aj)))) R λ a H => Al (fun K hK => A7 R (kD (PL _ b m c c.now vi vo hc (Ad.ups k hS)) (AA jR (H.e R) (H.e R)) fun w9 hb => ?_))
  rw [decide_eq_false LC]; replace hS := Below.trans hS (Below.mono hb (Below.size hS)); clear hb; refine kS 0 hK hS H rfl λ a H => ?_; clear hK K
  refine kF H R R (fun w' Aj => Bs (H.e R) R) R λ a H => Aw (NoPanic.normal ?_)
  replace k := Ad.ups k hS
  replace Aa := Aa.trans (Below.mono hS Aa.size)
  clear hS
  exact zB (zH H R (zC (zD (kR 1 H R λ a H => zA (zB (zF (zJ (Ag H R R ⟨⟨_, R, by rw [KJ, if_pos (by omega)]; exact Bd⟩, by rw [D4, if_pos (by omega)]; exact k, Aa⟩))))))))
theorem IN [Dw] (w : World) (b : Nat) (m : Option Nat) (c : Cl) (vi vo : Value) (hc : Dc c) (k : Ad w b 76 (Dm c vi vo m)) (AD : Id w vo c.os) (BM : Ct (Dw.lim b) vo) : Calls Tryz.prog 47 #[.pointer (some ⟨b, 0, none⟩)] w fun e w' => (∃ v, e = .returned v ∧ AK w' w.heap.size v (Kj c)) ∧ Ad w' b 76 (Dm (I9 c) vi vo m) ∧ Bi b none w w' := by
 have AM := hc.ck
 have AO := hc.key
 have IF := hc.now
 have Gu := hc.seq
 have Jf := hc.beats
 have IE := hc.nonce
 have Aa := Bi.refl b none w
 obtain ⟨Ao, co, Su⟩ := CY AD
 subst Su
 refine Az 55 Tryz.func47 R R λ a H => zC (zD (kR 1 H R λ a H => zA (zB (zC (zD (kR 4 H R λ a H => zA (zB (zC (zC ?_)))))))))
 by_cases hL : c.os.length = 0
 ·
  have Hf : I9 c = c ∧ Kj c = [] := Qb (List.eq_nil_of_length_eq_zero hL)
  have Gf := Aa
  refine rB 17 (Dn [0, 1, 2, 3, 4, 5, 6, 7, 8, 9, 10, 11, 12, 13] (.one 14 (.fl 15 (.fl 16 .done)))) fun hS => kQ 3 H R λ a H => kF H R R (fun w' Aj => Ai FG R (H.e R) ((show _ = some (.slice Ao c.os.length co : Value) from HW (c := c) AM AO (Ad.ups k Aj)))) R λ a H => kF H R R (fun w' Aj => Ba FG (H.e R)) R λ a H => kE 8 H R R (fun w' Aj => A9 U3 (H.e R) Am dT) R λ a H => Al (fun K hK => VY R R R (H.e R) (kS 2 hK hS H R λ a H => ?_))
  clear hK K
  refine Aw (NoPanic.normal ?_)
  replace k := Ad.ups k hS
  replace AD := AG.up AD hS
  replace Aa := Aa.trans (Below.mono hS Aa.size)
  clear hS
  exact zB (zH H R (zC (zD (kR 1 H R λ a H => zA (zB (zF (zJ (Ag H R R ⟨⟨_, R, by rw [Hf.2]; exact Bd⟩, by rw [Hf.1]; exact k, Aa⟩))))))))
 ·
  obtain ⟨o, l, UW⟩ : ∃ o l, c.os = o :: l := by
   cases he : c.os with
   | nil => exact absurd (by rw [he]; rfl) hL
   | cons o l => exact ⟨o, l, rfl⟩
  have HOS := Lib.hid UW
  clear UW
  by_cases LC : c.say ≤ c.now
  ·
   have Gf := Aa
   refine rB 17 (Dn [0, 1, 2, 3, 4, 5, 6, 7, 8, 9, 10, 11, 12, 13] (.one 14 (.fl 15 (.fl 16 .done)))) fun hS => kQ 3 H R λ a H => kF H R R (fun w' Aj => Ai FG R (H.e R) ((show _ = some (.slice Ao c.os.length co : Value) from HW (c := c) AM AO (Ad.ups k Aj)))) R λ a H => kF H R R (fun w' Aj => Ba FG (H.e R)) R λ a H => kE 7 H R R (fun w' Aj => A9 U3 (H.e R) Am dF) R λ a H => kF H R R (fun w' Aj => Ai U3 R (H.e R) ((show _ = some (J (c.now)) from BB (c := c) AM AO (Ad.ups k Aj)))) R λ a H => Al (fun K hK => Wb R R R (H.e R) (kD (QG _ b m c c.now vi _ hc (Ad.ups k hS)) (AA jQ (H.e R) (H.e R)) fun w9 hb => ?_))
   rw [decide_eq_true LC]; replace hS := Below.trans hS (Below.mono hb (Below.size hS)); clear hb; refine kS 0 hK hS H rfl λ a H => ?_; clear hK K
   refine kE 1 H R R (fun w' Aj => Bs (H.e R) R) R λ a H => Aw (NoPanic.normal ?_)
   replace k := Ad.ups k hS
   replace AD := AG.up AD hS
   replace Aa := Aa.trans (Below.mono hS Aa.size)
   clear hS
   refine zB (zG H R (zE (zB (zC ?_))))
   obtain ⟨bo, oo, hA, hr⟩ := CK Cr (BW AD) (by omega) (j := 0) (by omega)
   subst hA
   have dO := (fx BM) _ _ _ rfl bo oo rfl
   rw [show c.os[0] = o by simp [HOS.out]] at hr
   refine zD (kR 3 H R λ a H => kV H (Ai FG R (H.e R) ((show _ = some (.slice (some ⟨bo, oo, none⟩) c.os.length co : Value) from HW (c := c) AM AO k))) R λ a H => kV (v := .pointer (some ⟨bo, oo + 0 * 4, none⟩)) H (Bq (j := 0) (q := oo + 0 * 4) FG JY (H.e R) Am (by omega) R) R λ a H => kV H (AL (cs := [J o.1, J o.2.1, J o.2.2.1, J o.2.2.2]) (H.e R) (hr) (by kernel_rfl) JY R) R λ a H => De 32 4 (.tmp 30) #[J o.1, J o.2.1, J o.2.2.1, J o.2.2.2] _ mH JY R (Di [o.1, o.2.1, o.2.2.1, o.2.2.2]) (fun p => (H.put 4 p R).ev R) (fun p => (H.put 4 p R).ev R) fun w0 b0 Ak hb k0 => ?_)
   have g0 := Nat.le_trans Aa.size Ak; have PF : b < b0 := Nat.lt_of_lt_of_le k.lt Ak; replace k := k.ups hb; replace AD := AG.up AD hb; replace Aa := Aa.tr hb; clear hb; clear Ak; refine kl H rfl λ a H => zA (zB (zC (zD (kR 4 H rfl λ a H => kV H (Ai U3 rfl (H.ev rfl) ((show _ = some (J (c.now)) from BB (c := c) AM AO k))) rfl λ a H => kX 1 H (Bm (q := (c.now) + 4) U3 (H.ev rfl) Am) rfl λ a H => kV H (Br (q := 22 + 20) Mk (H.ev rfl) rfl) rfl λ a H => Gb (new := Dm ({ c with say := ((c.now) + 4) }) vi (.slice (some ⟨bo, oo, none⟩) c.os.length co) m) (H.ev rfl) (H.ev rfl) k s3 (FT AM AO rfl) oI (RO AM AO) Aa H fun w' hb ho k Aa a H => ?_))))
   replace AD := AG.store AD (fx BM) ho; replace k0 := Ae k0 (ho _ (by omega)); clear hb ho
   refine zA (zB (zC ?_))
   have dN : Dc { c with say := ((c.now) + 4) } := { hc with say := ⟨(by show 0 ≤ c.now + 4; omega), (by show c.now + 4 ≤ 1099511627780; omega)⟩ }
   refine rB 17 (Dn [0, 1, 2, 3, 4, 5, 6, 7, 8, 9, 10, 11, 12, 13, 14] (.one 15 (.fl 16 .done))) fun hS => kQ 2 H R λ a H => kE 2 H R R (fun w' Aj => Ai U3 R (H.e R) ((Ad.cell (Ad.ups k0 Aj) 0).trans R)) R λ a H => kF H R R (fun w' Aj => Br (q := 22 + 18) Ml (H.e R) R) R λ a H => kF H R R (fun w' Aj => Ai U3 R (H.e R) ((show _ = some (J (c.seq)) from X9 (c := { c with say := ((c.now) + 4) }) AM AO (Ad.ups k Aj)))) R λ a H => kE 1 H R R (fun w' Aj => Bm (q := (c.seq) + 1) U3 (H.e R) Am (by omega) (by omega)) R λ a H => kE 1 H R R (fun w' Aj => Ai U3 R (H.e R) ((Ad.cell (Ad.ups k0 Aj) 1).trans R)) R λ a H => kE 1 H R R (fun w' Aj => Ai U3 R (H.e R) ((Ad.cell (Ad.ups k0 Aj) 2).trans R)) R λ a H => kF H R R (fun w' Aj => Ai U3 R (H.e R) ((Ad.cell (Ad.ups k0 Aj) 3).trans R)) R λ a H => kF (v := .agg (pv (LP o (c.seq + 1)))) H R R (fun w' Aj => Bl #[(0, J o.1), (2, J (c.seq + 1)), (5, J o.2.1), (4, J o.2.2.1), (3, J o.2.2.2)] (.agg (pv (LP o (c.seq + 1)))) (by simp [H.ev (j := 41) R, H.ev (j := 46) R, H.ev (j := 48) R, H.ev (j := 50) R, H.ev (j := 52) R]) (fun w => by kernel_rfl)) R λ a H => Al (fun K hK => A7 R (CQ _ _ _ (IL _ b m { c with say := ((c.now) + 4) } (LP o (c.seq + 1)) vi _ dN (Ad.ups k hS) (T0 (hc.may o (by rw [HOS.out]; simp)) (by omega))) (AA Zz (H.e R) (H.e R)) ?_))
   rintro e w9 ⟨⟨v, rfl, D1⟩, hb⟩; refine ⟨_, rfl, ?_⟩; replace D1 := AK.base D1 (Nat.le_trans Aa.size (Below.size hS)); replace hS := Below.trans hS (Below.mono hb (Below.size hS)); clear hb; refine kS 1 hK hS H rfl λ a H => ?_; clear hK K
   refine Aw (NoPanic.normal ?_)
   replace k := Ad.ups k hS
   replace AD := AG.up AD hS
   replace k0 := Ad.ups k0 hS
   replace Aa := Aa.trans (Below.mono hS Aa.size)
   clear hS
   exact zB (zF (Ag H R R ⟨⟨_, R, by rw [Qd HOS.out (by omega)]; exact D1⟩, by rw [Qe HOS.out (by omega)]; exact k, Aa⟩))
  ·
   have Hf : I9 c = c ∧ Kj c = [] := Qc HOS.out (by omega)
   refine rB 17 (Dn [0, 1, 2, 3, 4, 5, 6, 7, 8, 9, 10, 11, 12, 13] (.one 14 (.fl 15 (.fl 16 .done)))) fun hS => kQ 3 H R λ a H => kF H R R (fun w' Aj => Ai FG R (H.e R) ((show _ = some (.slice Ao c.os.length co : Value) from HW (c := c) AM AO (Ad.ups k Aj)))) R λ a H => kF H R R (fun w' Aj => Ba FG (H.e R)) R λ a H => kE 7 H R R (fun w' Aj => A9 U3 (H.e R) Am dF) R λ a H => kF H R R (fun w' Aj => Ai U3 R (H.e R) ((show _ = some (J (c.now)) from BB (c := c) AM AO (Ad.ups k Aj)))) R λ a H => Al (fun K hK => Wb R R R (H.e R) (kD (QG _ b m c c.now vi _ hc (Ad.ups k hS)) (AA jQ (H.e R) (H.e R)) fun w9 hb => ?_))
   rw [decide_eq_false LC]; replace hS := Below.trans hS (Below.mono hb (Below.size hS)); clear hb; refine kS 0 hK hS H rfl λ a H => ?_; clear hK K
   refine kE 1 H R R (fun w' Aj => Bs (H.e R) R) R λ a H => Aw (NoPanic.normal ?_)
   replace k := Ad.ups k hS
   replace AD := AG.up AD hS
   replace Aa := Aa.trans (Below.mono hS Aa.size)
   clear hS
   exact zB (zH H R (zC (zD (kR 1 H R λ a H => zA (zB (zF (zJ (Ag H R R ⟨⟨_, R, by rw [Hf.2]; exact Bd⟩, by rw [Hf.1]; exact k, Aa⟩))))))))
end
theorem qM : Tryz.prog.stoodInHeld 32 = false := by kernel_rfl
theorem g32 : Tryz.prog.eqGuardType Tryz.prog.depth 32 = false := by kernel_rfl
theorem rP (x y : Nt) (w : World) : (Op.equalIn 10000 32 (.agg #[J x.1, J x.2.1, J x.2.2.1, J x.2.2.2]) (.agg #[J y.1, J y.2.1, J y.2.2.1, J y.2.2.2])).run Tryz.prog w = .ok (decide (x = y)) w := by
 have h0 := qM
 have u32 := U32
 have u3 := U3
 obtain ⟨a1, a2, a3, a4⟩ := x
 obtain ⟨b1, b2, b3, b4⟩ := y
 go_simp
 by_cases e0 : a1 = b1 <;> by_cases e1 : a2 = b2 <;> by_cases e2 : a3 = b3 <;> by_cases e3 : a4 = b4 <;> simp [e0, e1, e2, e3]
theorem Pe {a : Act} {w : World} {d : Option Tmp} {tt t2 : TypeId} {ps : String} {af : Array Edge} {gd : Option (Nat × Bool)} {p q : Operand} {x y : Nt} (hx : a.eval p = .agg (cN x)) (hy : a.eval q = .agg (cN y)) :
  (execOp a.eval ⟨d, .binOp .eql 32 p q t2, tt, ps, af, gd⟩).run Tryz.prog w = .ok (.value (.bool (decide (x = y)))) w := by
 have hg := g32
 have fC := fun w => rP x y w
 unfold execOp
 simp only [hx, hy]
 go_simp
theorem Dq.store {b : Nat} {W w w' : World} (h : Dq b W w) (hb : Below b w w') (ho : ∀ g, g ≠ b → w'.heap[g]? = w.heap[g]?) : Dq b W w' :=
 ⟨hb.os.trans h.os, hb.tape.trans h.tape, hb.output.trans h.output, Nat.le_trans h.size hb.size, fun k hk Fh => (ho k (fun e => Fh (by rw [e]))).trans (h.block k hk Fh)⟩
theorem pE {o : Nt} (h : o.1 = 6) : decide ((o.1, (if 3 < (if 1 > o.2.1 then 1 else o.2.1) then 3 else (if 1 > o.2.1 then 1 else o.2.1)), (0 : Int), (0 : Int)) = o) = decide (Ej o) := by
 obtain ⟨a, b, c, d⟩ := o
 simp only at h ⊢
 apply decide_eq_decide.2
 unfold Ej
 simp only [Prod.mk.injEq, true_and]
 split <;> split <;> constructor <;> intro hh <;> omega
theorem pD {o : Nt} (h : o.1 = 7) : decide ((o.1, (0 : Int), (if 7 < (if 1 > o.2.2.1 then 1 else o.2.2.1) then 7 else (if 1 > o.2.2.1 then 1 else o.2.2.1)), (if 16 < (if 1 > o.2.2.2 then 1 else o.2.2.2) then 16 else (if 1 > o.2.2.2 then 1 else o.2.2.2))) = o) = decide (Ej o) := by
 obtain ⟨a, b, c, d⟩ := o
 simp only at h ⊢
 apply decide_eq_decide.2
 unfold Ej
 simp only [Prod.mk.injEq, true_and]
 split <;> split <;> split <;> split <;> constructor <;> intro hh <;> omega
theorem gC {o : Nt} (h : o.1 = 10) : decide ((o.1, (0 : Int), (0 : Int), (0 : Int)) = o) = decide (Ej o) := by
 obtain ⟨a, b, c, d⟩ := o
 simp only at h ⊢
 apply decide_eq_decide.2
 unfold Ej
 simp only [Prod.mk.injEq, true_and]
 constructor <;> intro hh <;> omega
theorem Uw {w : World} {A : Option Addr} {n c : Nat} (h : n ≤ c) : (Instr.slice 73 (.slice A n c) none (some (J (n : Nat))) (some (J (n : Nat)))).run Tryz.prog w = .ok (.slice A n n) w := by
 have hs := JY
 have hz := La (A := A) (c := n) (size := 4)
 unfold C6 at hz
 cases hq : Tryz.prog.info? 32 with
 | none => simp [hq] at hs
 | some i =>
  have If : i.size = 4 := by simpa [hq] using hs
  simp [Instr.slice, Instr.sliceBounds, Instr.sliceBound, run_underlying FG, sizeOf, typeInfo, program, hq, If, asIntOf, h, Sem.run, Sem.run_bind, Sem.run_pure, Result.andThen_ok]
  simpa using hz
theorem cG {w : World} {A : Option Addr} {c : Nat} {L : List Nt} (h : Id w (.slice A L.length c) L) (e : A = none) : L.length = 0 ∧ L.length = 0 := by
 obtain ⟨A', c', e1, h1, h2, h3, _⟩ := h
 injection e1 with e1 e2 e3
 subst e1 e3
 have := h3 e
 omega
theorem HB {α : Type} {enc : α → List Int} {e : TypeId} {size : Nat} {w : World} {B : Nat} {v : Value} {L : List α} (h : BN enc e size w B v L) : ∃ A c, v = .slice A L.length c := BZ h
theorem Ua {c : Cl} {A A2 : Option Addr} {n k n2 k2 : Nat} {m : Option Nat} (h1 : c.ck.length = 16) (h2 : c.key.length = 16) : (Dm c (.slice A n k) (.slice A2 n2 k2) m).all (·.oneCell') = true := by
 simp [Dm, Value.oneCell']
theorem AW.clear {w : World} {m : Option Nat} {vw : Int → Option Nt} (h : AW w m vw) (ty : TypeId) : ∃ w', (Builtin.clear_ #[74] ty #[.map m]).run Tryz.prog w = .ok (.tuple #[]) w' ∧ w.grownBy w' m := by
 cases m with
 | some q => exact En.clear h ty
 | none =>
  refine ⟨w, ?_, ⟨R, R, R, Nat.le_refl _, fun _ _ _ => R⟩⟩
  simp [Builtin.clear_, run_underlying PA, Result.andThen]
theorem WT {b : Nat} {m : Option Nat} {w w' : World} (h : w.grownBy w' m) : Bi b m w w' := ⟨h.os, h.tape, h.output, h.size, fun k hk _ hn => h.block k hk hn⟩
def M4 (c : Cl) : Int := if c.state = 3 then c.id else 0
theorem T9 (w : World) (o : Nt) : Calls Tryz.prog 50 #[.agg (cN o)] w fun e w' => e = .returned (.bool (decide (Ej o))) ∧ Below w.heap.size w w' := by
 have Aa := Below.refl w.heap.size w
 refine Az 33 Tryz.func50 R R λ a H => zC (zD (B7 32 _ #[J o.1, J o.2.1, J o.2.2.1, J o.2.2.2] (H.e R) fun w0 b0 Ak hb k0 => ?_))
 have g0 := Nat.le_trans Aa.size Ak; replace Aa := Aa.tr hb; clear hb; clear Ak; refine kL 1 H rfl λ a H => zA (zB (zC (zD (kR 1 H rfl λ a H => kV H (Ai U3 rfl (H.ev rfl) ((Ad.cell k0 0).trans rfl)) rfl λ a H => kV H (Bl #[(0, J o.1)] (.agg #[J o.1, J 0, J 0, J 0]) (by simp [Am, H.ev (j := 5) rfl]) (fun w => by kernel_rfl)) rfl λ a H => De 32 3 (.tmp 6) #[J o.1, J 0, J 0, J 0] _ mH JY rfl (Di [o.1, 0, 0, 0]) (fun p => (H.put 3 p rfl).ev rfl) (fun p => (H.put 3 p rfl).ev rfl) fun w1 b1 Ak hb k1 => ?_))))
 have g1 := Nat.le_trans Aa.size Ak; have N7 : b0 < b1 := Nat.lt_of_lt_of_le k0.lt Ak; replace k0 := k0.ups hb; replace Aa := Aa.tr hb; clear hb; clear Ak; refine kl H rfl λ a H => zA (zB (zC (zC (zD (kR 1 H rfl λ a H => kV H (Ai U3 rfl (H.ev rfl) ((Ad.cell k0 0).trans rfl)) rfl λ a H => zA (zB (wp_block (zC (zD ?_)))))))))
 by_cases BE : o.1 = 6
 ·
  refine kX 1 H (A9 U3 (H.e R) Am (AE (BE))) R λ a H => zA (zB (zH H R (zD (kR 1 H R λ a H => kV H (Ai U3 R (H.e R) ((Ad.cell k0 1).trans R)) R λ a H => kV H (MJ (q := (if 1 > o.2.1 then 1 else o.2.1)) (H.e R) Am R) R λ a H => kX 1 H (IS (q := (if 3 < (if 1 > o.2.1 then 1 else o.2.1) then 3 else (if 1 > o.2.1 then 1 else o.2.1))) (H.e R) Am R) R λ a H => AP 3 (.tmp 15) (.tmp 14) b1 1 32 (J (if 3 < (if 1 > o.2.1 then 1 else o.2.1) then 3 else (if 1 > o.2.1 then 1 else o.2.1))) _ (H.e R) (H.e R) k1 s3 (by simp [Value.cells]) (Di [(if 3 < (if 1 > o.2.1 then 1 else o.2.1) then 3 else (if 1 > o.2.1 then 1 else o.2.1))]) fun w' hb ho kq => ?_))))
  clear k1; have k1 : Ad _ b1 32 #[J o.1, J (if 3 < (if 1 > o.2.1 then 1 else o.2.1) then 3 else (if 1 > o.2.1 then 1 else o.2.1)), J 0, J 0] := kq; clear kq; replace k0 := Ae k0 (ho _ (by omega)); replace Aa := Aa.trans (hb _ g1); clear hb ho; refine Dz H λ a H => zA (AC (zB (zC ?_)))
  obtain ⟨x, hx⟩ : ∃ x : Nt, (o.1, (if 3 < (if 1 > o.2.1 then 1 else o.2.1) then 3 else (if 1 > o.2.1 then 1 else o.2.1)), 0, 0) = x := ⟨_, rfl⟩
  exact zD (kV (v := .agg (cN x)) H (by rw [← hx]; exact AL (cs := [J o.1, J (if 3 < (if 1 > o.2.1 then 1 else o.2.1) then 3 else (if 1 > o.2.1 then 1 else o.2.1)), J 0, J 0]) (H.e R) (Ar k1) (by kernel_rfl) JY R) R λ a H => kV H (AL (cs := [J o.1, J o.2.1, J o.2.2.1, J o.2.2.2]) (H.e R) (Ar k0) (by kernel_rfl) JY R) R λ a H => kX 1 (v := .bool (decide (x = o))) H (Pe (H.e R) (H.e R)) R λ a H => zA (zB (zF (Ag H R R ⟨by rw [← hx]; exact congrArg (fun q => Ending.returned (.bool q)) (pE (by omega)), Aa⟩))))
 ·
  refine kX 1 H (A9 U3 (H.e R) Am (AF (BE))) R λ a H => zA (zB (zG H R (zC (zD ?_))))
  by_cases Cn : o.1 = 7
  ·
   refine kX 1 H (A9 U3 (H.e R) Am (AE (Cn))) R λ a H => zA (zB (zH H R ?_))
   have Gs := Aa
   have hS : Dq b1 (E4 Gs) _ := Fx _ _
   refine rT (Dq b1 (E4 Gs)) 12 (Dn [0, 1, 2, 3, 4, 5, 6, 7, 8] (.one 9 (.fl 10 (.one 11 .done)))) hS ?_
   replace k1 := Ad.ups k1 (Below.drew (Below.refl _ _))
   refine kQ 1 H R λ a H => kF H R R (fun w' Aj => Ai U3 R (H.e R) ((Ad.cell (Ad.grown k0 Aj (by simp; omega)) 2).trans R)) R λ a H => kF H R R (fun w' Aj => MJ (q := (if 1 > o.2.2.1 then 1 else o.2.2.1)) (H.e R) Am R) R λ a H => kE 1 H R R (fun w' Aj => IS (q := (if 7 < (if 1 > o.2.2.1 then 1 else o.2.2.1) then 7 else (if 1 > o.2.2.1 then 1 else o.2.2.1))) (H.e R) Am R) R λ a H => kF H R R (fun w' Aj => Ai U3 R (H.e R) ((Ad.cell (Ad.grown k0 Aj (by simp; omega)) 3).trans R)) R λ a H => kF H R R (fun w' Aj => MJ (q := (if 1 > o.2.2.2 then 1 else o.2.2.2)) (H.e R) Am R) R λ a H => kE 1 H R R (fun w' Aj => IS (q := (if 16 < (if 1 > o.2.2.2 then 1 else o.2.2.2) then 16 else (if 1 > o.2.2.2 then 1 else o.2.2.2))) (H.e R) Am R) R λ a H => Al (fun K hK => A7 R (AX 3 (.tmp 26) (.tmp 21) b1 2 32 (J (if 7 < (if 1 > o.2.2.1 then 1 else o.2.2.1) then 7 else (if 1 > o.2.2.1 then 1 else o.2.2.1))) _ (H.e R) (H.e R) k1 s3 (by simp [Value.cells]) (by simp [Value.cells, Value.oneCell']) fun w' hb ho kq => ?_))
   clear k1; have k1 : Ad _ b1 32 #[J o.1, J 0, J (if 7 < (if 1 > o.2.2.1 then 1 else o.2.2.1) then 7 else (if 1 > o.2.2.1 then 1 else o.2.2.1)), J 0] := kq; replace hS := Dq.store hS (hb _ (Nat.le_refl _)) ho; clear hb ho kq; refine kU 1 hK hS H rfl λ a H => ?_; clear hK K
   refine Al (fun K hK => A7 R (AX 3 (.tmp 27) (.tmp 25) b1 3 32 (J (if 16 < (if 1 > o.2.2.2 then 1 else o.2.2.2) then 16 else (if 1 > o.2.2.2 then 1 else o.2.2.2))) _ (H.e R) (H.e R) k1 s3 (by simp [Value.cells]) (by simp [Value.cells, Value.oneCell']) fun w' hb ho kq => ?_))
   clear k1; have k1 : Ad _ b1 32 #[J o.1, J 0, J (if 7 < (if 1 > o.2.2.1 then 1 else o.2.2.1) then 7 else (if 1 > o.2.2.1 then 1 else o.2.2.1)), J (if 16 < (if 1 > o.2.2.2 then 1 else o.2.2.2) then 16 else (if 1 > o.2.2.2 then 1 else o.2.2.2))] := kq; replace hS := Dq.store hS (hb _ (Nat.le_refl _)) ho; clear hb ho kq; refine kU 0 hK hS H rfl λ a H => ?_; clear hK K
   refine Aw (NoPanic.normal ?_)
   replace k0 := Ad.grown k0 hS (by simp; omega)
   replace Aa := DB Aa hS g1
   clear hS
   refine AC (zB (zC ?_))
   obtain ⟨x, hx⟩ : ∃ x : Nt, (o.1, 0, (if 7 < (if 1 > o.2.2.1 then 1 else o.2.2.1) then 7 else (if 1 > o.2.2.1 then 1 else o.2.2.1)), (if 16 < (if 1 > o.2.2.2 then 1 else o.2.2.2) then 16 else (if 1 > o.2.2.2 then 1 else o.2.2.2))) = x := ⟨_, rfl⟩
   exact zD (kV (v := .agg (cN x)) H (by rw [← hx]; exact AL (cs := [J o.1, J 0, J (if 7 < (if 1 > o.2.2.1 then 1 else o.2.2.1) then 7 else (if 1 > o.2.2.1 then 1 else o.2.2.1)), J (if 16 < (if 1 > o.2.2.2 then 1 else o.2.2.2) then 16 else (if 1 > o.2.2.2 then 1 else o.2.2.2))]) (H.e R) (Ar k1) (by kernel_rfl) JY R) R λ a H => kV H (AL (cs := [J o.1, J o.2.1, J o.2.2.1, J o.2.2.2]) (H.e R) (Ar k0) (by kernel_rfl) JY R) R λ a H => kX 1 (v := .bool (decide (x = o))) H (Pe (H.e R) (H.e R)) R λ a H => zA (zB (zF (Ag H R R ⟨by rw [← hx]; exact congrArg (fun q => Ending.returned (.bool q)) (pD (by omega)), Aa⟩))))
  ·
   refine kX 1 H (A9 U3 (H.e R) Am (AF (Cn))) R λ a H => zA (zB (zG H R (zC (zD ?_))))
   by_cases CP : o.1 = 10
   ·
    refine kX 1 H (A9 U3 (H.e R) Am (AE (CP))) R λ a H => zA (zB (zH H R (zE (AC (zB (zC ?_))))))
    obtain ⟨x, hx⟩ : ∃ x : Nt, (o.1, 0, 0, 0) = x := ⟨_, rfl⟩
    exact zD (kV (v := .agg (cN x)) H (by rw [← hx]; exact AL (cs := [J o.1, J 0, J 0, J 0]) (H.e R) (Ar k1) (by kernel_rfl) JY R) R λ a H => kV H (AL (cs := [J o.1, J o.2.1, J o.2.2.1, J o.2.2.2]) (H.e R) (Ar k0) (by kernel_rfl) JY R) R λ a H => kX 1 (v := .bool (decide (x = o))) H (Pe (H.e R) (H.e R)) R λ a H => zA (zB (zF (Ag H R R ⟨by rw [← hx]; exact congrArg (fun q => Ending.returned (.bool q)) (gC (by omega)), Aa⟩))))
   ·
    exact kX 1 H (A9 U3 (H.e R) Am (AF (CP))) R λ a H => zA (zB (zG H R (zC (zD (kR 1 H R λ a H => zA (zB (zF (AS (zJ (Ag H R R ⟨by rw [decide_eq_false (show ¬ Ej o by unfold Ej; omega)], Aa⟩))))))))))
theorem NY [Dw] (w : World) (b : Nat) (m : Option Nat) (c : Cl) (h : Bn w b m c) (o : Nt) (hX : Dw.lim b ≤ w.heap.size) : Calls Tryz.prog 21 #[.pointer (some ⟨b, 0, none⟩), .agg (cN o)] w fun e w' => e = .returned (.bool (decide (¬ BO c o))) ∧ Bn w' b m (EE c o) ∧ Bi b m w w' := by
 obtain ⟨hc, ⟨vi, vo, k, ⟨AN, Ch⟩, AD, BM⟩, Bw, Dr⟩ := h
 have AM := hc.ck
 have AO := hc.key
 have IF := hc.now
 have Gu := hc.seq
 have Jf := hc.beats
 have IE := hc.nonce
 have Aa := Bi.refl b m w
 obtain ⟨Ao, co, Su⟩ := CY AD
 subst Su
 have IE := AD.slice_le
 have QU := hc.os
 refine Az 42 Tryz.func21 R R λ a H => zC (zD (B7 32 _ #[J o.1, J o.2.1, J o.2.2.1, J o.2.2.2] (H.e R) fun w0 b0 Ak hb k0 => ?_))
 have g0 := Nat.le_trans Aa.size Ak; have PF : b < b0 := Nat.lt_of_lt_of_le k.lt Ak; replace k := k.ups hb; replace AN := AG.up AN hb; replace AD := AG.up AD hb; replace Bw := AW.ups Bw hb; replace Aa := Aa.tr hb; clear hb; clear Ak; refine kL 1 H rfl λ a H => zA (zB (zC (zC ?_)))
 by_cases N4 : Ej o
 ·
  refine zD (kR 3 H R λ a H => kV H (Ai U3 R (H.e R) ((show _ = some (J (c.state)) from CS (c := c) AM AO k))) R λ a H => ?_)
  by_cases BE : (c.state) = 0
  ·
   refine kX 13 H (A9 U3 (H.e R) Am (AE (BE))) R λ a H => zA (zB (zH H R (zC (zD (kR 1 H R λ a H => zA (zB (zF (zJ ?_))))))))
   have Cm : BO c o := by unfold BO; first | exact .inl (by omega) | exact .inr (.inl N4) | exact .inr (.inr (by omega))
   have e : EE c o = c := if_pos Cm
   rw [e]
   exact Ag H R R ⟨by rw [decide_eq_false (show ¬ ¬ BO c o from fun h => h Cm)], ⟨hc, ⟨_, _, k, ⟨AN, Ch⟩, AD, BM⟩, Bw, Dr⟩, Aa⟩
  ·
   refine kX 1 H (A9 U3 (H.e R) Am (AF (BE))) R λ a H => kW H R (AL (cs := [J o.1, J o.2.1, J o.2.2.1, J o.2.2.2]) (H.e R) (Ar k0) (by kernel_rfl) JY R) R λ a H => kG H R (A8 _ _ _ (T9 _ o) (Av jY (H.e R)) ?_)
   rintro e w9 ⟨rfl, hb⟩; refine ⟨_, rfl, ?_⟩; rw [decide_eq_true N4]; replace k := k.ups hb; replace AN := AG.up AN hb; replace AD := AG.up AD hb; replace Bw := AW.ups Bw hb; replace k0 := k0.ups hb; replace Aa := Aa.tr hb; clear hb; refine kl H rfl λ a H => kY 5 H rfl (Bs (H.ev rfl) rfl) rfl λ a H => kW H rfl (Ai FG rfl (H.ev rfl) ((show _ = some (.slice Ao c.os.length co : Value) from HW (c := c) AM AO k))) rfl λ a H => kW H rfl (Ba FG (H.ev rfl)) rfl λ a H => ?_
   by_cases Cn : ((c.os.length : Nat) : Int) ≥ 8
   ·
    refine kY 1 H R (CV U3 (H.e R) Am (AE (Cn))) R λ a H => zA (zB (zH H R (zC (zD (kR 1 H R λ a H => zA (zB (zF (zJ ?_))))))))
    have Cm : BO c o := by unfold BO; first | exact .inl (by omega) | exact .inr (.inl N4) | exact .inr (.inr (by omega))
    have e : EE c o = c := if_pos Cm
    rw [e]
    exact Ag H R R ⟨by rw [decide_eq_false (show ¬ ¬ BO c o from fun h => h Cm)], ⟨hc, ⟨_, _, k, ⟨AN, Ch⟩, AD, BM⟩, Bw, Dr⟩, Aa⟩
   ·
    refine kY 1 H R (CV U3 (H.e R) Am (AF (Cn))) R λ a H => zA (zB (zG H R (zE (zB (zC (zD (kR 3 H R λ a H => kV H (Ai FG R (H.e R) ((show _ = some (.slice Ao c.os.length co : Value) from HW (c := c) AM AO k))) R λ a H => kX 1 H (Ba FG (H.e R)) R λ a H => zA (zB (zC ?_)))))))))
    have Oo := Aa
    refine rB 13 (Dn [0, 1, 2, 3, 4, 5, 6, 7, 8] (.one 9 (.one 10 (.fl 11 (.fl 12 (.one 13 .done)))))) fun hS => kQ 4 H R λ a H => kE 2 H R R (fun w' Aj => Ai FG R (H.e R) ((show _ = some (.slice Ao c.os.length co : Value) from HW (c := c) AM AO (Ad.ups k Aj)))) R λ a H => kF (v := .slice Ao c.os.length c.os.length) H R R (fun w' Aj => BS FG (.slice Ao c.os.length co) none (some (J (c.os.length : Nat))) (some (J (c.os.length : Nat))) (H.e R) R (congrArg some (H.e R)) (congrArg some (H.e R)) (Uw IE)) R λ a H => kF H R R (fun w' Aj => AL (cs := [J o.1, J o.2.1, J o.2.2.1, J o.2.2.2]) (H.e R) (Ar (Ad.ups k0 Aj)) (by kernel_rfl) JY R) R λ a H => Al (fun K hK => A7 R (Co 73 1 #[(0, .agg #[J o.1, J o.2.1, J o.2.2.1, J o.2.2.2])] 32 #[J o.1, J o.2.1, J o.2.2.1, J o.2.2.2] (by simp [H.ev (j := 37) R]) (fun w => by kernel_rfl) fun wl bl Ak hb kl => ?_))
    replace hS := Below.trans hS (Below.mono hb (Below.size hS)); clear hb Ak; refine kS 0 hK hS H rfl λ a H => ?_; clear hK K
    refine Al (fun K hK => A7 R (LM 73 32 (.tmp 36) (.tmp 38) (.agg #[J 0, J 0, J 0, J 0]) 4 32 Ao c.os.length c.os.length (FV EM c.os) bl 1 (FV EM [o]) (H.e R) (H.e R) FG QQ R (by omega) (Cu Cr _) ((BW AD).up hS) (fun e => cG AD e) (by rw [Cu Cr]; rfl) (BG kl R) (CI _ _) (by omega) (by unfold maxLen; omega) (by omega) fun v2 w9 Ah hb => ?_))
    have AU : BN EM 32 4 w9 _ v2 (c.os ++ [o]) := Hh Ah; clear Ah; have dQ := Nat.le_trans (Nat.le_trans hX (show w.heap.size ≤ (Cy Oo).heap.size from Oo.size)) (Below.size hS); replace AU := GG AU dQ; replace hS := Below.trans hS (Below.mono hb (Below.size hS)); clear hb kl; obtain ⟨A2, c2, Xd⟩ := HB AU; subst Xd; refine kS 2 hK hS H rfl λ a H => ?_; clear hK K
    refine Al (fun K hK => ?_)
    replace k := Ad.ups k hS
    replace AN := AG.up AN hS
    replace AD := AG.up AD hS
    replace Bw := AW.ups Bw hS
    replace k0 := Ad.ups k0 hS
    replace Aa := Aa.trans (Below.mono hS Aa.size)
    refine A7 R (AX 73 (.tmp 41) (.tmp 39) b 45 76 (.slice A2 (c.os ++ [o]).length c2) _ (H.e R) (H.e R) k ZK (by rw [Cc AM AO]; show 45 + 1 ≤ 48; omega) (by simp [Value.cells, Value.oneCell']) fun w' hb ho kq => ?_); clear k; rw [VX AM AO] at kq; have k := kq; have Hk : Ct (Dw.lim b) (.slice A2 (c.os ++ [o]).length c2) := C0 AU (Nat.le_refl _); have Lk : Id _ (.slice A2 (c.os ++ [o]).length c2) (c.os ++ [o]) := AG.store (BN.row AU Cr (by omega)) (fx Hk) ho; clear AD AU; replace AN := AG.store AN (fx Ch) ho; replace Bw := AW.store Bw Dr (hb b (Nat.le_refl _)) ho; replace k0 := Ae k0 (ho _ (by omega)); replace Aa := Aa.store (hb b (Nat.le_refl _)) ho; clear hb ho kq; refine hK _ _ ⟨(fun h => absurd R h), ?_⟩; clear hK K hS
    refine Aw (NoPanic.normal (zB (zC (zD (kR 1 H R λ a H => zA (zB (zF ?_)))))))
    have e : EE c o = { c with os := c.os ++ [o] } := if_neg (fun h => by unfold BO at h; rcases h with h | h | h <;> first | omega | exact h N4)
    have Ca := K0 hc o
    rw [e] at Ca ⊢
    exact Ag H rfl rfl ⟨by rw [decide_eq_true (show ¬ BO c o from fun h => by unfold BO at h; rcases h with h | h | h <;> first | omega | exact h N4)], ⟨Ca, ⟨_, _, k, ⟨AN, Ch⟩, Lk, Hk⟩, Bw, Dr⟩, Aa⟩
 ·
  refine zD (kR 3 H R λ a H => kV H (Ai U3 R (H.e R) ((show _ = some (J (c.state)) from CS (c := c) AM AO k))) R λ a H => ?_)
  by_cases CP : (c.state) = 0
  ·
   refine kX 13 H (A9 U3 (H.e R) Am (AE (CP))) R λ a H => zA (zB (zH H R (zC (zD (kR 1 H R λ a H => zA (zB (zF (zJ ?_))))))))
   have Cm : BO c o := by unfold BO; first | exact .inl (by omega) | exact .inr (.inl N4) | exact .inr (.inr (by omega))
   have e : EE c o = c := if_pos Cm
   rw [e]
   exact Ag H R R ⟨by rw [decide_eq_false (show ¬ ¬ BO c o from fun h => h Cm)], ⟨hc, ⟨_, _, k, ⟨AN, Ch⟩, AD, BM⟩, Bw, Dr⟩, Aa⟩
  ·
   refine kX 1 H (A9 U3 (H.e R) Am (AF (CP))) R λ a H => kW H R (AL (cs := [J o.1, J o.2.1, J o.2.2.1, J o.2.2.2]) (H.e R) (Ar k0) (by kernel_rfl) JY R) R λ a H => kG H R (A8 _ _ _ (T9 _ o) (Av jY (H.e R)) ?_)
   rintro e w9 ⟨rfl, hb⟩; refine ⟨_, rfl, ?_⟩; rw [decide_eq_false N4]; replace k := k.ups hb; replace AN := AG.up AN hb; replace AD := AG.up AD hb; replace Bw := AW.ups Bw hb; replace k0 := k0.ups hb; replace Aa := Aa.tr hb; clear hb; refine kl H rfl λ a H => kY 9 H rfl (Bs (H.ev rfl) rfl) rfl λ a H => zA (zB (zH H rfl (zC (zD (kR 1 H rfl λ a H => zA (zB (zF (zJ ?_))))))))
   have Cm : BO c o := by unfold BO; first | exact .inl (by omega) | exact .inr (.inl N4) | exact .inr (.inr (by omega))
   have e : EE c o = c := if_pos Cm
   rw [e]
   exact Ag H R R ⟨by rw [decide_eq_false (show ¬ ¬ BO c o from fun h => h Cm)], ⟨hc, ⟨_, _, k, ⟨AN, Ch⟩, AD, BM⟩, Bw, Dr⟩, Aa⟩
theorem T7 (w : World) (u : Int) : Calls Tryz.prog 13 #[J (u)] w fun e w' => (∃ b, e = .returned (.pointer (some ⟨b, 0, none⟩)) ∧ w.heap.size ≤ b ∧ ∀ I : Dw, @Bn I w' b none (G3 (DV u))) ∧ Below w.heap.size w w' := by
 have Aa := Below.refl w.heap.size w
 refine Az 8 Tryz.func13 R R λ a H => zC (zD (kR 1 H R λ a H => zA (zB (zC (zD (kR 1 H R λ a H => kV H (MJ (q := (if 1 > (u) then 1 else (u))) (H.e R) Am R) R λ a H => kV H (IS (q := (if 16 < (if 1 > (u) then 1 else (u)) then 16 else (if 1 > (u) then 1 else (u)))) (H.e R) Am R) R λ a H => Fr (.agg (Dm (G3 (DV u)) (.slice none 0 0) (.slice none 0 0) none)) (Bl #[(0, J (DV u))] (.agg (Dm (G3 (DV u)) (.slice none 0 0) (.slice none 0 0) none)) (by simp [H.ev (j := 5) R, DV]) (fun w => by kernel_rfl)) (kl H R λ a H => B7 76 (.tmp 6) (Dm (G3 (DV u)) (.slice none 0 0) (.slice none 0 0) none) (H.e R) fun w0 b0 Ak hb k0 => ?_)))))))
 replace Aa := Aa.trans hb; clear hb; exact kL 1 H rfl λ a H => zA (zB (zF (Ag H rfl rfl ⟨⟨_, rfl, Ak, fun I => ⟨Nl (O0 u), ⟨_, _, k0, ⟨AG.nil, Cj⟩, AG.nil, Cj⟩, (fun u => rfl), fun q e => by cases e⟩⟩, Aa⟩)))
theorem Ox [Dw] (w : World) (b : Nat) (m : Option Nat) (c : Cl) (h : Bn w b m c) : Calls Tryz.prog 19 #[.pointer (some ⟨b, 0, none⟩)] w fun e w' => e = .returned (.tuple #[]) ∧ Bn w' b none (JV c) ∧ Bi b m w w' := by
 obtain ⟨hc, ⟨vi, vo, k, ⟨AN, Ch⟩, AD, BM⟩, Bw, Dr⟩ := h
 have AM := hc.ck
 have AO := hc.key
 have IF := hc.now
 have Gu := hc.seq
 have Jf := hc.beats
 have IE := hc.nonce
 have Aa := Bi.refl b m w
 refine Az 13 Tryz.func19 R R λ a H => zC ?_
 obtain ⟨w1, qW, vE⟩ := Bw.clear 0
 refine zD (kR 3 H R λ a H => kV H (Ai PA R (H.e R) ((show _ = some (Value.map m) from Ev (c := c) AM AO k))) R λ a H => fG (.tuple #[]) w1 (bU (.map m) (H.e R) (fun cs => Z9 qW cs)) ?_)
 replace k := Ad.grown k vE (by cases m with | none => simp | some q => have := Dr q rfl; simp; omega); clear Bw AN AD; replace Aa := WT (b := b) vE; refine Dz H λ a H => zA (zB (zD (kR 4 H rfl λ a H => kV H (Ai U3 rfl (H.ev rfl) ((show _ = some (J (c.user)) from P4 (c := c) AM AO k))) rfl λ a H => Fr (.agg (Dm (G3 c.user) (.slice none 0 0) (.slice none 0 0) none)) (Bl #[(0, J (c.user))] (.agg (Dm (G3 c.user) (.slice none 0 0) (.slice none 0 0) none)) (by simp [H.ev (j := 10) rfl]) (fun w => by kernel_rfl)) (kL 1 H rfl λ a H => AT 76 (.tmp 12) (.tmp 11) b 76 (Dm (G3 c.user) (.slice none 0 0) (.slice none 0 0) none) _ (H.ev rfl) (H.ev rfl) k (fM rfl rfl) (by rw [Cc AM AO, Cc (c := G3 c.user) rfl rfl]) (Ua rfl rfl) fun w' hb ho kq => ?_))))
 clear k; have k := kq; replace Aa := Aa.store (hb b (Nat.le_refl _)) ho; clear hb ho kq; exact Dz H λ a H => zA (EF H rfl ⟨rfl, ⟨Rp hc, ⟨_, _, k, ⟨AG.nil, Cj⟩, AG.nil, Cj⟩, (fun u => rfl), fun q e => by cases e⟩, Aa⟩)
theorem Mu [Dw] (w : World) (b : Nat) (m : Option Nat) (c : Cl) (h : Bn w b m c) (n : Int) : Calls Tryz.prog 17 #[.pointer (some ⟨b, 0, none⟩), J (n)] w fun e w' => e = .returned (.bool (Io n)) ∧ (∃ m', Bn w' b m' (Gh c n) ∧ Eg w m m') ∧ Bi b m w w' := by
 obtain ⟨hc, ⟨vi, vo, k, ⟨AN, Ch⟩, AD, BM⟩, Bw, Dr⟩ := h
 have AM := hc.ck
 have AO := hc.key
 have IF := hc.now
 have Gu := hc.seq
 have Jf := hc.beats
 have IE := hc.nonce
 have Aa := Bi.refl b m w
 refine Az 20 Tryz.func17 R R λ a H => zC (zD (kR 1 H R λ a H => zA (zB (zC (zC (zD (kR 1 H R λ a H => ?_)))))))
 by_cases BE : (n) < 0
 ·
  refine kX 4 H (By U3 (H.e R) Am (AE (BE))) R λ a H => zA (zB (zH H R (zC (zD (kR 1 H R λ a H => zA (zB (zF (zJ ?_))))))))
  rw [show Gh c n = c from if_pos (by omega), show Io n = false from decide_eq_false (by omega)]
  exact Ag H R R ⟨R, ⟨m, ⟨hc, ⟨_, _, k, ⟨AN, Ch⟩, AD, BM⟩, Bw, Dr⟩, .inl R⟩, Aa⟩
 ·
  refine kX 2 H (By U3 (H.e R) Am (AF (BE))) R λ a H => ?_
  by_cases Cn : (n) > 1073741824
  ·
   refine kY 1 H R (CU U3 (H.e R) Am (AE (Cn))) R λ a H => zA (zB (zH H R (zC (zD (kR 1 H R λ a H => zA (zB (zF (zJ ?_))))))))
   rw [show Gh c n = c from if_pos (by omega), show Io n = false from decide_eq_false (by omega)]
   exact Ag H R R ⟨R, ⟨m, ⟨hc, ⟨_, _, k, ⟨AN, Ch⟩, AD, BM⟩, Bw, Dr⟩, .inl R⟩, Aa⟩
  ·
   refine kY 1 H R (CU U3 (H.e R) Am (AF (Cn))) R λ a H => zA (zB (zG H R (zE (zB (zC (zD (kR 1 H R λ a H => kC 0 (Ox _ b m c ⟨hc, ⟨_, _, k, ⟨AN, Ch⟩, AD, BM⟩, Bw, Dr⟩) (Av kP (H.e R)) H R fun w9 a ⟨Be, CD⟩ H => ?_)))))))
   clear k AN Ch AD BM Bw Dr; replace Aa := CD; clear CD; obtain ⟨dL, ⟨vi', vo', k, ⟨AN, Ch⟩, AD, BM⟩, Bw, Dr⟩ := Be; have hc1' := dL.ck; have hc2' := dL.key; clear AM AO; have AM := hc1'; have AO := hc2'; clear hc1' hc2'
   refine zA (zB (zC (zD (kR 5 H R λ a H => Gb (new := Dm ({ (JV c) with nonce := (n) }) (vi') (vo') none) (H.e R) (H.e R) k s3 (FT AM AO R) oI (Mv AM AO) Aa H fun w' hb ho k Aa a H => ?_))))
   replace AN := AG.store AN (fx Ch) ho; replace AD := AG.store AD (fx BM) ho; replace Bw := AW.store Bw Dr hb ho; clear hb ho
   refine kR 2 H R λ a H => Gb (new := Dm ({ (JV c) with nonce := (n), state := 1 }) (vi') (vo') none) (H.e R) Am k s3 (FT AM AO R) oI (H2 AM AO) Aa H fun w' hb ho k Aa a H => ?_
   replace AN := AG.store AN (fx Ch) ho; replace AD := AG.store AD (fx BM) ho; replace Bw := AW.store Bw Dr hb ho; clear hb ho
   refine zA (zB (zC (zD (kR 1 H R λ a H => zA (zB (zF ?_))))))
   have e : Gh c n = { G3 c.user with nonce := n, state := 1 } := if_neg (by omega)
   have Ca := PR hc n
   rw [e] at Ca ⊢
   rw [show Io n = true from decide_eq_true (by omega)]
   exact Ag H R R ⟨R, ⟨none, ⟨Ca, ⟨_, _, k, ⟨AN, Ch⟩, AD, BM⟩, Bw, Dr⟩, .inr (.inl R)⟩, Aa⟩
theorem NG [Dw] (w : World) (b : Nat) (m : Option Nat) (c : Cl) (h : Bn w b m c) : Calls Tryz.prog 27 #[.pointer (some ⟨b, 0, none⟩)] w fun e w' => e = .returned (J (c.state)) ∧ Below w.heap.size w w' := by
 obtain ⟨hc, ⟨vi, vo, k, ⟨AN, Ch⟩, AD, BM⟩, Bw, Dr⟩ := h
 have AM := hc.ck
 have AO := hc.key
 have IF := hc.now
 have Gu := hc.seq
 have Jf := hc.beats
 have IE := hc.nonce
 have Aa := Bi.refl b m w
 clear Aa
 have Aa := Below.refl w.heap.size w
 exact Az 7 Tryz.func27 R R λ a H => zC (zD (kR 1 H R λ a H => zA (zB (zC (zD (kR 3 H R λ a H => kX 1 H (Ai U3 R (H.e R) ((show _ = some (J (c.state)) from CS (c := c) AM AO k))) R λ a H => zA (zB (zF (Ag H R R ⟨R, Aa⟩)))))))))
theorem L4 [Dw] (w : World) (b : Nat) (m : Option Nat) (c : Cl) (h : Bn w b m c) : Calls Tryz.prog 29 #[.pointer (some ⟨b, 0, none⟩)] w fun e w' => e = .returned (J (M4 c)) ∧ Below w.heap.size w w' := by
 obtain ⟨hc, ⟨vi, vo, k, ⟨AN, Ch⟩, AD, BM⟩, Bw, Dr⟩ := h
 have AM := hc.ck
 have AO := hc.key
 have IF := hc.now
 have Gu := hc.seq
 have Jf := hc.beats
 have IE := hc.nonce
 have Aa := Bi.refl b m w
 clear Aa
 have Aa := Below.refl w.heap.size w
 refine Az 13 Tryz.func29 R R λ a H => zC (zD (kR 1 H R λ a H => zA (zB (zC (zC (zD (kR 3 H R λ a H => kV H (Ai U3 R (H.e R) ((show _ = some (J (c.state)) from CS (c := c) AM AO k))) R λ a H => ?_)))))))
 by_cases BE : (c.state) ≠ 3
 ·
  exact kV H (E6 U3 (H.e R) Am (AE (BE))) R λ a H => zA (zB (zH H R (zC (zD (kR 1 H R λ a H => zA (zB (zF (zJ (Ag H R R ⟨by rw [M4, if_neg (by omega)], Aa⟩)))))))))
 ·
  exact kV H (E6 U3 (H.e R) Am (AF (BE))) R λ a H => zA (zB (zG H R (zE (zB (zC (zD (kR 3 H R λ a H => kV H (Br (q := 22) KD (H.e R) R) R λ a H => kX 1 H (Ai U3 R (H.e R) ((show _ = some (J (c.id)) from Rs (c := c) AM AO k))) R λ a H => zA (zB (zF (Ag H R R ⟨by rw [M4, if_pos (by omega)], Aa⟩))))))))))
theorem NF [Dw] (w : World) (b : Nat) (m : Option Nat) (c : Cl) (h : Bn w b m c) : Calls Tryz.prog 31 #[.pointer (some ⟨b, 0, none⟩)] w fun e w' => e = .returned (J (((c.os.length : Nat) : Int))) ∧ Below w.heap.size w w' := by
 obtain ⟨hc, ⟨vi, vo, k, ⟨AN, Ch⟩, AD, BM⟩, Bw, Dr⟩ := h
 have AM := hc.ck
 have AO := hc.key
 have IF := hc.now
 have Gu := hc.seq
 have Jf := hc.beats
 have IE := hc.nonce
 have Aa := Bi.refl b m w
 obtain ⟨Ao, co, Su⟩ := CY AD
 subst Su
 clear Aa
 have Aa := Below.refl w.heap.size w
 exact Az 8 Tryz.func31 R R λ a H => zC (zD (kR 1 H R λ a H => zA (zB (zC (zD (kR 3 H R λ a H => kV H (Ai FG R (H.e R) ((show _ = some (.slice Ao c.os.length co : Value) from HW (c := c) AM AO k))) R λ a H => kX 1 H (Ba FG (H.e R)) R λ a H => zA (zB (zF (Ag H R R ⟨R, Aa⟩)))))))))
theorem QO [Dw] (w : World) (b : Nat) (m : Option Nat) (c : Cl) (h : Bn w b m c) : Calls Tryz.prog 33 #[.pointer (some ⟨b, 0, none⟩)] w fun e w' => e = .returned (J (c.code)) ∧ Below w.heap.size w w' := by
 obtain ⟨hc, ⟨vi, vo, k, ⟨AN, Ch⟩, AD, BM⟩, Bw, Dr⟩ := h
 have AM := hc.ck
 have AO := hc.key
 have IF := hc.now
 have Gu := hc.seq
 have Jf := hc.beats
 have IE := hc.nonce
 have Aa := Bi.refl b m w
 clear Aa
 have Aa := Below.refl w.heap.size w
 exact Az 7 Tryz.func33 R R λ a H => zC (zD (kR 1 H R λ a H => zA (zB (zC (zD (kR 3 H R λ a H => kX 1 H (Ai O8 R (H.e R) ((show _ = some (J (c.code)) from TZ (c := c) AM AO k))) R λ a H => zA (zB (zF (Ag H R R ⟨R, Aa⟩)))))))))
theorem PJ [Dw] (w : World) (b : Nat) (m : Option Nat) (c : Cl) (h : Bn w b m c) (u : Int) (cU : (Lit.int .i64 u).wf = true) : Calls Tryz.prog 35 #[.pointer (some ⟨b, 0, none⟩), J (u)] w fun e w' => e = .returned (.tuple #[.agg (cN ((c.vw u).getD CH)), .bool (c.vw u).isSome]) ∧ Below w.heap.size w w' := by
 obtain ⟨hc, ⟨vi, vo, k, ⟨AN, Ch⟩, AD, BM⟩, Bw, Dr⟩ := h
 have AM := hc.ck
 have AO := hc.key
 have IF := hc.now
 have Gu := hc.seq
 have Jf := hc.beats
 have IE := hc.nonce
 have Aa := Bi.refl b m w
 clear Aa
 have Aa := Below.refl w.heap.size w
 refine Az 19 Tryz.func35 R R λ a H => zC (zD (Bj 49 (cN CH) V7 fun w0 b0 Ak hb k0 => ?_))
 have g0 := Nat.le_trans Aa.size Ak; have PF : b < b0 := Nat.lt_of_lt_of_le k.lt Ak; replace k := k.ups hb; replace Bw := AW.ups Bw hb; replace Aa := Aa.tr hb; clear hb Ak; refine kL 1 H rfl λ a H => zA (zB (zC (zD (kR 3 H rfl λ a H => kX 1 H (Ai PA rfl (H.ev rfl) ((show _ = some (Value.map m) from Ev (c := c) AM AO k))) rfl λ a H => kX 3 H (Si (vw := c.vw) (u := (u)) Bw cU (H.ev rfl) (H.ev rfl)) rfl λ a H => Bj 49 (cN CH) V7 fun w1 b1 Ak hb k1 => ?_))))
 have g1 := Nat.le_trans Aa.size Ak; have N7 : b0 < b1 := Nat.lt_of_lt_of_le k0.lt Ak; replace k := k.ups hb; replace k0 := k0.ups hb; replace Aa := Aa.tr hb; clear hb Ak; refine kl H rfl λ a H => AT 49 (.tmp 6) (.tmp 15) b1 49 (cN ((c.vw u).getD CH)) _ (H.ev rfl) (H.ev rfl) k1 EZ rfl (by simp [Value.oneCell']) fun w' hb ho kq => ?_
 clear k1; have k1 := kq; replace k0 := Ae k0 (ho _ (by omega)); replace Aa := Aa.trans (hb _ g1); clear hb ho kq; refine kO 1 H rfl λ a H => zA (zB (zC (zD (kX 1 (v := .agg (cN ((c.vw u).getD CH))) H (Af b1 49 _ _ (H.ev rfl) k1 PH rfl EZ) rfl λ a H => AT 49 (.tmp 4) (.tmp 17) b0 49 (cN ((c.vw u).getD CH)) _ (H.ev rfl) (H.ev rfl) k0 EZ rfl (by simp [Value.oneCell']) fun w' hb ho kq => ?_))))
 clear k0; have k0 := kq; replace Aa := Aa.trans (hb _ g0); clear hb ho kq; exact kO 1 H rfl λ a H => zA (zB (zF (BF H rfl rfl rfl k0 PH rfl EZ ⟨rfl, Aa⟩)))
end Go.Proofs.YtbnmpoonkjlkjaaGreat
