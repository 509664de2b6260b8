/- Client: part ZEc of the proof. -/
import Derived.Test.YtbnmpoonkjlkjaaGreatXZEb
namespace Go.Proofs.YtbnmpoonkjlkjaaGreat
open Go.RowKit
set_option linter.unusedVariables false
set_option linter.unusedSimpArgs false
set_option maxRecDepth 100000
set_option maxHeartbeats 8000000
theorem nK : BI Tryz.prog 79 0 0 := fun b o w => by go_simp
theorem nJ : BI Tryz.prog 79 1 1 := fun b o w => by go_simp
theorem nI : BI Tryz.prog 79 2 2 := fun b o w => by go_simp
theorem nH : BI Tryz.prog 79 3 3 := fun b o w => by go_simp
theorem nG : BI Tryz.prog 79 4 4 := fun b o w => by go_simp
theorem nF : BI Tryz.prog 79 5 5 := fun b o w => by go_simp
theorem nE : BI Tryz.prog 79 6 21 := fun b o w => by go_simp
theorem nD : BI Tryz.prog 79 7 22 := fun b o w => by go_simp
theorem nC : BI Tryz.prog 79 8 38 := fun b o w => by go_simp
theorem nB : BI Tryz.prog 79 9 39 := fun b o w => by go_simp
theorem iO : BI Tryz.prog 79 10 40 := fun b o w => by go_simp
theorem iN : BI Tryz.prog 79 11 41 := fun b o w => by go_simp
theorem iM : BI Tryz.prog 79 12 42 := fun b o w => by go_simp
theorem iL : BI Tryz.prog 79 13 43 := fun b o w => by go_simp
theorem iK : BI Tryz.prog 79 14 44 := fun b o w => by go_simp
theorem iJ : BI Tryz.prog 79 15 46 := fun b o w => by go_simp
theorem iI : BI Tryz.prog 79 16 114 := fun b o w => by go_simp
theorem IH {V : Int → Option Nt} : (V8 V).size = 68 := Il
theorem uP : (Tryz.prog.info? 77).map (·.size) = some 68 := by kernel_rfl
theorem fL {V : Int → Option Nt} : (Tryz.prog.info? 77).map (·.size) = some (PC V).length := by rw [Il]; exact uP
theorem Yr {V : Int → Option Nt} : (Tryz.prog.info? 77).map (·.size) = some (V8 V).size := by rw [IH]; exact uP
theorem OD (V : Int → Option Nt) : (V8 V).all (·.oneCell') = true := by
 rw [V8, List.all_toArray, List.all_eq_true]
 exact CI EM _
theorem eI {u : Int} : (if (if 16 < u then 16 else u) > 1 then (if 16 < u then 16 else u) else 1) = DV u := by unfold DV; split <;> split <;> split <;> omega
theorem Vh {u : Int} (h : 1 ≤ u ∧ u ≤ 16) : DV u = u := by unfold DV; split <;> split <;> omega
theorem E5 : EB.length = 16 := rfl
theorem OW {w : World} {b : Nat} {c : Cl} {vi vo : Value} {q : Nat} {y : Nt} (h1 : c.ck.length = 16) (h2 : c.key.length = 16) (k : Ad w b 79 (rA c vi vo)) (hy : (c.vw (q : Nat)).getD CH = y) (hq : q < 17) : w.rangeAt b (46 + q * 4) [J y.1, J y.2.1, J y.2.2.1, J y.2.2.2] := by
 have hh : BJ w (some ⟨b, 46, none⟩) (PC c.vw) := fun j hj => ⟨b, 46, rfl, (MC h1 h2 k j _ (List.getElem?_eq_getElem hj)).trans (List.getElem?_eq_getElem hj).symm⟩
 have := Iy Cr hh rfl (j := q) (by simp; omega)
 rw [List.getElem_map, List.getElem_range, hy] at this
 exact this
theorem bM {c : Cl} (h : Dc c) (q : Nat) : 0 ≤ ((c.vw (q : Nat)).getD CH).1 := by
 cases e : c.vw (q : Nat) with
 | none => exact Int.le_refl _
 | some y => have := (h.vw _ _ e).2.1; have := (h.vw _ _ e).1; show 0 ≤ y.1; omega
theorem SY {c : Cl} (h : Dc c) {u : Int} (hu : u < 1 ∨ 16 < u) : c.vw u = none := by
 cases e : c.vw u with
 | none => rfl
 | some y => have := h.vw _ _ e; omega
theorem ZE {c : Cl} (h : Dc c) {u : Int} {y : Nt} (e : (c.vw u).getD CH = y) : (c.vw u).isSome = decide (0 < y.1) := by
 cases hv : c.vw u with
 | none =>
  rw [hv] at e
  subst e
  rfl
 | some x =>
  rw [hv] at e
  subst e
  have := h.vw _ _ hv
  exact (decide_eq_true (show 0 < x.1 by omega)).symm
theorem Wx (w : World) (u : Int) : Calls Tryz.prog 14 #[J (u)] w fun e w' => (∃ b, e = .returned (.pointer (some ⟨b, 0, none⟩)) ∧ w.heap.size ≤ b ∧ Ad w' b 79 (rA (G3 (DV u)) (.slice none 0 0) (.slice none 0 0))) ∧ Below w.heap.size w w' := by
 have Aa := Below.refl w.heap.size w
 refine Az 8 Tryz.func14 R R λ a H => zC (zD (kR 1 H R λ a H => zA (zB (zC (zD (kR 1 H R λ a H => kV H (IS (q := (if 16 < (u) then 16 else (u))) (H.e R) Am R) R λ a H => kV H (MJ (q := (if (if 16 < (u) then 16 else (u)) > 1 then (if 16 < (u) then 16 else (u)) else 1)) Am (H.e R) R) R λ a H => Fr (.agg (rA (G3 (DV u)) (.slice none 0 0) (.slice none 0 0))) (Bl #[(0, J (DV u))] (.agg (rA (G3 (DV u)) (.slice none 0 0) (.slice none 0 0))) (by simp [H.ev (j := 5) R, eI]) (fun w => by kernel_rfl)) (kl H R λ a H => B7 79 (.tmp 6) (rA (G3 (DV u)) (.slice none 0 0) (.slice none 0 0)) (H.e R) fun w0 b0 Ak hb k0 => ?_)))))))
 replace Aa := Aa.trans hb; clear hb; exact kL 1 H rfl λ a H => zA (zB (zF (Ag H rfl rfl ⟨⟨_, rfl, Ak, k0⟩, Aa⟩)))
theorem Qv (w : World) (b : Nat) (c : Cl) (vi vo : Value) (hu : 1 ≤ c.user ∧ c.user ≤ 16) (AM : c.ck.length = 16) (AO : c.key.length = 16) (k : Ad w b 79 (rA c vi vo)) : Calls Tryz.prog 20 #[.pointer (some ⟨b, 0, none⟩)] w fun e w' => e = .returned (.tuple #[]) ∧ Ad w' b 79 (rA (G3 c.user) (.slice none 0 0) (.slice none 0 0)) ∧ Bi b none w w' := by
 have Aa := Bi.refl b none w
 refine Az 116 Tryz.func20 R R λ a H => zC (zD (kR 3 H R λ a H => kV H (Ai U3 R (H.e R) ((show _ = some (J (c.user)) from Tk (c := c) AM AO k))) R λ a H => A8 _ _ _ (Wx _ c.user) (Av lD (H.e R)) ?_))
 rintro e w9 ⟨⟨b0, rfl, Ak, k0⟩, hb⟩; refine ⟨_, rfl, ?_⟩; rw [Vh hu] at k0; have PF : b < b0 := Nat.lt_of_lt_of_le k.lt Ak; replace k := k.ups hb; replace Aa := Aa.tr hb; clear hb; clear Ak; refine kL 1 H rfl λ a H => zA (zB (zC (zD (kR 4 H rfl λ a H => kX 2 H (Ai U3 rfl (H.ev rfl) ((show _ = some (J 0) from Fu (c := G3 c.user) rfl rfl k0))) rfl λ a H => Gb (new := rA ({ c with now := 0 }) vi vo) (H.ev rfl) (H.ev rfl) k s3 (Cv AM AO rfl) oI (Wc AM AO) Aa H fun w' hb ho k Aa a H => ?_))))
 replace k0 := Ae k0 (ho _ (by omega)); clear hb ho
 refine zA (zB (zC (zD (kR 4 H R λ a H => kX 2 H (Ai U3 R (H.e R) ((show _ = some (J 0) from DZ (c := G3 c.user) R R k0))) R λ a H => Gb (new := rA ({ c with now := 0, state := 0 }) vi vo) (H.e R) (H.e R) k s3 (Cv AM AO R) oI (GB AM AO) Aa H fun w' hb ho k Aa a H => ?_))))
 replace k0 := Ae k0 (ho _ (by omega)); clear hb ho
 refine zA (zB (zC (zD (kR 4 H R λ a H => kX 2 H (Ai U3 R (H.e R) ((show _ = some (J 0) from FX (c := G3 c.user) R R k0))) R λ a H => Gb (new := rA ({ c with now := 0, state := 0, nonce := 0 }) vi vo) (H.e R) (H.e R) k s3 (Cv AM AO R) oI (Ke AM AO) Aa H fun w' hb ho k Aa a H => ?_))))
 replace k0 := Ae k0 (ho _ (by omega)); clear hb ho
 refine zA (zB (zC (zD (kR 4 H R λ a H => kX 2 H (Ai U3 R (H.e R) ((show _ = some (J 0) from Qn (c := G3 c.user) R R k0))) R λ a H => Gb (new := rA ({ c with now := 0, state := 0, nonce := 0, epoch := 0 }) vi vo) (H.e R) (H.e R) k s3 (Cv AM AO R) oI (PW AM AO) Aa H fun w' hb ho k Aa a H => ?_))))
 replace k0 := Ae k0 (ho _ (by omega)); clear hb ho
 refine zA (zB (zC (zD (kR 4 H R λ a H => kX 2 H (AL (cs := (EB).map u8v) (H.e R) (ZM (c := G3 c.user) R R k0 : World.rangeAt _ b0 5 (EB.map u8v)) (by kernel_rfl) (by rw [List.length_map, E5]; exact Ft) R) R λ a H => Cp 33 (.tmp 42) (.tmp 40) b 5 79 (BL (EB)) _ (H.e R) (H.e R) k (by rw [Bk, E5]; exact Ft) (by rw [Eb (c := { c with now := 0, state := 0, nonce := 0, epoch := 0 }) AM AO]; rw [Bk, E5]; omega) (D5 _) fun w' hb ho kq => ?_))))
 clear k; rw [ZH (c := { c with now := 0, state := 0, nonce := 0, epoch := 0 }) AM E5] at kq; have hc1' := E5; clear AM; have AM := hc1'; clear hc1'; have k : Ad _ b 79 (rA ({ c with now := 0, state := 0, nonce := 0, epoch := 0, ck := EB }) vi vo) := kq; replace k0 := Ae k0 (ho _ (by omega)); replace Aa := Aa.store (hb b (Nat.le_refl _)) ho; clear hb ho kq; refine Dz H λ a H => zA (zB (zC (zD (kR 4 H rfl λ a H => kX 2 H (Ai U3 rfl (H.ev rfl) ((show _ = some (J 0) from L8 (c := G3 c.user) rfl rfl k0))) rfl λ a H => Gb (new := rA ({ c with now := 0, state := 0, nonce := 0, epoch := 0, ck := EB, id := 0 }) vi vo) (H.ev rfl) (H.ev rfl) k s3 (Cv AM AO rfl) oI (ZG AM AO) Aa H fun w' hb ho k Aa a H => ?_))))
 replace k0 := Ae k0 (ho _ (by omega)); clear hb ho
 refine zA (zB (zC (zD (kR 4 H R λ a H => kX 2 H (AL (cs := (EB).map u8v) (H.e R) (Sa (c := G3 c.user) R R k0 : World.rangeAt _ b0 22 (EB.map u8v)) (by kernel_rfl) (by rw [List.length_map, E5]; exact Ft) R) R λ a H => Cp 33 (.tmp 56) (.tmp 54) b 22 79 (BL (EB)) _ (H.e R) (H.e R) k (by rw [Bk, E5]; exact Ft) (by rw [Eb (c := { c with now := 0, state := 0, nonce := 0, epoch := 0, ck := EB, id := 0 }) AM AO]; rw [Bk, E5]; omega) (D5 _) fun w' hb ho kq => ?_))))
 clear k; rw [Wd (c := { c with now := 0, state := 0, nonce := 0, epoch := 0, ck := EB, id := 0 }) AM AO E5] at kq; have hc2' := E5; clear AO; have AO := hc2'; clear hc2'; have k : Ad _ b 79 (rA ({ c with now := 0, state := 0, nonce := 0, epoch := 0, ck := EB, id := 0, key := EB }) vi vo) := kq; replace k0 := Ae k0 (ho _ (by omega)); replace Aa := Aa.store (hb b (Nat.le_refl _)) ho; clear hb ho kq; refine Dz H λ a H => zA (zB (zC (zD (kR 4 H rfl λ a H => kX 2 H (Ai U3 rfl (H.ev rfl) ((show _ = some (J 0) from MD (c := G3 c.user) rfl rfl k0))) rfl λ a H => Gb (new := rA ({ c with now := 0, state := 0, nonce := 0, epoch := 0, ck := EB, id := 0, key := EB, beats := 0 }) vi vo) (H.ev rfl) (H.ev rfl) k s3 (Cv AM AO rfl) oI (Mx AM AO) Aa H fun w' hb ho k Aa a H => ?_))))
 replace k0 := Ae k0 (ho _ (by omega)); clear hb ho
 refine zA (zB (zC (zD (kR 4 H R λ a H => kX 2 H (Ai U3 R (H.e R) ((show _ = some (J 0) from RY (c := G3 c.user) R R k0))) R λ a H => Gb (new := rA ({ c with now := 0, state := 0, nonce := 0, epoch := 0, ck := EB, id := 0, key := EB, beats := 0, seq := 0 }) vi vo) (H.e R) (H.e R) k s3 (Cv AM AO R) oI (RP AM AO) Aa H fun w' hb ho k Aa a H => ?_))))
 replace k0 := Ae k0 (ho _ (by omega)); clear hb ho
 refine zA (zB (zC (zD (kR 4 H R λ a H => kX 2 H (Ai U3 R (H.e R) ((show _ = some (J 0) from W0 (c := G3 c.user) R R k0))) R λ a H => Gb (new := rA ({ c with now := 0, state := 0, nonce := 0, epoch := 0, ck := EB, id := 0, key := EB, beats := 0, seq := 0, ask := 0 }) vi vo) (H.e R) (H.e R) k s3 (Cv AM AO R) oI (My AM AO) Aa H fun w' hb ho k Aa a H => ?_))))
 replace k0 := Ae k0 (ho _ (by omega)); clear hb ho
 refine zA (zB (zC (zD (kR 4 H R λ a H => kX 2 H (Ai U3 R (H.e R) ((show _ = some (J 0) from Tl (c := G3 c.user) R R k0))) R λ a H => Gb (new := rA ({ c with now := 0, state := 0, nonce := 0, epoch := 0, ck := EB, id := 0, key := EB, beats := 0, seq := 0, ask := 0, beat := 0 }) vi vo) (H.e R) (H.e R) k s3 (Cv AM AO R) oI (OQ AM AO) Aa H fun w' hb ho k Aa a H => ?_))))
 replace k0 := Ae k0 (ho _ (by omega)); clear hb ho
 refine zA (zB (zC (zD (kR 4 H R λ a H => kX 2 H (Ai U3 R (H.e R) ((show _ = some (J 0) from RZ (c := G3 c.user) R R k0))) R λ a H => Gb (new := rA ({ c with now := 0, state := 0, nonce := 0, epoch := 0, ck := EB, id := 0, key := EB, beats := 0, seq := 0, ask := 0, beat := 0, say := 0 }) vi vo) (H.e R) (H.e R) k s3 (Cv AM AO R) oI (OP AM AO) Aa H fun w' hb ho k Aa a H => ?_))))
 replace k0 := Ae k0 (ho _ (by omega)); clear hb ho
 refine zA (zB (zC (zD (kR 3 H R λ a H => Gb (new := rA ({ c with now := 0, state := 0, nonce := 0, epoch := 0, ck := EB, id := 0, key := EB, beats := 0, seq := 0, ask := 0, beat := 0, say := 0 }) vi (.slice none 0 0)) (H.e R) Am k ZK (Cv AM AO R) oS (PV AM AO) Aa H fun w' hb ho k Aa a H => ?_))))
 replace k0 := Ae k0 (ho _ (by omega)); clear hb ho
 refine zA (zB (zC (zD (kR 4 H R λ a H => kX 2 H (AL (cs := [J 0, .slice none 0 0]) (H.e R) ((OX (c := G3 c.user) R R k0 : World.rangeAt _ b0 44 [J 0, .slice none 0 0])) (by kernel_rfl) DU R) R λ a H => Cp 70 (.tmp 101) (.tmp 99) b 44 79 #[J 0, .slice none 0 0] _ (H.e R) (H.e R) k DU (by rw [Eb (c := { c with now := 0, state := 0, nonce := 0, epoch := 0, ck := EB, id := 0, key := EB, beats := 0, seq := 0, ask := 0, beat := 0, say := 0 }) AM AO]; show 44 + 2 ≤ 115; omega) (by simp [Value.oneCell']) fun w' hb ho kq => ?_))))
 clear k; rw [OO (c := { c with now := 0, state := 0, nonce := 0, epoch := 0, ck := EB, id := 0, key := EB, beats := 0, seq := 0, ask := 0, beat := 0, say := 0 }) AM AO] at kq; have k : Ad _ b 79 (rA ({ c with now := 0, state := 0, nonce := 0, epoch := 0, ck := EB, id := 0, key := EB, beats := 0, seq := 0, ask := 0, beat := 0, say := 0, next := 0 }) (.slice none 0 0) (.slice none 0 0)) := kq; replace k0 := Ae k0 (ho _ (by omega)); replace Aa := Aa.store (hb b (Nat.le_refl _)) ho; clear hb ho kq; refine Dz H λ a H => zA (zB (zC (zD (kR 4 H rfl λ a H => kX 2 (v := .agg (V8 (fun _ => none))) H (AL (cs := PC (fun _ => none)) (H.ev rfl) (MC (c := G3 c.user) rfl rfl k0 : World.rangeAt _ b0 46 (PC (fun _ => none))) (by kernel_rfl) fL rfl) rfl λ a H => Cp 77 (.tmp 108) (.tmp 106) b 46 79 (V8 (fun _ => none)) _ (H.ev rfl) (H.ev rfl) k (Yr (V := fun _ => none)) (by rw [Eb (c := { c with now := 0, state := 0, nonce := 0, epoch := 0, ck := EB, id := 0, key := EB, beats := 0, seq := 0, ask := 0, beat := 0, say := 0, next := 0 }) AM AO]; rw [IH]; omega) (OD _) fun w' hb ho kq => ?_))))
 clear k; rw [PU (c := { c with now := 0, state := 0, nonce := 0, epoch := 0, ck := EB, id := 0, key := EB, beats := 0, seq := 0, ask := 0, beat := 0, say := 0, next := 0 }) AM AO] at kq; have k : Ad _ b 79 (rA ({ c with now := 0, state := 0, nonce := 0, epoch := 0, ck := EB, id := 0, key := EB, beats := 0, seq := 0, ask := 0, beat := 0, say := 0, next := 0, vw := fun _ => none }) (.slice none 0 0) (.slice none 0 0)) := kq; replace k0 := Ae k0 (ho _ (by omega)); replace Aa := Aa.store (hb b (Nat.le_refl _)) ho; clear hb ho kq; refine Dz H λ a H => zA (zB (zD (kR 4 H rfl λ a H => kX 2 H (Ai O8 rfl (H.ev rfl) ((show _ = some (J 0) from OY (c := G3 c.user) rfl rfl k0))) rfl λ a H => Gb (new := rA ({ c with now := 0, state := 0, nonce := 0, epoch := 0, ck := EB, id := 0, key := EB, beats := 0, seq := 0, ask := 0, beat := 0, say := 0, next := 0, vw := fun _ => none, code := 0 }) (.slice none 0 0) (.slice none 0 0)) (H.ev rfl) (H.ev rfl) k Wr (Cv AM AO rfl) oI (Jp AM AO) Aa H fun w' hb ho k Aa a H => ?_)))
 replace k0 := Ae k0 (ho _ (by omega)); clear hb ho
 exact zA (EF H R ⟨R, k, Aa⟩)
theorem MH [Dw] (w : World) (b : Nat) (c : Cl) (h : F1 w b c) : Calls Tryz.prog 20 #[.pointer (some ⟨b, 0, none⟩)] w fun e w' => e = .returned (.tuple #[]) ∧ F1 w' b (JV c) ∧ Bi b none w w' := by
 obtain ⟨hc, vi, vo, k, _⟩ := h
 exact (Qv w b c vi vo hc.user hc.ck hc.key k).mono fun e w' ⟨h1, k, h3⟩ => ⟨h1, ⟨Rp hc, _, _, k, ⟨AG.nil, Cj⟩, AG.nil, Cj⟩, h3⟩
theorem RU [Dw] (w : World) (b : Nat) (c : Cl) (h : F1 w b c) (n : Int) : Calls Tryz.prog 18 #[.pointer (some ⟨b, 0, none⟩), J (n)] w fun e w' => e = .returned (.bool (Io n)) ∧ F1 w' b (Gh c n) ∧ Bi b none w w' := by
 obtain ⟨hc, vi, vo, k, ⟨AN, Ch⟩, AD, BM⟩ := h
 have AM := hc.ck
 have AO := hc.key
 have IF := hc.now
 have Gu := hc.seq
 have Jf := hc.beats
 have IE := hc.nonce
 have Aa := Bi.refl b none w
 refine Az 20 Tryz.func18 R R λ a H => zC (zD (kR 1 H R λ a H => zA (zB (zC (zC (zD (kR 1 H R λ a H => ?_)))))))
 by_cases BE : (n) < 0
 ·
  refine kX 4 H (By U3 (H.e R) Am (AE (BE))) R λ a H => zA (zB (zH H R (zC (zD (kR 1 H R λ a H => zA (zB (zF (zJ ?_))))))))
  rw [show Gh c n = c from if_pos (by omega), show Io n = false from decide_eq_false (by omega)]
  exact Ag H R R ⟨R, ⟨hc, _, _, k, ⟨AN, Ch⟩, AD, BM⟩, Aa⟩
 ·
  refine kX 2 H (By U3 (H.e R) Am (AF (BE))) R λ a H => ?_
  by_cases Cn : (n) > 1073741824
  ·
   refine kY 1 H R (CU U3 (H.e R) Am (AE (Cn))) R λ a H => zA (zB (zH H R (zC (zD (kR 1 H R λ a H => zA (zB (zF (zJ ?_))))))))
   rw [show Gh c n = c from if_pos (by omega), show Io n = false from decide_eq_false (by omega)]
   exact Ag H R R ⟨R, ⟨hc, _, _, k, ⟨AN, Ch⟩, AD, BM⟩, Aa⟩
  ·
   refine kY 1 H R (CU U3 (H.e R) Am (AF (Cn))) R λ a H => zA (zB (zG H R (zE (zB (zC (zD (kR 1 H R λ a H => kC 0 (MH _ b c ⟨hc, _, _, k, ⟨AN, Ch⟩, AD, BM⟩) (Av eS (H.e R)) H R fun w9 a ⟨Be, CD⟩ H => ?_)))))))
   clear k AN Ch AD BM; replace Aa := CD; clear CD; obtain ⟨dL, vi', vo', k, ⟨AN, Ch⟩, AD, BM⟩ := Be; have hc1' := dL.ck; have hc2' := dL.key; clear AM AO; have AM := hc1'; have AO := hc2'; clear hc1' hc2'
   refine zA (zB (zC (zD (kR 4 H R λ a H => Gb (new := rA ({ (JV c) with nonce := (n) }) (vi') (vo')) (H.e R) (H.e R) k s3 (Cv AM AO R) oI (Ke AM AO) Aa H fun w' hb ho k Aa a H => ?_))))
   replace AN := AG.store AN (fx Ch) ho; replace AD := AG.store AD (fx BM) ho; clear hb ho
   refine zA (zB (zC (zD (kR 3 H R λ a H => Gb (new := rA ({ (JV c) with nonce := (n), state := 1 }) (vi') (vo')) (H.e R) Am k s3 (Cv AM AO R) oI (GB AM AO) Aa H fun w' hb ho k Aa a H => ?_))))
   replace AN := AG.store AN (fx Ch) ho; replace AD := AG.store AD (fx BM) ho; clear hb ho
   refine zA (zB (zC (zD (kR 1 H R λ a H => zA (zB (zF ?_))))))
   have e : Gh c n = { G3 c.user with nonce := n, state := 1 } := if_neg (by omega)
   have Ca := PR hc n
   rw [e] at Ca ⊢
   rw [show Io n = true from decide_eq_true (by omega)]
   exact Ag H R R ⟨R, ⟨Ca, _, _, k, ⟨AN, Ch⟩, AD, BM⟩, Aa⟩
theorem RT [Dw] (w : World) (b : Nat) (c : Cl) (h : F1 w b c) : Calls Tryz.prog 28 #[.pointer (some ⟨b, 0, none⟩)] w fun e w' => e = .returned (J (c.state)) ∧ Below w.heap.size w w' := by
 obtain ⟨hc, vi, vo, k, ⟨AN, Ch⟩, AD, BM⟩ := h
 have AM := hc.ck
 have AO := hc.key
 have IF := hc.now
 have Gu := hc.seq
 have Jf := hc.beats
 have IE := hc.nonce
 have Aa := Bi.refl b none w
 clear Aa
 have Aa := Below.refl w.heap.size w
 exact Az 7 Tryz.func28 R R λ a H => zC (zD (kR 1 H R λ a H => zA (zB (zC (zD (kR 3 H R λ a H => kX 1 H (Ai U3 R (H.e R) ((show _ = some (J (c.state)) from DZ (c := c) AM AO k))) R λ a H => zA (zB (zF (Ag H R R ⟨R, Aa⟩)))))))))
theorem OU [Dw] (w : World) (b : Nat) (c : Cl) (h : F1 w b c) : Calls Tryz.prog 30 #[.pointer (some ⟨b, 0, none⟩)] w fun e w' => e = .returned (J (M4 c)) ∧ Below w.heap.size w w' := by
 obtain ⟨hc, vi, vo, k, ⟨AN, Ch⟩, AD, BM⟩ := h
 have AM := hc.ck
 have AO := hc.key
 have IF := hc.now
 have Gu := hc.seq
 have Jf := hc.beats
 have IE := hc.nonce
 have Aa := Bi.refl b none w
 clear Aa
 have Aa := Below.refl w.heap.size w
 refine Az 12 Tryz.func30 R R λ a H => zC (zD (kR 1 H R λ a H => zA (zB (zC (zC (zD (kR 3 H R λ a H => kV H (Ai U3 R (H.e R) ((show _ = some (J (c.state)) from DZ (c := c) AM AO k))) R λ a H => ?_)))))))
 by_cases BE : (c.state) ≠ 3
 ·
  exact kV H (E6 U3 (H.e R) Am (AE (BE))) R λ a H => zA (zB (zH H R (zC (zD (kR 1 H R λ a H => zA (zB (zF (zJ (Ag H R R ⟨by rw [M4, if_neg (by omega)], Aa⟩)))))))))
 ·
  exact kV H (E6 U3 (H.e R) Am (AF (BE))) R λ a H => zA (zB (zG H R (zE (zB (zC (zD (kR 3 H R λ a H => kX 1 H (Ai U3 R (H.e R) ((show _ = some (J (c.id)) from L8 (c := c) AM AO k))) R λ a H => zA (zB (zF (Ag H R R ⟨by rw [M4, if_pos (by omega)], Aa⟩))))))))))
theorem RS [Dw] (w : World) (b : Nat) (c : Cl) (h : F1 w b c) : Calls Tryz.prog 32 #[.pointer (some ⟨b, 0, none⟩)] w fun e w' => e = .returned (J (((c.os.length : Nat) : Int))) ∧ Below w.heap.size w w' := by
 obtain ⟨hc, vi, vo, k, ⟨AN, Ch⟩, AD, BM⟩ := h
 have AM := hc.ck
 have AO := hc.key
 have IF := hc.now
 have Gu := hc.seq
 have Jf := hc.beats
 have IE := hc.nonce
 have Aa := Bi.refl b none w
 obtain ⟨Ao, co, Su⟩ := CY AD
 subst Su
 clear Aa
 have Aa := Below.refl w.heap.size w
 exact Az 8 Tryz.func32 R R λ a H => zC (zD (kR 1 H R λ a H => zA (zB (zC (zD (kR 3 H R λ a H => kV H (Ai FG R (H.e R) ((show _ = some (.slice Ao c.os.length co : Value) from IP (c := c) AM AO k))) R λ a H => kX 1 H (Ba FG (H.e R)) R λ a H => zA (zB (zF (Ag H R R ⟨R, Aa⟩)))))))))
theorem UB [Dw] (w : World) (b : Nat) (c : Cl) (h : F1 w b c) : Calls Tryz.prog 34 #[.pointer (some ⟨b, 0, none⟩)] w fun e w' => e = .returned (J (c.code)) ∧ Below w.heap.size w w' := by
 obtain ⟨hc, vi, vo, k, ⟨AN, Ch⟩, AD, BM⟩ := h
 have AM := hc.ck
 have AO := hc.key
 have IF := hc.now
 have Gu := hc.seq
 have Jf := hc.beats
 have IE := hc.nonce
 have Aa := Bi.refl b none w
 clear Aa
 have Aa := Below.refl w.heap.size w
 exact Az 7 Tryz.func34 R R λ a H => zC (zD (kR 1 H R λ a H => zA (zB (zC (zD (kR 3 H R λ a H => kX 1 H (Ai O8 R (H.e R) ((show _ = some (J (c.code)) from OY (c := c) AM AO k))) R λ a H => zA (zB (zF (Ag H R R ⟨R, Aa⟩)))))))))
theorem Uy [Dw] (w : World) (b : Nat) (c : Cl) (h : F1 w b c) (u : Int) : Calls Tryz.prog 36 #[.pointer (some ⟨b, 0, none⟩), J (u)] w fun e w' => e = .returned (.tuple #[.agg (cN ((c.vw u).getD CH)), .bool (c.vw u).isSome]) ∧ Below w.heap.size w w' := by
 obtain ⟨hc, vi, vo, k, ⟨AN, Ch⟩, AD, BM⟩ := h
 have AM := hc.ck
 have AO := hc.key
 have IF := hc.now
 have Gu := hc.seq
 have Jf := hc.beats
 have IE := hc.nonce
 have Aa := Bi.refl b none w
 clear Aa AN AD
 have Aa := Below.refl w.heap.size w
 refine Az 27 Tryz.func36 R R λ a H => zC (zD (Bj 49 (cN CH) V7 fun w0 b0 Ak hb k0 => ?_))
 have g0 := Nat.le_trans Aa.size Ak; have PF : b < b0 := Nat.lt_of_lt_of_le k.lt Ak; replace k := k.ups hb; replace Aa := Aa.tr hb; clear hb Ak; refine kL 1 H rfl λ a H => zA (zB (zC (zC (zD (kR 1 H rfl λ a H => ?_)))))
 by_cases BE : (u) < 1
 ·
  refine kX 4 H (By U3 (H.e R) Am (AE (BE))) R λ a H => zA (zB (zH H R (zC (zD (kV (v := .agg (cN CH)) H (Bl #[] (.agg (cN CH)) (by simp) (fun w => by kernel_rfl)) R λ a H => AT 49 (.tmp 4) (.tmp 12) b0 49 (cN CH) _ (H.e R) (H.e R) k0 EZ R (by simp [Value.oneCell']) fun w' hb ho kq => ?_)))))
  clear k0; have k0 := kq; replace Aa := Aa.trans (hb _ g0); clear hb ho kq; exact kO 1 H rfl λ a H => zA (zB (zF (zJ (BF H rfl rfl rfl k0 PH rfl EZ ⟨by rw [SY hc (by omega)]; rfl, Aa⟩))))
 ·
  refine kX 2 H (By U3 (H.e R) Am (AF (BE))) R λ a H => ?_
  by_cases Cn : (u) > 16
  ·
   refine kY 1 H R (CU U3 (H.e R) Am (AE (Cn))) R λ a H => zA (zB (zH H R (zC (zD (kV (v := .agg (cN CH)) H (Bl #[] (.agg (cN CH)) (by simp) (fun w => by kernel_rfl)) R λ a H => AT 49 (.tmp 4) (.tmp 12) b0 49 (cN CH) _ (H.e R) (H.e R) k0 EZ R (by simp [Value.oneCell']) fun w' hb ho kq => ?_)))))
   clear k0; have k0 := kq; replace Aa := Aa.trans (hb _ g0); clear hb ho kq; exact kO 1 H rfl λ a H => zA (zB (zF (zJ (BF H rfl rfl rfl k0 PH rfl EZ ⟨by rw [SY hc (by omega)]; rfl, Aa⟩))))
  ·
   refine kY 1 H R (CU U3 (H.e R) Am (AF (Cn))) R λ a H => zA (zB (zG H R (zE (zB (zC ?_)))))
   obtain ⟨q, rfl⟩ : ∃ q : Nat, u = (q : Int) := ⟨u.toNat, by omega⟩
   obtain ⟨y, hy⟩ : ∃ y, (c.vw (q : Nat)).getD CH = y := ⟨_, rfl⟩
   have XY := bM hc q
   rw [hy] at XY
   have HY := Lib.hid hy
   have DT := Aa
   have hS : Dq b0 (E4 DT) _ := Fx _ _
   refine rT (Dq b0 (E4 DT)) 16 (Dn [0, 1, 2, 3, 4, 5, 6, 7, 8, 9, 10, 11, 12, 13] (.one 14 (.fl 15 .done))) hS ?_
   replace k0 := Ad.ups k0 (Below.drew (Below.refl _ _))
   refine kQ 4 H R λ a H => kF H R R (fun w' Aj => C2 (j := q) (q := 46 + q * 4) Tryz.underlying77 EZ (H.e R) (H.e R) (by omega) (by omega)) R λ a H => kE 4 H R R (fun w' Aj => AL (cs := [J y.1, J y.2.1, J y.2.2.1, J y.2.2.2]) (H.e R) ((OW AM AO (Ad.grown k Aj (by simp; omega)) HY.out (by omega))) (by kernel_rfl) EZ R) R λ a H => kF H R R (fun w' Aj => C2 (j := q) (q := 46 + q * 4) Tryz.underlying77 EZ (H.e R) (H.e R) (by omega) (by omega)) R λ a H => kF H R R (fun w' Aj => Br (q := 46 + q * 4) Zl (H.e R) R) R λ a H => kF H R R (fun w' Aj => Ai U3 R (H.e R) ((Bo (OW AM AO (Ad.grown k Aj (by simp; omega)) HY.out (by omega)) 0 R))) R λ a H => ?_
   by_cases CP : y.1 > 0
   ·
    refine kF H R R (fun w' Aj => CU U3 (H.e R) Am (AE (CP))) R λ a H => Al (fun K hK => A7 R (CW 49 (.tmp 4) (.tmp 18) b0 49 (cN y) _ (H.e R) (H.e R) k0 EZ R (by simp [Value.oneCell']) fun w' hb ho kq => ?_))
    clear k0; have k0 := kq; replace hS := Dq.store hS (hb _ (Nat.le_refl _)) ho; clear hb ho kq; refine kU 1 hK hS H rfl λ a H => ?_; clear hK K
    refine Aw (NoPanic.normal ?_)
    replace k := Ad.grown k hS (by simp; omega)
    replace Aa := DB Aa hS g0
    clear hS
    exact zB (zF (BF H R R R k0 PH R EZ ⟨by rw [HY.out, show (c.vw (q : Nat)).isSome = true from by rw [ZE hc HY.out]; exact decide_eq_true (by omega)], Aa⟩))
   ·
    refine kF H R R (fun w' Aj => CU U3 (H.e R) Am (AF (CP))) R λ a H => Al (fun K hK => A7 R (CW 49 (.tmp 4) (.tmp 18) b0 49 (cN y) _ (H.e R) (H.e R) k0 EZ R (by simp [Value.oneCell']) fun w' hb ho kq => ?_))
    clear k0; have k0 := kq; replace hS := Dq.store hS (hb _ (Nat.le_refl _)) ho; clear hb ho kq; refine kU 1 hK hS H rfl λ a H => ?_; clear hK K
    refine Aw (NoPanic.normal ?_)
    replace k := Ad.grown k hS (by simp; omega)
    replace Aa := DB Aa hS g0
    clear hS
    exact zB (zF (BF H R R R k0 PH R EZ ⟨by rw [HY.out, show (c.vw (q : Nat)).isSome = false from by rw [ZE hc HY.out]; exact decide_eq_false (by omega)], Aa⟩))
end Go.Proofs.YtbnmpoonkjlkjaaGreat
