/- Client: part ZSt of the proof. -/
import Derived.Test.YtbnmpoonkjlkjaaGreatXL
namespace Go.Proofs.YtbnmpoonkjlkjaaGreat
open Go.RowKit
set_option linter.unusedVariables false
set_option linter.unusedSimpArgs false
set_option maxRecDepth 100000
set_option maxHeartbeats 8000000
theorem Ud {w w' : World} {g i : Nat} {x : Value} (hb : Below w.heap.size w w') (h : w.cell? ⟨g, i, none⟩ = some x) : w'.cell? ⟨g, i, none⟩ = some x := by
 have h1 := World.block_lt_of_cell? w _ h
 rw [← h]
 unfold World.cell?
 rw [hb.block g h1]
theorem AK.le {w : World} {B : Nat} {v : Value} {L : List (List B8)} (h : AK w B v L) : L.length ≤ 9223372036854775807 := by
 obtain ⟨vs, h1, h2, _⟩ := h
 rcases h2.2 with ⟨_, h0⟩ | ⟨g, cap, cur, he, hB, hg, hn, aL, _⟩
 · omega
 ·
  unfold maxLen at aL
  omega
def Rsm (W : World) (A1 A2 : Option Addr) (c1 c2 : Nat) (L : List (List B8)) (a : Act) (w : World) : Prop :=
 ∃ i : Nat, Kn a 28 [(0, .slice A1 L.length c1), (1, .slice A2 L.length c2), (5, J (i : Nat))] ∧ i ≤ L.length ∧ Below W.heap.size W w
theorem Wp (w : World) (x y : Value) (B1 B2 : Nat) (L : List (List B8)) (V9 : AK w B1 x L) (gK : AK w B2 y L) : Calls Tryz.prog 26 #[x, y] w fun e w' => e = .returned (.bool true) ∧ Below w.heap.size w w' := by
 have hLb := AK.le V9
 obtain ⟨A1, c1, e1⟩ := AK.shape V9
 obtain ⟨A2, c2, e2⟩ := AK.shape gK
 subst e1 e2
 have Aa := Below.refl w.heap.size w
 refine Az 28 Tryz.func26 R R λ a H => zC (zD (kR 1 H R λ a H => zA (zB (zC (zC (zD (kR 1 H R λ a H => kX 1 H (Ba Lu (H.e R)) R λ a H => kV H (Ba Lu (H.e R)) R λ a H => kV H (E6 U3 (H.e R) (H.e R) dF) R λ a H => zA (zB (zG H R (zE (zB (zC (zC (zD (kR 1 H R λ a H => zA (zB (wp_block (wp_loop (Rsm w A1 A2 c1 c2 L) (fun a _ => L.length - (intOf (a.eval (.tmp 5))).toNat) ⟨0, H.pick [0, 1, 5], by omega, Aa⟩ ?_))))))))))))))))))
 clear H Aa
 rintro a w' ⟨i, H, hi, Aa⟩
 have H0 := H
 by_cases CM : i < L.length
 ·
  obtain ⟨y, hy⟩ : ∃ y, L[i]? = some y := ⟨_, List.getElem?_eq_getElem CM⟩
  have mK := AK.up V9 Aa
  have XY := AK.up gK Aa
  obtain ⟨g1, e1⟩ := AK.head mK (by omega)
  obtain ⟨g2, e2⟩ := AK.head XY (by omega)
  subst e1 e2
  obtain ⟨u1, zN, VB⟩ := AK.at mK hy
  obtain ⟨u2, zM, mL⟩ := AK.at XY hy
  refine zC (zC (zD (kR 2 H R λ a H => kV H (Ba Lu (H.e R)) R λ a H => kV H (By U3 (H.e R) (H.e R) dT) R λ a H => zA (zB (zH H R (zE (zB (zC (wp_block (zC (rB 11 (Dn [0, 1, 2, 3, 4, 5, 6, 7, 8, 9, 10] .done) fun hS => kQ 2 H R λ a H => kF (v := .pointer (some ⟨g1, i, none⟩)) H R R (fun w' Aj => Bq (j := i) (q := i) Lu PD (H.e R) (H.e R) CM (by omega)) R λ a H => kF (v := u1) H R R (fun w' Aj => Ai CO R (H.e R) (Ud Aj zN)) R λ a H => kE 2 (v := .string (VU y)) H R R (fun w' Aj => ZP (H.e R) (B9.up VB Aj)) R λ a H => kF (v := .pointer (some ⟨g2, i, none⟩)) H R R (fun w' Aj => Bq (j := i) (q := i) Lu PD (H.e R) (H.e R) CM (by omega)) R λ a H => kF (v := u2) H R R (fun w' Aj => Ai CO R (H.e R) (Ud Aj zM)) R λ a H => kF (v := .string (VU y)) H R R (fun w' Aj => ZP (H.e R) (B9.up mL Aj)) R λ a H => kF (v := .bool false) H R R (fun w' Aj => Y0 (s := VU y) (H.e R) (H.e R)) R λ a H => Aw (NoPanic.normal ?_))))))))))))
  replace Aa := Aa.trans (Below.mono hS Aa.size)
  clear hS
  refine zB (zG H R (zE (AC (zB (zD (kR 1 H R λ a H => kX 1 H (Bm (q := ((i + 1 : Nat) : Int)) U3 (H.e R) Am) R λ a H => zA (zI ⟨⟨i + 1, H.pick [0, 1, 5], by omega, Aa⟩, ?_⟩)))))))
  rw [H.ev (j := 5) rfl, H0.ev (j := 5) rfl]
  simp only [intOf]
  omega
 ·
  obtain rfl : i = L.length := by omega
  exact zC (zC (zD (kR 2 H R λ a H => kV H (Ba Lu (H.e R)) R λ a H => kV H (By U3 (H.e R) (H.e R) dF) R λ a H => zA (zB (zG H R (wp_exit (AJ (AJ (BD (zB (zC (zD (kR 1 H R λ a H => zA (zB (zF (Ag H R R ⟨R, Aa⟩))))))))))))))))
end Go.Proofs.YtbnmpoonkjlkjaaGreat
