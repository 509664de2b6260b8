/- Client: part ZQz of the proof. -/
import Derived.Test.YtbnmpoonkjlkjaaGreatXH
namespace Go.Proofs.YtbnmpoonkjlkjaaGreat
open Go.RowKit
set_option linter.unusedVariables false
set_option linter.unusedSimpArgs false
set_option maxRecDepth 100000
set_option maxHeartbeats 8000000
def xU (W : World) (b0 : Nat) (n : Int) (b o l c : Nat) (w : World) : Prop := Below W.heap.size W w ∧ Ad w b0 70 #[J n, .slice (some ⟨b, o, none⟩) l c]
def uL (W : World) (b0 : Nat) (n : Int) (A : Option Addr) (c : Nat) (L : List It) (a : Act) (w : World) : Prop :=
 ∃ k : Nat, Kn a 33 [(1, .pointer (some ⟨b0, 0, none⟩)), (4, J (ackS n (L.take k) : Nat)), (5, J (k : Nat))] ∧ k ≤ L.length ∧ Ad w b0 70 #[J n, .slice A L.length c] ∧ Below W.heap.size W w
theorem W8 (w : World) (n : Int) (v : Value) (L : List It) (h0 : ET w v L) (hn : L.length ≤ 9223372036854775807) :
  Calls Tryz.prog 93 #[.agg #[J n, v]] w fun e w' => e = .returned (.tuple #[J (Ey n L).1, J (Ey n L).2]) ∧ Below w.heap.size w w' := by
 obtain ⟨A, c, rfl, h1, h2, h3, hh⟩ := h0
 have h : Hid (ET w (.slice A L.length c) L) := Lib.hid ⟨A, c, rfl, h1, h2, h3, hh⟩
 replace hh := Lib.hid hh
 have Aa := Below.refl w.heap.size w
 cases KN : CG n L
 ·
  refine Az 33 Tryz.func93 R R λ a H => zC (zD (B7 70 _ #[J n, .slice A L.length c] (H.e R) fun w0 b0 Ak hb k0 => ?_))
  have g0 := Nat.le_trans Aa.size Ak; replace Aa := Aa.tr hb; clear hb; clear Ak; refine kL 2 H rfl λ a H => zA (zB (zC (zC (zD (kV H (AL (cs := [J n, .slice A L.length c]) (H.ev rfl) (Ar k0) (by kernel_rfl) DU rfl) rfl λ a H => A8 _ _ _ (Gt _ n _ L (AG.up h.out Aa) (by omega)) (Av Ub (H.ev rfl)) ?_)))))
  rintro e w9 ⟨rfl, hb⟩; refine ⟨_, rfl, ?_⟩; rw [KN]; replace k0 := k0.ups hb; replace Aa := Aa.tr hb; clear hb; exact kl H rfl λ a H => kV H (Bs (H.ev rfl) rfl) rfl λ a H => zA (zB (zH H rfl (zC (zD (kR 2 H rfl λ a H => zA (zB (zF (zJ (GJ H rfl rfl rfl ⟨by rw [show Ey n L = (0, 0) from if_neg (by rw [KN]; simp)], Aa⟩)))))))))
 ·
  have HR : Hid (E3 n L) := Lib.hid (of_decide_eq_true KN)
  have Xk := HR.out.1
  have Ya := HR.out.2.1
  have HRT := Lib.hid KN
  refine Az 33 Tryz.func93 R R λ a H => zC (zD (B7 70 _ #[J n, .slice A L.length c] (H.e R) fun w0 b0 Ak hb k0 => ?_))
  have g0 := Nat.le_trans Aa.size Ak; replace Aa := Aa.tr hb; clear hb; clear Ak; refine kL 2 H rfl λ a H => zA (zB (zC (zC (zD (kV H (AL (cs := [J n, .slice A L.length c]) (H.ev rfl) (Ar k0) (by kernel_rfl) DU rfl) rfl λ a H => A8 _ _ _ (Gt _ n _ L (AG.up h.out Aa) (by omega)) (Av Ub (H.ev rfl)) ?_)))))
  rintro e w9 ⟨rfl, hb⟩; refine ⟨_, rfl, ?_⟩; rw [KN]; replace k0 := k0.ups hb; replace Aa := Aa.tr hb; clear hb; refine kl H rfl λ a H => kV H (Bs (H.ev rfl) rfl) rfl λ a H => zA (zB (zG H rfl (zE (zB (zC (zD (kR 1 H rfl λ a H => zA (zB (zC (zC (zD (kR 1 H rfl λ a H => zA (zB (wp_block (wp_loop (uL w b0 n A c L) (fun a _ => L.length - (intOf (a.eval (.tmp 5))).toNat) ⟨0, H.pick [1, 4, 5], by omega, k0, Aa⟩ ?_)))))))))))))))
  clear H Aa k0
  rintro a w' ⟨k, H, hk, k0, Aa⟩
  have H0 := H
  by_cases CM : k < L.length
  ·
   obtain ⟨b, o, hA, hr⟩ := CK Bb hh.out (by omega) CM
   subst hA
   have hy : L[k]? = some L[k] := List.getElem?_eq_getElem CM
   have qX := HR.out.2.2.2 _ (List.getElem_mem CM)
   have dW := Ns n hy
   have mU := O7 HR.out hy
   have HRG := Lib.hid hr
   generalize L[k] = y at *
   obtain ⟨q, hq⟩ : ∃ q : Nat, y.1 - n - 1 = q := ⟨(y.1 - n - 1).toNat, by omega⟩
   have fA : q ≤ 6 := by omega
   have Sw : (y.1 - n - 1).toNat = q := by omega
   rw [Sw] at dW mU
   generalize ackS n (L.take k) = sk at *
   have HS1 := Lib.hid dW
   have zX := Sk fA
   have qal : ((sk : Nat) : Int) + ((2 ^ q : Nat) : Int) = ((sk + 2 ^ q : Nat) : Int) := by omega
   generalize hpq : 2 ^ q = pq at *
   have hPQ := fun {ev : Act} {ww : World} {d : Option Tmp} {tt : TypeId} {ps : String} {af : Array Edge} {gd : Option (Nat × Bool)} {yy : Operand} {t2 : TypeId} (hy : ev.eval yy = J (q : Nat)) => hpq ▸ WA (P := Tryz.prog) (a := ev) (w := ww) (d := d) (tt := tt) (ps := ps) (af := af) (gd := gd) (y := yy) (t2 := t2) U3 hy fA
   clear hy hr Sw dW
   have H := H0
   refine zC (zC (zD (kR 2 H R λ a H => kV H (Ai CL R (H.e R) ((Ad.cell k0 1).trans R)) R λ a H => kV H (Ba CL (H.e R)) R λ a H => kV H (By U3 (H.e R) (H.e R) dT) R λ a H => zA (zB (zH H R (zE (zB (zC (wp_block ?_)))))))))
   have hS : xU w b0 n b o L.length c _ := ⟨Aa.drew, k0⟩
   refine CZ (xU w b0 n b o L.length c) [(0, true), (1, true), (2, true), (3, true), (4, true), (5, true), (6, true), (7, true), (8, true), (9, true), (10, true), (11, true), (12, true), (13, true)] (by kernel_rfl) (by kernel_rfl) R (by kernel_rfl) hS ?_
   clear Aa k0
   refine Bf _ R (fun w' Aj => C4 (H.e R)) (kp H R λ a H => Bf _ R (fun w' Aj => Br (q := 1) Dp (H.e R) R) (kp H R λ a H => Bf _ R (fun w' Aj => Ai CL R (H.e R) ((Ad.cell (Aj.2) 1).trans R)) (kp H R λ a H => Bf _ R (fun w' Aj => C4 (H.e R)) (kp H R λ a H => Bf _ R (fun w' Aj => Bq (j := k) (q := o + k * 5) CL FI (H.e R) (H.e R) (by omega) R) (kp H R λ a H => Bf _ R (fun w' Aj => Br (q := o + k * 5) EL (H.e R) R) (kp H R λ a H => Bf _ R (fun w' Aj => Ai U3 R (H.e R) (Bo (BQ HRG.out Aj.1) 0 R)) (kp H R λ a H => Bf _ R (fun w' Aj => Br (q := 0) Ix (H.e R) R) (kp H R λ a H => Bf _ R (fun w' Aj => Ai U3 R (H.e R) ((Ad.cell (Aj.2) 0).trans R)) (kp H R λ a H => Bf _ R (fun w' Aj => Dl (q := y.1 - n) U3 (H.e R) (H.e R) (by omega) (by omega)) (kp H R λ a H => Bf (J (q : Nat)) R (fun w' Aj => Dl (q := ((q : Nat) : Int)) U3 (H.e R) Am (by omega) (by omega)) (kp H R λ a H => Bf (J (pq : Nat)) R (fun w' Aj => hPQ (H.e R)) (kp H R λ a H => Bf (J (sk + pq : Nat)) R (fun w' Aj => Bm (q := ((sk + pq : Nat) : Int)) U3 (H.e R) (H.e R) (by omega) (by omega)) (kp H R λ a H => Bf _ R (fun w' Aj => GE (H.e R)) (kp H R λ a H => Es (NoPanic.normal ?_)))))))))))))))
   have Aa := hS.1
   have k0 := hS.2
   clear hS
   refine AC (zB (zD (kR 1 H R λ a H => kX 1 H (Bm (q := ((k + 1 : Nat) : Int)) U3 (H.e R) Am) R λ a H => zA ?_)))
   replace H := H.pick [1, 4, 5]
   rw [← HS1.out] at H
   refine zI ⟨⟨k + 1, H, by omega, k0, Aa⟩, ?_⟩
   rw [H.ev (j := 5) rfl, H0.ev (j := 5) rfl]
   simp only [intOf]
   omega
  ·
   obtain rfl : k = L.length := by omega
   exact zC (zC (zD (kR 2 H R λ a H => kV H (Ai CL R (H.e R) ((Ad.cell k0 1).trans R)) R λ a H => kV H (Ba CL (H.e R)) R λ a H => kV H (By U3 (H.e R) (H.e R) dF) R λ a H => zA (zB (zG H R (wp_exit (AJ (AJ (BD (zB (zC (zD (kR 1 H R λ a H => kV H (Ai U3 R (H.e R) ((Ad.cell k0 0).trans R)) R λ a H => kX 3 H (Dl (q := n - 1) U3 (H.e R) Am) R λ a H => zA (zB (zF (GJ H R R R ⟨by rw [show Ey n L = (n - 1, ((ackS n L : Nat) : Int)) from if_pos KN, List.take_length], Aa⟩))))))))))))))))
end Go.Proofs.YtbnmpoonkjlkjaaGreat
