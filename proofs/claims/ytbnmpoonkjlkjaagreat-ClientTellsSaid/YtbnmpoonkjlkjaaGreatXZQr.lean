/- Client: part ZQr of the proof. -/
import Derived.Test.YtbnmpoonkjlkjaaGreatXZQz
namespace Go.Proofs.YtbnmpoonkjlkjaaGreat
open Go.RowKit
set_option linter.unusedVariables false
set_option linter.unusedSimpArgs false
set_option maxRecDepth 100000
set_option maxHeartbeats 8000000
abbrev At {B : Nat} {W w : World} (_ : Below B W w) : World := w
def Ce (B : Nat) (W w : World) : Prop := Below B W w
theorem AV.step {W w w' : World} (h : AV W w) (hb : Below w.heap.size w w') : AV W w' := Below.trans h (hb.mono (Below.size h))
theorem AV.step2 {W w w' : World} (h : AV W w) (hb : Below W.heap.size w w') : AV W w' := Below.trans h hb
theorem AV.size {W w : World} (h : AV W w) : W.heap.size ≤ w.heap.size := Below.size h
theorem Ce.trans {B : Nat} {W w w' : World} (h : Ce B W w) (hb : Below B w w') : Ce B W w' := Below.trans h hb
theorem Le {w : World} {A : Option Addr} {c : Nat} {M : List It} (h : BJ w A (FV EN M)) (hc : M.length ≤ c) (k : Nat) : BJ w (C6 A c k 5) (FV EN (M.drop k)) := by
 rw [PB Bb]
 exact M1 (Cu Bb M) hc h k
theorem Lf {w : World} {base : Nat} {v : Value} {M : List It} {x : It} {k : Nat} (hk : k ≤ M.length) (h : w.ownsRow base 65 5 v (0 + k + 1 + (M.length - k)) ([] ++ FV EN (M.take k) ++ FV EN [x] ++ FV EN (M.drop k))) : D7 w base v (M.take k ++ x :: M.drop k) := by
 show w.ownsRow _ _ _ _ _ _
 have e : (M.take k ++ x :: M.drop k).length = 0 + k + 1 + (M.length - k) := by simp; omega
 rw [e, G6, show x :: M.drop k = [x] ++ M.drop k from rfl, G6, ← List.append_assoc]
 exact h
def V6 (L : List It) (x : It) (k : Nat) : Prop := ∀ (j : Nat) (y : It), j < k → L[j]? = some y → y.1 < x.1
theorem YK {L : List It} {x y : It} {k : Nat} (h : V6 L x k) (hy : L[k]? = some y) (hl : y.1 < x.1) : V6 L x (k + 1) := by
 intro j z hj hz
 by_cases e : j = k
 ·
  subst e
  rw [hy] at hz
  injection hz with hz
  rw [← hz]; exact hl
 · exact h j z (by omega) hz
theorem TA {L : List It} {x : It} {k : Nat} (h : V6 L x k) (hk : k ≤ L.length) : k = 0 ∨ ∃ p y, k = p + 1 ∧ L[p]? = some y ∧ ¬ x.1 < y.1 := by
 cases k with
 | zero => exact .inl rfl
 | succ p =>
  have := h p L[p] (by omega) (List.getElem?_eq_getElem (by omega))
  exact .inr ⟨p, L[p], R, List.getElem?_eq_getElem (by omega), by omega⟩
theorem TV {L : List It} {x y : It} {k : Nat} (hS : L.Pairwise (fun a b => a.1 < b.1)) (hy : L[k]? = some y) (hl : x.1 < y.1) : ∀ z ∈ L.drop k, x.1 < z.1 := by
 intro z hz
 obtain ⟨j, hj, rfl⟩ := List.mem_iff_getElem.1 hz
 rw [List.getElem_drop]
 have J8 : k + j < L.length := by simp at hj; omega
 cases j with
 | zero =>
  have e := List.getElem?_eq_getElem (l := L) (i := k) (by omega)
  rw [hy] at e
  injection e with e
  simp only [Nat.add_zero]
  rw [← e]; exact hl
 | succ j =>
  have := KY hS hy (List.getElem?_eq_getElem J8) (by omega)
  omega
theorem cM {L : List It} {x y : It} {k : Nat} (hS : L.Pairwise (fun a b => a.1 < b.1)) (N5 : V6 L x k) (hy : L[k]? = some y) (hl : x.1 < y.1) : Ge L x.1 = false := SE.2 fun z hz => by
 obtain ⟨j, hj, rfl⟩ := List.mem_iff_getElem.1 hz
 by_cases e : j < k
 · have := N5 j _ e (List.getElem?_eq_getElem hj); omega
 ·
  have := TV hS hy hl L[j] (Nh (List.getElem?_eq_getElem hj) (by omega))
  omega
theorem cO {L : List It} {x : It} (N5 : V6 L x L.length) : Ge L x.1 = false := SE.2 fun z hz => by
 obtain ⟨j, hj, rfl⟩ := List.mem_iff_getElem.1 hz
 have := N5 j _ hj (List.getElem?_eq_getElem hj); omega
theorem JI {P : Program} {c : Code} {Q : Exit → Act → World → Prop} {a : Act} {w : World} (M : Act → World → Prop) (h : c.wp P (fun e a w => e = .normal ∧ M a w) a w) (k : ∀ a w, M a w → Q .normal a w) : c.wp P Q a w :=
 wp_mono h fun e a w ⟨he, hm⟩ => he.symm ▸ k a w hm
def Md1 (W : World) (b0 b1 b2 : Nat) (n : Int) (A : Option Addr) (c : Nat) (L : List It) (x : It) (a : Act) (w : World) : Prop :=
 ∃ (B b6 : Nat) (A1 : Option Addr) (c1 : Nat), Kn a 122 [(2, .pointer (some ⟨b0, 0, none⟩)), (3, .pointer (some ⟨b1, 0, none⟩)), (4, .pointer (some ⟨b2, 0, none⟩)), (6, .pointer (some ⟨b6, 0, none⟩))] ∧ (b0 < B ∧ b1 < B ∧ b2 < B ∧ B ≤ b6 ∧ W.heap.size ≤ B ∧ B ≤ w.heap.size) ∧
  Ad w b0 70 #[J n, .slice A L.length c] ∧ Ad w b1 65 #[J x.1, J x.2.1, J x.2.2.1, J x.2.2.2.1, J x.2.2.2.2] ∧ Ad w b2 70 #[J 0, .slice none 0 0] ∧ Ad w b6 70 #[J n, .slice A1 L.length c1] ∧ D7 w B (.slice A1 L.length c1) L ∧ Below W.heap.size W w
def xW (W : World) (b2 b6 : Nat) (n : Int) (L : List It) (x : It) (a : Act) (w : World) : Prop :=
 ∃ (B2 g cap : Nat), Kn a 122 [(4, .pointer (some ⟨b2, 0, none⟩)), (6, .pointer (some ⟨b6, 0, none⟩))] ∧ (b2 < B2 ∧ b6 < B2 ∧ W.heap.size ≤ B2 ∧ B2 ≤ w.heap.size ∧ B2 ≤ g ∧ g < w.heap.size) ∧ takeF n L x = popF n (insI L x) ∧
  Ad w b2 70 #[J 0, .slice none 0 0] ∧ Ad w b6 70 #[J n, .slice (some ⟨g, 0, none⟩) (L.length + 1) cap] ∧ D7 w B2 (.slice (some ⟨g, 0, none⟩) (L.length + 1) cap) (insI L x) ∧ Below W.heap.size W w
def tZ (W : World) (B b0 b1 b2 b6 : Nat) (n : Int) (A : Option Addr) (c : Nat) (L : List It) (A1 : Option Addr) (c1 : Nat) (x : It) (a : Act) (w : World) : Prop :=
 ∃ k : Nat, Kn a 122 [(2, .pointer (some ⟨b0, 0, none⟩)), (3, .pointer (some ⟨b1, 0, none⟩)), (4, .pointer (some ⟨b2, 0, none⟩)), (6, .pointer (some ⟨b6, 0, none⟩)), (7, J (k : Nat))] ∧ k ≤ L.length ∧ V6 L x k ∧
  Ad w b0 70 #[J n, .slice A L.length c] ∧ Ad w b1 65 #[J x.1, J x.2.1, J x.2.2.1, J x.2.2.2.1, J x.2.2.2.2] ∧ Ad w b2 70 #[J 0, .slice none 0 0] ∧ Ad w b6 70 #[J n, .slice A1 L.length c1] ∧ D7 w B (.slice A1 L.length c1) L ∧ B ≤ w.heap.size ∧ Below W.heap.size W w
def xS (W : World) (B b2 b6 g : Nat) (top : Int) (T : (Int × List It) × List Nt) (a : Act) (w : World) : Prop :=
 ∃ (M : List It) (nn : Int) (A' : Option Addr) (c' : Nat) (o : Value) (NS : List Nt), Kn a 122 [(4, .pointer (some ⟨b2, 0, none⟩)), (6, .pointer (some ⟨b6, 0, none⟩)), (8, o)] ∧ (1 ≤ nn ∧ nn + (M.length : Nat) ≤ top) ∧
  Ad w b2 70 #[J 0, .slice none 0 0] ∧ Ad w b6 70 #[J nn, .slice A' M.length c'] ∧ ET w (.slice A' M.length c') M ∧ (∀ b o', A' = some ⟨b, o', none⟩ → b = g) ∧
  Lw w B o NS ∧ o.ownBlock ≠ some g ∧ NS.length + M.length ≤ 8 ∧ g < w.heap.size ∧ B ≤ w.heap.size ∧ T = ((popF nn M).1, NS ++ (popF nn M).2) ∧ Below W.heap.size W w
theorem NL (w : World) (n : Int) (v : Value) (L : List It) (x : It) (h0 : ET w v L) (hn : L.length ≤ 100000) (mK : -9223372036854775808 ≤ x.1) (mJ : x.1 ≤ 9223372036854775807) :
  Calls Tryz.prog 91 #[.agg #[J n, v], .agg #[J x.1, J x.2.1, J x.2.2.1, J x.2.2.2.1, J x.2.2.2.2]] w fun e w' => (∃ s o, e = .returned (.tuple #[.agg #[J (takeF n L x).1.1, s], o]) ∧ (ET w' s (takeF n L x).1.2 ∧ Ct w.heap.size s) ∧ (V5 w' o (takeF n L x).2 ∧ Ct w.heap.size o)) ∧ Below w.heap.size w w' := by
 obtain ⟨A, c, rfl, dG, h2, h3, hh⟩ := h0
 have h : Hid (ET w (.slice A L.length c) L) := Lib.hid ⟨A, c, rfl, dG, h2, h3, hh⟩
 replace hh := Lib.hid hh
 clear h2 h3
 have Aa := Below.refl w.heap.size w
 refine Az 122 Tryz.func91 R R λ a H => zC (zD (B7 70 _ #[J n, .slice A L.length c] (H.e R) fun w0 b0 Ak hb k0 => ?_))
 have g0 := Nat.le_trans Aa.size Ak; replace Aa := Aa.tr hb; clear hb; clear Ak; refine kl H rfl λ a H => B7 65 _ #[J x.1, J x.2.1, J x.2.2.1, J x.2.2.2.1, J x.2.2.2.2] (H.ev rfl) fun w1 b1 Ak hb k1 => ?_
 have g1 := Nat.le_trans Aa.size Ak; have N7 : b0 < b1 := Nat.lt_of_lt_of_le k0.lt Ak; replace k0 := k0.ups hb; replace Aa := Aa.tr hb; clear hb; clear Ak; refine kl H rfl λ a H => Bj 70 #[J 0, .slice none 0 0] VG fun w2 b2 Ak hb k2 => ?_
 have g2 := Nat.le_trans Aa.size Ak; have Ro : b0 < b2 := Nat.lt_of_lt_of_le k0.lt Ak; have N6 : b1 < b2 := Nat.lt_of_lt_of_le k1.lt Ak; replace k0 := k0.ups hb; replace k1 := k1.ups hb; replace Aa := Aa.tr hb; clear hb; clear Ak; refine kL 1 H rfl λ a H => zA (zB (zC (JI (Md1 w b0 b1 b2 n A c L x) ?_ ?_)))
 ·
  have Bc := Aa
  refine rB 9 (Dn [0, 1, 3, 4] (.two 2 (.two 5 (.fl 6 (.one 7 (.one 8 .done))) 7 (.one 5 (.fl 6 (.one 8 .done)))) 7 (.one 2 (.one 5 (.fl 6 (.one 8 .done)))))) fun hS => kQ 1 H R λ a H => kE 1 H R R (fun w' Aj => Ai U3 R (H.e R) ((Ad.cell (Ad.ups k0 Aj) 0).trans R)) R λ a H => kF H R R (fun w' Aj => Ai CL R (H.e R) ((Ad.cell (Ad.ups k0 Aj) 1).trans R)) R λ a H => FB (fun K hK => ?_) (fun K hK => ?_)
  ·
   refine A7 R (Co 63 0 #[] 65 #[] (by simp) (fun w => by kernel_rfl) fun w1 bl Ak hb kk => ?_); have q0 := Dk (base := (At Bc).heap.size) (size := 5) kk (Nat.le_trans (AV.size hS) Ak); have q0l := kk.lt; (try have Fh : b6 ≠ bl := (by have := k6.lt; omega)); (try replace k6 := k6.ups hb); replace hS := AV.step hS hb; clear hb Ak kk; refine kS 0 hK hS H R λ a H => ?_; clear hK K
   refine FB (fun K hK => ?_) (fun K hK => ?_)
   ·
    refine A7 R (BA 63 65 (.tmp 11) (.tmp 13) (At Bc).heap.size (.agg #[J 0, J 0, J 0, J 0, J 0]) 5 40 _ 0 [] A L.length c (FV EN L) (H.e R) (H.e R) CL MU R (by omega) q0 (by rw [Cu Bb]) ((BW (AG.up h.out Aa)).up hS) (CI _ _) (by unfold maxLen; omega) (by omega) (AV.size hS) fun v5 w5 q5r hg hv Cb => ?_); (try have QY := Ls hv (show (Value.slice (some ⟨bl, 0, none⟩) 0 0).ownBlock ≠ some b6 from (by simp [Value.ownBlock]; omega)) k6.lt); (try replace k6 := Ad.grown k6 hg (by simp [Value.ownBlock]; omega)); replace hS := AV.step2 hS Cb; clear Cb hg hv q0; have q5 : D7 _ _ v5 L := Jc Bb (by omega) q5r rfl; clear q5r; obtain ⟨A1, c1, rfl, -, -, -⟩ := Et q5; refine kS 0 hK hS H R λ a H => ?_; clear hK K
    refine kF H R R (fun w' Aj => Bl #[(0, J n), (1, .slice A1 L.length c1)] (.agg #[J n, .slice A1 L.length c1]) (by simp [Am, H.ev (j := 10) R, H.ev (j := 14) R]) (fun w => by kernel_rfl)) R λ a H => Al (fun K hK => A7 R (D8 70 #[J 0, .slice none 0 0] VG fun w1 b6 Ak hb k6 => ?_))
    have g6 := Nat.le_trans (AV.size hS) Ak; (try have Fh : b6 ≠ bl := (by omega)); (try replace q0 := Bh q0 hb); (try have QY : (Value.slice A1 L.length c1).ownBlock ≠ some b6 := (fun e => by have := (q5.lt e).2; omega)); (try replace q5 := BN.up q5 hb); replace hS := AV.step hS hb; clear Ak hb; refine kS 0 hK hS H rfl λ a H => ?_; clear hK K
    refine Al (fun K hK => A7 R (AX 70 (.tmp 6) (.tmp 15) b6 0 70 (.agg #[J n, .slice A1 L.length c1]) _ (H.e R) (H.e R) k6 DU (by simp [Value.cells]) (by simp [Value.cells, Value.oneCell']) fun w8 Hg JZ kq => ?_))
    clear k6; have k6 : Ad w8 b6 70 #[J n, .slice A1 L.length c1] := kq; clear kq; replace q5 := BN.keep q5 (fun q e => JZ q (fun e2 => QY (e2 ▸ e))); replace hS := AV.step2 hS (Hg _ g6); clear Hg JZ; refine kU 0 hK hS H rfl λ a H => ?_; clear hK K
    refine Aw (NoPanic.normal ?_)
    have Ah : D7 _ (At Bc).heap.size (.slice A1 L.length c1) L := q5
    have e0 := k0.lt
    have e1 := k1.lt
    have e2 := k2.lt
    have IC := Aa.size
    have Ds := AV.size hS
    replace k0 := Ad.ups k0 hS
    replace k1 := Ad.ups k1 hS
    replace k2 := Ad.ups k2 hS
    replace Aa := Aa.trans (Below.mono hS Aa.size)
    clear hS q5
    obtain ⟨B, hB⟩ : ∃ B, (At Bc).heap.size = B := ⟨_, rfl⟩
    rw [hB] at e0 e1 e2 IC Ds Ah g6
    clear hB Bc
    exact ⟨R, B, b6, A1, c1, H.pick [2, 3, 4, 6], ⟨e0, e1, e2, g6, IC, Ds⟩, k0, k1, k2, k6, Ah, Aa⟩
   ·
    refine A7 R (D8 70 #[J 0, .slice none 0 0] VG fun w1 b6 Ak hb k6 => ?_); have g6 := Nat.le_trans (AV.size hS) Ak; (try have Fh : b6 ≠ bl := (by omega)); (try replace q0 := Bh q0 hb); (try have QY : (Value.slice A1 L.length c1).ownBlock ≠ some b6 := (fun e => by have := (q5.lt e).2; omega)); (try replace q5 := BN.up q5 hb); replace hS := AV.step hS hb; clear Ak hb; refine kS 0 hK hS H R λ a H => ?_; clear hK K
    refine Al (fun K hK => A7 R (BA 63 65 (.tmp 11) (.tmp 13) (At Bc).heap.size (.agg #[J 0, J 0, J 0, J 0, J 0]) 5 40 _ 0 [] A L.length c (FV EN L) (H.e R) (H.e R) CL MU R (by omega) q0 (by rw [Cu Bb]) ((BW (AG.up h.out Aa)).up hS) (CI _ _) (by unfold maxLen; omega) (by omega) (AV.size hS) fun v5 w5 q5r hg hv Cb => ?_))
    (try have QY := Ls hv (show (Value.slice (some ⟨bl, 0, none⟩) 0 0).ownBlock ≠ some b6 from (by simp [Value.ownBlock]; omega)) k6.lt); (try replace k6 := Ad.grown k6 hg (by simp [Value.ownBlock]; omega)); replace hS := AV.step2 hS Cb; clear Cb hg hv q0; have q5 : D7 _ _ v5 L := Jc Bb (by omega) q5r rfl; clear q5r; obtain ⟨A1, c1, rfl, -, -, -⟩ := Et q5; refine kS 0 hK hS H rfl λ a H => ?_; clear hK K
    refine kF H R R (fun w' Aj => Bl #[(0, J n), (1, .slice A1 L.length c1)] (.agg #[J n, .slice A1 L.length c1]) (by simp [Am, H.ev (j := 10) R, H.ev (j := 14) R]) (fun w => by kernel_rfl)) R λ a H => Al (fun K hK => A7 R (AX 70 (.tmp 6) (.tmp 15) b6 0 70 (.agg #[J n, .slice A1 L.length c1]) _ (H.e R) (H.e R) k6 DU (by simp [Value.cells]) (by simp [Value.cells, Value.oneCell']) fun w8 Hg JZ kq => ?_))
    clear k6; have k6 : Ad w8 b6 70 #[J n, .slice A1 L.length c1] := kq; clear kq; replace q5 := BN.keep q5 (fun q e => JZ q (fun e2 => QY (e2 ▸ e))); replace hS := AV.step2 hS (Hg _ g6); clear Hg JZ; refine kU 0 hK hS H rfl λ a H => ?_; clear hK K
    refine Aw (NoPanic.normal ?_)
    have Ah : D7 _ (At Bc).heap.size (.slice A1 L.length c1) L := q5
    have e0 := k0.lt
    have e1 := k1.lt
    have e2 := k2.lt
    have IC := Aa.size
    have Ds := AV.size hS
    replace k0 := Ad.ups k0 hS
    replace k1 := Ad.ups k1 hS
    replace k2 := Ad.ups k2 hS
    replace Aa := Aa.trans (Below.mono hS Aa.size)
    clear hS q5
    obtain ⟨B, hB⟩ : ∃ B, (At Bc).heap.size = B := ⟨_, rfl⟩
    rw [hB] at e0 e1 e2 IC Ds Ah g6
    clear hB Bc
    exact ⟨R, B, b6, A1, c1, H.pick [2, 3, 4, 6], ⟨e0, e1, e2, g6, IC, Ds⟩, k0, k1, k2, k6, Ah, Aa⟩
  ·
   refine A7 R (D8 70 #[J 0, .slice none 0 0] VG fun w1 b6 Ak hb k6 => ?_); have g6 := Nat.le_trans (AV.size hS) Ak; (try have Fh : b6 ≠ bl := (by omega)); (try replace q0 := Bh q0 hb); (try have QY : (Value.slice A1 L.length c1).ownBlock ≠ some b6 := (fun e => by have := (q5.lt e).2; omega)); (try replace q5 := BN.up q5 hb); replace hS := AV.step hS hb; clear Ak hb; refine kS 0 hK hS H R λ a H => ?_; clear hK K
   refine Al (fun K hK => A7 R (Co 63 0 #[] 65 #[] (by simp) (fun w => by kernel_rfl) fun w1 bl Ak hb kk => ?_))
   have q0 := Dk (base := (At Bc).heap.size) (size := 5) kk (Nat.le_trans (AV.size hS) Ak); have q0l := kk.lt; (try have Fh : b6 ≠ bl := (by have := k6.lt; omega)); (try replace k6 := k6.ups hb); replace hS := AV.step hS hb; clear hb Ak kk; refine kS 0 hK hS H rfl λ a H => ?_; clear hK K
   refine Al (fun K hK => A7 R (BA 63 65 (.tmp 11) (.tmp 13) (At Bc).heap.size (.agg #[J 0, J 0, J 0, J 0, J 0]) 5 40 _ 0 [] A L.length c (FV EN L) (H.e R) (H.e R) CL MU R (by omega) q0 (by rw [Cu Bb]) ((BW (AG.up h.out Aa)).up hS) (CI _ _) (by unfold maxLen; omega) (by omega) (AV.size hS) fun v5 w5 q5r hg hv Cb => ?_))
   (try have QY := Ls hv (show (Value.slice (some ⟨bl, 0, none⟩) 0 0).ownBlock ≠ some b6 from (by simp [Value.ownBlock]; omega)) k6.lt); (try replace k6 := Ad.grown k6 hg (by simp [Value.ownBlock]; omega)); replace hS := AV.step2 hS Cb; clear Cb hg hv q0; have q5 : D7 _ _ v5 L := Jc Bb (by omega) q5r rfl; clear q5r; obtain ⟨A1, c1, rfl, -, -, -⟩ := Et q5; refine kS 0 hK hS H rfl λ a H => ?_; clear hK K
   refine kF H R R (fun w' Aj => Bl #[(0, J n), (1, .slice A1 L.length c1)] (.agg #[J n, .slice A1 L.length c1]) (by simp [Am, H.ev (j := 10) R, H.ev (j := 14) R]) (fun w => by kernel_rfl)) R λ a H => Al (fun K hK => A7 R (AX 70 (.tmp 6) (.tmp 15) b6 0 70 (.agg #[J n, .slice A1 L.length c1]) _ (H.e R) (H.e R) k6 DU (by simp [Value.cells]) (by simp [Value.cells, Value.oneCell']) fun w8 Hg JZ kq => ?_))
   clear k6; have k6 : Ad w8 b6 70 #[J n, .slice A1 L.length c1] := kq; clear kq; replace q5 := BN.keep q5 (fun q e => JZ q (fun e2 => QY (e2 ▸ e))); replace hS := AV.step2 hS (Hg _ g6); clear Hg JZ; refine kU 0 hK hS H rfl λ a H => ?_; clear hK K
   refine Aw (NoPanic.normal ?_)
   have Ah : D7 _ (At Bc).heap.size (.slice A1 L.length c1) L := q5
   have e0 := k0.lt
   have e1 := k1.lt
   have e2 := k2.lt
   have IC := Aa.size
   have Ds := AV.size hS
   replace k0 := Ad.ups k0 hS
   replace k1 := Ad.ups k1 hS
   replace k2 := Ad.ups k2 hS
   replace Aa := Aa.trans (Below.mono hS Aa.size)
   clear hS q5
   obtain ⟨B, hB⟩ : ∃ B, (At Bc).heap.size = B := ⟨_, rfl⟩
   rw [hB] at e0 e1 e2 IC Ds Ah g6
   clear hB Bc
   exact ⟨R, B, b6, A1, c1, H.pick [2, 3, 4, 6], ⟨e0, e1, e2, g6, IC, Ds⟩, k0, k1, k2, k6, Ah, Aa⟩
 ·
  clear H Aa k0 k1 k2
  rintro a w' ⟨B, b6, A1, c1, H, ⟨e0, e1, e2, g6, IC, Ds⟩, k0, k1, k2, k6, Ah, Aa⟩
  refine zB (zC (zC ?_))
  cases KN : CG n L
  ·
   refine zD (kV H (AL (cs := [J n, .slice A L.length c]) (H.e R) (Ar k0) (by kernel_rfl) DU R) R λ a H => A8 _ _ _ (Gt _ n _ L (AG.up h.out Aa) (by omega)) (Av Ub (H.e R)) ?_)
   rintro e w9 ⟨rfl, hb⟩; refine ⟨_, rfl, ?_⟩; rw [KN]; replace k0 := k0.ups hb; replace k1 := k1.ups hb; replace k2 := k2.ups hb; replace k6 := k6.ups hb; replace Ah := BN.up Ah hb; replace Ds := C5 Ds hb; replace Aa := Aa.tr hb; clear hb; refine kl H rfl λ a H => kX 20 H (Bs (H.ev rfl) rfl) rfl λ a H => zA (zB (zH H rfl (zC (zD (kV H (AL (cs := [J n, .slice A1 L.length c1]) (H.ev rfl) (Ar k6) (by kernel_rfl) DU rfl) rfl λ a H => AP 70 (.tmp 4) (.tmp 39) b2 0 70 (.agg #[J n, .slice A1 L.length c1]) _ (H.ev rfl) (H.ev rfl) k2 DU (by simp [Value.cells]) (by simp [Value.cells, Value.oneCell']) fun w' hb ho kq => ?_)))))
   clear k2; have k2 : Ad _ b2 70 #[J n, .slice A1 L.length c1] := kq; clear kq; replace k0 := Ae k0 (ho _ (by omega)); replace k1 := Ae k1 (ho _ (by omega)); replace k6 := Ae k6 (ho _ (by omega)); replace Ah := BN.keep Ah (fun q e => ho q (by have := (Ah.lt e).1; omega)); replace Ds := C5 Ds (hb _ g2); replace Aa := Aa.trans (hb _ g2); clear hb ho; refine kO 1 H rfl λ a H => zA (zB (zF (zJ ?_)))
   rw [show takeF n L x = ((n, L), []) from EV (by first | exact .inl KN | exact .inr (.inl (by omega)) | exact .inr (.inr (.inl (by omega))) | exact .inr (.inr (.inr (.inl (by omega)))) | exact .inr (.inr (.inr (.inr (KB.2 ⟨y, List.mem_of_getElem? HY.out, by omega⟩)))))]
   exact BT H R R R k2 ND R DU ⟨⟨_, _, R, ⟨D7.row Ah, C0 Ah IC⟩, ⟨AG.nil, Cj⟩⟩, Aa⟩
  ·
   have HRT := Lib.hid KN
   have HR : Hid (E3 n L) := Lib.hid (of_decide_eq_true KN)
   have Xk := HR.out.1
   have Ya := HR.out.2.1
   have hLl := Jv HR.out
   refine zD (kV H (AL (cs := [J n, .slice A L.length c]) (H.e R) (Ar k0) (by kernel_rfl) DU R) R λ a H => A8 _ _ _ (Gt _ n _ L (AG.up h.out Aa) (by omega)) (Av Ub (H.e R)) ?_)
   rintro e w9 ⟨rfl, hb⟩; refine ⟨_, rfl, ?_⟩; rw [KN]; replace k0 := k0.ups hb; replace k1 := k1.ups hb; replace k2 := k2.ups hb; replace k6 := k6.ups hb; replace Ah := BN.up Ah hb; replace Ds := C5 Ds hb; replace Aa := Aa.tr hb; clear hb; refine kl H rfl λ a H => kX 2 H (Bs (H.ev rfl) rfl) rfl λ a H => kY 1 H rfl (Ai U3 rfl (H.ev rfl) ((Ad.cell k1 0).trans rfl)) rfl λ a H => kW H rfl (Ai U3 rfl (H.ev rfl) ((Ad.cell k0 0).trans rfl)) rfl λ a H => ?_
   by_cases BE : x.1 < n
   ·
    refine kY 14 H R (By U3 (H.e R) (H.e R) (AE (BE))) R λ a H => zA (zB (zH H R (zC (zD (kV H (AL (cs := [J n, .slice A1 L.length c1]) (H.e R) (Ar k6) (by kernel_rfl) DU R) R λ a H => AP 70 (.tmp 4) (.tmp 39) b2 0 70 (.agg #[J n, .slice A1 L.length c1]) _ (H.e R) (H.e R) k2 DU (by simp [Value.cells]) (by simp [Value.cells, Value.oneCell']) fun w' hb ho kq => ?_)))))
    clear k2; have k2 : Ad _ b2 70 #[J n, .slice A1 L.length c1] := kq; clear kq; replace k0 := Ae k0 (ho _ (by omega)); replace k1 := Ae k1 (ho _ (by omega)); replace k6 := Ae k6 (ho _ (by omega)); replace Ah := BN.keep Ah (fun q e => ho q (by have := (Ah.lt e).1; omega)); replace Ds := C5 Ds (hb _ g2); replace Aa := Aa.trans (hb _ g2); clear hb ho; refine kO 1 H rfl λ a H => zA (zB (zF (zJ ?_)))
    rw [show takeF n L x = ((n, L), []) from EV (by first | exact .inl KN | exact .inr (.inl (by omega)) | exact .inr (.inr (.inl (by omega))) | exact .inr (.inr (.inr (.inl (by omega)))) | exact .inr (.inr (.inr (.inr (KB.2 ⟨y, List.mem_of_getElem? HY.out, by omega⟩)))))]
    exact BT H R R R k2 ND R DU ⟨⟨_, _, R, ⟨D7.row Ah, C0 Ah IC⟩, ⟨AG.nil, Cj⟩⟩, Aa⟩
   ·
    refine kY 3 H R (By U3 (H.e R) (H.e R) (AF (BE))) R λ a H => kY 1 H R (Ai U3 R (H.e R) ((Ad.cell k1 0).trans R)) R λ a H => kW H R (Ai U3 R (H.e R) ((Ad.cell k0 0).trans R)) R λ a H => kW H R (Dl (q := x.1 - n) U3 (H.e R) (H.e R)) R λ a H => ?_
    by_cases Cn : (x.1 - n) ≥ 8
    ·
     refine kY 6 H R (CV U3 (H.e R) Am (AE (Cn))) R λ a H => zA (zB (zH H R (zC (zD (kV H (AL (cs := [J n, .slice A1 L.length c1]) (H.e R) (Ar k6) (by kernel_rfl) DU R) R λ a H => AP 70 (.tmp 4) (.tmp 39) b2 0 70 (.agg #[J n, .slice A1 L.length c1]) _ (H.e R) (H.e R) k2 DU (by simp [Value.cells]) (by simp [Value.cells, Value.oneCell']) fun w' hb ho kq => ?_)))))
     clear k2; have k2 : Ad _ b2 70 #[J n, .slice A1 L.length c1] := kq; clear kq; replace k0 := Ae k0 (ho _ (by omega)); replace k1 := Ae k1 (ho _ (by omega)); replace k6 := Ae k6 (ho _ (by omega)); replace Ah := BN.keep Ah (fun q e => ho q (by have := (Ah.lt e).1; omega)); replace Ds := C5 Ds (hb _ g2); replace Aa := Aa.trans (hb _ g2); clear hb ho; refine kO 1 H rfl λ a H => zA (zB (zF (zJ ?_)))
     rw [show takeF n L x = ((n, L), []) from EV (by first | exact .inl KN | exact .inr (.inl (by omega)) | exact .inr (.inr (.inl (by omega))) | exact .inr (.inr (.inr (.inl (by omega)))) | exact .inr (.inr (.inr (.inr (KB.2 ⟨y, List.mem_of_getElem? HY.out, by omega⟩)))))]
     exact BT H R R R k2 ND R DU ⟨⟨_, _, R, ⟨D7.row Ah, C0 Ah IC⟩, ⟨AG.nil, Cj⟩⟩, Aa⟩
    ·
     refine kY 3 H R (CV U3 (H.e R) Am (AF (Cn))) R λ a H => kW H R (Ai U3 R (H.e R) ((Ad.cell k1 0).trans R)) R λ a H => ?_
     by_cases CP : x.1 ≥ 1073741824
     ·
      refine kY 1 H R (CV U3 (H.e R) Am (AE (CP))) R λ a H => zA (zB (zH H R (zC (zD (kV H (AL (cs := [J n, .slice A1 L.length c1]) (H.e R) (Ar k6) (by kernel_rfl) DU R) R λ a H => AP 70 (.tmp 4) (.tmp 39) b2 0 70 (.agg #[J n, .slice A1 L.length c1]) _ (H.e R) (H.e R) k2 DU (by simp [Value.cells]) (by simp [Value.cells, Value.oneCell']) fun w' hb ho kq => ?_)))))
      clear k2; have k2 : Ad _ b2 70 #[J n, .slice A1 L.length c1] := kq; clear kq; replace k0 := Ae k0 (ho _ (by omega)); replace k1 := Ae k1 (ho _ (by omega)); replace k6 := Ae k6 (ho _ (by omega)); replace Ah := BN.keep Ah (fun q e => ho q (by have := (Ah.lt e).1; omega)); replace Ds := C5 Ds (hb _ g2); replace Aa := Aa.trans (hb _ g2); clear hb ho; refine kO 1 H rfl λ a H => zA (zB (zF (zJ ?_)))
      rw [show takeF n L x = ((n, L), []) from EV (by first | exact .inl KN | exact .inr (.inl (by omega)) | exact .inr (.inr (.inl (by omega))) | exact .inr (.inr (.inr (.inl (by omega)))) | exact .inr (.inr (.inr (.inr (KB.2 ⟨y, List.mem_of_getElem? HY.out, by omega⟩)))))]
      exact BT H R R R k2 ND R DU ⟨⟨_, _, R, ⟨D7.row Ah, C0 Ah IC⟩, ⟨AG.nil, Cj⟩⟩, Aa⟩
     ·
      refine kY 1 H R (CV U3 (H.e R) Am (AF (CP))) R λ a H => zA (zB (zG H R (zE (zB (zC (zD (kR 1 H R λ a H => zA (zB (zC (wp_block (wp_loop (tZ w B b0 b1 b2 b6 n A c L A1 c1 x) (fun a _ => L.length - (intOf (a.eval (.tmp 7))).toNat) ⟨0, H.pick [2, 3, 4, 6, 7], by omega, (fun j y hj => by omega), k0, k1, k2, k6, Ah, Ds, Aa⟩ ?_)))))))))))
      clear H Aa k0 k1 k2 k6 Ah Ds
      rintro a w' ⟨k, H, hk, N5, k0, k1, k2, k6, Ah, Ds, Aa⟩
      have H0 := H
      by_cases CM : k < L.length
      ·
       obtain ⟨b, o, hA, hr⟩ := CK Bb hh.out (by omega) CM
       subst hA
       have hy : L[k]? = some L[k] := List.getElem?_eq_getElem CM
       have HRG := Lib.hid hr
       generalize L[k] = y at *
       have HY := Lib.hid hy
       clear hy hr
       have H := H0
       refine zC (zC ?_)
       have EK := Aa
       have hS : AV (At EK) _ := Below.drew (Below.refl _ (At EK))
       refine CZ (AV (At EK)) [(0, true), (1, true), (2, true), (3, true), (4, true), (5, true), (6, true), (7, true), (8, true), (9, true), (10, true), (11, true), (12, true), (13, true), (14, true), (15, true)] (by kernel_rfl) (by kernel_rfl) R (by kernel_rfl) hS (Bf _ R (fun w' Aj => C4 (H.e R)) (kp H R λ a H => Bf _ R (fun w' Aj => Br (q := 1) Dp (H.e R) R) (kp H R λ a H => Bf _ R (fun w' Aj => Ai CL R (H.e R) ((Ad.cell (Ad.ups k0 Aj) 1).trans R)) (kp H R λ a H => Bf _ R (fun w' Aj => Ba CL (H.e R)) (kp H R λ a H => Bf _ R (fun w' Aj => By U3 (H.e R) (H.e R) dT) (kp H R λ a H => Bf _ R (fun w' Aj => C4 (H.e R)) (kp H R λ a H => Bx _ R R R (H.e R) (fun w' Aj => Br (q := 1) Dp (H.e R) R) (kp H R λ a H => Bx _ R R R (H.e R) (fun w' Aj => Ai CL R (H.e R) ((Ad.cell (Ad.ups k0 Aj) 1).trans R)) (kp H R λ a H => Bx _ R R R (H.e R) (fun w' Aj => C4 (H.e R)) (kp H R λ a H => Bx _ R R R (H.e R) (fun w' Aj => Bq (j := k) (q := o + k * 5) CL FI (H.e R) (H.e R) (by omega) R) (kp H R λ a H => Bx _ R R R (H.e R) (fun w' Aj => Br (q := o + k * 5) EL (H.e R) R) (kp H R λ a H => Bx _ R R R (H.e R) (fun w' Aj => Ai U3 R (H.e R) (Bo (BQ HRG.out (EK.trans (Below.mono Aj EK.size))) 0 R)) ?_))))))))))))
       refine kp H R λ a H => Bx _ R R R (H.e R) (fun w' Aj => Br (q := 0) EL (H.e R) R) (kp H R λ a H => Bx _ R R R (H.e R) (fun w' Aj => Ai U3 R (H.e R) ((Ad.cell (Ad.ups k1 Aj) 0).trans R)) (kp H R λ a H => ?_))
       by_cases DJ : y.1 < x.1
       ·
        refine Bx _ R R R (H.e R) (fun w' Aj => By U3 (H.e R) (H.e R) (AE (DJ))) (kp H R λ a H => Bf _ R (fun w' Aj => Ea (H.e R) (H.e R)) (kp H R λ a H => Es (NoPanic.normal ?_)))
        replace k0 := Ad.ups k0 hS
        replace k1 := Ad.ups k1 hS
        replace k2 := Ad.ups k2 hS
        replace k6 := Ad.ups k6 hS
        replace Ah := BN.up Ah hS
        replace Ds := C5 Ds hS
        replace Aa := Aa.trans (Below.mono hS Aa.size)
        clear hS
        refine zB (zH H R (zE (zB (wp_block (zD (kR 1 H R λ a H => kX 1 H (Bm (q := ((k + 1 : Nat) : Int)) U3 (H.e R) Am) R λ a H => zA (AC (zI ⟨⟨k + 1, H.pick [2, 3, 4, 6, 7], by omega, (YK N5 HY.out (by omega)), k0, k1, k2, k6, Ah, Ds, Aa⟩, ?_⟩))))))))
        rw [H.ev (j := 7) rfl, H0.ev (j := 7) rfl]
        simp only [intOf]
        omega
       ·
        refine Bx _ R R R (H.e R) (fun w' Aj => By U3 (H.e R) (H.e R) (AF (DJ))) (kp H R λ a H => Bf _ R (fun w' Aj => Ea (H.e R) (H.e R)) (kp H R λ a H => Es (NoPanic.normal ?_)))
        replace k0 := Ad.ups k0 hS
        replace k1 := Ad.ups k1 hS
        replace k2 := Ad.ups k2 hS
        replace k6 := Ad.ups k6 hS
        replace Ah := BN.up Ah hS
        replace Ds := C5 Ds hS
        replace Aa := Aa.trans (Below.mono hS Aa.size)
        clear hS
        refine zB (zG H R (wp_exit (AJ (AJ (BD (zB (zC (zC ?_))))))))
        have Gs := Aa
        have hS : AV (At Gs) _ := Below.drew (Below.refl _ (At Gs))
        refine CZ (AV (At Gs)) [(0, true), (1, true), (2, true), (3, true), (4, true), (5, true), (6, true), (7, true), (8, true), (9, true), (10, true), (11, true), (12, true), (13, true), (14, true), (15, true)] (by kernel_rfl) (by kernel_rfl) R (by kernel_rfl) hS (Bf _ R (fun w' Aj => C4 (H.e R)) (kp H R λ a H => Bf _ R (fun w' Aj => Br (q := 1) Dp (H.e R) R) (kp H R λ a H => Bf _ R (fun w' Aj => Ai CL R (H.e R) ((Ad.cell (Ad.ups k0 Aj) 1).trans R)) (kp H R λ a H => Bf _ R (fun w' Aj => Ba CL (H.e R)) (kp H R λ a H => Bf _ R (fun w' Aj => By U3 (H.e R) (H.e R) dT) (kp H R λ a H => Bf _ R (fun w' Aj => C4 (H.e R)) (kp H R λ a H => Bx _ R R R (H.e R) (fun w' Aj => Br (q := 1) Dp (H.e R) R) (kp H R λ a H => Bx _ R R R (H.e R) (fun w' Aj => Ai CL R (H.e R) ((Ad.cell (Ad.ups k0 Aj) 1).trans R)) (kp H R λ a H => Bx _ R R R (H.e R) (fun w' Aj => C4 (H.e R)) (kp H R λ a H => Bx _ R R R (H.e R) (fun w' Aj => Bq (j := k) (q := o + k * 5) CL FI (H.e R) (H.e R) (by omega) R) (kp H R λ a H => Bx _ R R R (H.e R) (fun w' Aj => Br (q := o + k * 5) EL (H.e R) R) (kp H R λ a H => Bx _ R R R (H.e R) (fun w' Aj => Ai U3 R (H.e R) (Bo (BQ HRG.out (Gs.trans (Below.mono Aj Gs.size))) 0 R)) ?_))))))))))))
        refine kp H R λ a H => Bx _ R R R (H.e R) (fun w' Aj => Br (q := 0) EL (H.e R) R) (kp H R λ a H => Bx _ R R R (H.e R) (fun w' Aj => Ai U3 R (H.e R) ((Ad.cell (Ad.ups k1 Aj) 0).trans R)) (kp H R λ a H => ?_))
        by_cases Em : y.1 = x.1
        ·
         refine Bx _ R R R (H.e R) (fun w' Aj => A9 U3 (H.e R) (H.e R) (AE (Em))) (kp H R λ a H => Bf _ R (fun w' Aj => Ea (H.e R) (H.e R)) (kp H R λ a H => Es (NoPanic.normal ?_)))
         replace k0 := Ad.ups k0 hS
         replace k1 := Ad.ups k1 hS
         replace k2 := Ad.ups k2 hS
         replace k6 := Ad.ups k6 hS
         replace Ah := BN.up Ah hS
         replace Ds := C5 Ds hS
         replace Aa := Aa.trans (Below.mono hS Aa.size)
         clear hS
         refine zB (zH H R (zC (zD (kV H (AL (cs := [J n, .slice A1 L.length c1]) (H.e R) (Ar k6) (by kernel_rfl) DU R) R λ a H => AP 70 (.tmp 4) (.tmp 74) b2 0 70 (.agg #[J n, .slice A1 L.length c1]) _ (H.e R) (H.e R) k2 DU (by simp [Value.cells]) (by simp [Value.cells, Value.oneCell']) fun w' hb ho kq => ?_))))
         clear k2; have k2 : Ad _ b2 70 #[J n, .slice A1 L.length c1] := kq; clear kq; replace k0 := Ae k0 (ho _ (by omega)); replace k1 := Ae k1 (ho _ (by omega)); replace k6 := Ae k6 (ho _ (by omega)); replace Ah := BN.keep Ah (fun q e => ho q (by have := (Ah.lt e).1; omega)); replace Ds := C5 Ds (hb _ g2); replace Aa := Aa.trans (hb _ g2); clear hb ho; refine kO 1 H rfl λ a H => zA (zB (zF (zJ ?_)))
         rw [show takeF n L x = ((n, L), []) from EV (by first | exact .inl KN | exact .inr (.inl (by omega)) | exact .inr (.inr (.inl (by omega))) | exact .inr (.inr (.inr (.inl (by omega)))) | exact .inr (.inr (.inr (.inr (KB.2 ⟨y, List.mem_of_getElem? HY.out, by omega⟩)))))]
         exact BT H R R R k2 ND R DU ⟨⟨_, _, R, ⟨D7.row Ah, C0 Ah IC⟩, ⟨AG.nil, Cj⟩⟩, Aa⟩
        ·
         refine Bx _ R R R (H.e R) (fun w' Aj => A9 U3 (H.e R) (H.e R) (AF (Em))) (kp H R λ a H => Bf _ R (fun w' Aj => Ea (H.e R) (H.e R)) (kp H R λ a H => Es (NoPanic.normal ?_)))
         replace k0 := Ad.ups k0 hS
         replace k1 := Ad.ups k1 hS
         replace k2 := Ad.ups k2 hS
         replace k6 := Ad.ups k6 hS
         replace Ah := BN.up Ah hS
         replace Ds := C5 Ds hS
         replace Aa := Aa.trans (Below.mono hS Aa.size)
         clear hS
         refine zB (zG H R (zE (zB (zC (JI (xW w b2 b6 n L x) ?_ ?_)))))
         ·
          have Xr : L.take k ++ x :: L.drop k = insI L x := Po HR.out.2.2.1 hk (TV HR.out.2.2.1 HY.out (by omega)) (TA N5 hk)
          have gY : Ge L x.1 = false := cM HR.out.2.2.1 N5 HY.out (by omega)
          have HTK : Hid (takeF n L x = popF n (insI L x)) := Lib.hid (Jo HR.out (by omega) (by omega) (by omega) gY)
          have HIN := Lib.hid Xr
          clear Xr gY N5 Ah
          have Bc := Aa
          have f2 : b2 < (At Bc).heap.size := k2.lt
          have f6 : b6 < (At Bc).heap.size := k6.lt
          have Hn : w.heap.size ≤ (At Bc).heap.size := Aa.size
          have hT : Below (At Bc).heap.size (At Bc) (World.drew _) := Below.drew (Below.refl _ (At Bc))
          have EG : B ≤ (At Bc).heap.size := Ds
          have hS : Ce B (At Bc) _ := Below.mono hT EG
          refine rT (Ce B (At Bc)) 16 (Dn [1, 2, 3, 4, 6, 9, 10, 11, 12] (.two 0 (.two 5 (.one 7 (.one 8 (.one 13 (.fl 14 (.one 15 .done))))) 7 (.one 5 (.one 8 (.one 13 (.fl 14 (.one 15 .done)))))) 7 (.one 0 (.one 5 (.one 8 (.one 13 (.fl 14 (.one 15 .done)))))))) hS (kQ 1 H R λ a H => kE 1 H R R (fun w' Aj => Ai CL R (H.e R) ((Ad.cell (Ad.up k0 Aj e0) 1).trans R)) R λ a H => kF (v := .slice (some ⟨b, o, none⟩) k c) H R R (fun w' Aj => BS CL (.slice (some ⟨b, o, none⟩) L.length c) none (some (J (k : Nat))) none (H.e R) R (by simp [H.ev (j := 78) R]) R (CF 0 (k) CL FI _ _ (.inl ⟨R, R⟩) (.inr R) (by omega) (by omega) La (by omega) (by omega))) R λ a H => kE 1 H R R (fun w' Aj => AL (cs := [J x.1, J x.2.1, J x.2.2.1, J x.2.2.2.1, J x.2.2.2.2]) (H.e R) (Ar (Ad.up k1 Aj e1)) (by kernel_rfl) FI R) R λ a H => kE 1 H R R (fun w' Aj => Ai CL R (H.e R) ((Ad.cell (Ad.up k0 Aj e0) 1).trans R)) R λ a H => kF (v := .slice (C6 (some ⟨b, o, none⟩) c k 5) (L.length - k) (c - k)) H R R (fun w' Aj => BS CL (.slice (some ⟨b, o, none⟩) L.length c) (some (J (k : Nat))) none none (H.e R) (by simp [H.ev (j := 86) R]) R R (CF (k) L.length CL FI _ _ (.inr R) (.inl ⟨R, R⟩) (by omega) (by omega) R R R)) R λ a H => FB (fun K hK => ?_) (fun K hK => ?_))
          ·
           refine A7 R (Co 63 0 #[] 65 #[] (by simp) (fun w => by kernel_rfl) fun w1 bl Ak hb kk => ?_); have q0 := Dk (base := (At Bc).heap.size) (size := 5) kk (Nat.le_trans hT.size Ak); have q0l := kk.lt; (try have Fh : b11 ≠ bl := (by have := Gq.lt; omega)); (try replace Gq := Gq.ups hb); replace hT := hT.trans (hb.mono hT.size); replace hS : Ce B (At Bc) _ := Below.mono hT EG; clear hb Ak kk; refine kS 0 hK hS H R λ a H => ?_; clear hK K
           refine FB (fun K hK => ?_) (fun K hK => ?_)
           ·
            refine A7 R (BA 63 65 (.tmp 75) (.tmp 79) (At Bc).heap.size (.agg #[J 0, J 0, J 0, J 0, J 0]) 5 40 _ 0 [] (some ⟨b, o, none⟩) k c (FV EN (L.take k)) (H.e R) (H.e R) CL MU R (by omega) q0 (by rw [Cu Bb, List.length_take]; omega) (((BW (AG.up h.out Bc)).up hT).take_fv Bb _) (CI _ _) (by unfold maxLen; omega) (by omega) hT.size fun v4 w4 q4 hg hv Cb => ?_); (try replace Gq := Ad.grown Gq hg (by simp [Value.ownBlock]; omega)); replace hT := hT.trans Cb; replace hS : Ce B (At Bc) _ := Below.mono hT EG; clear Cb hg hv q0; refine kS 0 hK hS H R λ a H => ?_; clear hK K
            refine Al (fun K hK => A7 R (Co 63 1 #[(0, .agg #[J x.1, J x.2.1, J x.2.2.1, J x.2.2.2.1, J x.2.2.2.2])] 65 #[J x.1, J x.2.1, J x.2.2.1, J x.2.2.2.1, J x.2.2.2.2] (by simp [H.ev (j := 81) R]) (fun w => by kernel_rfl) fun w1 b11 Ak hb Gq => ?_))
            (try have Fh : b11 ≠ bl := (by omega)); (try replace q0 := Bh q0 hb); (try replace q4 := Bh q4 hb); replace hT := hT.trans (hb.mono hT.size); replace hS : Ce B (At Bc) _ := Below.mono hT EG; clear hb Ak; refine kS 0 hK hS H rfl λ a H => ?_; clear hK K
            refine Al (fun K hK => A7 R (BA 63 65 (.tmp 80) (.tmp 82) (At Bc).heap.size (.agg #[J 0, J 0, J 0, J 0, J 0]) 5 40 v4 _ _ (some ⟨b11, 0, none⟩) 1 1 (FV EN [x]) (H.e R) (H.e R) CL MU R (by omega) q4 (by rw [Cu Bb]; rfl) (BG Gq R) (CI _ _) (by unfold maxLen; omega) (by omega) hT.size fun v7 w7 q7 _ _ Cb => ?_))
            replace hT := hT.trans Cb; replace hS : Ce B (At Bc) _ := Below.mono hT EG; clear Cb q4 Gq; refine kS 0 hK hS H rfl λ a H => ?_; clear hK K
            refine Al (fun K hK => A7 R (BA 63 65 (.tmp 83) (.tmp 87) (At Bc).heap.size (.agg #[J 0, J 0, J 0, J 0, J 0]) 5 40 v7 _ _ (C6 (some ⟨b, o, none⟩) c k 5) (L.length - k) (c - k) (FV EN (L.drop k)) (H.e R) (H.e R) CL MU R (by omega) q7 (by rw [Cu Bb, List.length_drop]) (Le ((BW (AG.up h.out Bc)).up hT) dG _) (CI _ _) (by unfold maxLen; omega) (by omega) hT.size fun v11 w11 q11 _ _ Cb => ?_))
            replace hT := hT.trans Cb; replace hS : Ce B (At Bc) _ := Below.mono hT EG; clear Cb q7; have Cq := Lf hk q11; rw [HIN.out] at Cq; clear q11; obtain ⟨g, cap, rfl, Oq, DI⟩ := GF Cq (FS L x) (by omega); refine kS 1 hK hS H rfl λ a H => ?_; clear hK K
            refine Al (fun K hK => A7 R ?_)
            replace k6 := Ad.ups k6 hT; refine AX 63 (.tmp 89) (.tmp 88) b6 1 70 (.slice (some ⟨g, 0, none⟩) (L.length + 1) cap) _ (H.ev rfl) (H.ev rfl) k6 Wq (by simp [Value.cells]) (by simp [Value.cells, Value.oneCell']) fun w8 Hg JZ kq => ?_; clear k6; have k6 : Ad w8 b6 70 #[J n, .slice (some ⟨g, 0, none⟩) (L.length + 1) cap] := kq; clear kq; replace Cq := BN.keep Cq (fun q e => JZ q (by have := (Cq.lt e).1; omega)); replace DI := DS DI (Hg 0 (Nat.zero_le _)); have CR := Nat.le_trans hT.size (Hg 0 (Nat.zero_le _)).size; replace hS : Ce B (At Bc) _ := hS.trans (Hg _ g6); clear Hg JZ hT; refine kU 0 hK hS H rfl λ a H => ?_; clear hK K
            refine Aw (NoPanic.normal ?_)
            replace k2 := Ad.up k2 hS e2
            replace Aa := Aa.trans (Below.mono hS IC)
            obtain ⟨B2, hB⟩ : ∃ B2, (At Bc).heap.size = B2 := ⟨_, rfl⟩
            rw [hB] at f2 f6 Hn CR Cq Oq
            clear hB hS k0 k1 Ds EG
            exact ⟨R, B2, g, cap, H.pick [4, 6], ⟨f2, f6, Hn, CR, Oq, DI⟩, HTK.out, k2, k6, Cq, Aa⟩
           ·
            refine A7 R (Co 63 1 #[(0, .agg #[J x.1, J x.2.1, J x.2.2.1, J x.2.2.2.1, J x.2.2.2.2])] 65 #[J x.1, J x.2.1, J x.2.2.1, J x.2.2.2.1, J x.2.2.2.2] (by simp [H.ev (j := 81) R]) (fun w => by kernel_rfl) fun w1 b11 Ak hb Gq => ?_); (try have Fh : b11 ≠ bl := (by omega)); (try replace q0 := Bh q0 hb); (try replace q4 := Bh q4 hb); replace hT := hT.trans (hb.mono hT.size); replace hS : Ce B (At Bc) _ := Below.mono hT EG; clear hb Ak; refine kS 0 hK hS H R λ a H => ?_; clear hK K
            refine Al (fun K hK => A7 R (BA 63 65 (.tmp 75) (.tmp 79) (At Bc).heap.size (.agg #[J 0, J 0, J 0, J 0, J 0]) 5 40 _ 0 [] (some ⟨b, o, none⟩) k c (FV EN (L.take k)) (H.e R) (H.e R) CL MU R (by omega) q0 (by rw [Cu Bb, List.length_take]; omega) (((BW (AG.up h.out Bc)).up hT).take_fv Bb _) (CI _ _) (by unfold maxLen; omega) (by omega) hT.size fun v4 w4 q4 hg hv Cb => ?_))
            (try replace Gq := Ad.grown Gq hg (by simp [Value.ownBlock]; omega)); replace hT := hT.trans Cb; replace hS : Ce B (At Bc) _ := Below.mono hT EG; clear Cb hg hv q0; refine kS 0 hK hS H rfl λ a H => ?_; clear hK K
            refine Al (fun K hK => A7 R (BA 63 65 (.tmp 80) (.tmp 82) (At Bc).heap.size (.agg #[J 0, J 0, J 0, J 0, J 0]) 5 40 v4 _ _ (some ⟨b11, 0, none⟩) 1 1 (FV EN [x]) (H.e R) (H.e R) CL MU R (by omega) q4 (by rw [Cu Bb]; rfl) (BG Gq R) (CI _ _) (by unfold maxLen; omega) (by omega) hT.size fun v7 w7 q7 _ _ Cb => ?_))
            replace hT := hT.trans Cb; replace hS : Ce B (At Bc) _ := Below.mono hT EG; clear Cb q4 Gq; refine kS 0 hK hS H rfl λ a H => ?_; clear hK K
            refine Al (fun K hK => A7 R (BA 63 65 (.tmp 83) (.tmp 87) (At Bc).heap.size (.agg #[J 0, J 0, J 0, J 0, J 0]) 5 40 v7 _ _ (C6 (some ⟨b, o, none⟩) c k 5) (L.length - k) (c - k) (FV EN (L.drop k)) (H.e R) (H.e R) CL MU R (by omega) q7 (by rw [Cu Bb, List.length_drop]) (Le ((BW (AG.up h.out Bc)).up hT) dG _) (CI _ _) (by unfold maxLen; omega) (by omega) hT.size fun v11 w11 q11 _ _ Cb => ?_))
            replace hT := hT.trans Cb; replace hS : Ce B (At Bc) _ := Below.mono hT EG; clear Cb q7; have Cq := Lf hk q11; rw [HIN.out] at Cq; clear q11; obtain ⟨g, cap, rfl, Oq, DI⟩ := GF Cq (FS L x) (by omega); refine kS 1 hK hS H rfl λ a H => ?_; clear hK K
            refine Al (fun K hK => A7 R ?_)
            replace k6 := Ad.ups k6 hT; refine AX 63 (.tmp 89) (.tmp 88) b6 1 70 (.slice (some ⟨g, 0, none⟩) (L.length + 1) cap) _ (H.ev rfl) (H.ev rfl) k6 Wq (by simp [Value.cells]) (by simp [Value.cells, Value.oneCell']) fun w8 Hg JZ kq => ?_; clear k6; have k6 : Ad w8 b6 70 #[J n, .slice (some ⟨g, 0, none⟩) (L.length + 1) cap] := kq; clear kq; replace Cq := BN.keep Cq (fun q e => JZ q (by have := (Cq.lt e).1; omega)); replace DI := DS DI (Hg 0 (Nat.zero_le _)); have CR := Nat.le_trans hT.size (Hg 0 (Nat.zero_le _)).size; replace hS : Ce B (At Bc) _ := hS.trans (Hg _ g6); clear Hg JZ hT; refine kU 0 hK hS H rfl λ a H => ?_; clear hK K
            refine Aw (NoPanic.normal ?_)
            replace k2 := Ad.up k2 hS e2
            replace Aa := Aa.trans (Below.mono hS IC)
            obtain ⟨B2, hB⟩ : ∃ B2, (At Bc).heap.size = B2 := ⟨_, rfl⟩
            rw [hB] at f2 f6 Hn CR Cq Oq
            clear hB hS k0 k1 Ds EG
            exact ⟨R, B2, g, cap, H.pick [4, 6], ⟨f2, f6, Hn, CR, Oq, DI⟩, HTK.out, k2, k6, Cq, Aa⟩
          ·
           refine A7 R (Co 63 1 #[(0, .agg #[J x.1, J x.2.1, J x.2.2.1, J x.2.2.2.1, J x.2.2.2.2])] 65 #[J x.1, J x.2.1, J x.2.2.1, J x.2.2.2.1, J x.2.2.2.2] (by simp [H.ev (j := 81) R]) (fun w => by kernel_rfl) fun w1 b11 Ak hb Gq => ?_); (try have Fh : b11 ≠ bl := (by omega)); (try replace q0 := Bh q0 hb); (try replace q4 := Bh q4 hb); replace hT := hT.trans (hb.mono hT.size); replace hS : Ce B (At Bc) _ := Below.mono hT EG; clear hb Ak; refine kS 0 hK hS H R λ a H => ?_; clear hK K
           refine Al (fun K hK => A7 R (Co 63 0 #[] 65 #[] (by simp) (fun w => by kernel_rfl) fun w1 bl Ak hb kk => ?_))
           have q0 := Dk (base := (At Bc).heap.size) (size := 5) kk (Nat.le_trans hT.size Ak); have q0l := kk.lt; (try have Fh : b11 ≠ bl := (by have := Gq.lt; omega)); (try replace Gq := Gq.ups hb); replace hT := hT.trans (hb.mono hT.size); replace hS : Ce B (At Bc) _ := Below.mono hT EG; clear hb Ak kk; refine kS 0 hK hS H rfl λ a H => ?_; clear hK K
           refine Al (fun K hK => A7 R (BA 63 65 (.tmp 75) (.tmp 79) (At Bc).heap.size (.agg #[J 0, J 0, J 0, J 0, J 0]) 5 40 _ 0 [] (some ⟨b, o, none⟩) k c (FV EN (L.take k)) (H.e R) (H.e R) CL MU R (by omega) q0 (by rw [Cu Bb, List.length_take]; omega) (((BW (AG.up h.out Bc)).up hT).take_fv Bb _) (CI _ _) (by unfold maxLen; omega) (by omega) hT.size fun v4 w4 q4 hg hv Cb => ?_))
           (try replace Gq := Ad.grown Gq hg (by simp [Value.ownBlock]; omega)); replace hT := hT.trans Cb; replace hS : Ce B (At Bc) _ := Below.mono hT EG; clear Cb hg hv q0; refine kS 0 hK hS H rfl λ a H => ?_; clear hK K
           refine Al (fun K hK => A7 R (BA 63 65 (.tmp 80) (.tmp 82) (At Bc).heap.size (.agg #[J 0, J 0, J 0, J 0, J 0]) 5 40 v4 _ _ (some ⟨b11, 0, none⟩) 1 1 (FV EN [x]) (H.e R) (H.e R) CL MU R (by omega) q4 (by rw [Cu Bb]; rfl) (BG Gq R) (CI _ _) (by unfold maxLen; omega) (by omega) hT.size fun v7 w7 q7 _ _ Cb => ?_))
           replace hT := hT.trans Cb; replace hS : Ce B (At Bc) _ := Below.mono hT EG; clear Cb q4 Gq; refine kS 0 hK hS H rfl λ a H => ?_; clear hK K
           refine Al (fun K hK => A7 R (BA 63 65 (.tmp 83) (.tmp 87) (At Bc).heap.size (.agg #[J 0, J 0, J 0, J 0, J 0]) 5 40 v7 _ _ (C6 (some ⟨b, o, none⟩) c k 5) (L.length - k) (c - k) (FV EN (L.drop k)) (H.e R) (H.e R) CL MU R (by omega) q7 (by rw [Cu Bb, List.length_drop]) (Le ((BW (AG.up h.out Bc)).up hT) dG _) (CI _ _) (by unfold maxLen; omega) (by omega) hT.size fun v11 w11 q11 _ _ Cb => ?_))
           replace hT := hT.trans Cb; replace hS : Ce B (At Bc) _ := Below.mono hT EG; clear Cb q7; have Cq := Lf hk q11; rw [HIN.out] at Cq; clear q11; obtain ⟨g, cap, rfl, Oq, DI⟩ := GF Cq (FS L x) (by omega); refine kS 1 hK hS H rfl λ a H => ?_; clear hK K
           refine Al (fun K hK => A7 R ?_)
           replace k6 := Ad.ups k6 hT; refine AX 63 (.tmp 89) (.tmp 88) b6 1 70 (.slice (some ⟨g, 0, none⟩) (L.length + 1) cap) _ (H.ev rfl) (H.ev rfl) k6 Wq (by simp [Value.cells]) (by simp [Value.cells, Value.oneCell']) fun w8 Hg JZ kq => ?_; clear k6; have k6 : Ad w8 b6 70 #[J n, .slice (some ⟨g, 0, none⟩) (L.length + 1) cap] := kq; clear kq; replace Cq := BN.keep Cq (fun q e => JZ q (by have := (Cq.lt e).1; omega)); replace DI := DS DI (Hg 0 (Nat.zero_le _)); have CR := Nat.le_trans hT.size (Hg 0 (Nat.zero_le _)).size; replace hS : Ce B (At Bc) _ := hS.trans (Hg _ g6); clear Hg JZ hT; refine kU 0 hK hS H rfl λ a H => ?_; clear hK K
           refine Aw (NoPanic.normal ?_)
           replace k2 := Ad.up k2 hS e2
           replace Aa := Aa.trans (Below.mono hS IC)
           obtain ⟨B2, hB⟩ : ∃ B2, (At Bc).heap.size = B2 := ⟨_, rfl⟩
           rw [hB] at f2 f6 Hn CR Cq Oq
           clear hB hS k0 k1 Ds EG
           exact ⟨R, B2, g, cap, H.pick [4, 6], ⟨f2, f6, Hn, CR, Oq, DI⟩, HTK.out, k2, k6, Cq, Aa⟩
         ·
          clear H Aa k0 k1 k2 k6 Ah Ds
          rintro a w' ⟨B2, g, cap, H, ⟨f2, f6, Hn, CR, Oq, DI⟩, aA, k2, k6, Cq, Aa⟩
          have HTK := Lib.hid aA
          clear aA
          refine zB (zC (zD (kR 1 H R λ a H => zA (zB (zC (wp_block ?_))))))
          obtain ⟨Rb, AY⟩ := JQ Cq
          have J8 := FS L x
          have Rh : 1 ≤ n ∧ n + ((insI L x).length : Nat) ≤ n + 8 := by omega
          have rN := g6
          replace g6 : w.heap.size ≤ b6 := Nat.le_trans IC rN
          refine wp_loop (xS w B2 b2 b6 g (n + 8) (popF n (insI L x))) (fun a w' => Ku w' b6) ⟨insI L x, n, some ⟨g, 0, none⟩, cap, .slice none 0 0, [], H.pick [4, 6, 8], Rh, k2, by rw [J8]; exact k6, by rw [J8]; exact AY, (fun b o e => by injection e with e; injection e with e; exact e.symm), BN.nil, (fun e => by cases e), by simp only [List.length_nil]; omega, Rb, CR, R, Aa⟩ ?_
          clear H Aa k2 k6 AY DI Rb Cq CR Rh
          rintro a w' ⟨M, nn, A', c', o, NS, H, ⟨iC, vG⟩, k2, k6, AY, LD, Cm, QW, vL, DI, CR, MV, Aa⟩
          have H0 := H
          cases M with
          | nil =>
           have k6' : Ad w' b6 70 #[J nn, .slice A' 0 c'] := k6
           replace k6 := k6'
           clear k6'
           have HPE := Lib.hid (Kw nn)
           refine zC (zC ?_)
           have Dj := Aa
           have hS : AV (At Dj) _ := Below.drew (Below.refl _ (At Dj))
           refine CZ (AV (At Dj)) [(0, true), (1, true), (2, true), (3, true), (4, true), (5, true), (6, true), (7, true), (8, true), (9, true), (10, true), (11, true), (12, true), (13, true)] (by kernel_rfl) (by kernel_rfl) R (by kernel_rfl) hS (Bf _ R (fun w' Aj => Br (q := 1) Dp (H.e R) R) (kp H R λ a H => Bf _ R (fun w' Aj => Ai CL R (H.e R) ((Ad.cell (Ad.ups k6 Aj) 1).trans R)) (kp H R λ a H => Bf _ R (fun w' Aj => Ba CL (H.e R)) (kp H R λ a H => Bf _ R (fun w' Aj => CU U3 (H.e R) Am dF) (kp H R λ a H => Bf _ R (fun w' Aj => C4 (H.e R)) (kp H R λ a H => C7 R R R (H.e R) (kp H R λ a H => C7 R R R (H.e R) (kp H R λ a H => C7 R R R (H.e R) (kp H R λ a H => C7 R R R (H.e R) (kp H R λ a H => C7 R R R (H.e R) (kp H R λ a H => C7 R R R (H.e R) (kp H R λ a H => C7 R R R (H.e R) (kp H R λ a H => C7 R R R (H.e R) (kp H R λ a H => Bf _ R (fun w' Aj => GD (H.e R) Am) (kp H R λ a H => Es (NoPanic.normal ?_))))))))))))))))
           replace k2 := Ad.ups k2 hS
           replace k6 := Ad.ups k6 hS
           replace AY := AG.up AY hS
           replace Cm := BN.up Cm hS
           replace DI := DS DI hS
           replace CR := C5 CR hS
           replace Aa := Aa.trans (Below.mono hS Aa.size)
           clear hS
           refine zB (zG H R (wp_exit (AJ (AJ (BD (zB (zC (zD (kX 1 H (AL (cs := [J nn, .slice A' 0 c']) (H.e R) (Ar k6) (by kernel_rfl) DU R) R λ a H => AP 70 (.tmp 4) (.tmp 120) b2 0 70 (.agg #[J nn, .slice A' 0 c']) _ (H.e R) (H.e R) k2 DU (by simp [Value.cells]) (by simp [Value.cells, Value.oneCell']) fun w' hb ho kq => ?_)))))))))
           clear k2; have k2 : Ad _ b2 70 #[J nn, .slice A' 0 c'] := kq; clear kq; replace k6 := Ae k6 (ho _ (by omega)); replace AY := AG.keep AY (fun b o e => ho b (by have := LD b o e; omega)); replace Cm := BN.keep Cm (fun q e => ho q (by have := (Cm.lt e).1; omega)); replace DI := DS DI (hb _ g2); replace CR := C5 CR (hb _ g2); replace Aa := Aa.trans (hb _ g2); clear hb ho; refine kO 1 H rfl λ a H => zA (zB (zF ?_))
           rw [HTK.out, MV, HPE.out, List.append_nil]
           exact BT H R R R k2 ND R DU ⟨⟨_, _, R, ⟨AY, fun A n c e b o' ea => by injection e with e1 e2 e3; rw [← e1] at ea; have := LD b o' ea; omega⟩, ⟨Lw.row Cm, C0 Cm Hn⟩⟩, Aa⟩
          | cons y M =>
           have YT : (0 : Nat) < (y :: M).length := by simp
           have QR : (((y :: M).length : Nat) : Int) > 0 := by simp
           have gI : (y :: M).length = M.length + 1 := rfl
           obtain ⟨b, oo, hA, hr⟩ := CK Bb (BW AY) (by omega) YT
           subst hA
           have VC : b = g := LD b oo rfl
           subst VC
           simp only [List.getElem_cons_zero] at hr
           have aB := AY.slice_le
           have H := H0
           have HK6 := Lib.hid k6
           by_cases TE : y.1 = nn
           ·
            refine zC (zC ?_)
            have Dj := Aa
            have hS : AV (At Dj) _ := Below.drew (Below.refl _ (At Dj))
            refine CZ (AV (At Dj)) [(0, true), (1, true), (2, true), (3, true), (4, true), (5, true), (6, true), (7, true), (8, true), (9, true), (10, true), (11, true), (12, true), (13, true)] (by kernel_rfl) (by kernel_rfl) R (by kernel_rfl) hS (Bf _ R (fun w' Aj => Br (q := 1) Dp (H.e R) R) (kp H R λ a H => Bf _ R (fun w' Aj => Ai CL R (H.e R) ((Ad.cell (Ad.ups k6 Aj) 1).trans R)) (kp H R λ a H => Bf _ R (fun w' Aj => Ba CL (H.e R)) (kp H R λ a H => Bf _ R (fun w' Aj => CU U3 (H.e R) Am (AE (QR))) (kp H R λ a H => Bf _ R (fun w' Aj => C4 (H.e R)) (kp H R λ a H => Bx _ R R R (H.e R) (fun w' Aj => Br (q := 1) Dp (H.e R) R) (kp H R λ a H => Bx _ R R R (H.e R) (fun w' Aj => Ai CL R (H.e R) ((Ad.cell (Ad.ups k6 Aj) 1).trans R)) (kp H R λ a H => Bx _ R R R (H.e R) (fun w' Aj => Bq (j := 0) (q := oo + 0 * 5) CL FI (H.e R) Am (by omega) R) (kp H R λ a H => Bx _ R R R (H.e R) (fun w' Aj => Br (q := oo + 0 * 5) EL (H.e R) R) (kp H R λ a H => Bx _ R R R (H.e R) (fun w' Aj => Ai U3 R (H.e R) (Bo (BQ hr Aj) 0 R)) (kp H R λ a H => Bx _ R R R (H.e R) (fun w' Aj => Br (q := 0) Ix (H.e R) R) (kp H R λ a H => Bx _ R R R (H.e R) (fun w' Aj => Ai U3 R (H.e R) ((Ad.cell (Ad.ups k6 Aj) 0).trans R)) ?_))))))))))))
            refine kp H R λ a H => Bx _ R R R (H.e R) (fun w' Aj => A9 U3 (H.e R) (H.e R) (AE (TE))) (kp H R λ a H => Bf _ R (fun w' Aj => Ea (H.e R) (H.e R)) (kp H R λ a H => Es (NoPanic.normal ?_)))
            replace k2 := Ad.ups k2 hS
            replace k6 := Ad.ups k6 hS
            replace AY := AG.up AY hS
            replace Cm := BN.up Cm hS
            replace DI := DS DI hS
            replace CR := C5 CR hS
            replace hr := BQ hr hS
            replace Aa := Aa.trans (Below.mono hS Aa.size)
            clear hS
            refine zB (zH H R (zE (zB (wp_block (zC (zD (kR 2 H R λ a H => kV H (Ai CL R (H.e R) ((Ad.cell k6 1).trans R)) R λ a H => kV H (Bq (j := 0) (q := oo + 0 * 5) CL FI (H.e R) Am (by omega) R) R λ a H => kV H (Br (q := oo + 0 * 5 + 1) Px (H.e R) R) R λ a H => kV H (AL (cs := [J y.2.1, J y.2.2.1, J y.2.2.2.1, J y.2.2.2.2]) (H.e R) (JP hr) (by kernel_rfl) EZ R) R λ a H => BP 53 1 #[(0, .agg #[J y.2.1, J y.2.2.1, J y.2.2.2.1, J y.2.2.2.2])] 49 #[J y.2.1, J y.2.2.1, J y.2.2.2.1, J y.2.2.2.2] (by simp [Am, H.ev (j := 109) R]) (fun w => by kernel_rfl) fun w10 b10 Ak hb FH => ?_)))))))
            have iG := Nat.le_trans Aa.size Ak; have jC : b2 < b10 := Nat.lt_of_lt_of_le k2.lt Ak; have vU : b6 < b10 := Nat.lt_of_lt_of_le k6.lt Ak; replace k2 := k2.ups hb; replace k6 := k6.ups hb; replace AY := AG.up AY hb; replace Cm := BN.up Cm hb; replace DI := DS DI hb; replace CR := C5 CR hb; replace hr := BQ hr hb; replace Aa := Aa.tr hb; clear hb; clear Ak; refine kl H rfl λ a H => BX 53 49 (.tmp 104) (.tmp 110) B2 (.agg #[J 0, J 0, J 0, J 0]) 4 32 o _ _ (some ⟨b10, 0, none⟩) 1 1 (FV EM [y.2]) (H.ev rfl) (H.ev rfl) Yc pI rfl (by omega) Cm (by rw [Cu Cr]; rfl) (BG FH rfl) (CI _ _) (by unfold maxLen; omega) (by omega) CR fun o2 w9 AU F0 Fz Cb => ?_
            replace k2 := Ad.up k2 Cb f2; replace k6 := Ad.up k6 Cb f6; clear hr; replace AY := AG.keep AY (fun b' o' e => by have := LD b' o' e; subst this; exact F0.block _ DI (fun e => QW e.symm)); have QV := Ls Fz QW DI; have QX := Hh AU; replace DI := DS DI Cb; replace CR := C5 CR Cb; replace Aa := Aa.trans (Cb.mono Hn); clear AU Cm FH F0 Fz Cb QW; have Cm := QX; have QW := QV; clear QX QV; refine kL 1 H rfl λ a H => zA (zB (zC (zD (kR 1 H rfl λ a H => kV H (Ai CL rfl (H.ev rfl) ((Ad.cell k6 1).trans rfl)) rfl λ a H => kX 1 (v := .slice (C6 (some ⟨b, oo, none⟩) c' 1 5) M.length (c' - 1)) H (BS CL (.slice (some ⟨b, oo, none⟩) (y :: M).length c') (some (J (1 : Nat))) none none (H.ev rfl) rfl rfl rfl (CF 1 (y :: M).length CL FI _ _ (.inr rfl) (.inl ⟨rfl, rfl⟩) (by omega) (by omega) rfl (by simp) rfl)) rfl λ a H => AP 63 (.tmp 115) (.tmp 114) b6 1 70 (.slice (C6 (some ⟨b, oo, none⟩) c' 1 5) M.length (c' - 1)) _ (H.ev rfl) (H.ev rfl) k6 Wq (by simp [Value.cells]) (by simp [Value.cells, Value.oneCell']) fun w' hb ho kq => ?_))))
            clear k6; have k6 : Ad _ b6 70 #[J nn, .slice (C6 (some ⟨b, oo, none⟩) c' 1 5) M.length (c' - 1)] := kq; clear kq; replace k2 := Ae k2 (ho _ (by omega)); replace AY := AG.keep AY (fun b o e => ho b (by have := LD b o e; omega)); replace Cm := BN.keep Cm (fun q e => ho q (by have := (Cm.lt e).1; omega)); replace DI := DS DI (hb _ g6); replace CR := C5 CR (hb _ g6); replace Aa := Aa.trans (hb _ g6); clear hb ho; refine Dz H λ a H => zA (zB (zD (kR 1 H rfl λ a H => kV H (Ai U3 rfl (H.ev rfl) ((Ad.cell k6 0).trans rfl)) rfl λ a H => kX 1 H (Bm (q := nn + 1) U3 (H.ev rfl) Am) rfl λ a H => AP 3 (.tmp 119) (.tmp 118) b6 0 70 (J (nn + 1)) _ (H.ev rfl) (H.ev rfl) k6 s3 (by simp [Value.cells]) (Di [(nn + 1)]) fun w' hb ho kq => ?_)))
            clear k6; have k6 : Ad _ b6 70 #[J (nn + 1), .slice (C6 (some ⟨b, oo, none⟩) c' 1 5) M.length (c' - 1)] := kq; clear kq; replace k2 := Ae k2 (ho _ (by omega)); replace AY := AG.keep AY (fun b o e => ho b (by have := LD b o e; omega)); replace Cm := BN.keep Cm (fun q e => ho q (by have := (Cm.lt e).1; omega)); replace DI := DS DI (hb _ g6); replace CR := C5 CR (hb _ g6); replace Aa := Aa.trans (hb _ g6); clear hb ho; refine Dz H λ a H => zA (AC ?_)
            have LB : ET _ (.slice (C6 (some ⟨b, oo, none⟩) c' 1 5) M.length (c' - 1)) M := MB AY
            have Xx : ∀ b' o', C6 (some ⟨b, oo, none⟩) c' 1 5 = some ⟨b', o', none⟩ → b' = b := fun b' o' e => JJ e
            refine zI ⟨⟨M, nn + 1, _, _, o2, NS ++ [y.2], H.pick [4, 6, 8], ⟨by omega, by omega⟩, k2, k6, LB, Xx, Cm, QW, by rw [List.length_append]; simp only [List.length_cons, List.length_nil]; omega, DI, CR, by rw [MV, Jw (M := M) TE, List.append_assoc]; rfl, Aa⟩, ?_⟩
            rw [HD k6, HD HK6.out]
            simp
           ·
            have HPE := Lib.hid (G0 (M := M) TE)
            refine zC (zC ?_)
            have Dj := Aa
            have hS : AV (At Dj) _ := Below.drew (Below.refl _ (At Dj))
            refine CZ (AV (At Dj)) [(0, true), (1, true), (2, true), (3, true), (4, true), (5, true), (6, true), (7, true), (8, true), (9, true), (10, true), (11, true), (12, true), (13, true)] (by kernel_rfl) (by kernel_rfl) R (by kernel_rfl) hS (Bf _ R (fun w' Aj => Br (q := 1) Dp (H.e R) R) (kp H R λ a H => Bf _ R (fun w' Aj => Ai CL R (H.e R) ((Ad.cell (Ad.ups k6 Aj) 1).trans R)) (kp H R λ a H => Bf _ R (fun w' Aj => Ba CL (H.e R)) (kp H R λ a H => Bf _ R (fun w' Aj => CU U3 (H.e R) Am (AE (QR))) (kp H R λ a H => Bf _ R (fun w' Aj => C4 (H.e R)) (kp H R λ a H => Bx _ R R R (H.e R) (fun w' Aj => Br (q := 1) Dp (H.e R) R) (kp H R λ a H => Bx _ R R R (H.e R) (fun w' Aj => Ai CL R (H.e R) ((Ad.cell (Ad.ups k6 Aj) 1).trans R)) (kp H R λ a H => Bx _ R R R (H.e R) (fun w' Aj => Bq (j := 0) (q := oo + 0 * 5) CL FI (H.e R) Am (by omega) R) (kp H R λ a H => Bx _ R R R (H.e R) (fun w' Aj => Br (q := oo + 0 * 5) EL (H.e R) R) (kp H R λ a H => Bx _ R R R (H.e R) (fun w' Aj => Ai U3 R (H.e R) (Bo (BQ hr Aj) 0 R)) (kp H R λ a H => Bx _ R R R (H.e R) (fun w' Aj => Br (q := 0) Ix (H.e R) R) (kp H R λ a H => Bx _ R R R (H.e R) (fun w' Aj => Ai U3 R (H.e R) ((Ad.cell (Ad.ups k6 Aj) 0).trans R)) ?_))))))))))))
            refine kp H R λ a H => Bx _ R R R (H.e R) (fun w' Aj => A9 U3 (H.e R) (H.e R) (AF (TE))) (kp H R λ a H => Bf _ R (fun w' Aj => Ea (H.e R) (H.e R)) (kp H R λ a H => Es (NoPanic.normal ?_)))
            replace k2 := Ad.ups k2 hS
            replace k6 := Ad.ups k6 hS
            replace AY := AG.up AY hS
            replace Cm := BN.up Cm hS
            replace DI := DS DI hS
            replace CR := C5 CR hS
            replace hr := BQ hr hS
            replace Aa := Aa.trans (Below.mono hS Aa.size)
            clear hS
            refine zB (zG H R (wp_exit (AJ (AJ (BD (zB (zC (zD (kX 1 H (AL (cs := [J nn, .slice (some ⟨b, oo, none⟩) (y :: M).length c']) (H.e R) (Ar k6) (by kernel_rfl) DU R) R λ a H => AP 70 (.tmp 4) (.tmp 120) b2 0 70 (.agg #[J nn, .slice (some ⟨b, oo, none⟩) (y :: M).length c']) _ (H.e R) (H.e R) k2 DU (by simp [Value.cells]) (by simp [Value.cells, Value.oneCell']) fun w' hb ho kq => ?_)))))))))
            clear k2; have k2 : Ad _ b2 70 #[J nn, .slice (some ⟨b, oo, none⟩) (y :: M).length c'] := kq; clear kq; replace k6 := Ae k6 (ho _ (by omega)); replace AY := AG.keep AY (fun b o e => ho b (by have := LD b o e; omega)); replace Cm := BN.keep Cm (fun q e => ho q (by have := (Cm.lt e).1; omega)); replace DI := DS DI (hb _ g2); replace CR := C5 CR (hb _ g2); replace Aa := Aa.trans (hb _ g2); clear hb ho; refine kO 1 H rfl λ a H => zA (zB (zF ?_))
            rw [HTK.out, MV, HPE.out, List.append_nil]
            exact BT H R R R k2 ND R DU ⟨⟨_, _, R, ⟨AY, fun A n c e b o' ea => by injection e with e1 e2 e3; rw [← e1] at ea; have := LD b o' ea; omega⟩, ⟨Lw.row Cm, C0 Cm Hn⟩⟩, Aa⟩
      ·
       refine zC (zC ?_)
       have EK := Aa
       have hS : AV (At EK) _ := Below.drew (Below.refl _ (At EK))
       refine CZ (AV (At EK)) [(0, true), (1, true), (2, true), (3, true), (4, true), (5, true), (6, true), (7, true), (8, true), (9, true), (10, true), (11, true), (12, true), (13, true), (14, true), (15, true)] (by kernel_rfl) (by kernel_rfl) R (by kernel_rfl) hS (Bf _ R (fun w' Aj => C4 (H.e R)) (kp H R λ a H => Bf _ R (fun w' Aj => Br (q := 1) Dp (H.e R) R) (kp H R λ a H => Bf _ R (fun w' Aj => Ai CL R (H.e R) ((Ad.cell (Ad.ups k0 Aj) 1).trans R)) (kp H R λ a H => Bf _ R (fun w' Aj => Ba CL (H.e R)) (kp H R λ a H => Bf _ R (fun w' Aj => By U3 (H.e R) (H.e R) dF) (kp H R λ a H => Bf _ R (fun w' Aj => C4 (H.e R)) (kp H R λ a H => C7 R R R (H.e R) (kp H R λ a H => C7 R R R (H.e R) (kp H R λ a H => C7 R R R (H.e R) (kp H R λ a H => C7 R R R (H.e R) (kp H R λ a H => C7 R R R (H.e R) (kp H R λ a H => C7 R R R (H.e R) (kp H R λ a H => C7 R R R (H.e R) (kp H R λ a H => C7 R R R (H.e R) (kp H R λ a H => C7 R R R (H.e R) (kp H R λ a H => Bf _ R (fun w' Aj => GD (H.e R) Am) (kp H R λ a H => Es (NoPanic.normal ?_))))))))))))))))))
       replace k0 := Ad.ups k0 hS
       replace k1 := Ad.ups k1 hS
       replace k2 := Ad.ups k2 hS
       replace k6 := Ad.ups k6 hS
       replace Ah := BN.up Ah hS
       replace Ds := C5 Ds hS
       replace Aa := Aa.trans (Below.mono hS Aa.size)
       clear hS
       refine zB (zG H R (wp_exit (AJ (AJ (BD (zB (zC (zC ?_))))))))
       have Gs := Aa
       have hS : AV (At Gs) _ := Below.drew (Below.refl _ (At Gs))
       refine CZ (AV (At Gs)) [(0, true), (1, true), (2, true), (3, true), (4, true), (5, true), (6, true), (7, true), (8, true), (9, true), (10, true), (11, true), (12, true), (13, true), (14, true), (15, true)] (by kernel_rfl) (by kernel_rfl) R (by kernel_rfl) hS (Bf _ R (fun w' Aj => C4 (H.e R)) (kp H R λ a H => Bf _ R (fun w' Aj => Br (q := 1) Dp (H.e R) R) (kp H R λ a H => Bf _ R (fun w' Aj => Ai CL R (H.e R) ((Ad.cell (Ad.ups k0 Aj) 1).trans R)) (kp H R λ a H => Bf _ R (fun w' Aj => Ba CL (H.e R)) (kp H R λ a H => Bf _ R (fun w' Aj => By U3 (H.e R) (H.e R) dF) (kp H R λ a H => Bf _ R (fun w' Aj => C4 (H.e R)) (kp H R λ a H => C7 R R R (H.e R) (kp H R λ a H => C7 R R R (H.e R) (kp H R λ a H => C7 R R R (H.e R) (kp H R λ a H => C7 R R R (H.e R) (kp H R λ a H => C7 R R R (H.e R) (kp H R λ a H => C7 R R R (H.e R) (kp H R λ a H => C7 R R R (H.e R) (kp H R λ a H => C7 R R R (H.e R) (kp H R λ a H => C7 R R R (H.e R) (kp H R λ a H => Bf _ R (fun w' Aj => GD (H.e R) Am) (kp H R λ a H => Es (NoPanic.normal ?_))))))))))))))))))
       replace k0 := Ad.ups k0 hS
       replace k1 := Ad.ups k1 hS
       replace k2 := Ad.ups k2 hS
       replace k6 := Ad.ups k6 hS
       replace Ah := BN.up Ah hS
       replace Ds := C5 Ds hS
       replace Aa := Aa.trans (Below.mono hS Aa.size)
       clear hS
       refine zB (zG H R (zE (zB (zC (JI (xW w b2 b6 n L x) ?_ ?_)))))
       ·
        obtain rfl : k = L.length := by omega
        have Xr : L.take L.length ++ x :: L.drop L.length = insI L x := Po HR.out.2.2.1 (Nat.le_refl _) (by simp) (TA N5 hk)
        have gY : Ge L x.1 = false := cO N5
        have HTK : Hid (takeF n L x = popF n (insI L x)) := Lib.hid (Jo HR.out (by omega) (by omega) (by omega) gY)
        have HIN := Lib.hid Xr
        clear Xr gY N5 Ah
        have Bc := Aa
        have f2 : b2 < (At Bc).heap.size := k2.lt
        have f6 : b6 < (At Bc).heap.size := k6.lt
        have Hn : w.heap.size ≤ (At Bc).heap.size := Aa.size
        have hT : Below (At Bc).heap.size (At Bc) (World.drew _) := Below.drew (Below.refl _ (At Bc))
        have EG : B ≤ (At Bc).heap.size := Ds
        have hS : Ce B (At Bc) _ := Below.mono hT EG
        refine rT (Ce B (At Bc)) 16 (Dn [1, 2, 3, 4, 6, 9, 10, 11, 12] (.two 0 (.two 5 (.one 7 (.one 8 (.one 13 (.fl 14 (.one 15 .done))))) 7 (.one 5 (.one 8 (.one 13 (.fl 14 (.one 15 .done)))))) 7 (.one 0 (.one 5 (.one 8 (.one 13 (.fl 14 (.one 15 .done)))))))) hS (kQ 1 H R λ a H => kE 1 H R R (fun w' Aj => Ai CL R (H.e R) ((Ad.cell (Ad.up k0 Aj e0) 1).trans R)) R λ a H => kF (v := .slice A (L.length) c) H R R (fun w' Aj => BS CL (.slice A L.length c) none (some (J (L.length : Nat))) none (H.e R) R (by simp [H.ev (j := 78) R]) R (CF 0 (L.length) CL FI _ _ (.inl ⟨R, R⟩) (.inr R) (by omega) (by omega) La (by omega) (by omega))) R λ a H => kE 1 H R R (fun w' Aj => AL (cs := [J x.1, J x.2.1, J x.2.2.1, J x.2.2.2.1, J x.2.2.2.2]) (H.e R) (Ar (Ad.up k1 Aj e1)) (by kernel_rfl) FI R) R λ a H => kE 1 H R R (fun w' Aj => Ai CL R (H.e R) ((Ad.cell (Ad.up k0 Aj e0) 1).trans R)) R λ a H => kF (v := .slice (C6 A c (L.length) 5) (L.length - L.length) (c - L.length)) H R R (fun w' Aj => BS CL (.slice A L.length c) (some (J (L.length : Nat))) none none (H.e R) (by simp [H.ev (j := 86) R]) R R (CF (L.length) L.length CL FI _ _ (.inr R) (.inl ⟨R, R⟩) (by omega) (by omega) R R R)) R λ a H => FB (fun K hK => ?_) (fun K hK => ?_))
        ·
         refine A7 R (Co 63 0 #[] 65 #[] (by simp) (fun w => by kernel_rfl) fun w1 bl Ak hb kk => ?_); have q0 := Dk (base := (At Bc).heap.size) (size := 5) kk (Nat.le_trans hT.size Ak); have q0l := kk.lt; (try have Fh : b11 ≠ bl := (by have := Gq.lt; omega)); (try replace Gq := Gq.ups hb); replace hT := hT.trans (hb.mono hT.size); replace hS : Ce B (At Bc) _ := Below.mono hT EG; clear hb Ak kk; refine kS 0 hK hS H R λ a H => ?_; clear hK K
         refine FB (fun K hK => ?_) (fun K hK => ?_)
         ·
          refine A7 R (BA 63 65 (.tmp 75) (.tmp 79) (At Bc).heap.size (.agg #[J 0, J 0, J 0, J 0, J 0]) 5 40 _ 0 [] A (L.length) c (FV EN (L.take (L.length))) (H.e R) (H.e R) CL MU R (by omega) q0 (by rw [Cu Bb, List.length_take]; omega) (((BW (AG.up h.out Bc)).up hT).take_fv Bb _) (CI _ _) (by unfold maxLen; omega) (by omega) hT.size fun v4 w4 q4 hg hv Cb => ?_); (try replace Gq := Ad.grown Gq hg (by simp [Value.ownBlock]; omega)); replace hT := hT.trans Cb; replace hS : Ce B (At Bc) _ := Below.mono hT EG; clear Cb hg hv q0; refine kS 0 hK hS H R λ a H => ?_; clear hK K
          refine Al (fun K hK => A7 R (Co 63 1 #[(0, .agg #[J x.1, J x.2.1, J x.2.2.1, J x.2.2.2.1, J x.2.2.2.2])] 65 #[J x.1, J x.2.1, J x.2.2.1, J x.2.2.2.1, J x.2.2.2.2] (by simp [H.ev (j := 81) R]) (fun w => by kernel_rfl) fun w1 b11 Ak hb Gq => ?_))
          (try have Fh : b11 ≠ bl := (by omega)); (try replace q0 := Bh q0 hb); (try replace q4 := Bh q4 hb); replace hT := hT.trans (hb.mono hT.size); replace hS : Ce B (At Bc) _ := Below.mono hT EG; clear hb Ak; refine kS 0 hK hS H rfl λ a H => ?_; clear hK K
          refine Al (fun K hK => A7 R (BA 63 65 (.tmp 80) (.tmp 82) (At Bc).heap.size (.agg #[J 0, J 0, J 0, J 0, J 0]) 5 40 v4 _ _ (some ⟨b11, 0, none⟩) 1 1 (FV EN [x]) (H.e R) (H.e R) CL MU R (by omega) q4 (by rw [Cu Bb]; rfl) (BG Gq R) (CI _ _) (by unfold maxLen; omega) (by omega) hT.size fun v7 w7 q7 _ _ Cb => ?_))
          replace hT := hT.trans Cb; replace hS : Ce B (At Bc) _ := Below.mono hT EG; clear Cb q4 Gq; refine kS 0 hK hS H rfl λ a H => ?_; clear hK K
          refine Al (fun K hK => A7 R (BA 63 65 (.tmp 83) (.tmp 87) (At Bc).heap.size (.agg #[J 0, J 0, J 0, J 0, J 0]) 5 40 v7 _ _ (C6 A c (L.length) 5) (L.length - L.length) (c - L.length) (FV EN (L.drop (L.length))) (H.e R) (H.e R) CL MU R (by omega) q7 (by rw [Cu Bb, List.length_drop]) (Le ((BW (AG.up h.out Bc)).up hT) dG _) (CI _ _) (by unfold maxLen; omega) (by omega) hT.size fun v11 w11 q11 _ _ Cb => ?_))
          replace hT := hT.trans Cb; replace hS : Ce B (At Bc) _ := Below.mono hT EG; clear Cb q7; have Cq := Lf hk q11; rw [HIN.out] at Cq; clear q11; obtain ⟨g, cap, rfl, Oq, DI⟩ := GF Cq (FS L x) (by omega); refine kS 1 hK hS H rfl λ a H => ?_; clear hK K
          refine Al (fun K hK => A7 R ?_)
          replace k6 := Ad.ups k6 hT; refine AX 63 (.tmp 89) (.tmp 88) b6 1 70 (.slice (some ⟨g, 0, none⟩) (L.length + 1) cap) _ (H.ev rfl) (H.ev rfl) k6 Wq (by simp [Value.cells]) (by simp [Value.cells, Value.oneCell']) fun w8 Hg JZ kq => ?_; clear k6; have k6 : Ad w8 b6 70 #[J n, .slice (some ⟨g, 0, none⟩) (L.length + 1) cap] := kq; clear kq; replace Cq := BN.keep Cq (fun q e => JZ q (by have := (Cq.lt e).1; omega)); replace DI := DS DI (Hg 0 (Nat.zero_le _)); have CR := Nat.le_trans hT.size (Hg 0 (Nat.zero_le _)).size; replace hS : Ce B (At Bc) _ := hS.trans (Hg _ g6); clear Hg JZ hT; refine kU 0 hK hS H rfl λ a H => ?_; clear hK K
          refine Aw (NoPanic.normal ?_)
          replace k2 := Ad.up k2 hS e2
          replace Aa := Aa.trans (Below.mono hS IC)
          obtain ⟨B2, hB⟩ : ∃ B2, (At Bc).heap.size = B2 := ⟨_, rfl⟩
          rw [hB] at f2 f6 Hn CR Cq Oq
          clear hB hS k0 k1 Ds EG
          exact ⟨R, B2, g, cap, H.pick [4, 6], ⟨f2, f6, Hn, CR, Oq, DI⟩, HTK.out, k2, k6, Cq, Aa⟩
         ·
          refine A7 R (Co 63 1 #[(0, .agg #[J x.1, J x.2.1, J x.2.2.1, J x.2.2.2.1, J x.2.2.2.2])] 65 #[J x.1, J x.2.1, J x.2.2.1, J x.2.2.2.1, J x.2.2.2.2] (by simp [H.ev (j := 81) R]) (fun w => by kernel_rfl) fun w1 b11 Ak hb Gq => ?_); (try have Fh : b11 ≠ bl := (by omega)); (try replace q0 := Bh q0 hb); (try replace q4 := Bh q4 hb); replace hT := hT.trans (hb.mono hT.size); replace hS : Ce B (At Bc) _ := Below.mono hT EG; clear hb Ak; refine kS 0 hK hS H R λ a H => ?_; clear hK K
          refine Al (fun K hK => A7 R (BA 63 65 (.tmp 75) (.tmp 79) (At Bc).heap.size (.agg #[J 0, J 0, J 0, J 0, J 0]) 5 40 _ 0 [] A (L.length) c (FV EN (L.take (L.length))) (H.e R) (H.e R) CL MU R (by omega) q0 (by rw [Cu Bb, List.length_take]; omega) (((BW (AG.up h.out Bc)).up hT).take_fv Bb _) (CI _ _) (by unfold maxLen; omega) (by omega) hT.size fun v4 w4 q4 hg hv Cb => ?_))
          (try replace Gq := Ad.grown Gq hg (by simp [Value.ownBlock]; omega)); replace hT := hT.trans Cb; replace hS : Ce B (At Bc) _ := Below.mono hT EG; clear Cb hg hv q0; refine kS 0 hK hS H rfl λ a H => ?_; clear hK K
          refine Al (fun K hK => A7 R (BA 63 65 (.tmp 80) (.tmp 82) (At Bc).heap.size (.agg #[J 0, J 0, J 0, J 0, J 0]) 5 40 v4 _ _ (some ⟨b11, 0, none⟩) 1 1 (FV EN [x]) (H.e R) (H.e R) CL MU R (by omega) q4 (by rw [Cu Bb]; rfl) (BG Gq R) (CI _ _) (by unfold maxLen; omega) (by omega) hT.size fun v7 w7 q7 _ _ Cb => ?_))
          replace hT := hT.trans Cb; replace hS : Ce B (At Bc) _ := Below.mono hT EG; clear Cb q4 Gq; refine kS 0 hK hS H rfl λ a H => ?_; clear hK K
          refine Al (fun K hK => A7 R (BA 63 65 (.tmp 83) (.tmp 87) (At Bc).heap.size (.agg #[J 0, J 0, J 0, J 0, J 0]) 5 40 v7 _ _ (C6 A c (L.length) 5) (L.length - L.length) (c - L.length) (FV EN (L.drop (L.length))) (H.e R) (H.e R) CL MU R (by omega) q7 (by rw [Cu Bb, List.length_drop]) (Le ((BW (AG.up h.out Bc)).up hT) dG _) (CI _ _) (by unfold maxLen; omega) (by omega) hT.size fun v11 w11 q11 _ _ Cb => ?_))
          replace hT := hT.trans Cb; replace hS : Ce B (At Bc) _ := Below.mono hT EG; clear Cb q7; have Cq := Lf hk q11; rw [HIN.out] at Cq; clear q11; obtain ⟨g, cap, rfl, Oq, DI⟩ := GF Cq (FS L x) (by omega); refine kS 1 hK hS H rfl λ a H => ?_; clear hK K
          refine Al (fun K hK => A7 R ?_)
          replace k6 := Ad.ups k6 hT; refine AX 63 (.tmp 89) (.tmp 88) b6 1 70 (.slice (some ⟨g, 0, none⟩) (L.length + 1) cap) _ (H.ev rfl) (H.ev rfl) k6 Wq (by simp [Value.cells]) (by simp [Value.cells, Value.oneCell']) fun w8 Hg JZ kq => ?_; clear k6; have k6 : Ad w8 b6 70 #[J n, .slice (some ⟨g, 0, none⟩) (L.length + 1) cap] := kq; clear kq; replace Cq := BN.keep Cq (fun q e => JZ q (by have := (Cq.lt e).1; omega)); replace DI := DS DI (Hg 0 (Nat.zero_le _)); have CR := Nat.le_trans hT.size (Hg 0 (Nat.zero_le _)).size; replace hS : Ce B (At Bc) _ := hS.trans (Hg _ g6); clear Hg JZ hT; refine kU 0 hK hS H rfl λ a H => ?_; clear hK K
          refine Aw (NoPanic.normal ?_)
          replace k2 := Ad.up k2 hS e2
          replace Aa := Aa.trans (Below.mono hS IC)
          obtain ⟨B2, hB⟩ : ∃ B2, (At Bc).heap.size = B2 := ⟨_, rfl⟩
          rw [hB] at f2 f6 Hn CR Cq Oq
          clear hB hS k0 k1 Ds EG
          exact ⟨R, B2, g, cap, H.pick [4, 6], ⟨f2, f6, Hn, CR, Oq, DI⟩, HTK.out, k2, k6, Cq, Aa⟩
        ·
         refine A7 R (Co 63 1 #[(0, .agg #[J x.1, J x.2.1, J x.2.2.1, J x.2.2.2.1, J x.2.2.2.2])] 65 #[J x.1, J x.2.1, J x.2.2.1, J x.2.2.2.1, J x.2.2.2.2] (by simp [H.ev (j := 81) R]) (fun w => by kernel_rfl) fun w1 b11 Ak hb Gq => ?_); (try have Fh : b11 ≠ bl := (by omega)); (try replace q0 := Bh q0 hb); (try replace q4 := Bh q4 hb); replace hT := hT.trans (hb.mono hT.size); replace hS : Ce B (At Bc) _ := Below.mono hT EG; clear hb Ak; refine kS 0 hK hS H R λ a H => ?_; clear hK K
         refine Al (fun K hK => A7 R (Co 63 0 #[] 65 #[] (by simp) (fun w => by kernel_rfl) fun w1 bl Ak hb kk => ?_))
         have q0 := Dk (base := (At Bc).heap.size) (size := 5) kk (Nat.le_trans hT.size Ak); have q0l := kk.lt; (try have Fh : b11 ≠ bl := (by have := Gq.lt; omega)); (try replace Gq := Gq.ups hb); replace hT := hT.trans (hb.mono hT.size); replace hS : Ce B (At Bc) _ := Below.mono hT EG; clear hb Ak kk; refine kS 0 hK hS H rfl λ a H => ?_; clear hK K
         refine Al (fun K hK => A7 R (BA 63 65 (.tmp 75) (.tmp 79) (At Bc).heap.size (.agg #[J 0, J 0, J 0, J 0, J 0]) 5 40 _ 0 [] A (L.length) c (FV EN (L.take (L.length))) (H.e R) (H.e R) CL MU R (by omega) q0 (by rw [Cu Bb, List.length_take]; omega) (((BW (AG.up h.out Bc)).up hT).take_fv Bb _) (CI _ _) (by unfold maxLen; omega) (by omega) hT.size fun v4 w4 q4 hg hv Cb => ?_))
         (try replace Gq := Ad.grown Gq hg (by simp [Value.ownBlock]; omega)); replace hT := hT.trans Cb; replace hS : Ce B (At Bc) _ := Below.mono hT EG; clear Cb hg hv q0; refine kS 0 hK hS H rfl λ a H => ?_; clear hK K
         refine Al (fun K hK => A7 R (BA 63 65 (.tmp 80) (.tmp 82) (At Bc).heap.size (.agg #[J 0, J 0, J 0, J 0, J 0]) 5 40 v4 _ _ (some ⟨b11, 0, none⟩) 1 1 (FV EN [x]) (H.e R) (H.e R) CL MU R (by omega) q4 (by rw [Cu Bb]; rfl) (BG Gq R) (CI _ _) (by unfold maxLen; omega) (by omega) hT.size fun v7 w7 q7 _ _ Cb => ?_))
         replace hT := hT.trans Cb; replace hS : Ce B (At Bc) _ := Below.mono hT EG; clear Cb q4 Gq; refine kS 0 hK hS H rfl λ a H => ?_; clear hK K
         refine Al (fun K hK => A7 R (BA 63 65 (.tmp 83) (.tmp 87) (At Bc).heap.size (.agg #[J 0, J 0, J 0, J 0, J 0]) 5 40 v7 _ _ (C6 A c (L.length) 5) (L.length - L.length) (c - L.length) (FV EN (L.drop (L.length))) (H.e R) (H.e R) CL MU R (by omega) q7 (by rw [Cu Bb, List.length_drop]) (Le ((BW (AG.up h.out Bc)).up hT) dG _) (CI _ _) (by unfold maxLen; omega) (by omega) hT.size fun v11 w11 q11 _ _ Cb => ?_))
         replace hT := hT.trans Cb; replace hS : Ce B (At Bc) _ := Below.mono hT EG; clear Cb q7; have Cq := Lf hk q11; rw [HIN.out] at Cq; clear q11; obtain ⟨g, cap, rfl, Oq, DI⟩ := GF Cq (FS L x) (by omega); refine kS 1 hK hS H rfl λ a H => ?_; clear hK K
         refine Al (fun K hK => A7 R ?_)
         replace k6 := Ad.ups k6 hT; refine AX 63 (.tmp 89) (.tmp 88) b6 1 70 (.slice (some ⟨g, 0, none⟩) (L.length + 1) cap) _ (H.ev rfl) (H.ev rfl) k6 Wq (by simp [Value.cells]) (by simp [Value.cells, Value.oneCell']) fun w8 Hg JZ kq => ?_; clear k6; have k6 : Ad w8 b6 70 #[J n, .slice (some ⟨g, 0, none⟩) (L.length + 1) cap] := kq; clear kq; replace Cq := BN.keep Cq (fun q e => JZ q (by have := (Cq.lt e).1; omega)); replace DI := DS DI (Hg 0 (Nat.zero_le _)); have CR := Nat.le_trans hT.size (Hg 0 (Nat.zero_le _)).size; replace hS : Ce B (At Bc) _ := hS.trans (Hg _ g6); clear Hg JZ hT; refine kU 0 hK hS H rfl λ a H => ?_; clear hK K
         refine Aw (NoPanic.normal ?_)
         replace k2 := Ad.up k2 hS e2
         replace Aa := Aa.trans (Below.mono hS IC)
         obtain ⟨B2, hB⟩ : ∃ B2, (At Bc).heap.size = B2 := ⟨_, rfl⟩
         rw [hB] at f2 f6 Hn CR Cq Oq
         clear hB hS k0 k1 Ds EG
         exact ⟨R, B2, g, cap, H.pick [4, 6], ⟨f2, f6, Hn, CR, Oq, DI⟩, HTK.out, k2, k6, Cq, Aa⟩
       ·
        clear H Aa k0 k1 k2 k6 Ah Ds
        rintro a w' ⟨B2, g, cap, H, ⟨f2, f6, Hn, CR, Oq, DI⟩, aA, k2, k6, Cq, Aa⟩
        have HTK := Lib.hid aA
        clear aA
        refine zB (zC (zD (kR 1 H R λ a H => zA (zB (zC (wp_block ?_))))))
        obtain ⟨Rb, AY⟩ := JQ Cq
        have J8 := FS L x
        have Rh : 1 ≤ n ∧ n + ((insI L x).length : Nat) ≤ n + 8 := by omega
        have rN := g6
        replace g6 : w.heap.size ≤ b6 := Nat.le_trans IC rN
        refine wp_loop (xS w B2 b2 b6 g (n + 8) (popF n (insI L x))) (fun a w' => Ku w' b6) ⟨insI L x, n, some ⟨g, 0, none⟩, cap, .slice none 0 0, [], H.pick [4, 6, 8], Rh, k2, by rw [J8]; exact k6, by rw [J8]; exact AY, (fun b o e => by injection e with e; injection e with e; exact e.symm), BN.nil, (fun e => by cases e), by simp only [List.length_nil]; omega, Rb, CR, R, Aa⟩ ?_
        clear H Aa k2 k6 AY DI Rb Cq CR Rh
        rintro a w' ⟨M, nn, A', c', o, NS, H, ⟨iC, vG⟩, k2, k6, AY, LD, Cm, QW, vL, DI, CR, MV, Aa⟩
        have H0 := H
        cases M with
        | nil =>
         have k6' : Ad w' b6 70 #[J nn, .slice A' 0 c'] := k6
         replace k6 := k6'
         clear k6'
         have HPE := Lib.hid (Kw nn)
         refine zC (zC ?_)
         have Dj := Aa
         have hS : AV (At Dj) _ := Below.drew (Below.refl _ (At Dj))
         refine CZ (AV (At Dj)) [(0, true), (1, true), (2, true), (3, true), (4, true), (5, true), (6, true), (7, true), (8, true), (9, true), (10, true), (11, true), (12, true), (13, true)] (by kernel_rfl) (by kernel_rfl) R (by kernel_rfl) hS (Bf _ R (fun w' Aj => Br (q := 1) Dp (H.e R) R) (kp H R λ a H => Bf _ R (fun w' Aj => Ai CL R (H.e R) ((Ad.cell (Ad.ups k6 Aj) 1).trans R)) (kp H R λ a H => Bf _ R (fun w' Aj => Ba CL (H.e R)) (kp H R λ a H => Bf _ R (fun w' Aj => CU U3 (H.e R) Am dF) (kp H R λ a H => Bf _ R (fun w' Aj => C4 (H.e R)) (kp H R λ a H => C7 R R R (H.e R) (kp H R λ a H => C7 R R R (H.e R) (kp H R λ a H => C7 R R R (H.e R) (kp H R λ a H => C7 R R R (H.e R) (kp H R λ a H => C7 R R R (H.e R) (kp H R λ a H => C7 R R R (H.e R) (kp H R λ a H => C7 R R R (H.e R) (kp H R λ a H => C7 R R R (H.e R) (kp H R λ a H => Bf _ R (fun w' Aj => GD (H.e R) Am) (kp H R λ a H => Es (NoPanic.normal ?_))))))))))))))))
         replace k2 := Ad.ups k2 hS
         replace k6 := Ad.ups k6 hS
         replace AY := AG.up AY hS
         replace Cm := BN.up Cm hS
         replace DI := DS DI hS
         replace CR := C5 CR hS
         replace Aa := Aa.trans (Below.mono hS Aa.size)
         clear hS
         refine zB (zG H R (wp_exit (AJ (AJ (BD (zB (zC (zD (kX 1 H (AL (cs := [J nn, .slice A' 0 c']) (H.e R) (Ar k6) (by kernel_rfl) DU R) R λ a H => AP 70 (.tmp 4) (.tmp 120) b2 0 70 (.agg #[J nn, .slice A' 0 c']) _ (H.e R) (H.e R) k2 DU (by simp [Value.cells]) (by simp [Value.cells, Value.oneCell']) fun w' hb ho kq => ?_)))))))))
         clear k2; have k2 : Ad _ b2 70 #[J nn, .slice A' 0 c'] := kq; clear kq; replace k6 := Ae k6 (ho _ (by omega)); replace AY := AG.keep AY (fun b o e => ho b (by have := LD b o e; omega)); replace Cm := BN.keep Cm (fun q e => ho q (by have := (Cm.lt e).1; omega)); replace DI := DS DI (hb _ g2); replace CR := C5 CR (hb _ g2); replace Aa := Aa.trans (hb _ g2); clear hb ho; refine kO 1 H rfl λ a H => zA (zB (zF ?_))
         rw [HTK.out, MV, HPE.out, List.append_nil]
         exact BT H R R R k2 ND R DU ⟨⟨_, _, R, ⟨AY, fun A n c e b o' ea => by injection e with e1 e2 e3; rw [← e1] at ea; have := LD b o' ea; omega⟩, ⟨Lw.row Cm, C0 Cm Hn⟩⟩, Aa⟩
        | cons y M =>
         have YT : (0 : Nat) < (y :: M).length := by simp
         have QR : (((y :: M).length : Nat) : Int) > 0 := by simp
         have gI : (y :: M).length = M.length + 1 := rfl
         obtain ⟨b, oo, hA, hr⟩ := CK Bb (BW AY) (by omega) YT
         subst hA
         have VC : b = g := LD b oo rfl
         subst VC
         simp only [List.getElem_cons_zero] at hr
         have aB := AY.slice_le
         have H := H0
         have HK6 := Lib.hid k6
         by_cases TE : y.1 = nn
         ·
          refine zC (zC ?_)
          have Dj := Aa
          have hS : AV (At Dj) _ := Below.drew (Below.refl _ (At Dj))
          refine CZ (AV (At Dj)) [(0, true), (1, true), (2, true), (3, true), (4, true), (5, true), (6, true), (7, true), (8, true), (9, true), (10, true), (11, true), (12, true), (13, true)] (by kernel_rfl) (by kernel_rfl) R (by kernel_rfl) hS (Bf _ R (fun w' Aj => Br (q := 1) Dp (H.e R) R) (kp H R λ a H => Bf _ R (fun w' Aj => Ai CL R (H.e R) ((Ad.cell (Ad.ups k6 Aj) 1).trans R)) (kp H R λ a H => Bf _ R (fun w' Aj => Ba CL (H.e R)) (kp H R λ a H => Bf _ R (fun w' Aj => CU U3 (H.e R) Am (AE (QR))) (kp H R λ a H => Bf _ R (fun w' Aj => C4 (H.e R)) (kp H R λ a H => Bx _ R R R (H.e R) (fun w' Aj => Br (q := 1) Dp (H.e R) R) (kp H R λ a H => Bx _ R R R (H.e R) (fun w' Aj => Ai CL R (H.e R) ((Ad.cell (Ad.ups k6 Aj) 1).trans R)) (kp H R λ a H => Bx _ R R R (H.e R) (fun w' Aj => Bq (j := 0) (q := oo + 0 * 5) CL FI (H.e R) Am (by omega) R) (kp H R λ a H => Bx _ R R R (H.e R) (fun w' Aj => Br (q := oo + 0 * 5) EL (H.e R) R) (kp H R λ a H => Bx _ R R R (H.e R) (fun w' Aj => Ai U3 R (H.e R) (Bo (BQ hr Aj) 0 R)) (kp H R λ a H => Bx _ R R R (H.e R) (fun w' Aj => Br (q := 0) Ix (H.e R) R) (kp H R λ a H => Bx _ R R R (H.e R) (fun w' Aj => Ai U3 R (H.e R) ((Ad.cell (Ad.ups k6 Aj) 0).trans R)) ?_))))))))))))
          refine kp H R λ a H => Bx _ R R R (H.e R) (fun w' Aj => A9 U3 (H.e R) (H.e R) (AE (TE))) (kp H R λ a H => Bf _ R (fun w' Aj => Ea (H.e R) (H.e R)) (kp H R λ a H => Es (NoPanic.normal ?_)))
          replace k2 := Ad.ups k2 hS
          replace k6 := Ad.ups k6 hS
          replace AY := AG.up AY hS
          replace Cm := BN.up Cm hS
          replace DI := DS DI hS
          replace CR := C5 CR hS
          replace hr := BQ hr hS
          replace Aa := Aa.trans (Below.mono hS Aa.size)
          clear hS
          refine zB (zH H R (zE (zB (wp_block (zC (zD (kR 2 H R λ a H => kV H (Ai CL R (H.e R) ((Ad.cell k6 1).trans R)) R λ a H => kV H (Bq (j := 0) (q := oo + 0 * 5) CL FI (H.e R) Am (by omega) R) R λ a H => kV H (Br (q := oo + 0 * 5 + 1) Px (H.e R) R) R λ a H => kV H (AL (cs := [J y.2.1, J y.2.2.1, J y.2.2.2.1, J y.2.2.2.2]) (H.e R) (JP hr) (by kernel_rfl) EZ R) R λ a H => BP 53 1 #[(0, .agg #[J y.2.1, J y.2.2.1, J y.2.2.2.1, J y.2.2.2.2])] 49 #[J y.2.1, J y.2.2.1, J y.2.2.2.1, J y.2.2.2.2] (by simp [Am, H.ev (j := 109) R]) (fun w => by kernel_rfl) fun w11 b11 Ak hb Gq => ?_)))))))
          have mW := Nat.le_trans Aa.size Ak; have jB : b2 < b11 := Nat.lt_of_lt_of_le k2.lt Ak; have vT : b6 < b11 := Nat.lt_of_lt_of_le k6.lt Ak; replace k2 := k2.ups hb; replace k6 := k6.ups hb; replace AY := AG.up AY hb; replace Cm := BN.up Cm hb; replace DI := DS DI hb; replace CR := C5 CR hb; replace hr := BQ hr hb; replace Aa := Aa.tr hb; clear hb; clear Ak; refine kl H rfl λ a H => BX 53 49 (.tmp 104) (.tmp 110) B2 (.agg #[J 0, J 0, J 0, J 0]) 4 32 o _ _ (some ⟨b11, 0, none⟩) 1 1 (FV EM [y.2]) (H.ev rfl) (H.ev rfl) Yc pI rfl (by omega) Cm (by rw [Cu Cr]; rfl) (BG Gq rfl) (CI _ _) (by unfold maxLen; omega) (by omega) CR fun o2 w9 AU F0 Fz Cb => ?_
          replace k2 := Ad.up k2 Cb f2; replace k6 := Ad.up k6 Cb f6; clear hr; replace AY := AG.keep AY (fun b' o' e => by have := LD b' o' e; subst this; exact F0.block _ DI (fun e => QW e.symm)); have QV := Ls Fz QW DI; have QX := Hh AU; replace DI := DS DI Cb; replace CR := C5 CR Cb; replace Aa := Aa.trans (Cb.mono Hn); clear AU Cm Gq F0 Fz Cb QW; have Cm := QX; have QW := QV; clear QX QV; refine kL 1 H rfl λ a H => zA (zB (zC (zD (kR 1 H rfl λ a H => kV H (Ai CL rfl (H.ev rfl) ((Ad.cell k6 1).trans rfl)) rfl λ a H => kX 1 (v := .slice (C6 (some ⟨b, oo, none⟩) c' 1 5) M.length (c' - 1)) H (BS CL (.slice (some ⟨b, oo, none⟩) (y :: M).length c') (some (J (1 : Nat))) none none (H.ev rfl) rfl rfl rfl (CF 1 (y :: M).length CL FI _ _ (.inr rfl) (.inl ⟨rfl, rfl⟩) (by omega) (by omega) rfl (by simp) rfl)) rfl λ a H => AP 63 (.tmp 115) (.tmp 114) b6 1 70 (.slice (C6 (some ⟨b, oo, none⟩) c' 1 5) M.length (c' - 1)) _ (H.ev rfl) (H.ev rfl) k6 Wq (by simp [Value.cells]) (by simp [Value.cells, Value.oneCell']) fun w' hb ho kq => ?_))))
          clear k6; have k6 : Ad _ b6 70 #[J nn, .slice (C6 (some ⟨b, oo, none⟩) c' 1 5) M.length (c' - 1)] := kq; clear kq; replace k2 := Ae k2 (ho _ (by omega)); replace AY := AG.keep AY (fun b o e => ho b (by have := LD b o e; omega)); replace Cm := BN.keep Cm (fun q e => ho q (by have := (Cm.lt e).1; omega)); replace DI := DS DI (hb _ g6); replace CR := C5 CR (hb _ g6); replace Aa := Aa.trans (hb _ g6); clear hb ho; refine Dz H λ a H => zA (zB (zD (kR 1 H rfl λ a H => kV H (Ai U3 rfl (H.ev rfl) ((Ad.cell k6 0).trans rfl)) rfl λ a H => kX 1 H (Bm (q := nn + 1) U3 (H.ev rfl) Am) rfl λ a H => AP 3 (.tmp 119) (.tmp 118) b6 0 70 (J (nn + 1)) _ (H.ev rfl) (H.ev rfl) k6 s3 (by simp [Value.cells]) (Di [(nn + 1)]) fun w' hb ho kq => ?_)))
          clear k6; have k6 : Ad _ b6 70 #[J (nn + 1), .slice (C6 (some ⟨b, oo, none⟩) c' 1 5) M.length (c' - 1)] := kq; clear kq; replace k2 := Ae k2 (ho _ (by omega)); replace AY := AG.keep AY (fun b o e => ho b (by have := LD b o e; omega)); replace Cm := BN.keep Cm (fun q e => ho q (by have := (Cm.lt e).1; omega)); replace DI := DS DI (hb _ g6); replace CR := C5 CR (hb _ g6); replace Aa := Aa.trans (hb _ g6); clear hb ho; refine Dz H λ a H => zA (AC ?_)
          have LB : ET _ (.slice (C6 (some ⟨b, oo, none⟩) c' 1 5) M.length (c' - 1)) M := MB AY
          have Xx : ∀ b' o', C6 (some ⟨b, oo, none⟩) c' 1 5 = some ⟨b', o', none⟩ → b' = b := fun b' o' e => JJ e
          refine zI ⟨⟨M, nn + 1, _, _, o2, NS ++ [y.2], H.pick [4, 6, 8], ⟨by omega, by omega⟩, k2, k6, LB, Xx, Cm, QW, by rw [List.length_append]; simp only [List.length_cons, List.length_nil]; omega, DI, CR, by rw [MV, Jw (M := M) TE, List.append_assoc]; rfl, Aa⟩, ?_⟩
          rw [HD k6, HD HK6.out]
          simp
         ·
          have HPE := Lib.hid (G0 (M := M) TE)
          refine zC (zC ?_)
          have Dj := Aa
          have hS : AV (At Dj) _ := Below.drew (Below.refl _ (At Dj))
          refine CZ (AV (At Dj)) [(0, true), (1, true), (2, true), (3, true), (4, true), (5, true), (6, true), (7, true), (8, true), (9, true), (10, true), (11, true), (12, true), (13, true)] (by kernel_rfl) (by kernel_rfl) R (by kernel_rfl) hS (Bf _ R (fun w' Aj => Br (q := 1) Dp (H.e R) R) (kp H R λ a H => Bf _ R (fun w' Aj => Ai CL R (H.e R) ((Ad.cell (Ad.ups k6 Aj) 1).trans R)) (kp H R λ a H => Bf _ R (fun w' Aj => Ba CL (H.e R)) (kp H R λ a H => Bf _ R (fun w' Aj => CU U3 (H.e R) Am (AE (QR))) (kp H R λ a H => Bf _ R (fun w' Aj => C4 (H.e R)) (kp H R λ a H => Bx _ R R R (H.e R) (fun w' Aj => Br (q := 1) Dp (H.e R) R) (kp H R λ a H => Bx _ R R R (H.e R) (fun w' Aj => Ai CL R (H.e R) ((Ad.cell (Ad.ups k6 Aj) 1).trans R)) (kp H R λ a H => Bx _ R R R (H.e R) (fun w' Aj => Bq (j := 0) (q := oo + 0 * 5) CL FI (H.e R) Am (by omega) R) (kp H R λ a H => Bx _ R R R (H.e R) (fun w' Aj => Br (q := oo + 0 * 5) EL (H.e R) R) (kp H R λ a H => Bx _ R R R (H.e R) (fun w' Aj => Ai U3 R (H.e R) (Bo (BQ hr Aj) 0 R)) (kp H R λ a H => Bx _ R R R (H.e R) (fun w' Aj => Br (q := 0) Ix (H.e R) R) (kp H R λ a H => Bx _ R R R (H.e R) (fun w' Aj => Ai U3 R (H.e R) ((Ad.cell (Ad.ups k6 Aj) 0).trans R)) ?_))))))))))))
          refine kp H R λ a H => Bx _ R R R (H.e R) (fun w' Aj => A9 U3 (H.e R) (H.e R) (AF (TE))) (kp H R λ a H => Bf _ R (fun w' Aj => Ea (H.e R) (H.e R)) (kp H R λ a H => Es (NoPanic.normal ?_)))
          replace k2 := Ad.ups k2 hS
          replace k6 := Ad.ups k6 hS
          replace AY := AG.up AY hS
          replace Cm := BN.up Cm hS
          replace DI := DS DI hS
          replace CR := C5 CR hS
          replace hr := BQ hr hS
          replace Aa := Aa.trans (Below.mono hS Aa.size)
          clear hS
          refine zB (zG H R (wp_exit (AJ (AJ (BD (zB (zC (zD (kX 1 H (AL (cs := [J nn, .slice (some ⟨b, oo, none⟩) (y :: M).length c']) (H.e R) (Ar k6) (by kernel_rfl) DU R) R λ a H => AP 70 (.tmp 4) (.tmp 120) b2 0 70 (.agg #[J nn, .slice (some ⟨b, oo, none⟩) (y :: M).length c']) _ (H.e R) (H.e R) k2 DU (by simp [Value.cells]) (by simp [Value.cells, Value.oneCell']) fun w' hb ho kq => ?_)))))))))
          clear k2; have k2 : Ad _ b2 70 #[J nn, .slice (some ⟨b, oo, none⟩) (y :: M).length c'] := kq; clear kq; replace k6 := Ae k6 (ho _ (by omega)); replace AY := AG.keep AY (fun b o e => ho b (by have := LD b o e; omega)); replace Cm := BN.keep Cm (fun q e => ho q (by have := (Cm.lt e).1; omega)); replace DI := DS DI (hb _ g2); replace CR := C5 CR (hb _ g2); replace Aa := Aa.trans (hb _ g2); clear hb ho; refine kO 1 H rfl λ a H => zA (zB (zF ?_))
          rw [HTK.out, MV, HPE.out, List.append_nil]
          exact BT H R R R k2 ND R DU ⟨⟨_, _, R, ⟨AY, fun A n c e b o' ea => by injection e with e1 e2 e3; rw [← e1] at ea; have := LD b o' ea; omega⟩, ⟨Lw.row Cm, C0 Cm Hn⟩⟩, Aa⟩
end Go.Proofs.YtbnmpoonkjlkjaaGreat
