/- Client: part G of the proof. -/
import Derived.Test.YtbnmpoonkjlkjaaGreatXF
import Derived.Test.YtbnmpoonkjlkjaaGreatXC
namespace Go.Proofs.YtbnmpoonkjlkjaaGreat
open Go.RowKit
set_option linter.unusedVariables false
set_option linter.unusedSimpArgs false
set_option maxRecDepth 100000
set_option maxHeartbeats 8000000
def Lo (x : Nat × Nat × Nat × Nat) : List Int := [(x.1 : Int), (x.2.1 : Int), (x.2.2.1 : Int), (x.2.2.2 : Int)]
theorem KE (x : Nat × Nat × Nat × Nat) : (Lo x).length = 4 := rfl
def IX (k : Int) : List (Nat × Nat × Nat × Nat) := if 2 ≤ k ∧ k ≤ 4 then [(11, 16, 0, 0)] else if 5 ≤ k ∧ k ≤ 11 then [(12, 8, 0, 0)] else []
def LA (s : Nat × Nat × Nat × Nat) : Nat × Nat × Nat × Nat := (DW s.1 - 1, s.2.1, s.2.2.1, s.2.2.2)
/-- the document's pieces of a kind -/
def Dv (k : Int) : List (Nat × Nat × Nat × Nat) := (AH k).map LA ++ IX k
theorem Sl {k : Int} (h : k ≠ 1 ∧ k ≠ 2 ∧ k ≠ 3 ∧ k ≠ 4 ∧ k ≠ 5 ∧ k ≠ 6 ∧ k ≠ 7 ∧ k ≠ 8 ∧ k ≠ 9 ∧ k ≠ 10 ∧ k ≠ 11 ∧ k ≠ 12) : Dv k = [] := by
 obtain ⟨h1, h2, h3, h4, h5, h6, h7, h8, h9, Nc, LV, Ln⟩ := h
 have e1 : AH k = [] := by simp [AH, *]
 have e2 : IX k = [] := by
  unfold IX
  rw [if_neg (by omega), if_neg (by omega)]
 rw [Dv, e1, e2]
 rfl
theorem JM (w : World) (k : Int) : Calls Tryz.prog 71 #[J k] w fun e w' => (∃ A, e = .returned (.slice A (Dv k).length (Dv k).length) ∧ BJ w' A (FV Lo (Dv k)) ∧ ∀ b o, A = some ⟨b, o, none⟩ → w.heap.size ≤ b) ∧ Below w.heap.size w w' := by
 have Aa := Below.refl w.heap.size w
 refine Az 82 Tryz.func71 R R λ a H => zC (zD (kR 1 H R λ a H => zA (zB (zC (zD (kV H (Bl #[(0, J 11), (1, J 16), (2, J 0), (3, J 0)] (.agg #[J 11, J 16, J 0, J 0]) (by simp [Am]) (fun w => by kernel_rfl)) R λ a H => De 99 3 (.tmp 5) #[J 11, J 16, J 0, J 0] _ mG J7 R (Di [11, 16, 0, 0]) (fun p => (H.put 3 p R).ev R) (fun p => (H.put 3 p R).ev R) fun w0 b0 Ak hb k0 => ?_))))))
 have g0 := Nat.le_trans Aa.size Ak; replace Aa := Aa.tr hb; clear hb; clear Ak; refine kl H rfl λ a H => zA (zB (zC (zD (kV H (Bl #[(0, J 12), (1, J 8), (2, J 0), (3, J 0)] (.agg #[J 12, J 8, J 0, J 0]) (by simp [Am]) (fun w => by kernel_rfl)) rfl λ a H => De 99 4 (.tmp 6) #[J 12, J 8, J 0, J 0] _ mG J7 rfl (Di [12, 8, 0, 0]) (fun p => (H.put 4 p rfl).ev rfl) (fun p => (H.put 4 p rfl).ev rfl) fun w1 b1 Ak hb k1 => ?_))))
 have g1 := Nat.le_trans Aa.size Ak; replace k0 := k0.ups hb; replace Aa := Aa.tr hb; clear hb; clear Ak; refine kl H rfl λ a H => zA (zB (zC (zC (zD (kR 1 H rfl λ a H => zA (zB (wp_block (zC (zD ?_)))))))))
 by_cases BE : k = 1
 ·
  refine kX 1 H (A9 U3 (H.e R) Am (AE (BE))) R λ a H => zA (zB (zH H R (zC (zD (kC 0 (Dh _ 9 0) (AA EQ Am Am) H R fun w9 a hb H => ?_)))))
  replace k0 := k0.ups hb; replace k1 := k1.ups hb; replace Aa := Aa.tr hb; clear hb
  refine BP 96 1 #[(0, .agg #[J 9, J 4, J 0, J 1073741824])] 99 #[J 9, J 4, J 0, J 1073741824] (by simp [Am, H.ev (j := 10) R]) (fun w => by kernel_rfl) fun w2 b2 Ak hb k2 => ?_; have g2 := Nat.le_trans Aa.size Ak; replace k0 := k0.ups hb; replace k1 := k1.ups hb; replace Aa := Aa.tr hb; clear hb; clear Ak; refine kL 1 H R λ a H => zA (zB (zF (AS (zJ ?_))))
  subst BE
  exact Ag H R R ⟨⟨some ⟨b2, 0, none⟩, R, BG k2 R, fun b o e => by injection e with e; injection e with e; subst e; exact g2⟩, Aa⟩
 ·
  refine kX 1 H (A9 U3 (H.e R) Am (AF (BE))) R λ a H => zA (zB (zG H R (zC (zD ?_))))
  by_cases Cn : k = 2
  ·
   refine kX 1 H (A9 U3 (H.e R) Am (AE (Cn))) R λ a H => zA (zB (zH H R (zC (rB 5 (.fl 2 (.one 0 (.one 1 (.one 3 (.fl 4 .done))))) fun hS => kF H R R (fun w' Aj => AL (cs := [J 11, J 16, J 0, J 0]) (H.e R) (Ar (Ad.ups k0 Aj)) (by kernel_rfl) J7 R) R λ a H => Al (fun K hK => A7 R (kD (Dh _ 9 0) (AA EQ Am Am) fun w9 hb => ?_))))))
   replace hS := Below.trans hS (Below.mono hb (Below.size hS)); clear hb; refine kS 0 hK hS H rfl λ a H => ?_; clear hK K
   refine Al (fun K hK => A7 R (kD (Dh _ 10 0) (AA EQ Am Am) fun w9 hb => ?_))
   replace hS := Below.trans hS (Below.mono hb (Below.size hS)); clear hb; refine kS 0 hK hS H rfl λ a H => ?_; clear hK K
   refine Al (fun K hK => A7 R (Co 96 3 #[(0, .agg #[J 9, J 4, J 0, J 1073741824]), (1, .agg #[J 10, J 4, J 0, J 1073741824]), (2, .agg #[J 11, J 16, J 0, J 0])] 99 #[J 9, J 4, J 0, J 1073741824, J 10, J 4, J 0, J 1073741824, J 11, J 16, J 0, J 0] (by simp [Am, H.ev (j := 14) R, H.ev (j := 15) R, H.ev (j := 16) R]) (fun w => by kernel_rfl) fun w3 b3 Ak hb k3 => ?_))
   have g3 := Nat.le_trans (Nat.le_trans Aa.size (Below.size hS)) Ak; replace hS := Below.trans hS (Below.mono hb (Below.size hS)); clear hb Ak; refine kS 1 hK hS H rfl λ a H => ?_; clear hK K
   refine Aw (NoPanic.normal ?_)
   replace k0 := Ad.ups k0 hS
   replace k1 := Ad.ups k1 hS
   replace Aa := Aa.trans (Below.mono hS Aa.size)
   clear hS
   refine zB (zF (AS (zJ ?_)))
   subst Cn
   exact Ag H R R ⟨⟨some ⟨b3, 0, none⟩, R, BG k3 R, fun b o e => by injection e with e; injection e with e; subst e; exact g3⟩, Aa⟩
  ·
   refine kX 1 H (A9 U3 (H.e R) Am (AF (Cn))) R λ a H => zA (zB (zG H R (zC (zD ?_))))
   by_cases CP : k = 3
   ·
    refine kX 1 H (A9 U3 (H.e R) Am (AE (CP))) R λ a H => zA (zB (zH H R (zC (rB 6 (.fl 3 (.one 0 (.one 1 (.one 2 (.one 4 (.fl 5 .done)))))) fun hS => kF H R R (fun w' Aj => AL (cs := [J 11, J 16, J 0, J 0]) (H.e R) (Ar (Ad.ups k0 Aj)) (by kernel_rfl) J7 R) R λ a H => Al (fun K hK => A7 R (kD (Eh _ 2 1 16) (EH JH Am Am Am) fun w9 hb => ?_))))))
    replace hS := Below.trans hS (Below.mono hb (Below.size hS)); clear hb; refine kS 0 hK hS H rfl λ a H => ?_; clear hK K
    refine Al (fun K hK => A7 R (kD (Dh _ 9 0) (AA EQ Am Am) fun w9 hb => ?_))
    replace hS := Below.trans hS (Below.mono hb (Below.size hS)); clear hb; refine kS 0 hK hS H rfl λ a H => ?_; clear hK K
    refine Al (fun K hK => A7 R (kD (Dh _ 10 0) (AA EQ Am Am) fun w9 hb => ?_))
    replace hS := Below.trans hS (Below.mono hb (Below.size hS)); clear hb; refine kS 0 hK hS H rfl λ a H => ?_; clear hK K
    refine Al (fun K hK => A7 R (Co 96 4 #[(0, .agg #[J 2, J 1, J 1, J 16]), (1, .agg #[J 9, J 4, J 0, J 1073741824]), (2, .agg #[J 10, J 4, J 0, J 1073741824]), (3, .agg #[J 11, J 16, J 0, J 0])] 99 #[J 2, J 1, J 1, J 16, J 9, J 4, J 0, J 1073741824, J 10, J 4, J 0, J 1073741824, J 11, J 16, J 0, J 0] (by simp [Am, H.ev (j := 20) R, H.ev (j := 21) R, H.ev (j := 22) R, H.ev (j := 23) R]) (fun w => by kernel_rfl) fun w4 b4 Ak hb k4 => ?_))
    have g4 := Nat.le_trans (Nat.le_trans Aa.size (Below.size hS)) Ak; replace hS := Below.trans hS (Below.mono hb (Below.size hS)); clear hb Ak; refine kS 1 hK hS H rfl λ a H => ?_; clear hK K
    refine Aw (NoPanic.normal ?_)
    replace k0 := Ad.ups k0 hS
    replace k1 := Ad.ups k1 hS
    replace Aa := Aa.trans (Below.mono hS Aa.size)
    clear hS
    refine zB (zF (AS (zJ ?_)))
    subst CP
    exact Ag H R R ⟨⟨some ⟨b4, 0, none⟩, R, BG k4 R, fun b o e => by injection e with e; injection e with e; subst e; exact g4⟩, Aa⟩
   ·
    refine kX 1 H (A9 U3 (H.e R) Am (AF (CP))) R λ a H => zA (zB (zG H R (zC (zD ?_))))
    by_cases DJ : k = 4
    ·
     refine kX 1 H (A9 U3 (H.e R) Am (AE (DJ))) R λ a H => zA (zB (zH H R (zC (rB 5 (.fl 2 (.one 0 (.one 1 (.one 3 (.fl 4 .done))))) fun hS => kF H R R (fun w' Aj => AL (cs := [J 11, J 16, J 0, J 0]) (H.e R) (Ar (Ad.ups k0 Aj)) (by kernel_rfl) J7 R) R λ a H => Al (fun K hK => A7 R (kD (Dh _ 0 1) (AA EQ Am Am) fun w9 hb => ?_))))))
     replace hS := Below.trans hS (Below.mono hb (Below.size hS)); clear hb; refine kS 0 hK hS H rfl λ a H => ?_; clear hK K
     refine Al (fun K hK => A7 R (kD (Dh _ 9 0) (AA EQ Am Am) fun w9 hb => ?_))
     replace hS := Below.trans hS (Below.mono hb (Below.size hS)); clear hb; refine kS 0 hK hS H rfl λ a H => ?_; clear hK K
     refine Al (fun K hK => A7 R (Co 96 3 #[(0, .agg #[J 0, J 4, J 1, J 1073741824]), (1, .agg #[J 9, J 4, J 0, J 1073741824]), (2, .agg #[J 11, J 16, J 0, J 0])] 99 #[J 0, J 4, J 1, J 1073741824, J 9, J 4, J 0, J 1073741824, J 11, J 16, J 0, J 0] (by simp [Am, H.ev (j := 27) R, H.ev (j := 28) R, H.ev (j := 29) R]) (fun w => by kernel_rfl) fun w5 b5 Ak hb k5 => ?_))
     have g5 := Nat.le_trans (Nat.le_trans Aa.size (Below.size hS)) Ak; replace hS := Below.trans hS (Below.mono hb (Below.size hS)); clear hb Ak; refine kS 1 hK hS H rfl λ a H => ?_; clear hK K
     refine Aw (NoPanic.normal ?_)
     replace k0 := Ad.ups k0 hS
     replace k1 := Ad.ups k1 hS
     replace Aa := Aa.trans (Below.mono hS Aa.size)
     clear hS
     refine zB (zF (AS (zJ ?_)))
     subst DJ
     exact Ag H R R ⟨⟨some ⟨b5, 0, none⟩, R, BG k5 R, fun b o e => by injection e with e; injection e with e; subst e; exact g5⟩, Aa⟩
    ·
     refine kX 1 H (A9 U3 (H.e R) Am (AF (DJ))) R λ a H => zA (zB (zG H R (zC (zC (zD ?_)))))
     by_cases Em : k = 5
     ·
      refine kX 1 H (A9 U3 (H.e R) Am (AE (Em))) R λ a H => zA (zB (zH H R (zE (zB (zH H R (zC ?_))))))
      have rF := Aa
      refine rB 5 (.fl 2 (.one 0 (.one 1 (.one 3 (.fl 4 .done))))) fun hS => kF H R R (fun w' Aj => AL (cs := [J 12, J 8, J 0, J 0]) (H.e R) (Ar (Ad.ups k1 Aj)) (by kernel_rfl) J7 R) R λ a H => Al (fun K hK => A7 R (kD (Dh _ 0 1) (AA EQ Am Am) fun w9 hb => ?_))
      replace hS := Below.trans hS (Below.mono hb (Below.size hS)); clear hb; refine kS 0 hK hS H rfl λ a H => ?_; clear hK K
      refine Al (fun K hK => A7 R (kD (Dh _ 1 1) (AA EQ Am Am) fun w9 hb => ?_))
      replace hS := Below.trans hS (Below.mono hb (Below.size hS)); clear hb; refine kS 0 hK hS H rfl λ a H => ?_; clear hK K
      refine Al (fun K hK => A7 R (Co 96 3 #[(0, .agg #[J 0, J 4, J 1, J 1073741824]), (1, .agg #[J 1, J 4, J 1, J 1073741824]), (2, .agg #[J 12, J 8, J 0, J 0])] 99 #[J 0, J 4, J 1, J 1073741824, J 1, J 4, J 1, J 1073741824, J 12, J 8, J 0, J 0] (by simp [Am, H.ev (j := 34) R, H.ev (j := 35) R, H.ev (j := 36) R]) (fun w => by kernel_rfl) fun w6 b6 Ak hb k6 => ?_))
      have g6 := Nat.le_trans (Nat.le_trans Aa.size (Below.size hS)) Ak; replace hS := Below.trans hS (Below.mono hb (Below.size hS)); clear hb Ak; refine kS 1 hK hS H rfl λ a H => ?_; clear hK K
      refine Aw (NoPanic.normal ?_)
      replace k0 := Ad.ups k0 hS
      replace k1 := Ad.ups k1 hS
      replace Aa := Aa.trans (Below.mono hS Aa.size)
      clear hS
      refine zB (zF (AS (zJ ?_)))
      subst Em
      exact Ag H R R ⟨⟨some ⟨b6, 0, none⟩, R, BG k6 R, fun b o e => by injection e with e; injection e with e; subst e; exact g6⟩, Aa⟩
     ·
      refine kX 1 H (A9 U3 (H.e R) Am (AF (Em))) R λ a H => zA (zB (zG H R (zD ?_)))
      by_cases Fg : k = 10
      ·
       refine kX 1 H (A9 U3 (H.e R) Am (AE (Fg))) R λ a H => zA (zB (zH H R (zC (rB 5 (.fl 2 (.one 0 (.one 1 (.one 3 (.fl 4 .done))))) fun hS => kF H R R (fun w' Aj => AL (cs := [J 12, J 8, J 0, J 0]) (H.e R) (Ar (Ad.ups k1 Aj)) (by kernel_rfl) J7 R) R λ a H => Al (fun K hK => A7 R (kD (Dh _ 0 1) (AA EQ Am Am) fun w9 hb => ?_))))))
       replace hS := Below.trans hS (Below.mono hb (Below.size hS)); clear hb; refine kS 0 hK hS H rfl λ a H => ?_; clear hK K
       refine Al (fun K hK => A7 R (kD (Dh _ 1 1) (AA EQ Am Am) fun w9 hb => ?_))
       replace hS := Below.trans hS (Below.mono hb (Below.size hS)); clear hb; refine kS 0 hK hS H rfl λ a H => ?_; clear hK K
       refine Al (fun K hK => A7 R (Co 96 3 #[(0, .agg #[J 0, J 4, J 1, J 1073741824]), (1, .agg #[J 1, J 4, J 1, J 1073741824]), (2, .agg #[J 12, J 8, J 0, J 0])] 99 #[J 0, J 4, J 1, J 1073741824, J 1, J 4, J 1, J 1073741824, J 12, J 8, J 0, J 0] (by simp [Am, H.ev (j := 34) R, H.ev (j := 35) R, H.ev (j := 36) R]) (fun w => by kernel_rfl) fun w7 b7 Ak hb k7 => ?_))
       have g7 := Nat.le_trans (Nat.le_trans Aa.size (Below.size hS)) Ak; replace hS := Below.trans hS (Below.mono hb (Below.size hS)); clear hb Ak; refine kS 1 hK hS H rfl λ a H => ?_; clear hK K
       refine Aw (NoPanic.normal ?_)
       replace k0 := Ad.ups k0 hS
       replace k1 := Ad.ups k1 hS
       replace Aa := Aa.trans (Below.mono hS Aa.size)
       clear hS
       refine zB (zF (AS (zJ ?_)))
       subst Fg
       exact Ag H R R ⟨⟨some ⟨b7, 0, none⟩, R, BG k7 R, fun b o e => by injection e with e; injection e with e; subst e; exact g7⟩, Aa⟩
      ·
       refine kX 1 H (A9 U3 (H.e R) Am (AF (Fg))) R λ a H => zA (zB (zG H R (zC (zD ?_))))
       by_cases F3 : k = 6
       ·
        refine kX 1 H (A9 U3 (H.e R) Am (AE (F3))) R λ a H => zA (zB (zH H R (zC (rB 6 (.fl 3 (.one 0 (.one 1 (.one 2 (.one 4 (.fl 5 .done)))))) fun hS => kF H R R (fun w' Aj => AL (cs := [J 12, J 8, J 0, J 0]) (H.e R) (Ar (Ad.ups k1 Aj)) (by kernel_rfl) J7 R) R λ a H => Al (fun K hK => A7 R (kD (Dh _ 0 1) (AA EQ Am Am) fun w9 hb => ?_))))))
        replace hS := Below.trans hS (Below.mono hb (Below.size hS)); clear hb; refine kS 0 hK hS H rfl λ a H => ?_; clear hK K
        refine Al (fun K hK => A7 R (kD (Dh _ 1 1) (AA EQ Am Am) fun w9 hb => ?_))
        replace hS := Below.trans hS (Below.mono hb (Below.size hS)); clear hb; refine kS 0 hK hS H rfl λ a H => ?_; clear hK K
        refine Al (fun K hK => A7 R (kD (Eh _ 4 1 3) (EH JH Am Am Am) fun w9 hb => ?_))
        replace hS := Below.trans hS (Below.mono hb (Below.size hS)); clear hb; refine kS 0 hK hS H rfl λ a H => ?_; clear hK K
        refine Al (fun K hK => A7 R (Co 96 4 #[(0, .agg #[J 0, J 4, J 1, J 1073741824]), (1, .agg #[J 1, J 4, J 1, J 1073741824]), (2, .agg #[J 4, J 1, J 1, J 3]), (3, .agg #[J 12, J 8, J 0, J 0])] 99 #[J 0, J 4, J 1, J 1073741824, J 1, J 4, J 1, J 1073741824, J 4, J 1, J 1, J 3, J 12, J 8, J 0, J 0] (by simp [Am, H.ev (j := 40) R, H.ev (j := 41) R, H.ev (j := 42) R, H.ev (j := 43) R]) (fun w => by kernel_rfl) fun w8 b8 Ak hb k8 => ?_))
        have g8 := Nat.le_trans (Nat.le_trans Aa.size (Below.size hS)) Ak; replace hS := Below.trans hS (Below.mono hb (Below.size hS)); clear hb Ak; refine kS 1 hK hS H rfl λ a H => ?_; clear hK K
        refine Aw (NoPanic.normal ?_)
        replace k0 := Ad.ups k0 hS
        replace k1 := Ad.ups k1 hS
        replace Aa := Aa.trans (Below.mono hS Aa.size)
        clear hS
        refine zB (zF (AS (zJ ?_)))
        subst F3
        exact Ag H R R ⟨⟨some ⟨b8, 0, none⟩, R, BG k8 R, fun b o e => by injection e with e; injection e with e; subst e; exact g8⟩, Aa⟩
       ·
        refine kX 1 H (A9 U3 (H.e R) Am (AF (F3))) R λ a H => zA (zB (zG H R (zC (zD ?_))))
        by_cases FR : k = 7
        ·
         refine kX 1 H (A9 U3 (H.e R) Am (AE (FR))) R λ a H => zA (zB (zH H R (zC (rB 7 (.fl 4 (.one 0 (.one 1 (.one 2 (.one 3 (.one 5 (.fl 6 .done))))))) fun hS => kF H R R (fun w' Aj => AL (cs := [J 12, J 8, J 0, J 0]) (H.e R) (Ar (Ad.ups k1 Aj)) (by kernel_rfl) J7 R) R λ a H => Al (fun K hK => A7 R (kD (Dh _ 0 1) (AA EQ Am Am) fun w9 hb => ?_))))))
         replace hS := Below.trans hS (Below.mono hb (Below.size hS)); clear hb; refine kS 0 hK hS H rfl λ a H => ?_; clear hK K
         refine Al (fun K hK => A7 R (kD (Dh _ 1 1) (AA EQ Am Am) fun w9 hb => ?_))
         replace hS := Below.trans hS (Below.mono hb (Below.size hS)); clear hb; refine kS 0 hK hS H rfl λ a H => ?_; clear hK K
         refine Al (fun K hK => A7 R (kD (Eh _ 3 1 7) (EH JH Am Am Am) fun w9 hb => ?_))
         replace hS := Below.trans hS (Below.mono hb (Below.size hS)); clear hb; refine kS 0 hK hS H rfl λ a H => ?_; clear hK K
         refine Al (fun K hK => A7 R (kD (Eh _ 2 1 16) (EH JH Am Am Am) fun w9 hb => ?_))
         replace hS := Below.trans hS (Below.mono hb (Below.size hS)); clear hb; refine kS 0 hK hS H rfl λ a H => ?_; clear hK K
         refine Al (fun K hK => A7 R (Co 96 5 #[(0, .agg #[J 0, J 4, J 1, J 1073741824]), (1, .agg #[J 1, J 4, J 1, J 1073741824]), (2, .agg #[J 3, J 1, J 1, J 7]), (3, .agg #[J 2, J 1, J 1, J 16]), (4, .agg #[J 12, J 8, J 0, J 0])] 99 #[J 0, J 4, J 1, J 1073741824, J 1, J 4, J 1, J 1073741824, J 3, J 1, J 1, J 7, J 2, J 1, J 1, J 16, J 12, J 8, J 0, J 0] (by simp [Am, H.ev (j := 47) R, H.ev (j := 48) R, H.ev (j := 49) R, H.ev (j := 50) R, H.ev (j := 51) R]) (fun w => by kernel_rfl) fun w9 b9 Ak hb k9 => ?_))
         have g9 := Nat.le_trans (Nat.le_trans Aa.size (Below.size hS)) Ak; replace hS := Below.trans hS (Below.mono hb (Below.size hS)); clear hb Ak; refine kS 1 hK hS H rfl λ a H => ?_; clear hK K
         refine Aw (NoPanic.normal ?_)
         replace k0 := Ad.ups k0 hS
         replace k1 := Ad.ups k1 hS
         replace Aa := Aa.trans (Below.mono hS Aa.size)
         clear hS
         refine zB (zF (AS (zJ ?_)))
         subst FR
         exact Ag H R R ⟨⟨some ⟨b9, 0, none⟩, R, BG k9 R, fun b o e => by injection e with e; injection e with e; subst e; exact g9⟩, Aa⟩
        ·
         refine kX 1 H (A9 U3 (H.e R) Am (AF (FR))) R λ a H => zA (zB (zG H R (zC (zD ?_))))
         by_cases Hm : k = 8
         ·
          refine kX 1 H (A9 U3 (H.e R) Am (AE (Hm))) R λ a H => zA (zB (zH H R (zC (rB 9 (.fl 6 (.one 0 (.one 1 (.one 2 (.one 3 (.one 4 (.one 5 (.one 7 (.fl 8 .done))))))))) fun hS => kF H R R (fun w' Aj => AL (cs := [J 12, J 8, J 0, J 0]) (H.e R) (Ar (Ad.ups k1 Aj)) (by kernel_rfl) J7 R) R λ a H => Al (fun K hK => A7 R (kD (Dh _ 0 1) (AA EQ Am Am) fun w9 hb => ?_))))))
          replace hS := Below.trans hS (Below.mono hb (Below.size hS)); clear hb; refine kS 0 hK hS H rfl λ a H => ?_; clear hK K
          refine Al (fun K hK => A7 R (kD (Dh _ 1 1) (AA EQ Am Am) fun w9 hb => ?_))
          replace hS := Below.trans hS (Below.mono hb (Below.size hS)); clear hb; refine kS 0 hK hS H rfl λ a H => ?_; clear hK K
          refine Al (fun K hK => A7 R (kD (Eh _ 2 0 16) (EH JH Am Am Am) fun w9 hb => ?_))
          replace hS := Below.trans hS (Below.mono hb (Below.size hS)); clear hb; refine kS 0 hK hS H rfl λ a H => ?_; clear hK K
          refine Al (fun K hK => A7 R (kD (Dh _ 6 0) (AA EQ Am Am) fun w9 hb => ?_))
          replace hS := Below.trans hS (Below.mono hb (Below.size hS)); clear hb; refine kS 0 hK hS H rfl λ a H => ?_; clear hK K
          refine Al (fun K hK => A7 R (kD (Eh _ 4 0 3) (EH JH Am Am Am) fun w9 hb => ?_))
          replace hS := Below.trans hS (Below.mono hb (Below.size hS)); clear hb; refine kS 0 hK hS H rfl λ a H => ?_; clear hK K
          refine Al (fun K hK => A7 R (kD (Eh _ 5 0 4) (EH JH Am Am Am) fun w9 hb => ?_))
          replace hS := Below.trans hS (Below.mono hb (Below.size hS)); clear hb; refine kS 0 hK hS H rfl λ a H => ?_; clear hK K
          refine Al (fun K hK => A7 R (Co 96 7 #[(0, .agg #[J 0, J 4, J 1, J 1073741824]), (1, .agg #[J 1, J 4, J 1, J 1073741824]), (2, .agg #[J 2, J 1, J 0, J 16]), (3, .agg #[J 6, J 4, J 0, J 1073741824]), (4, .agg #[J 4, J 1, J 0, J 3]), (5, .agg #[J 5, J 1, J 0, J 4]), (6, .agg #[J 12, J 8, J 0, J 0])] 99 #[J 0, J 4, J 1, J 1073741824, J 1, J 4, J 1, J 1073741824, J 2, J 1, J 0, J 16, J 6, J 4, J 0, J 1073741824, J 4, J 1, J 0, J 3, J 5, J 1, J 0, J 4, J 12, J 8, J 0, J 0] (by simp [Am, H.ev (j := 55) R, H.ev (j := 56) R, H.ev (j := 57) R, H.ev (j := 58) R, H.ev (j := 59) R, H.ev (j := 60) R, H.ev (j := 61) R]) (fun w => by kernel_rfl) fun w10 b10 Ak hb FH => ?_))
          have iG := Nat.le_trans (Nat.le_trans Aa.size (Below.size hS)) Ak; replace hS := Below.trans hS (Below.mono hb (Below.size hS)); clear hb Ak; refine kS 1 hK hS H rfl λ a H => ?_; clear hK K
          refine Aw (NoPanic.normal ?_)
          replace k0 := Ad.ups k0 hS
          replace k1 := Ad.ups k1 hS
          replace Aa := Aa.trans (Below.mono hS Aa.size)
          clear hS
          refine zB (zF (AS (zJ ?_)))
          subst Hm
          exact Ag H R R ⟨⟨some ⟨b10, 0, none⟩, R, BG FH R, fun b o e => by injection e with e; injection e with e; subst e; exact iG⟩, Aa⟩
         ·
          refine kX 1 H (A9 U3 (H.e R) Am (AF (Hm))) R λ a H => zA (zB (zG H R (zC (zD ?_))))
          by_cases IB : k = 9
          ·
           refine kX 1 H (A9 U3 (H.e R) Am (AE (IB))) R λ a H => zA (zB (zH H R (zC (rB 6 (.fl 3 (.one 0 (.one 1 (.one 2 (.one 4 (.fl 5 .done)))))) fun hS => kF H R R (fun w' Aj => AL (cs := [J 12, J 8, J 0, J 0]) (H.e R) (Ar (Ad.ups k1 Aj)) (by kernel_rfl) J7 R) R λ a H => Al (fun K hK => A7 R (kD (Dh _ 0 1) (AA EQ Am Am) fun w9 hb => ?_))))))
           replace hS := Below.trans hS (Below.mono hb (Below.size hS)); clear hb; refine kS 0 hK hS H rfl λ a H => ?_; clear hK K
           refine Al (fun K hK => A7 R (kD (Dh _ 7 0) (AA EQ Am Am) fun w9 hb => ?_))
           replace hS := Below.trans hS (Below.mono hb (Below.size hS)); clear hb; refine kS 0 hK hS H rfl λ a H => ?_; clear hK K
           refine Al (fun K hK => A7 R (kD (Eh _ 8 0 255) (EH JH Am Am Am) fun w9 hb => ?_))
           replace hS := Below.trans hS (Below.mono hb (Below.size hS)); clear hb; refine kS 0 hK hS H rfl λ a H => ?_; clear hK K
           refine Al (fun K hK => A7 R (Co 96 4 #[(0, .agg #[J 0, J 4, J 1, J 1073741824]), (1, .agg #[J 7, J 4, J 0, J 1073741824]), (2, .agg #[J 8, J 1, J 0, J 255]), (3, .agg #[J 12, J 8, J 0, J 0])] 99 #[J 0, J 4, J 1, J 1073741824, J 7, J 4, J 0, J 1073741824, J 8, J 1, J 0, J 255, J 12, J 8, J 0, J 0] (by simp [Am, H.ev (j := 65) R, H.ev (j := 66) R, H.ev (j := 67) R, H.ev (j := 68) R]) (fun w => by kernel_rfl) fun w11 b11 Ak hb Gq => ?_))
           have mW := Nat.le_trans (Nat.le_trans Aa.size (Below.size hS)) Ak; replace hS := Below.trans hS (Below.mono hb (Below.size hS)); clear hb Ak; refine kS 1 hK hS H rfl λ a H => ?_; clear hK K
           refine Aw (NoPanic.normal ?_)
           replace k0 := Ad.ups k0 hS
           replace k1 := Ad.ups k1 hS
           replace Aa := Aa.trans (Below.mono hS Aa.size)
           clear hS
           refine zB (zF (AS (zJ ?_)))
           subst IB
           exact Ag H R R ⟨⟨some ⟨b11, 0, none⟩, R, BG Gq R, fun b o e => by injection e with e; injection e with e; subst e; exact mW⟩, Aa⟩
          ·
           refine kX 1 H (A9 U3 (H.e R) Am (AF (IB))) R λ a H => zA (zB (zG H R (zC (zD ?_))))
           by_cases FM : k = 11
           ·
            refine kX 1 H (A9 U3 (H.e R) Am (AE (FM))) R λ a H => zA (zB (zH H R (zC (rB 6 (.fl 3 (.one 0 (.one 1 (.one 2 (.one 4 (.fl 5 .done)))))) fun hS => kF H R R (fun w' Aj => AL (cs := [J 12, J 8, J 0, J 0]) (H.e R) (Ar (Ad.ups k1 Aj)) (by kernel_rfl) J7 R) R λ a H => Al (fun K hK => A7 R (kD (Dh _ 0 1) (AA EQ Am Am) fun w9 hb => ?_))))))
            replace hS := Below.trans hS (Below.mono hb (Below.size hS)); clear hb; refine kS 0 hK hS H rfl λ a H => ?_; clear hK K
            refine Al (fun K hK => A7 R (kD (Dh _ 1 1) (AA EQ Am Am) fun w9 hb => ?_))
            replace hS := Below.trans hS (Below.mono hb (Below.size hS)); clear hb; refine kS 0 hK hS H rfl λ a H => ?_; clear hK K
            refine Al (fun K hK => A7 R (kD (Eh _ 3 0 15) (EH JH Am Am Am) fun w9 hb => ?_))
            replace hS := Below.trans hS (Below.mono hb (Below.size hS)); clear hb; refine kS 0 hK hS H rfl λ a H => ?_; clear hK K
            refine Al (fun K hK => A7 R (Co 96 4 #[(0, .agg #[J 0, J 4, J 1, J 1073741824]), (1, .agg #[J 1, J 4, J 1, J 1073741824]), (2, .agg #[J 3, J 1, J 0, J 15]), (3, .agg #[J 12, J 8, J 0, J 0])] 99 #[J 0, J 4, J 1, J 1073741824, J 1, J 4, J 1, J 1073741824, J 3, J 1, J 0, J 15, J 12, J 8, J 0, J 0] (by simp [Am, H.ev (j := 72) R, H.ev (j := 73) R, H.ev (j := 74) R, H.ev (j := 75) R]) (fun w => by kernel_rfl) fun w12 b12 Ak hb HG => ?_))
            have mV := Nat.le_trans (Nat.le_trans Aa.size (Below.size hS)) Ak; replace hS := Below.trans hS (Below.mono hb (Below.size hS)); clear hb Ak; refine kS 1 hK hS H rfl λ a H => ?_; clear hK K
            refine Aw (NoPanic.normal ?_)
            replace k0 := Ad.ups k0 hS
            replace k1 := Ad.ups k1 hS
            replace Aa := Aa.trans (Below.mono hS Aa.size)
            clear hS
            refine zB (zF (AS (zJ ?_)))
            subst FM
            exact Ag H R R ⟨⟨some ⟨b12, 0, none⟩, R, BG HG R, fun b o e => by injection e with e; injection e with e; subst e; exact mV⟩, Aa⟩
           ·
            refine kX 1 H (A9 U3 (H.e R) Am (AF (FM))) R λ a H => zA (zB (zG H R (zC (zD ?_))))
            by_cases I3 : k = 12
            ·
             refine kX 1 H (A9 U3 (H.e R) Am (AE (I3))) R λ a H => zA (zB (zH H R (zC (zD (kC 0 (Dh _ 9 0) (AA EQ Am Am) H R fun w9 a hb H => ?_)))))
             replace k0 := k0.ups hb; replace k1 := k1.ups hb; replace Aa := Aa.tr hb; clear hb
             refine kC 0 (Eh _ 3 0 15) (EH JH Am Am Am) H R fun w9 a hb H => ?_; replace k0 := k0.ups hb; replace k1 := k1.ups hb; replace Aa := Aa.tr hb; clear hb
             refine BP 96 2 #[(0, .agg #[J 9, J 4, J 0, J 1073741824]), (1, .agg #[J 3, J 1, J 0, J 15])] 99 #[J 9, J 4, J 0, J 1073741824, J 3, J 1, J 0, J 15] (by simp [Am, H.ev (j := 79) R, H.ev (j := 80) R]) (fun w => by kernel_rfl) fun w13 b13 Ak hb gF => ?_; have rO := Nat.le_trans Aa.size Ak; replace k0 := k0.ups hb; replace k1 := k1.ups hb; replace Aa := Aa.tr hb; clear hb; clear Ak; refine kL 1 H R λ a H => zA (zB (zF (AS (zJ ?_))))
             subst I3
             exact Ag H R R ⟨⟨some ⟨b13, 0, none⟩, R, BG gF R, fun b o e => by injection e with e; injection e with e; subst e; exact rO⟩, Aa⟩
            ·
             refine kX 1 H (A9 U3 (H.e R) Am (AF (I3))) R λ a H => zA (zB (zG H R (zE (AC (zB (zC (zD (kR 1 H R λ a H => zA (zB (zF ?_))))))))))
             have hL : Dv k = [] := Sl (by omega)
             rw [hL]
             exact Ag H R R ⟨⟨none, R, (fun j hj => absurd hj (by simp [FV, IV, J9])), fun b o e => by cases e⟩, Aa⟩
theorem EY : BI Tryz.prog 99 0 0 := fun b o w => by go_simp
theorem TM : BI Tryz.prog 99 1 1 := fun b o w => by go_simp
theorem Zk : BI Tryz.prog 99 2 2 := fun b o w => by go_simp
theorem Zj : BI Tryz.prog 99 3 3 := fun b o w => by go_simp
theorem Td (k : Int) : (IX k).length ≤ 1 := by
 unfold IX
 split
 · simp
 · split <;> simp
theorem MM (k : Int) : (Dv k).length ≤ 8 := by
 have := GC k
 have := Td k
 rw [Dv, List.length_append, List.length_map]
 omega
theorem Xg {w : World} {A : Option Addr} {xs : List Value} {n : Nat} (h : BJ w A xs) (hn : w.heap.size ≤ n) : ∀ b o, A = some ⟨b, o, none⟩ → 0 < xs.length → b < n := fun b o e hx => Nat.lt_of_lt_of_le (BJ.lt h e hx) hn
theorem BJ.away {w w' : World} {A : Option Addr} {xs : List Value} {n : Nat} (h : BJ w A xs) (hl : ∀ b o, A = some ⟨b, o, none⟩ → 0 < xs.length → b < n) (hb : Below n w w') : BJ w' A xs := fun j hj => by
 obtain ⟨q, o, he, hc⟩ := h j hj
 refine ⟨q, o, he, ?_⟩
 rw [← hc]
 exact hb.cell (p := ⟨q, o + j, none⟩) (hl q o he (by omega))
theorem Ir {k : Int} {L P : List (Nat × Nat × Nat × Nat)} {i : Nat} {x : Nat × Nat × Nat × Nat} (hP : Dv k = P) (hL : AH k = L) (h : P[i]? = some x) :
  (∃ s, L[i]? = some s ∧ x = LA s) ∨ (i = L.length ∧ P.length = i + 1 ∧ (2 ≤ k ∧ k ≤ 4) ∧ x = (11, 16, 0, 0)) ∨ (i = L.length ∧ P.length = i + 1 ∧ (5 ≤ k ∧ k ≤ 11) ∧ x = (12, 8, 0, 0)) := by
 subst hP hL
 unfold Dv at h ⊢
 by_cases hi : i < (AH k).length
 ·
  rw [List.getElem?_append_left (by simpa using hi), List.getElem?_map] at h
  cases hs : (AH k)[i]? with
  | none => rw [hs] at h; cases h
  | some s =>
   rw [hs] at h
   injection h with h
   exact .inl ⟨s, R, h.symm⟩
 ·
  rw [List.getElem?_append_right (by simpa using hi)] at h
  simp only [List.length_map] at h
  have ht := (List.getElem?_eq_some_iff.1 h).1
  have hl := Td k
  have e : i = (AH k).length := by omega
  have e0 : i - (AH k).length = 0 := by omega
  rw [e0] at h ht
  have hn : (Dv k).length = i + 1 := by rw [Dv, List.length_append, List.length_map]; omega
  unfold IX at h hl ht
  by_cases h1 : 2 ≤ k ∧ k ≤ 4
  ·
   rw [if_pos h1] at h
   injection h with h
   exact .inr (.inl ⟨e, hn, h1, h.symm⟩)
  ·
   rw [if_neg h1] at h
   by_cases h2 : 5 ≤ k ∧ k ≤ 11
   ·
    rw [if_pos h2] at h
    injection h with h
    exact .inr (.inr ⟨e, hn, h2, h.symm⟩)
   ·
    rw [if_neg h2] at h
    cases h
theorem OR {k : Int} {L P : List (Nat × Nat × Nat × Nat)} (hP : Dv k = P) (hL : AH k = L) : L.length ≤ P.length := by
 subst hP hL
 rw [Dv, List.length_append, List.length_map]
 omega
theorem Li {k : Int} {P : List (Nat × Nat × Nat × Nat)} (hP : Dv k = P) (h : P = []) : AH k = [] := by
 subst hP
 have := (List.append_eq_nil_iff.1 h).1
 simpa using this
theorem RQ {k : Int} (h : AH k = []) : ¬ (1 ≤ k ∧ k ≤ 12) := by
 intro ⟨h1, h2⟩
 have : k = 1 ∨ k = 2 ∨ k = 3 ∨ k = 4 ∨ k = 5 ∨ k = 6 ∨ k = 7 ∨ k = 8 ∨ k = 9 ∨ k = 10 ∨ k = 11 ∨ k = 12 := by omega
 rcases this with rfl | rfl | rfl | rfl | rfl | rfl | rfl | rfl | rfl | rfl | rfl | rfl <;> exact absurd h (by decide)
theorem Yl {k : Int} (h : ¬ (1 ≤ k ∧ k ≤ 12)) : IX k = [] := by
 unfold IX
 rw [if_neg (by omega), if_neg (by omega)]
theorem ML {k : Int} {P : List (Nat × Nat × Nat × Nat)} (hP : Dv k = P) (h : P ≠ []) : AH k ≠ [] := fun e => by
 subst hP
 exact h (by rw [Dv, e, Yl (RQ e)]; rfl)
/-- the packet that the document's Right has made of the first i pieces -/
def R2 (p : AZ) (L : List (Nat × Nat × Nat × Nat)) (i : Nat) : AZ := if i ≤ L.length then FF p L i else full p L
theorem I1 {p : AZ} {L : List (Nat × Nat × Nat × Nat)} {i : Nat} (h : i ≤ L.length) : R2 p L i = FF p L i := if_pos h
theorem No {p : AZ} {L : List (Nat × Nat × Nat × Nat)} : R2 p L (L.length + 1) = full p L := if_neg (by omega)
theorem Ri {p : AZ} {L : List (Nat × Nat × Nat × Nat)} (h : 2 ≤ p.fld 0 ∧ p.fld 0 ≤ 4) : full p L = ⟨BH p L L.length, p.sec, List.replicate 8 0⟩ := by
 rw [full, if_pos h, if_neg (by omega)]
theorem Mj {p : AZ} {L : List (Nat × Nat × Nat × Nat)} (h : 5 ≤ p.fld 0 ∧ p.fld 0 ≤ 11) : full p L = ⟨BH p L L.length, List.replicate 16 0, p.tg⟩ := by
 rw [full, if_neg (by omega), if_pos h]
theorem Vu {p : AZ} {L P : List (Nat × Nat × Nat × Nat)} (hP : Dv (p.fld 0) = P) (hL : AH (p.fld 0) = L) : R2 p L P.length = full p L := by
 subst hP hL
 unfold R2
 rw [Dv, List.length_append, List.length_map]
 unfold IX
 by_cases h1 : 2 ≤ p.fld 0 ∧ p.fld 0 ≤ 4
 · rw [if_pos h1, if_neg (by simp)]
 ·
  rw [if_neg h1]
  by_cases h2 : 5 ≤ p.fld 0 ∧ p.fld 0 ≤ 11
  · rw [if_pos h2, if_neg (by simp)]
  ·
   rw [if_neg h2, if_pos (by simp), full, if_neg h1, if_neg h2]
   rfl
theorem Zg {p : AZ} {L : List (Nat × Nat × Nat × Nat)} (hp : p.ok) : (full p L).ok := by
 refine ⟨Db _ _ _, ?_, ?_, (CE (i := L.length) hp).2.2.2⟩
 ·
  simp only [full]
  split
  · exact hp.2.1
  · rfl
 ·
  simp only [full]
  split
  · exact hp.2.2.1
  · rfl
theorem SJ {p : AZ} (hp : p.ok) (j : Nat) : -9223372036854775808 ≤ p.fld j ∧ p.fld j ≤ 9223372036854775807 := by
 by_cases hj : j < 12
 · exact hp.2.2.2 _ (List.mem_of_getElem? (AQ hp hj))
 ·
  have : p.fld j = 0 := by
   unfold AZ.fld
   rw [List.getD_eq_getElem?_getD, List.getElem?_eq_none (by rw [hp.1]; omega)]
   rfl
  omega
theorem Rz {p : AZ} {L : List (Nat × Nat × Nat × Nat)} {i m : Nat} {s : Nat × Nat × Nat × Nat} (hp : p.ok) (hs : L[i]? = some s) (hm : DW s.1 = m + 1) (KA : DW s.1 < 12) : pv ((FF p L i).set (m + 1) (p.fld (m + 1))) = pv (FF p L (i + 1)) := by
 rw [← hm, ← FA (CE hp) KA, O3 hs KA]
def Rr1 (W : World) (p : AZ) (L P : List (Nat × Nat × Nat × Nat)) (A : Option Addr) (b0 b1 : Nat) (a : Act) (w : World) : Prop :=
 ∃ i : Nat, Kn a 101 [(1, .pointer (some ⟨b0, 0, none⟩)), (3, .slice A P.length P.length), (4, .pointer (some ⟨b1, 0, none⟩)), (5, J (i : Nat))] ∧ i ≤ P.length ∧ (∀ j s, j < i → L[j]? = some s → ((s.2.2.1 : Nat) : Int) ≤ p.fld (DW s.1) ∧ p.fld (DW s.1) ≤ ((s.2.2.2 : Nat) : Int)) ∧ Ad w b0 36 (pv p) ∧ Ad w b1 36 (pv (R2 p L i)) ∧ BJ w A (FV Lo P) ∧ Below W.heap.size W w
theorem MA (w : World) (p : AZ) (hp : p.ok) : Calls Tryz.prog 70 #[.agg (pv p)] w fun e w' => e = .returned (.bool (Bg p)) ∧ Below w.heap.size w w' := by
 have Aa := Below.refl w.heap.size w
 refine Az 101 Tryz.func70 R R λ a H => zC (zD (B7 36 (.tmp 0) (pv p) (H.e R) fun w0 b0 Ak hb k0 => ?_))
 have g0 := Nat.le_trans Aa.size Ak; replace Aa := Aa.tr hb; clear hb Ak; refine kL 1 H rfl λ a H => zA (zB (zC (zD (kR 1 H rfl λ a H => kV H (Ai U3 rfl (H.ev rfl) (AB k0 (AQ hp (j := 0) (by omega)))) rfl λ a H => A8 _ _ _ (JM _ (p.fld 0)) (Av eO (H.ev rfl)) ?_))))
 rintro e w9 ⟨⟨A, rfl, hh, hA⟩, hb⟩; refine ⟨_, rfl, ?_⟩; replace k0 := k0.ups hb; replace Aa := Aa.tr hb; clear hb; obtain ⟨P, hP⟩ : ∃ P, Dv (p.fld 0) = P := ⟨_, rfl⟩; obtain ⟨L, hL⟩ : ∃ L, AH (p.fld 0) = L := ⟨_, rfl⟩; rw [hP] at hh; have vJ : P.length ≤ 8 := (by rw [← hP]; exact MM _); have HP := Lib.hid hP; have HL := Lib.hid hL; rw [hP]; clear hL hP hA; refine kL 1 H rfl λ a H => zA (zB (zC (zD (kR 1 H rfl λ a H => kV H (Ai U3 rfl (H.ev rfl) (AB k0 (AQ hp (j := 0) (by omega)))) rfl λ a H => kV (v := .agg (pv (FF p L 0))) H (WI (H.ev rfl)) rfl λ a H => Bj 36 (pv Ec) Jn fun w1 b1 Ak hb k1 => ?_))))
 have g1 := Nat.le_trans Aa.size Ak; have TK : b0 < b1 := Nat.lt_of_lt_of_le k0.lt Ak; have SH := Xg hh Ak; replace k0 := k0.ups hb; replace hh := Da hh hb; replace Aa := Aa.tr hb; clear hb; clear Ak; refine kl H rfl λ a H => AT 36 (.tmp 4) (.tmp 13) b1 36 (pv (FF p L 0)) _ (H.ev rfl) (H.ev rfl) k1 (AR (CE hp)) (by rw [AI Bz, AI (CE hp)]) (BU _) fun w' hb ho kq => ?_
 clear k1; have k1 := kq; replace k0 := Ae k0 (ho _ (by omega)); replace hh := BJ.away hh SH (hb _ (Nat.le_refl _)); replace Aa := Aa.trans (hb _ g1); clear hb ho kq; refine Dz H λ a H => zA (zB (zC (zC (zD (kR 1 H rfl λ a H => zA (zB (wp_block (wp_loop (Rr1 w p L P A b0 b1) (fun a _ => P.length - (intOf (a.eval (.tmp 5))).toNat) ⟨0, H.pick [1, 3, 4, 5], by omega, fun j s hj => by omega, k0, k1, hh, Aa⟩ ?_))))))))
 clear H Aa k0 k1 hh
 rintro a w' ⟨i, H, hi, Lm, k0, k1, hh, Aa⟩
 have H0 := H
 by_cases CM : i < P.length
 ·
  obtain ⟨b, o, Vd, hr⟩ := CK KE hh (by omega) CM
  subst Vd
  have eZ : b < b1 := SH b o rfl (by rw [Cu KE]; omega)
  have Sx : P[i]? = some P[i] := List.getElem?_eq_getElem CM
  rcases Ir HP.out HL.out Sx with ⟨s, hs, hx⟩ | ⟨TH, Xt, Ig, hx⟩ | ⟨TH, Xt, FQ, hx⟩
  ·
   rw [hx] at hr
   clear hx Sx
   have KA := Nr (show (AH (p.fld 0))[i]? = some s by rw [HL.out]; exact hs)
   have vI := Nq (show (AH (p.fld 0))[i]? = some s by rw [HL.out]; exact hs)
   have TH : i < L.length := (List.getElem?_eq_some_iff.1 hs).1
   obtain ⟨m, hm⟩ : ∃ m, DW s.1 = m + 1 := ⟨DW s.1 - 1, by omega⟩
   have ZW : Lo (LA s) = [((m : Nat) : Int), ((s.2.1 : Nat) : Int), ((s.2.2.1 : Nat) : Int), ((s.2.2.2 : Nat) : Int)] := by simp [Lo, LA, hm]
   rw [ZW] at hr
   clear ZW
   have HLS := Lib.hid hs
   have HS := Lib.hid (show (AH (p.fld 0))[i]? = some s by rw [HL.out]; exact hs)
   clear hs
   rw [I1 (by omega)] at k1
   refine zC (zC (zD (kR 2 H R λ a H => kV H (Ba I6 (H.e R)) R λ a H => kV H (By U3 (H.e R) (H.e R) dT) R λ a H => zA (zB (zH H R (zE (zB (zC (wp_block (zC (zD (kR 2 H R λ a H => kV H (Bq (j := i) (q := o + i * 4) I6 J7 (H.e R) (H.e R) (by omega) R) R λ a H => kV H (Br (q := o + i * 4) EY (H.e R) R) R λ a H => kV H (Ai U3 R (H.e R) (Bo hr 0 R)) R λ a H => zA (zB (wp_block (zC (zD (kX 1 H (A9 U3 (H.e R) Am dF) R λ a H => zA (zB (zG H R (zC (zD (kX 1 H (A9 U3 (H.e R) Am dF) R λ a H => zA (zB (zG H R (zC (rB 8 (Dn [0, 1, 2, 3, 4, 5] (.one 6 (.fl 7 .done))) fun hS => kE 2 (v := .agg (pv p)) H R R (fun w' Aj => Af b0 36 _ _ (H.e R) (Ad.ups k0 Aj) C1 R (AR hp)) R λ a H => kF H R R (fun w' Aj => Bq (j := i) (q := o + i * 4) I6 J7 (H.e R) (H.e R) (by omega) R) R λ a H => kF H R R (fun w' Aj => Br (q := o + i * 4) EY (H.e R) R) R λ a H => kF H R R (fun w' Aj => Ai U3 R (H.e R) (Bo (BQ hr Aj) 0 R)) R λ a H => Al (fun K hK => A7 R (kD (Qq _ p m _ R hp (by omega)) (AA jV (H.e R) (H.e R)) fun w9 hb => ?_))))))))))))))))))))))))))))
   replace hS := Below.trans hS (Below.mono hb (Below.size hS)); clear hb; refine kS 1 hK hS H rfl λ a H => ?_; clear hK K
   refine Aw (NoPanic.normal ?_)
   replace k0 := Ad.ups k0 hS
   replace k1 := Ad.ups k1 hS
   replace hh := Da hh hS
   replace hr := BQ hr hS
   replace Aa := Aa.trans (Below.mono hS Aa.size)
   clear hS
   refine zB (zC (zC (zD (kR 3 H R λ a H => kV H (Bq (j := i) (q := o + i * 4) I6 J7 (H.e R) (H.e R) (by omega) R) R λ a H => kV H (Br (q := o + i * 4 + 2) Zk (H.e R) R) R λ a H => kV H (Ai U3 R (H.e R) (Bo hr 2 R)) R λ a H => ?_))))
   by_cases BE : (p.fld (m + 1)) < ((s.2.2.1 : Nat) : Int)
   ·
    exact kX 9 H (By U3 (H.e R) (H.e R) (AE (BE))) R λ a H => zA (zB (zH H R (zC (zD (kR 1 H R λ a H => zA (zB (zF (zJ (AS (AS (zJ (zJ (AS (zJ (Ag H R R ⟨by rw [Ju HS.out (by rw [hm]; omega)]; first | done | rfl, Aa⟩)))))))))))))))
   ·
    refine kX 4 H (By U3 (H.e R) (H.e R) (AF (BE))) R λ a H => kW H R (Bq (j := i) (q := o + i * 4) I6 J7 (H.e R) (H.e R) (by omega) R) R λ a H => kW H R (Br (q := o + i * 4 + 3) Zj (H.e R) R) R λ a H => kW H R (Ai U3 R (H.e R) (Bo hr 3 R)) R λ a H => ?_
    by_cases Cn : (p.fld (m + 1)) > ((s.2.2.2 : Nat) : Int)
    ·
     exact kY 1 H R (CU U3 (H.e R) (H.e R) (AE (Cn))) R λ a H => zA (zB (zH H R (zC (zD (kR 1 H R λ a H => zA (zB (zF (zJ (AS (AS (zJ (zJ (AS (zJ (Ag H R R ⟨by rw [Ju HS.out (by rw [hm]; omega)]; first | done | rfl, Aa⟩)))))))))))))))
    ·
     refine kY 1 H R (CU U3 (H.e R) (H.e R) (AF (Cn))) R λ a H => zA (zB (zG H R (zE (zB (rB 8 (Dn [0, 1, 2, 3, 4, 5, 6] (.one 7 (.one 8 .done))) fun hS => kE 2 (v := .agg (pv (FF p L i))) H R R (fun w' Aj => Af b1 36 _ _ (H.e R) (Ad.ups k1 Aj) C1 R (AR (CE hp))) R λ a H => kF H R R (fun w' Aj => Bq (j := i) (q := o + i * 4) I6 J7 (H.e R) (H.e R) (by omega) R) R λ a H => kF H R R (fun w' Aj => Br (q := o + i * 4) EY (H.e R) R) R λ a H => kE 1 H R R (fun w' Aj => Ai U3 R (H.e R) (Bo (BQ hr Aj) 0 R)) R λ a H => Al (fun K hK => A7 R (kD (NK _ (FF p L i) m _ (p.fld (m + 1)) R (CE hp) (by omega) (SJ hp _)) (EH jT (H.e R) (H.e R) (H.e R)) fun w9 hb => ?_)))))))
     rw [Rz hp HLS.out hm KA]; replace hS := Below.trans hS (Below.mono hb (Below.size hS)); clear hb; refine kS 0 hK hS H rfl λ a H => ?_; clear hK K
     refine Al (fun K hK => ?_)
     replace k0 := Ad.ups k0 hS
     replace k1 := Ad.ups k1 hS
     replace hh := Da hh hS
     replace hr := BQ hr hS
     replace Aa := Aa.trans (Below.mono hS Aa.size)
     refine A7 R (CW 36 (.tmp 4) (.tmp 55) b1 36 (pv (FF p L (i + 1))) _ (H.e R) (H.e R) k1 (AR (CE hp)) (by rw [AI (CE hp), AI (CE hp)]) (BU _) fun w' hb ho kq => ?_); clear k1; have k1 := kq; replace k0 := Ae k0 (ho _ (by omega)); replace hh := BJ.away hh SH (hb _ (Nat.le_refl _)); replace Aa := Aa.trans (hb _ g1); clear hb ho kq; refine hK _ _ ⟨(fun h => absurd R h), ?_⟩; clear hK K hS
     refine Aw (NoPanic.normal (AC (AC (zB (zD (kR 1 H R λ a H => kX 1 H (Bm (q := ((i + 1 : Nat) : Int)) U3 (H.e R) Am) R λ a H => zA ?_))))))
     have Xs : ∀ j s, j < i + 1 → L[j]? = some s → ((s.2.2.1 : Nat) : Int) ≤ p.fld (DW s.1) ∧ p.fld (DW s.1) ≤ ((s.2.2.2 : Nat) : Int) := Ra Lm HLS.out (by rw [hm]; omega) (by rw [hm]; omega)
     refine zI ⟨⟨i + 1, H.pick [1, 3, 4, 5], by omega, Xs, k0, by rw [I1 (by omega)]; exact k1, hh, Aa⟩, ?_⟩
     rw [H.ev (j := 5) rfl, H0.ev (j := 5) rfl]
     simp only [intOf]
     omega
  ·
   rw [hx] at hr
   clear hx Sx
   rw [I1 (by omega)] at k1
   refine zC (zC (zD (kR 2 H R λ a H => kV H (Ba I6 (H.e R)) R λ a H => kV H (By U3 (H.e R) (H.e R) dT) R λ a H => zA (zB (zH H R (zE (zB (zC (wp_block (zC (zD (kR 2 H R λ a H => kV H (Bq (j := i) (q := o + i * 4) I6 J7 (H.e R) (H.e R) (by omega) R) R λ a H => kV H (Br (q := o + i * 4) EY (H.e R) R) R λ a H => kV H (Ai U3 R (H.e R) (Bo hr 0 R)) R λ a H => zA (zB (wp_block (zC (zD (kX 1 H (A9 U3 (H.e R) Am dT) R λ a H => zA (zB (zH H R (zD (kR 1 H R λ a H => kX 1 (v := .agg (p.sec.map u8v).toArray) H (AL (cs := p.sec.map u8v) (H.e R) (IW k0 hp) (by kernel_rfl) (by rw [List.length_map, hp.2.1]; exact Ft) R) R λ a H => Cp 33 (.tmp 60) (.tmp 59) b1 12 36 (p.sec.map u8v).toArray _ (H.e R) (H.e R) k1 (by rw [List.size_toArray, List.length_map, hp.2.1]; exact Ft) (by rw [AI (CE hp), List.size_toArray, List.length_map, hp.2.1]; omega) (bytes_one _) fun w' hb ho kq => ?_)))))))))))))))))))))
   clear k1; have k1 := Th (Db p L _) (by rw [List.length_replicate, hp.2.1]) kq; replace k0 := Ae k0 (ho _ (by omega)); replace hh := BJ.away hh SH (hb _ (Nat.le_refl _)); replace Aa := Aa.trans (hb _ g1); clear hb ho kq; refine Dz H λ a H => zA (AC (AC (zB (zD (kR 1 H rfl λ a H => kX 1 H (Bm (q := ((i + 1 : Nat) : Int)) U3 (H.ev rfl) Am) rfl λ a H => zA ?_)))))
   have Xs : ∀ j s, j < i + 1 → L[j]? = some s → ((s.2.2.1 : Nat) : Int) ≤ p.fld (DW s.1) ∧ p.fld (DW s.1) ≤ ((s.2.2.2 : Nat) : Int) := fun j s hj hs => Lm j s (by have := (List.getElem?_eq_some_iff.1 hs).1; omega) hs
   refine zI ⟨⟨i + 1, H.pick [1, 3, 4, 5], by omega, Xs, k0, by rw [show i + 1 = L.length + 1 by omega, No, Ri Ig, ← TH]; exact k1, hh, Aa⟩, ?_⟩
   rw [H.ev (j := 5) rfl, H0.ev (j := 5) rfl]
   simp only [intOf]
   omega
  ·
   rw [hx] at hr
   clear hx Sx
   rw [I1 (by omega)] at k1
   refine zC (zC (zD (kR 2 H R λ a H => kV H (Ba I6 (H.e R)) R λ a H => kV H (By U3 (H.e R) (H.e R) dT) R λ a H => zA (zB (zH H R (zE (zB (zC (wp_block (zC (zD (kR 2 H R λ a H => kV H (Bq (j := i) (q := o + i * 4) I6 J7 (H.e R) (H.e R) (by omega) R) R λ a H => kV H (Br (q := o + i * 4) EY (H.e R) R) R λ a H => kV H (Ai U3 R (H.e R) (Bo hr 0 R)) R λ a H => zA (zB (wp_block (zC (zD (kX 1 H (A9 U3 (H.e R) Am dF) R λ a H => zA (zB (zG H R (zC (zD (kX 1 H (A9 U3 (H.e R) Am dT) R λ a H => zA (zB (zH H R (zD (kR 1 H R λ a H => kX 1 (v := .agg (p.tg.map u8v).toArray) H (AL (cs := p.tg.map u8v) (H.e R) (JE k0 hp) (by kernel_rfl) (by rw [List.length_map, hp.2.2.1]; exact LN) R) R λ a H => Cp 34 (.tmp 65) (.tmp 64) b1 28 36 (p.tg.map u8v).toArray _ (H.e R) (H.e R) k1 (by rw [List.size_toArray, List.length_map, hp.2.2.1]; exact LN) (by rw [List.size_toArray, List.length_map, hp.2.2.1, AI (CE hp)]; omega) (bytes_one _) fun w' hb ho kq => ?_))))))))))))))))))))))))))
   clear k1; have k1 := Mr (Db p L _) rfl (by rw [List.length_replicate, hp.2.2.1]) kq; replace k0 := Ae k0 (ho _ (by omega)); replace hh := BJ.away hh SH (hb _ (Nat.le_refl _)); replace Aa := Aa.trans (hb _ g1); clear hb ho kq; refine Dz H λ a H => zA (AC (AC (zB (zD (kR 1 H rfl λ a H => kX 1 H (Bm (q := ((i + 1 : Nat) : Int)) U3 (H.ev rfl) Am) rfl λ a H => zA ?_)))))
   have Xs : ∀ j s, j < i + 1 → L[j]? = some s → ((s.2.2.1 : Nat) : Int) ≤ p.fld (DW s.1) ∧ p.fld (DW s.1) ≤ ((s.2.2.2 : Nat) : Int) := fun j s hj hs => Lm j s (by have := (List.getElem?_eq_some_iff.1 hs).1; omega) hs
   refine zI ⟨⟨i + 1, H.pick [1, 3, 4, 5], by omega, Xs, k0, by rw [show i + 1 = L.length + 1 by omega, No, Mj FQ, ← TH]; exact k1, hh, Aa⟩, ?_⟩
   rw [H.ev (j := 5) rfl, H0.ev (j := 5) rfl]
   simp only [intOf]
   omega
 ·
  obtain rfl : i = P.length := by omega
  clear hh
  rw [Vu HP.out HL.out] at k1
  obtain ⟨F, hF⟩ : ∃ F, full p L = F := ⟨_, rfl⟩
  have VD : F.ok := by rw [← hF]; exact Zg hp
  rw [hF] at k1
  have HF := Lib.hid hF
  clear hF
  have SC : ∀ (j : Nat) s, (AH (p.fld 0))[j]? = some s → ((s.2.2.1 : Nat) : Int) ≤ p.fld (DW s.1) ∧ p.fld (DW s.1) ≤ ((s.2.2.2 : Nat) : Int) := fun j s hj => Lm j s (by have := OR HP.out HL.out; have := (List.getElem?_eq_some_iff.1 hj).1; rw [HL.out] at this; omega) (by rw [← HL.out]; exact hj)
  clear Lm
  refine zC (zC (zD (kR 2 H R λ a H => kV H (Ba I6 (H.e R)) R λ a H => kV H (By U3 (H.e R) (H.e R) dF) R λ a H => zA (zB (zG H R (wp_exit (AJ (AJ (BD (zB (zC (zD (kR 1 H R λ a H => kV H (Ai U3 R (H.e R) (AB k0 (AQ hp (j := 0) (by omega)))) R λ a H => ?_)))))))))))))
  by_cases CP : (p.fld 0) = 8
  ·
   refine kX 2 H (A9 U3 (H.e R) Am (AE (CP))) R λ a H => kW H R (Ai U3 R (H.e R) (AB k0 (AQ hp (j := 3) (by omega)))) R λ a H => ?_
   by_cases DJ : (p.fld 3) = 0
   ·
    refine kY 2 H R (A9 U3 (H.e R) Am (AE (DJ))) R λ a H => zA (zB (zC ?_))
    by_cases Ek : P = []
    ·
     exact zD (kR 1 H R λ a H => kV H (Ba I6 (H.e R)) R λ a H => kX 25 H (CU U3 (H.e R) Am (AF (by simp [Ek]))) R λ a H => zA (zB (zF (Ag H R R ⟨by rw [Du (Li HP.out Ek)]; first | done | rfl, Aa⟩))))
    ·
     have vK : 0 < P.length := List.length_pos_iff.2 Ek
     have Yb := ML HP.out Ek
     by_cases he : F = p
     ·
      obtain ⟨v1, v2, v3, v4, v5, v6⟩ := DH (p := p) (by assumption) SC
      refine zD (kR 1 H R λ a H => kV H (Ba I6 (H.e R)) R λ a H => kX 1 H (CU U3 (H.e R) Am dT) R λ a H => kG H R (kV (v := .agg (pv F)) H (Af b1 36 _ _ (H.e R) k1 C1 R (AR VD)) R λ a H => kG H R (kV (v := .agg (pv p)) H (Af b0 36 _ _ (H.e R) k0 C1 R (AR hp)) R λ a H => kG H R (kX 3 (v := .bool true) H (Cd VD hp (H.e R) (H.e R) (decide_eq_true he)) R λ a H => kY 2 H R (Bs (H.e R) R) R λ a H => kW H R (Ai U3 R (H.e R) (AB k0 (AQ hp (j := 7) (by omega)))) R λ a H => ?_))))
      by_cases Em : (p.fld 7) = 0
      ·
       refine kY 2 H R (A9 U3 (H.e R) Am (AE (Em))) R λ a H => kW H R (Ai U3 R (H.e R) (AB k0 (AQ hp (j := 5) (by omega)))) R λ a H => ?_
       by_cases Fg : (p.fld 5) = 0
       ·
        refine kY 3 H R (A9 U3 (H.e R) Am (AE (Fg))) R λ a H => kW H R (Ai U3 R (H.e R) (AB k0 (AQ hp (j := 6) (by omega)))) R λ a H => ?_
        by_cases F3 : (p.fld 6) = 0
        ·
         exact kY 4 H R (A9 U3 (H.e R) Am (AE (F3))) R λ a H => zA (zB (zF (Ag H R R ⟨by rw [CB ⟨Yb, SC, by rw [HL.out, HF.out]; exact he, by omega⟩]; first | done | rfl, Aa⟩)))
        ·
         exact kY 4 H R (A9 U3 (H.e R) Am (AF (F3))) R λ a H => zA (zB (zF (Ag H R R ⟨by rw [FP (by omega)]; first | done | rfl, Aa⟩)))
       ·
        exact kY 9 H R (A9 U3 (H.e R) Am (AF (Fg))) R λ a H => zA (zB (zF (Ag H R R ⟨by rw [FP (by omega)]; first | done | rfl, Aa⟩)))
      ·
       exact kY 13 H R (A9 U3 (H.e R) Am (AF (Em))) R λ a H => zA (zB (zF (Ag H R R ⟨by rw [FP (by omega)]; first | done | rfl, Aa⟩)))
     ·
      exact zD (kR 1 H R λ a H => kV H (Ba I6 (H.e R)) R λ a H => kX 1 H (CU U3 (H.e R) Am dT) R λ a H => kG H R (kV (v := .agg (pv F)) H (Af b1 36 _ _ (H.e R) k1 C1 R (AR VD)) R λ a H => kG H R (kV (v := .agg (pv p)) H (Af b0 36 _ _ (H.e R) k0 C1 R (AR hp)) R λ a H => kG H R (kX 21 (v := .bool false) H (Cd VD hp (H.e R) (H.e R) (decide_eq_false he)) R λ a H => zA (zB (zF (Ag H R R ⟨by rw [Dt (by rw [HL.out, HF.out]; exact he)]; first | done | rfl, Aa⟩)))))))
   ·
    refine kY 2 H R (A9 U3 (H.e R) Am (AF (DJ))) R λ a H => zA (zB (zC ?_))
    by_cases Ek : P = []
    ·
     exact zD (kR 1 H R λ a H => kV H (Ba I6 (H.e R)) R λ a H => kX 25 H (CU U3 (H.e R) Am (AF (by simp [Ek]))) R λ a H => zA (zB (zF (Ag H R R ⟨by rw [Du (Li HP.out Ek)]; first | done | rfl, Aa⟩))))
    ·
     have vK : 0 < P.length := List.length_pos_iff.2 Ek
     have Yb := ML HP.out Ek
     by_cases he : F = p
     ·
      obtain ⟨v1, v2, v3, v4, v5, v6⟩ := DH (p := p) (by assumption) SC
      exact zD (kR 1 H R λ a H => kV H (Ba I6 (H.e R)) R λ a H => kX 1 H (CU U3 (H.e R) Am dT) R λ a H => kG H R (kV (v := .agg (pv F)) H (Af b1 36 _ _ (H.e R) k1 C1 R (AR VD)) R λ a H => kG H R (kV (v := .agg (pv p)) H (Af b0 36 _ _ (H.e R) k0 C1 R (AR hp)) R λ a H => kG H R (kX 3 (v := .bool true) H (Cd VD hp (H.e R) (H.e R) (decide_eq_true he)) R λ a H => kY 17 H R (Bs (H.e R) R) R λ a H => zA (zB (zF (Ag H R R ⟨by rw [CB ⟨Yb, SC, by rw [HL.out, HF.out]; exact he, by omega⟩]; first | done | rfl, Aa⟩)))))))
     ·
      exact zD (kR 1 H R λ a H => kV H (Ba I6 (H.e R)) R λ a H => kX 1 H (CU U3 (H.e R) Am dT) R λ a H => kG H R (kV (v := .agg (pv F)) H (Af b1 36 _ _ (H.e R) k1 C1 R (AR VD)) R λ a H => kG H R (kV (v := .agg (pv p)) H (Af b0 36 _ _ (H.e R) k0 C1 R (AR hp)) R λ a H => kG H R (kX 21 (v := .bool false) H (Cd VD hp (H.e R) (H.e R) (decide_eq_false he)) R λ a H => zA (zB (zF (Ag H R R ⟨by rw [Dt (by rw [HL.out, HF.out]; exact he)]; first | done | rfl, Aa⟩)))))))
  ·
   refine kX 6 H (A9 U3 (H.e R) Am (AF (CP))) R λ a H => zA (zB (zC ?_))
   by_cases Ek : P = []
   ·
    exact zD (kR 1 H R λ a H => kV H (Ba I6 (H.e R)) R λ a H => kX 25 H (CU U3 (H.e R) Am (AF (by simp [Ek]))) R λ a H => zA (zB (zF (Ag H R R ⟨by rw [Du (Li HP.out Ek)]; first | done | rfl, Aa⟩))))
   ·
    have vK : 0 < P.length := List.length_pos_iff.2 Ek
    have Yb := ML HP.out Ek
    by_cases he : F = p
    ·
     exact zD (kR 1 H R λ a H => kV H (Ba I6 (H.e R)) R λ a H => kX 1 H (CU U3 (H.e R) Am dT) R λ a H => kG H R (kV (v := .agg (pv F)) H (Af b1 36 _ _ (H.e R) k1 C1 R (AR VD)) R λ a H => kG H R (kV (v := .agg (pv p)) H (Af b0 36 _ _ (H.e R) k0 C1 R (AR hp)) R λ a H => kG H R (kX 3 (v := .bool true) H (Cd VD hp (H.e R) (H.e R) (decide_eq_true he)) R λ a H => kY 17 H R (Bs (H.e R) R) R λ a H => zA (zB (zF (Ag H R R ⟨by rw [CB ⟨Yb, SC, by rw [HL.out, HF.out]; exact he, by omega⟩]; first | done | rfl, Aa⟩)))))))
    ·
     exact zD (kR 1 H R λ a H => kV H (Ba I6 (H.e R)) R λ a H => kX 1 H (CU U3 (H.e R) Am dT) R λ a H => kG H R (kV (v := .agg (pv F)) H (Af b1 36 _ _ (H.e R) k1 C1 R (AR VD)) R λ a H => kG H R (kV (v := .agg (pv p)) H (Af b0 36 _ _ (H.e R) k0 C1 R (AR hp)) R λ a H => kG H R (kX 21 (v := .bool false) H (Cd VD hp (H.e R) (H.e R) (decide_eq_false he)) R λ a H => zA (zB (zF (Ag H R R ⟨by rw [Dt (by rw [HL.out, HF.out]; exact he)]; first | done | rfl, Aa⟩)))))))
theorem Qh (w : World) (p : AZ) (hp : p.ok) (h : Bg p = true) : Calls Tryz.prog 70 #[.agg (pv p)] w fun e w' => e = .returned (.bool true) ∧ Below w.heap.size w w' := by
 have := MA w p hp
 rwa [h] at this
theorem Qi (w : World) (p : AZ) (hp : p.ok) (h : ¬ Bg p = true) : Calls Tryz.prog 70 #[.agg (pv p)] w fun e w' => e = .returned (.bool false) ∧ Below w.heap.size w w' := by
 have := MA w p hp
 rwa [show Bg p = false by simpa using h] at this
/-- the bytes of the first i pieces -/
def P0 (p : AZ) (L : List (Nat × Nat × Nat × Nat)) (i : Nat) : List B8 := if i ≤ L.length then Fb p L i else Cx p
theorem Jz {p : AZ} {L : List (Nat × Nat × Nat × Nat)} {i : Nat} (h : i ≤ L.length) : P0 p L i = Fb p L i := if_pos h
theorem Ou {p : AZ} {L : List (Nat × Nat × Nat × Nat)} : P0 p L (L.length + 1) = Cx p := if_neg (by omega)
theorem X4 {p : AZ} {L P : List (Nat × Nat × Nat × Nat)} (hP : Dv (p.fld 0) = P) (hL : AH (p.fld 0) = L) : P0 p L P.length = Cx p := by
 subst hP hL
 unfold P0
 rw [Dv, List.length_append, List.length_map]
 unfold IX
 by_cases h1 : 2 ≤ p.fld 0 ∧ p.fld 0 ≤ 4
 · rw [if_pos h1, if_neg (by simp)]
 ·
  rw [if_neg h1]
  by_cases h2 : 5 ≤ p.fld 0 ∧ p.fld 0 ≤ 11
  · rw [if_pos h2, if_neg (by simp)]
  ·
   rw [if_neg h2, if_pos (by simp), Cx, if_neg h1, if_neg h2]
   simp
def Rn1 (W : World) (p : AZ) (L P : List (Nat × Nat × Nat × Nat)) (A : Option Addr) (b0 : Nat) (a : Act) (w : World) : Prop :=
 ∃ (i : Nat) (Ao : Option Addr) (co : Nat), Kn a 55 [(1, .pointer (some ⟨b0, 0, none⟩)), (4, .slice Ao (P0 p L i).length co), (5, .slice A P.length P.length), (6, J (i : Nat))] ∧ i ≤ P.length ∧ Dg w (b0 + 1) (.slice Ao (P0 p L i).length co) (P0 p L i) ∧ Ad w b0 36 (pv p) ∧ (i < P.length → BJ w A (FV Lo P)) ∧ Below W.heap.size W w
theorem MF (w : World) (p : AZ) (hp : p.ok) : Calls Tryz.prog 39 #[.agg (pv p)] w fun e w' => ((Bg p = true ∧ ∃ A c, e = .returned (.tuple #[.slice A (Cx p).length c, J 0]) ∧ Dg w' w.heap.size (.slice A (Cx p).length c) (Cx p)) ∨ (Bg p = false ∧ e = .returned (.tuple #[.slice none 0 0, J 1]))) ∧ Below w.heap.size w w' := by
 have Aa := Below.refl w.heap.size w
 refine Az 55 Tryz.func39 R R λ a H => zC (zD (B7 36 (.tmp 0) (pv p) (H.e R) fun w0 b0 Ak hb k0 => ?_))
 have g0 := Nat.le_trans Aa.size Ak; replace Aa := Aa.tr hb; clear hb Ak; refine kL 2 H rfl λ a H => zA (zB (zC (zC ?_)))
 by_cases hR : Bg p = true
 ·
  refine zD (kV (v := .agg (pv p)) H (Af b0 36 _ _ (H.e R) k0 C1 R (AR hp)) R λ a H => kC 0 (Qh _ p hp hR) (Av Z1 (H.e R)) H R fun w9 a hb H => ?_)
  replace k0 := k0.ups hb; replace Aa := Aa.tr hb; clear hb
  refine kV H (Bs (H.e R) R) R λ a H => zA (zB (zG H R (zE (zB (zC (zD (kR 1 H R λ a H => kV H (Ai U3 R (H.e R) (AB k0 (AQ hp (j := 0) (by omega)))) R λ a H => kV H (Me U3 U5 (H.e R)) R λ a H => BP 30 1 #[(0, u8v (BitVec.ofInt 8 (p.fld 0)))] 5 #[u8v (BitVec.ofInt 8 (p.fld 0))] (by simp [H.ev (j := 12) R]) (fun w => by kernel_rfl) fun w1 bo Ak hb ko => ?_)))))))
  have Ah : Dg _ (b0 + 1) (.slice (some ⟨bo, 0, none⟩) 1 1) [BitVec.ofInt 8 (p.fld 0)] := QC ko (Nat.le_trans k0.lt Ak); replace k0 := k0.ups hb; replace Aa := Aa.tr hb; clear hb Ak ko; refine kL 1 H rfl λ a H => zA (zB (zC (zD (kR 1 H rfl λ a H => kV H (Ai U3 rfl (H.ev rfl) (AB k0 (AQ hp (j := 0) (by omega)))) rfl λ a H => A8 _ _ _ (JM _ (p.fld 0)) (Av eO (H.ev rfl)) ?_))))
  rintro e w9 ⟨⟨A, rfl, hh, hA⟩, hb⟩; refine ⟨_, rfl, ?_⟩; replace k0 := k0.ups hb; replace Ah := Bh Ah hb; replace Aa := Aa.tr hb; clear hb; obtain ⟨P, hP⟩ : ∃ P, Dv (p.fld 0) = P := ⟨_, rfl⟩; obtain ⟨L, hL⟩ : ∃ L, AH (p.fld 0) = L := ⟨_, rfl⟩; rw [hP] at hh; have vJ : P.length ≤ 8 := (by rw [← hP]; exact MM _); have Yb : L.length ≤ 6 := (by rw [← hL]; exact GC _); have HP := Lib.hid hP; have HL := Lib.hid hL; rw [hP]; clear hL hP hA; refine kL 1 H rfl λ a H => zA (zB (zC (zC (zD (kR 1 H rfl λ a H => zA (zB (wp_block (wp_loop (Rn1 w p L P A b0) (fun a _ => P.length - (intOf (a.eval (.tmp 6))).toNat) ⟨0, some ⟨bo, 0, none⟩, 1, H.pick [1, 4, 5, 6], by omega, Ah, k0, fun _ => hh, Aa⟩ ?_))))))))
  clear H Aa k0 Ah hh
  rintro a w' ⟨i, Ao, co, H, hi, Ah, k0, hh, Aa⟩
  have H0 := H
  by_cases CM : i < P.length
  ·
   replace hh := hh CM
   obtain ⟨b, o, Vd, hr⟩ := CK KE hh (by omega) CM
   subst Vd
   have Sx : P[i]? = some P[i] := List.getElem?_eq_getElem CM
   rcases Ir HP.out HL.out Sx with ⟨s, hs, hx⟩ | ⟨TH, Xt, Ig, hx⟩ | ⟨TH, Xt, FQ, hx⟩
   ·
    rw [hx] at hr
    clear hx Sx
    have KA := Nr (show (AH (p.fld 0))[i]? = some s by rw [HL.out]; exact hs)
    have vI := Nq (show (AH (p.fld 0))[i]? = some s by rw [HL.out]; exact hs)
    have If := Gz (show (AH (p.fld 0))[i]? = some s by rw [HL.out]; exact hs)
    have TH : i < L.length := (List.getElem?_eq_some_iff.1 hs).1
    obtain ⟨m, hm⟩ : ∃ m, DW s.1 = m + 1 := ⟨DW s.1 - 1, by omega⟩
    have ZW : Lo (LA s) = [((m : Nat) : Int), ((s.2.1 : Nat) : Int), ((s.2.2.1 : Nat) : Int), ((s.2.2.2 : Nat) : Int)] := by simp [Lo, LA, hm]
    rw [ZW] at hr
    clear ZW
    have HLS := Lib.hid hs
    clear hs
    rw [Jz (by omega)] at H Ah
    have qR := G2 (i := i) HL.out (by omega)
    refine zC (zC (zD (kR 2 H R λ a H => kV H (Ba I6 (H.e R)) R λ a H => kV H (By U3 (H.e R) (H.e R) dT) R λ a H => zA (zB (zH H R (zE (zB (zC (wp_block (zC (zD (kR 2 H R λ a H => kV H (Bq (j := i) (q := o + i * 4) I6 J7 (H.e R) (H.e R) (by omega) R) R λ a H => kV H (Br (q := o + i * 4) EY (H.e R) R) R λ a H => kV H (Ai U3 R (H.e R) (Bo hr 0 R)) R λ a H => zA (zB (wp_block (zC (zD (kX 1 H (A9 U3 (H.e R) Am dF) R λ a H => zA (zB (zG H R (zC (zD (kX 1 H (A9 U3 (H.e R) Am dF) R λ a H => zA (zB (zG H R (rB 15 (Dn [0, 1, 2, 3, 4, 5, 6, 8, 9, 10, 11, 12] (.one 7 (.one 13 (.fl 14 .done)))) fun hS => kQ 1 H R λ a H => kE 2 (v := .agg (pv p)) H R R (fun w' Aj => Af b0 36 _ _ (H.e R) (Ad.ups k0 Aj) C1 R (AR hp)) R λ a H => kF H R R (fun w' Aj => Bq (j := i) (q := o + i * 4) I6 J7 (H.e R) (H.e R) (by omega) R) R λ a H => kF H R R (fun w' Aj => Br (q := o + i * 4) EY (H.e R) R) R λ a H => kE 2 H R R (fun w' Aj => Ai U3 R (H.e R) (Bo (BQ hr Aj) 0 R)) R λ a H => kF H R R (fun w' Aj => Bq (j := i) (q := o + i * 4) I6 J7 (H.e R) (H.e R) (by omega) R) R λ a H => kF H R R (fun w' Aj => Br (q := o + i * 4 + 1) TM (H.e R) R) R λ a H => kF H R R (fun w' Aj => Ai U3 R (H.e R) (Bo (BQ hr Aj) 1 R)) R λ a H => ?_)))))))))))))))))))))))))
    refine Al (fun K hK => A7 R (kD (Qq _ p m _ R hp (by omega)) (AA jV (H.e R) (H.e R)) fun w9 hb => ?_))
    replace hS := Below.trans hS (Below.mono hb (Below.size hS)); clear hb; refine kS 0 hK hS H rfl λ a H => ?_; clear hK K
    refine Al (fun K hK => A7 R (CQ _ _ _ (Wv _ _ (Fb p L i) (p.fld (m + 1)) s.2.1 _ R (Dg.row (Bh Ah hS)) (by omega) (by omega) (by omega)) (EH sS (H.e R) (H.e R) (H.e R)) ?_))
    rintro e w9 ⟨⟨D, A3, c3, I5, rfl, Bv⟩, hb⟩; refine ⟨_, rfl, ?_⟩; have Cq := DA Bv (show b0 + 1 ≤ D by rw [I5]; exact Nat.le_trans k0.lt (Below.size hS)); clear Ah Bv I5; replace hS := Below.trans hS (Below.mono hb (Below.size hS)); clear hb; refine kS 1 hK hS H rfl λ a H => ?_; clear hK K
    refine Aw (NoPanic.normal ?_)
    replace k0 := Ad.ups k0 hS
    replace hr := BQ hr hS
    replace hh := Da hh hS
    replace Aa := Aa.trans (Below.mono hS Aa.size)
    clear hS
    refine AC (AC (zB (zD (kR 1 H R λ a H => kX 1 H (Bm (q := ((i + 1 : Nat) : Int)) U3 (H.e R) Am) R λ a H => zA ?_))))
    rw [← hm, ← JU HLS.out, ← Jz (p := p) (L := L) (i := i + 1) (by omega)] at H Cq
    refine zI ⟨⟨i + 1, _, _, H.pick [1, 4, 5, 6], by omega, Cq, k0, fun _ => hh, Aa⟩, ?_⟩
    rw [H.ev (j := 6) rfl, H0.ev (j := 6) rfl]
    simp only [intOf]
    omega
   ·
    rw [hx] at hr
    clear hx Sx hh
    rw [Jz (by omega)] at H Ah
    have qR := G2 (i := i) HL.out (by omega)
    refine zC (zC (zD (kR 2 H R λ a H => kV H (Ba I6 (H.e R)) R λ a H => kV H (By U3 (H.e R) (H.e R) dT) R λ a H => zA (zB (zH H R (zE (zB (zC (wp_block (zC (zD (kR 2 H R λ a H => kV H (Bq (j := i) (q := o + i * 4) I6 J7 (H.e R) (H.e R) (by omega) R) R λ a H => kV H (Br (q := o + i * 4) EY (H.e R) R) R λ a H => kV H (Ai U3 R (H.e R) (Bo hr 0 R)) R λ a H => zA (zB (wp_block (zC (zD (kX 1 H (A9 U3 (H.e R) Am dT) R λ a H => zA (zB (zH H R (zD (kR 2 H R λ a H => kV (v := .slice (some ⟨b0, 12, none⟩) 16 16) H (CN (b := b0) (o := 12) RG s5 (H.e R) (by omega)) R λ a H => ?_)))))))))))))))))))))
    have D3 : b0 + 1 ≤ _ := k0.lt; refine BX 30 5 (.tmp 44) (.tmp 46) (b0 + 1) (.int .u8 0) 1 1 _ _ _ (some ⟨b0, 12, none⟩) 16 16 (p.sec.map u8v) (H.ev rfl) (H.ev rfl) CO i5 rfl (by omega) Ah (by rw [List.length_map, hp.2.1]) (Gd (IW k0 hp)) (CC _) (by unfold maxLen; omega) (by omega) D3 fun o2 w9 AU F0 Fz Cb => ?_; have Bv := G5 hp.2.1 AU; replace k0 := Ad.up k0 Cb (by omega); replace Aa := Aa.trans (Cb.mono (by omega)); clear D3 Ah AU F0 Fz Cb hr; have Ah := Bv; clear Bv; obtain ⟨A4, c4, GK⟩ := BZ Ah; subst GK; refine kl H rfl λ a H => ?_
    refine kR 1 H R λ a H => zA (AC (AC (zB (zD (kR 1 H R λ a H => kX 1 H (Bm (q := ((i + 1 : Nat) : Int)) U3 (H.e R) Am) R λ a H => zA ?_)))))
    rw [show Fb p L i ++ p.sec = P0 p L (i + 1) by rw [show i + 1 = L.length + 1 by omega, Ou, FD HL.out, if_pos Ig, if_neg (by omega), List.append_nil, TH]] at H Ah
    refine zI ⟨⟨i + 1, _, _, H.pick [1, 4, 5, 6], by omega, Ah, k0, fun h => absurd h (by omega), Aa⟩, ?_⟩
    rw [H.ev (j := 6) rfl, H0.ev (j := 6) rfl]
    simp only [intOf]
    omega
   ·
    rw [hx] at hr
    clear hx Sx hh
    rw [Jz (by omega)] at H Ah
    have qR := G2 (i := i) HL.out (by omega)
    refine zC (zC (zD (kR 2 H R λ a H => kV H (Ba I6 (H.e R)) R λ a H => kV H (By U3 (H.e R) (H.e R) dT) R λ a H => zA (zB (zH H R (zE (zB (zC (wp_block (zC (zD (kR 2 H R λ a H => kV H (Bq (j := i) (q := o + i * 4) I6 J7 (H.e R) (H.e R) (by omega) R) R λ a H => kV H (Br (q := o + i * 4) EY (H.e R) R) R λ a H => kV H (Ai U3 R (H.e R) (Bo hr 0 R)) R λ a H => zA (zB (wp_block (zC (zD (kX 1 H (A9 U3 (H.e R) Am dF) R λ a H => zA (zB (zG H R (zC (zD (kX 1 H (A9 U3 (H.e R) Am dT) R λ a H => zA (zB (zH H R (zD (kR 2 H R λ a H => kV (v := .slice (some ⟨b0, 28, none⟩) 8 8) H (CN (b := b0) (o := 28) XU s5 (H.e R) (by omega)) R λ a H => ?_))))))))))))))))))))))))))
    have D3 : b0 + 1 ≤ _ := k0.lt; refine BX 30 5 (.tmp 50) (.tmp 52) (b0 + 1) (.int .u8 0) 1 1 _ _ _ (some ⟨b0, 28, none⟩) 8 8 (p.tg.map u8v) (H.ev rfl) (H.ev rfl) CO i5 rfl (by omega) Ah (by rw [List.length_map, hp.2.2.1]) (Gd (JE k0 hp)) (CC _) (by unfold maxLen; omega) (by omega) D3 fun o2 w9 AU F0 Fz Cb => ?_; have Bv := G5 hp.2.2.1 AU; replace k0 := Ad.up k0 Cb (by omega); replace Aa := Aa.trans (Cb.mono (by omega)); clear D3 Ah AU F0 Fz Cb hr; have Ah := Bv; clear Bv; obtain ⟨A4, c4, GK⟩ := BZ Ah; subst GK; refine kl H rfl λ a H => ?_
    refine kR 1 H R λ a H => zA (AC (AC (zB (zD (kR 1 H R λ a H => kX 1 H (Bm (q := ((i + 1 : Nat) : Int)) U3 (H.e R) Am) R λ a H => zA ?_)))))
    rw [show Fb p L i ++ p.tg = P0 p L (i + 1) by rw [show i + 1 = L.length + 1 by omega, Ou, FD HL.out, if_neg (by omega), if_pos FQ, List.append_nil, TH]] at H Ah
    refine zI ⟨⟨i + 1, _, _, H.pick [1, 4, 5, 6], by omega, Ah, k0, fun h => absurd h (by omega), Aa⟩, ?_⟩
    rw [H.ev (j := 6) rfl, H0.ev (j := 6) rfl]
    simp only [intOf]
    omega
  ·
   obtain rfl : i = P.length := by omega
   clear hh
   rw [X4 HP.out HL.out] at H Ah
   exact zC (zC (zD (kR 2 H R λ a H => kV H (Ba I6 (H.e R)) R λ a H => kV H (By U3 (H.e R) (H.e R) dF) R λ a H => zA (zB (zG H R (wp_exit (AJ (AJ (BD (zB (zC (zD (kR 3 H R λ a H => zA (zB (zF (GJ H R R R ⟨.inl ⟨hR, _, _, R, DA Ah (by omega)⟩, Aa⟩))))))))))))))))
 ·
  refine zD (kV (v := .agg (pv p)) H (Af b0 36 _ _ (H.e R) k0 C1 R (AR hp)) R λ a H => kC 0 (Qi _ p hp hR) (Av Z1 (H.e R)) H R fun w9 a hb H => ?_)
  replace k0 := k0.ups hb; replace Aa := Aa.tr hb; clear hb
  exact kV H (Bs (H.e R) R) R λ a H => zA (zB (zH H R (zC (zD (kR 2 H R λ a H => zA (zB (zF (zJ (GJ H R R R ⟨.inr ⟨by simpa using hR, R⟩, Aa⟩)))))))))
theorem IQ {w w' : World} {b o br : Nat} {cs : List Value} (h : w.rangeAt b o cs) (hg : w.grownBy w' (some br)) (Fh : br < b) : w'.rangeAt b o cs := fun j v hv => by
 have h1 := h j v hv
 have CM := World.block_lt_of_cell? w _ h1
 rw [← h1]
 unfold World.cell?
 rw [hg.block b CM (by simp; omega)]
theorem B9.same1 {w w' : World} {g o n c : Nat} {bs : List B8} (h : B9 w (.slice (some ⟨g, o, none⟩) n c) bs) (hs : w'.heap[g]? = w.heap[g]?) : B9 w' (.slice (some ⟨g, o, none⟩) n c) bs := by
 obtain ⟨A', c', e, h1, h2, h3, hh⟩ := h
 injection e with e1 e2 e3
 subst e1 e3
 exact ⟨_, _, by rw [e2], h1, h2, h3, BJ.same1 hh hs⟩
theorem Pg {k : Int} {L P : List (Nat × Nat × Nat × Nat)} {i : Nat} {x : Nat × Nat × Nat × Nat} (hP : Dv k = P) (hL : AH k = L) (h : P[i]? = some x) : i ≤ L.length := by
 rcases Ir hP hL h with ⟨s, hs, _⟩ | ⟨h, _⟩ | ⟨h, _⟩
 · exact Nat.le_of_lt (List.getElem?_eq_some_iff.1 hs).1
 · omega
 · omega
/-- what the document's Decode has read of the first i pieces -/
def P3 (L : List (Nat × Nat × Nat × Nat)) (bs : List B8) (kd i : Nat) : (List B8 × Bool) × AZ := if i ≤ L.length then LG L bs kd i else F4 bs
theorem HM {L : List (Nat × Nat × Nat × Nat)} {bs : List B8} {kd i : Nat} (h : i ≤ L.length) : P3 L bs kd i = LG L bs kd i := if_pos h
theorem Ow {L : List (Nat × Nat × Nat × Nat)} {bs : List B8} {kd : Nat} : P3 L bs kd (L.length + 1) = F4 bs := if_neg (by omega)
theorem X6 {L P : List (Nat × Nat × Nat × Nat)} {bs : List B8} {kd : Nat} (hk : E0 (GZ bs false 1) = kd) (hP : Dv ((kd : Nat) : Int) = P) (hL : AH ((kd : Nat) : Int) = L) : P3 L bs kd P.length = F4 bs := by
 have e := Gv hk hL rfl
 subst hP hL
 unfold P3
 rw [Dv, List.length_append, List.length_map]
 unfold IX
 by_cases h1 : 2 ≤ ((kd : Nat) : Int) ∧ ((kd : Nat) : Int) ≤ 4
 · rw [if_pos h1, if_neg (by simp)]
 ·
  rw [if_neg h1]
  by_cases h2 : 5 ≤ ((kd : Nat) : Int) ∧ ((kd : Nat) : Int) ≤ 11
  · rw [if_pos h2, if_neg (by simp)]
  ·
   rw [if_neg h2, if_pos (by simp), e, if_neg h2, if_neg h1]
   simp
theorem P2 (bs : List B8) : (F4 bs).2.ok := by
 have hk : E0 (GZ bs false 1) < 281474976710656 := K1 (Nat.le_trans (EU _ _ _) (by omega))
 have h := P1 (bs := bs) (i := (AH ((E0 (GZ bs false 1) : Nat) : Int)).length) rfl hk
 rw [Gv (bs := bs) rfl rfl rfl]
 split
 ·
  split
  · exact OL (M5 h)
  · exact OL h
 ·
  split
  · exact M5 h
  · exact h
theorem PN {out old : List B8} {k : Nat} {y : B8} (hy : out[k]? = some y) (hk : k < old.length) (hl : out.length ≤ old.length) : (out.take k ++ old.drop k).set k y = out.take (k + 1) ++ old.drop (k + 1) := by
 obtain ⟨qE, rfl⟩ := List.getElem?_eq_some_iff.1 hy
 rw [List.set_append_right _ _ (by rw [List.length_take]; omega), List.length_take, show k - min k out.length = 0 by omega, List.drop_eq_getElem_cons hk, List.set_cons_zero, List.take_succ_eq_append_getElem qE, List.append_assoc]
 rfl
theorem Wn {p : AZ} {out : List B8} {k : Nat} {y : B8} (hp : p.ok) (hl : out.length ≤ 16) (hy : out[k]? = some y) : C3 (pv ⟨p.n, out.take k ++ p.sec.drop k, p.tg⟩) (12 + k) (u8v y).cells.toList = pv ⟨p.n, out.take (k + 1) ++ p.sec.drop (k + 1), p.tg⟩ := by
 have qE := (List.getElem?_eq_some_iff.1 hy).1
 have h2 := hp.2.1
 rw [← PN hy (by omega) (by omega)]
 show C3 _ _ [u8v y] = _
 rw [FL]
 simp only [pv, EI, List.setIfInBounds_toArray]
 congr 1
 rw [List.append_assoc, List.append_assoc, List.set_append_right _ _ (by rw [List.length_map, hp.1]; omega), List.length_map, hp.1, List.set_append_left _ _ (by rw [List.length_map, List.length_append, List.length_take, List.length_drop]; omega), show 12 + k - 12 = k by omega, List.map_set]
theorem Tc {p : AZ} {out : List B8} {k : Nat} {y : B8} (hp : p.ok) (hl : out.length ≤ 8) (hy : out[k]? = some y) : C3 (pv ⟨p.n, p.sec, out.take k ++ p.tg.drop k⟩) (28 + k) (u8v y).cells.toList = pv ⟨p.n, p.sec, out.take (k + 1) ++ p.tg.drop (k + 1)⟩ := by
 have qE := (List.getElem?_eq_some_iff.1 hy).1
 have h2 := hp.2.2.1
 rw [← PN hy (by omega) (by omega)]
 show C3 _ _ [u8v y] = _
 rw [FL]
 simp only [pv, EI, List.setIfInBounds_toArray]
 congr 1
 rw [List.set_append_right _ _ (by rw [List.length_append, List.length_map, List.length_map, hp.1, hp.2.1]; omega), List.length_append, List.length_map, List.length_map, hp.1, hp.2.1, show 28 + k - (12 + 16) = k by omega, List.map_set]
def mD (W : World) (x : (List B8 × Bool) × AZ) (T : List B8 × Bool) (P : List (Nat × Nat × Nat × Nat)) (b o b0 br b1 i : Nat) (Ax : Option Addr) (cx : Nat) (out : List B8) (a : Act) (w : World) : Prop :=
 ∃ k : Nat, Kn a 89 [(2, .pointer (some ⟨b0, 0, none⟩)), (3, J 0), (4, .pointer (some ⟨br, 0, none⟩)), (5, .pointer (some ⟨b1, 0, none⟩)), (6, .slice (some ⟨b, o, none⟩) P.length P.length), (7, J (i : Nat)), (8, .slice Ax out.length cx), (9, J (k : Nat))] ∧ k ≤ out.length ∧ Ad w b0 36 (pv Ec) ∧ Ad w b1 36 (pv ⟨x.2.n, out.take k ++ x.2.sec.drop k, x.2.tg⟩) ∧ Rd w br 123 T.1 T.2 ∧ B9 w (.slice Ax out.length cx) out ∧ BJ w (some ⟨b, o, none⟩) (FV Lo P) ∧ Below W.heap.size W w
def uH (W : World) (x : (List B8 × Bool) × AZ) (T : List B8 × Bool) (P : List (Nat × Nat × Nat × Nat)) (b o b0 br b1 i : Nat) (Ax : Option Addr) (cx : Nat) (out : List B8) (a : Act) (w : World) : Prop :=
 ∃ k : Nat, Kn a 89 [(2, .pointer (some ⟨b0, 0, none⟩)), (3, J 0), (4, .pointer (some ⟨br, 0, none⟩)), (5, .pointer (some ⟨b1, 0, none⟩)), (6, .slice (some ⟨b, o, none⟩) P.length P.length), (7, J (i : Nat)), (10, .slice Ax out.length cx), (11, J (k : Nat))] ∧ k ≤ out.length ∧ Ad w b0 36 (pv Ec) ∧ Ad w b1 36 (pv ⟨x.2.n, x.2.sec, out.take k ++ x.2.tg.drop k⟩) ∧ Rd w br 123 T.1 T.2 ∧ B9 w (.slice Ax out.length cx) out ∧ BJ w (some ⟨b, o, none⟩) (FV Lo P) ∧ Below W.heap.size W w
def Ro1 (W : World) (bs : List B8) (kd : Nat) (L P : List (Nat × Nat × Nat × Nat)) (A : Option Addr) (b0 br b1 : Nat) (a : Act) (w : World) : Prop :=
 ∃ i : Nat, Kn a 89 [(2, .pointer (some ⟨b0, 0, none⟩)), (3, J 0), (4, .pointer (some ⟨br, 0, none⟩)), (5, .pointer (some ⟨b1, 0, none⟩)), (6, .slice A P.length P.length), (7, J (i : Nat))] ∧ i ≤ P.length ∧ Ad w b0 36 (pv Ec) ∧ Ad w b1 36 (pv (P3 L bs kd i).2) ∧ Rd w br 123 (P3 L bs kd i).1.1 (P3 L bs kd i).1.2 ∧ BJ w A (FV Lo P) ∧ Below W.heap.size W w
theorem Qu (w : World) (v : Value) (bs : List B8) (hr : B9 w v bs) (hn : bs.length ≤ 1000000) : Calls Tryz.prog 41 #[v] w fun e w' => e = .returned (.tuple #[.agg (pv (GQ bs)), J (ID bs)]) ∧ Below w.heap.size w w' := by
 have Aa := Below.refl w.heap.size w
 refine Az 89 Tryz.func41 R R λ a H => zC (zD (Bj 36 (pv Ec) Jn fun w0 b0 Ak hb k0 => ?_))
 have g0 := Nat.le_trans Aa.size Ak; replace Aa := Aa.tr hb; clear hb Ak; refine kL 1 H rfl λ a H => zA (zB (zC (zD (kR 1 H rfl λ a H => A8 _ _ _ (U8 _ v bs (B9.up hr Aa) hn) (Av sR (H.ev rfl)) ?_))))
 rintro e w9 ⟨⟨br, rfl, Ak, BR⟩, hb⟩; refine ⟨_, rfl, ?_⟩; have h0r : b0 < br := Nat.lt_of_lt_of_le k0.lt Ak; have gr := Nat.le_trans Aa.size Ak; replace k0 := k0.ups hb; replace Aa := Aa.tr hb; clear hb; clear Ak; refine kL 1 H rfl λ a H => zA (zB (zC (zD (kR 1 H rfl λ a H => A8 _ _ _ (Qj _ br 1 bs false _ rfl BR hn (by omega) (by omega)) (AA jU (H.ev rfl) Am) ?_))))
 rintro e w9 ⟨⟨rfl, Fo⟩, hg⟩; refine ⟨_, rfl, ?_⟩; clear BR; have BR := Fo; clear Fo; replace k0 := Ad.grown k0 hg (by simp; omega); replace Aa := DB Aa hg gr; clear hg; obtain ⟨kd, Xn⟩ : ∃ kd, E0 (GZ bs false 1) = kd := ⟨_, rfl⟩; have YZ : kd < 281474976710656 := (by rw [← Xn]; exact K1 (Nat.le_trans (EU _ _ _) (by omega))); rw [Xn]; have HKD := Lib.hid Xn; clear Xn; refine kl H rfl λ a H => kV (v := .agg (pv (XX kd))) H (ZR (H.ev rfl)) rfl λ a H => Bj 36 (pv Ec) Jn fun w1 b1 Ak hb k1 => ?_
 have g1 := Nat.le_trans Aa.size Ak; have TK : b0 < b1 := Nat.lt_of_lt_of_le k0.lt Ak; have VB : br < b1 := Nat.lt_of_lt_of_le BR.lt Ak; replace k0 := k0.ups hb; replace BR := Rd.up BR hb; replace Aa := Aa.tr hb; clear hb; clear Ak; refine kl H rfl λ a H => AT 36 (.tmp 5) (.tmp 16) b1 36 (pv (XX kd)) _ (H.ev rfl) (H.ev rfl) k1 (AR (MT YZ)) (by rw [AI Bz, AI (MT YZ)]) (BU _) fun w' hb ho kq => ?_
 clear k1; have k1 := kq; replace k0 := Ae k0 (ho _ (by omega)); replace BR := Rd.far BR (hb _ (Nat.le_refl _)) VB; replace Aa := Aa.trans (hb _ g1); clear hb ho kq; refine Dz H λ a H => zA (zB (zC (zD (kR 1 H rfl λ a H => kV H (Ai U3 rfl (H.ev rfl) (AB k1 rfl)) rfl λ a H => A8 _ _ _ (JM _ (kd : Nat)) (Av eO (H.ev rfl)) ?_))))
 rintro e w9 ⟨⟨A, rfl, hh, hA⟩, hb⟩; refine ⟨_, rfl, ?_⟩; have SH : ∀ b o, A = some ⟨b, o, none⟩ → b1 < b := fun b o e => Nat.lt_of_lt_of_le k1.lt (hA b o e); clear hA; replace k0 := k0.ups hb; replace BR := Rd.up BR hb; replace k1 := k1.ups hb; replace Aa := Aa.tr hb; clear hb; obtain ⟨P, hP⟩ : ∃ P, Dv ((kd : Nat) : Int) = P := ⟨_, rfl⟩; obtain ⟨L, hL⟩ : ∃ L, AH ((kd : Nat) : Int) = L := ⟨_, rfl⟩; rw [hP] at hh; have vJ : P.length ≤ 8 := (by rw [← hP]; exact MM _); have Yb : L.length ≤ 6 := (by rw [← hL]; exact GC _); have HP := Lib.hid hP; have HL := Lib.hid hL; rw [hP]; clear hL hP; refine kL 1 H rfl λ a H => zA (zB (zC (zC (zD (kR 1 H rfl λ a H => zA (zB (wp_block (wp_loop (Ro1 w bs kd L P A b0 br b1) (fun a _ => P.length - (intOf (a.eval (.tmp 7))).toNat) ⟨0, H.pick [2, 3, 4, 5, 6, 7], by omega, k0, by rw [HM (by omega)]; exact k1, by rw [HM (by omega)]; exact BR, hh, Aa⟩ ?_))))))))
 clear H Aa k0 k1 hh BR
 rintro a w' ⟨i, H, hi, k0, k1, BR, hh, Aa⟩
 have H0 := H
 by_cases CM : i < P.length
 ·
  obtain ⟨b, o, Vd, hr⟩ := CK KE hh (by omega) CM
  subst Vd
  have hb1 := SH b o rfl
  have Sx : P[i]? = some P[i] := List.getElem?_eq_getElem CM
  have aB := Pg HP.out HL.out Sx
  rw [HM aB] at k1 BR
  have EJ := P1 (bs := bs) (i := i) HL.out YZ
  have UU := TT (kd := kd) (i := i) (L := L) hn
  obtain ⟨x, V9⟩ : ∃ x, LG L bs kd i = x := ⟨_, rfl⟩
  rw [V9] at k1 BR EJ UU
  have HX := Lib.hid V9
  clear V9
  rcases Ir HP.out HL.out Sx with ⟨s, hs, hx⟩ | ⟨TH, Xt, Ig, hx⟩ | ⟨TH, Xt, FQ, hx⟩
  ·
   rw [hx] at hr
   clear hx Sx
   have KA := Nr (show (AH ((kd : Nat) : Int))[i]? = some s by rw [HL.out]; exact hs)
   have vI := Nq (show (AH ((kd : Nat) : Int))[i]? = some s by rw [HL.out]; exact hs)
   have If := Gz (show (AH ((kd : Nat) : Int))[i]? = some s by rw [HL.out]; exact hs)
   have TH : i < L.length := (List.getElem?_eq_some_iff.1 hs).1
   obtain ⟨m, hm⟩ : ∃ m, DW s.1 = m + 1 := ⟨DW s.1 - 1, by omega⟩
   have ZW : Lo (LA s) = [((m : Nat) : Int), ((s.2.1 : Nat) : Int), ((s.2.2.1 : Nat) : Int), ((s.2.2.2 : Nat) : Int)] := by simp [Lo, LA, hm]
   rw [ZW] at hr
   clear ZW
   have HLS := Lib.hid hs
   clear hs
   refine zC (zC (zD (kR 2 H R λ a H => kV H (Ba I6 (H.e R)) R λ a H => kV H (By U3 (H.e R) (H.e R) dT) R λ a H => zA (zB (zH H R (zE (zB (zC (wp_block (zC (zD (kR 2 H R λ a H => kV H (Bq (j := i) (q := o + i * 4) I6 J7 (H.e R) (H.e R) (by omega) R) R λ a H => kV H (Br (q := o + i * 4) EY (H.e R) R) R λ a H => kV H (Ai U3 R (H.e R) (Bo hr 0 R)) R λ a H => zA (zB (wp_block (zC (zD (kX 1 H (A9 U3 (H.e R) Am dF) R λ a H => zA (zB (zG H R (zC (zD (kX 1 H (A9 U3 (H.e R) Am dF) R λ a H => zA (zB (zG H R ?_))))))))))))))))))))))))
   have Bc := Aa
   have hS : Dq br (E4 Bc) _ := Fx _ _
   refine rT (Dq br (E4 Bc)) 14 (Dn [0, 1, 2, 3, 4, 5, 6, 7, 8, 9, 10, 11] (.one 12 (.one 13 (.one 14 .done)))) hS ?_
   replace BR := Rd.up BR (Below.drew (Below.refl _ _))
   refine kE 2 (v := .agg (pv x.2)) H R R (fun w' Aj => Af b1 36 _ _ (H.e R) (Ad.grown k1 Aj (by simp; omega)) C1 R (AR EJ)) R λ a H => kF H R R (fun w' Aj => Bq (j := i) (q := o + i * 4) I6 J7 (H.e R) (H.e R) (by omega) R) R λ a H => kF H R R (fun w' Aj => Br (q := o + i * 4) EY (H.e R) R) R λ a H => kE 3 H R R (fun w' Aj => Ai U3 R (H.e R) (Bo (IQ hr Aj (by omega)) 0 R)) R λ a H => kF H R R (fun w' Aj => Bq (j := i) (q := o + i * 4) I6 J7 (H.e R) (H.e R) (by omega) R) R λ a H => kF H R R (fun w' Aj => Br (q := o + i * 4 + 1) TM (H.e R) R) R λ a H => kF H R R (fun w' Aj => Ai U3 R (H.e R) (Bo (IQ hr Aj (by omega)) 1 R)) R λ a H => Al (fun K hK => A7 R (CQ _ _ _ (Qj _ br s.2.1 x.1.1 x.1.2 _ R BR UU If.1 If.2) (AA jU (H.e R) (H.e R)) ?_))
   rintro e w9 ⟨⟨rfl, Fo⟩, hg⟩; refine ⟨_, rfl, ?_⟩; clear BR; have BR := Fo; clear Fo; replace hS := EP hS hg; clear hg; refine kS 0 hK hS H rfl λ a H => ?_; clear hK K
   refine Al (fun K hK => A7 R (kD (NK _ x.2 m _ ((E0 (GZ x.1.1 x.1.2 s.2.1) : Nat) : Int) R EJ (by omega) (Sq _ _ If.2)) (EH jT (H.e R) (H.e R) (H.e R)) fun w9 hb => ?_))
   rw [show (x.2.set (m + 1) ((E0 (GZ x.1.1 x.1.2 s.2.1) : Nat) : Int)) = (Zs x s).2 by rw [Zs, hm]]; replace BR := Rd.up BR hb; replace hS := CA hS hb; clear hb; refine kS 0 hK hS H rfl λ a H => ?_; clear hK K
   refine Al (fun K hK => ?_)
   replace k0 := Ad.grown k0 hS (by simp; omega)
   replace k1 := Ad.grown k1 hS (by simp; omega)
   replace hh := BJ.grown1 hh hS (by omega)
   replace hr := IQ hr hS (by omega)
   replace Aa := DB Aa hS gr
   refine A7 R ?_; have vF : (Zs x s).2.ok := Cg EJ (Sq _ _ If.2); refine CW 36 (.tmp 5) (.tmp 44) b1 36 (pv (Zs x s).2) _ (H.e R) (H.e R) k1 (AR vF) (by rw [AI EJ, AI vF]) (BU _) fun w' hb ho kq => ?_; clear k1; have k1 := kq; replace hh := BJ.same1 hh (ho _ (by omega)); replace k0 := Ae k0 (ho _ (by omega)); replace BR := Rd.far BR (hb _ (Nat.le_refl _)) VB; replace Aa := Aa.trans (hb _ g1); clear hb ho kq; clear hr; refine hK _ _ ⟨(fun h => absurd R h), ?_⟩; clear hK K hS
   refine Aw (NoPanic.normal (AC (AC (zB (zD (kR 1 H R λ a H => kX 1 H (Bm (q := ((i + 1 : Nat) : Int)) U3 (H.e R) Am) R λ a H => zA ?_))))))
   have MZ : LG L bs kd (i + 1) = Zs x s := by rw [GP HLS.out, HX.out]
   refine zI ⟨⟨i + 1, H.pick [2, 3, 4, 5, 6, 7], by omega, k0, by rw [HM (by omega), MZ]; exact k1, by rw [HM (by omega), MZ]; exact BR, hh, Aa⟩, ?_⟩
   rw [H.ev (j := 7) rfl, H0.ev (j := 7) rfl]
   simp only [intOf]
   omega
  ·
   rw [hx] at hr
   clear hx Sx
   refine zC (zC (zD (kR 2 H R λ a H => kV H (Ba I6 (H.e R)) R λ a H => kV H (By U3 (H.e R) (H.e R) dT) R λ a H => zA (zB (zH H R (zE (zB (zC (wp_block (zC (zD (kR 2 H R λ a H => kV H (Bq (j := i) (q := o + i * 4) I6 J7 (H.e R) (H.e R) (by omega) R) R λ a H => kV H (Br (q := o + i * 4) EY (H.e R) R) R λ a H => kV H (Ai U3 R (H.e R) (Bo hr 0 R)) R λ a H => zA (zB (wp_block (zC (zD (kX 1 H (A9 U3 (H.e R) Am dT) R λ a H => zA (zB (zH H R (zC (zD (kR 1 H R λ a H => A8 _ _ _ (JL _ br 16 x.1.1 x.1.2 _ R BR UU) (AA eN (H.e R) Am) ?_))))))))))))))))))))))
   rintro e w9 ⟨⟨v1, rfl, AY, Fo, Pq⟩, hg⟩; refine ⟨_, rfl, ?_⟩; clear BR; have BR := Fo; clear Fo; replace k0 := Ad.grown k0 hg (by simp; omega); have rK := k1.lt; replace k1 := Ad.grown k1 hg (by simp; omega); replace hh := BJ.grown1 hh hg (by omega); clear hr; replace Aa := DB Aa hg gr; clear hg; obtain ⟨out, EX⟩ : ∃ out, GZ x.1.1 x.1.2 16 = out := ⟨_, rfl⟩; have QU : out.length ≤ 16 := (by rw [← EX]; exact EU _ _ _); rw [EX] at AY; have HO := Lib.hid EX; clear EX; obtain ⟨Ax, cx, hv⟩ := ER AY; subst hv; refine kL 1 H rfl λ a H => zA (zB (zC (zD (kR 1 H rfl λ a H => zA (zB (wp_block (wp_loop (mD w x (IJ x.1 16) P b o b0 br b1 i Ax cx out) (fun a _ => out.length - (intOf (a.eval (.tmp 9))).toNat) ⟨0, H.pick [2, 3, 4, 5, 6, 7, 8, 9], by omega, k0, by simpa using k1, BR, AY, hh, Aa⟩ ?_)))))))
   clear H Aa k0 k1 hh BR AY
   rintro a w' ⟨k, H, hk, k0, k1, BR, AY, hh, Aa⟩
   have H1 := H
   by_cases qC : k < out.length
   ·
    obtain ⟨x0, o2, Ze⟩ := G4 AY (by omega)
    subst Ze
    have V9 : b1 < x0 := Nat.lt_of_lt_of_le rK (Pq x0 o2 _ _ rfl)
    obtain ⟨y, hy⟩ : ∃ y, out[k]? = some y := ⟨_, List.getElem?_eq_getElem qC⟩
    have HY := Lib.hid hy
    clear hy
    have dA : AZ.ok ⟨x.2.n, out.take k ++ x.2.sec.drop k, x.2.tg⟩ := ⟨EJ.1, by have := EJ.2.1; simp only [List.length_append, List.length_take, List.length_drop]; omega, EJ.2.2.1, EJ.2.2.2⟩
    refine zC (zC (zD (kR 2 H R λ a H => kV H (Ba CO (H.e R)) R λ a H => kV H (By U3 (H.e R) (H.e R) dT) R λ a H => zA (zB (zH H R (zE (zB (zC (wp_block (zD (kR 3 H R λ a H => kV H (Bq (j := k) (q := o2 + k) CO s5 (H.e R) (H.e R) (by omega) (by omega)) R λ a H => kX 1 H (Ai U5 R (H.e R) (Ew AY HY.out (by omega))) R λ a H => kV H (C2 (j := k) (q := 12 + k) RG s5 (H.e R) (H.e R) (by omega) (by omega)) R λ a H => AP 5 (.tmp 61) (.tmp 59) b1 (12 + k) 36 (u8v y) _ (H.e R) (H.e R) k1 s5 (by rw [AI dA]; show 12 + k + 1 ≤ 36; omega) (KT _) fun w' hb ho kq => ?_)))))))))))
    clear k1; have k1 := kq; rw [Wn EJ (by omega) HY.out] at k1; replace hh := BJ.same1 hh (ho _ (by omega)); replace AY := B9.same1 AY (ho _ (by omega)); replace k0 := Ae k0 (ho _ (by omega)); replace BR := Rd.far BR (hb _ (Nat.le_refl _)) VB; replace Aa := Aa.trans (hb _ g1); clear hb ho kq; refine Dz H λ a H => zA (AC (zB (zD (kR 1 H rfl λ a H => kX 1 H (Bm (q := ((k + 1 : Nat) : Int)) U3 (H.ev rfl) Am) rfl λ a H => zA (zI ⟨⟨k + 1, H.pick [2, 3, 4, 5, 6, 7, 8, 9], by omega, k0, k1, BR, AY, hh, Aa⟩, ?_⟩)))))
    rw [H.ev (j := 9) rfl, H1.ev (j := 9) rfl]
    simp only [intOf]
    omega
   ·
    obtain rfl : k = out.length := by omega
    clear AY
    rw [List.take_length] at k1
    refine zC (zC (zD (kR 2 H R λ a H => kV H (Ba CO (H.e R)) R λ a H => kV H (By U3 (H.e R) (H.e R) dF) R λ a H => zA (zB (zG H R (wp_exit (AJ (AJ (BD (AC (AC (zB (zD (kR 1 H R λ a H => kX 1 H (Bm (q := ((i + 1 : Nat) : Int)) U3 (H.e R) Am) R λ a H => zA ?_))))))))))))))
    have MZ : P3 L bs kd (i + 1) = JD x := by rw [show i + 1 = L.length + 1 by omega, Ow, Gv (x := x) HKD.out HL.out (by rw [← TH]; exact HX.out), if_neg (by omega), if_pos Ig]
    refine zI ⟨⟨i + 1, H.pick [2, 3, 4, 5, 6, 7], by omega, k0, by rw [MZ, JD, HO.out]; exact k1, by rw [MZ]; exact BR, hh, Aa⟩, ?_⟩
    rw [H.ev (j := 7) rfl, H0.ev (j := 7) rfl]
    simp only [intOf]
    omega
  ·
   rw [hx] at hr
   clear hx Sx
   refine zC (zC (zD (kR 2 H R λ a H => kV H (Ba I6 (H.e R)) R λ a H => kV H (By U3 (H.e R) (H.e R) dT) R λ a H => zA (zB (zH H R (zE (zB (zC (wp_block (zC (zD (kR 2 H R λ a H => kV H (Bq (j := i) (q := o + i * 4) I6 J7 (H.e R) (H.e R) (by omega) R) R λ a H => kV H (Br (q := o + i * 4) EY (H.e R) R) R λ a H => kV H (Ai U3 R (H.e R) (Bo hr 0 R)) R λ a H => zA (zB (wp_block (zC (zD (kX 1 H (A9 U3 (H.e R) Am dF) R λ a H => zA (zB (zG H R (zC (zD (kX 1 H (A9 U3 (H.e R) Am dT) R λ a H => zA (zB (zH H R (zC (zD (kR 1 H R λ a H => A8 _ _ _ (JL _ br 8 x.1.1 x.1.2 _ R BR UU) (AA eN (H.e R) Am) ?_)))))))))))))))))))))))))))
   rintro e w9 ⟨⟨v1, rfl, AY, Fo, Pq⟩, hg⟩; refine ⟨_, rfl, ?_⟩; clear BR; have BR := Fo; clear Fo; replace k0 := Ad.grown k0 hg (by simp; omega); have rK := k1.lt; replace k1 := Ad.grown k1 hg (by simp; omega); replace hh := BJ.grown1 hh hg (by omega); clear hr; replace Aa := DB Aa hg gr; clear hg; obtain ⟨out, EX⟩ : ∃ out, GZ x.1.1 x.1.2 8 = out := ⟨_, rfl⟩; have QU : out.length ≤ 8 := (by rw [← EX]; exact EU _ _ _); rw [EX] at AY; have HO := Lib.hid EX; clear EX; obtain ⟨Ax, cx, hv⟩ := ER AY; subst hv; refine kL 1 H rfl λ a H => zA (zB (zC (zD (kR 1 H rfl λ a H => zA (zB (wp_block (wp_loop (uH w x (IJ x.1 8) P b o b0 br b1 i Ax cx out) (fun a _ => out.length - (intOf (a.eval (.tmp 11))).toNat) ⟨0, H.pick [2, 3, 4, 5, 6, 7, 10, 11], by omega, k0, by simpa using k1, BR, AY, hh, Aa⟩ ?_)))))))
   clear H Aa k0 k1 hh BR AY
   rintro a w' ⟨k, H, hk, k0, k1, BR, AY, hh, Aa⟩
   have H1 := H
   by_cases qC : k < out.length
   ·
    obtain ⟨x0, o2, Ze⟩ := G4 AY (by omega)
    subst Ze
    have V9 : b1 < x0 := Nat.lt_of_lt_of_le rK (Pq x0 o2 _ _ rfl)
    obtain ⟨y, hy⟩ : ∃ y, out[k]? = some y := ⟨_, List.getElem?_eq_getElem qC⟩
    have HY := Lib.hid hy
    clear hy
    have dA : AZ.ok ⟨x.2.n, x.2.sec, out.take k ++ x.2.tg.drop k⟩ := ⟨EJ.1, EJ.2.1, by have := EJ.2.2.1; simp only [List.length_append, List.length_take, List.length_drop]; omega, EJ.2.2.2⟩
    refine zC (zC (zD (kR 2 H R λ a H => kV H (Ba CO (H.e R)) R λ a H => kV H (By U3 (H.e R) (H.e R) dT) R λ a H => zA (zB (zH H R (zE (zB (zC (wp_block (zD (kR 3 H R λ a H => kV H (Bq (j := k) (q := o2 + k) CO s5 (H.e R) (H.e R) (by omega) (by omega)) R λ a H => kX 1 H (Ai U5 R (H.e R) (Ew AY HY.out (by omega))) R λ a H => kV H (C2 (j := k) (q := 28 + k) XU s5 (H.e R) (H.e R) (by omega) (by omega)) R λ a H => AP 5 (.tmp 78) (.tmp 76) b1 (28 + k) 36 (u8v y) _ (H.e R) (H.e R) k1 s5 (by rw [AI dA]; show 28 + k + 1 ≤ 36; omega) (KT _) fun w' hb ho kq => ?_)))))))))))
    clear k1; have k1 := kq; rw [Tc EJ (by omega) HY.out] at k1; replace hh := BJ.same1 hh (ho _ (by omega)); replace AY := B9.same1 AY (ho _ (by omega)); replace k0 := Ae k0 (ho _ (by omega)); replace BR := Rd.far BR (hb _ (Nat.le_refl _)) VB; replace Aa := Aa.trans (hb _ g1); clear hb ho kq; refine Dz H λ a H => zA (AC (zB (zD (kR 1 H rfl λ a H => kX 1 H (Bm (q := ((k + 1 : Nat) : Int)) U3 (H.ev rfl) Am) rfl λ a H => zA (zI ⟨⟨k + 1, H.pick [2, 3, 4, 5, 6, 7, 10, 11], by omega, k0, k1, BR, AY, hh, Aa⟩, ?_⟩)))))
    rw [H.ev (j := 11) rfl, H1.ev (j := 11) rfl]
    simp only [intOf]
    omega
   ·
    obtain rfl : k = out.length := by omega
    clear AY
    rw [List.take_length] at k1
    refine zC (zC (zD (kR 2 H R λ a H => kV H (Ba CO (H.e R)) R λ a H => kV H (By U3 (H.e R) (H.e R) dF) R λ a H => zA (zB (zG H R (wp_exit (AJ (AJ (BD (AC (AC (zB (zD (kR 1 H R λ a H => kX 1 H (Bm (q := ((i + 1 : Nat) : Int)) U3 (H.e R) Am) R λ a H => zA ?_))))))))))))))
    have MZ : P3 L bs kd (i + 1) = VQ x := by rw [show i + 1 = L.length + 1 by omega, Ow, Gv (x := x) HKD.out HL.out (by rw [← TH]; exact HX.out), if_pos FQ, if_neg (by omega)]
    refine zI ⟨⟨i + 1, H.pick [2, 3, 4, 5, 6, 7], by omega, k0, by rw [MZ, VQ, HO.out]; exact k1, by rw [MZ]; exact BR, hh, Aa⟩, ?_⟩
    rw [H.ev (j := 7) rfl, H0.ev (j := 7) rfl]
    simp only [intOf]
    omega
 ·
  obtain rfl : i = P.length := by omega
  clear hh
  rw [X6 HKD.out HP.out HL.out] at k1 BR
  have GX : (F4 bs).2.ok := P2 bs
  obtain ⟨z, Gr⟩ : ∃ z, F4 bs = z := ⟨_, rfl⟩
  rw [Gr] at k1 BR GX
  refine zC (zC (zD (kR 2 H R λ a H => kV H (Ba I6 (H.e R)) R λ a H => kV H (By U3 (H.e R) (H.e R) dF) R λ a H => zA (zB (zG H R (wp_exit (AJ (AJ (BD (zB (zC (zC ?_))))))))))))
  obtain ⟨dn, MZ⟩ : ∃ dn, (!z.1.2 && decide (z.1.1.length = 0)) = dn := ⟨_, rfl⟩
  have HDN := Lib.hid MZ
  clear MZ
  cases dn
  ·
   refine zD (kR 1 H R λ a H => A8 _ _ _ (Lg _ br z.1.1 z.1.2 BR) (Av eM (H.e R)) ?_)
   rintro e w9 ⟨rfl, hb⟩; refine ⟨_, rfl, ?_⟩; rw [HDN.out]; replace k0 := k0.ups hb; replace k1 := k1.ups hb; replace BR := Rd.up BR hb; replace Aa := Aa.tr hb; clear hb; refine kl H rfl λ a H => kX 5 H (Bs (H.ev rfl) rfl) rfl λ a H => zA (zB (zH H rfl (zC (zD (kV (v := .agg (pv Ec)) H (Bl #[] (.agg (pv Ec)) (by simp) (fun w => by kernel_rfl)) rfl λ a H => AT 36 (.tmp 2) (.tmp 87) b0 36 (pv Ec) _ (H.ev rfl) (H.ev rfl) k0 (AR Bz) rfl (BU _) fun w' hb ho kq => ?_)))))
   clear k0 k1 BR; have k0 := kq; replace Aa := Aa.trans (hb _ g0); clear hb ho kq; refine kO 1 H rfl λ a H => zA (zB (zF (zJ ?_)))
   rw [(Eu (.inl (by rw [Gr]; exact HDN.out))).1, (Eu (.inl (by rw [Gr]; exact HDN.out))).2]
   exact BF H R R R k0 C1 R (AR Bz) ⟨R, Aa⟩
  ·
   by_cases hR : Bg z.2 = true
   ·
    refine zD (kR 1 H R λ a H => A8 _ _ _ (Lg _ br z.1.1 z.1.2 BR) (Av eM (H.e R)) ?_)
    rintro e w9 ⟨rfl, hb⟩; refine ⟨_, rfl, ?_⟩; rw [HDN.out]; replace k0 := k0.ups hb; replace k1 := k1.ups hb; replace BR := Rd.up BR hb; replace Aa := Aa.tr hb; clear hb; refine kl H rfl λ a H => kX 1 H (Bs (H.ev rfl) rfl) rfl λ a H => kG H rfl (kV (v := .agg (pv z.2)) H (Af b1 36 _ _ (H.ev rfl) k1 C1 rfl (AR GX)) rfl λ a H => kG H rfl (kC 0 (Qh _ z.2 GX hR) (Av Z1 (H.ev rfl)) H rfl fun w9 a hb H => ?_))
    replace k0 := k0.ups hb; replace k1 := k1.ups hb; replace BR := Rd.up BR hb; replace Aa := Aa.tr hb; clear hb
    refine kY 1 H R (Bs (H.e R) R) R λ a H => zA (zB (zG H R (zE (zB (zC (zD (kV (v := .agg (pv z.2)) H (Af b1 36 _ _ (H.e R) k1 C1 R (AR GX)) R λ a H => AT 36 (.tmp 2) (.tmp 88) b0 36 (pv z.2) _ (H.e R) (H.e R) k0 (AR GX) (by rw [AI Bz, AI GX]) (BU _) fun w' hb ho kq => ?_)))))))
    clear k0 k1 BR; have k0 := kq; replace Aa := Aa.trans (hb _ g0); clear hb ho kq; refine kO 1 H rfl λ a H => zA (zB (zF ?_))
    rw [show GQ bs = z.2 by rw [J4 (by rw [Gr]; exact HDN.out) (by rw [Gr]; exact hR), Gr], show ID bs = 0 from HV (by rw [Gr]; exact HDN.out) (by rw [Gr]; exact hR)]
    exact BF H R R R k0 C1 R (AR GX) ⟨R, Aa⟩
   ·
    refine zD (kR 1 H R λ a H => A8 _ _ _ (Lg _ br z.1.1 z.1.2 BR) (Av eM (H.e R)) ?_)
    rintro e w9 ⟨rfl, hb⟩; refine ⟨_, rfl, ?_⟩; rw [HDN.out]; replace k0 := k0.ups hb; replace k1 := k1.ups hb; replace BR := Rd.up BR hb; replace Aa := Aa.tr hb; clear hb; refine kl H rfl λ a H => kX 1 H (Bs (H.ev rfl) rfl) rfl λ a H => kG H rfl (kV (v := .agg (pv z.2)) H (Af b1 36 _ _ (H.ev rfl) k1 C1 rfl (AR GX)) rfl λ a H => kG H rfl (kC 0 (Qi _ z.2 GX hR) (Av Z1 (H.ev rfl)) H rfl fun w9 a hb H => ?_))
    replace k0 := k0.ups hb; replace k1 := k1.ups hb; replace BR := Rd.up BR hb; replace Aa := Aa.tr hb; clear hb
    refine kY 1 H R (Bs (H.e R) R) R λ a H => zA (zB (zH H R (zC (zD (kV (v := .agg (pv Ec)) H (Bl #[] (.agg (pv Ec)) (by simp) (fun w => by kernel_rfl)) R λ a H => AT 36 (.tmp 2) (.tmp 87) b0 36 (pv Ec) _ (H.e R) (H.e R) k0 (AR Bz) R (BU _) fun w' hb ho kq => ?_)))))
    clear k0 k1 BR; have k0 := kq; replace Aa := Aa.trans (hb _ g0); clear hb ho kq; refine kO 1 H rfl λ a H => zA (zB (zF (zJ ?_)))
    rw [(Eu (.inr (by rw [Gr]; simpa using hR))).1, (Eu (.inr (by rw [Gr]; simpa using hR))).2]
    exact BF H R R R k0 C1 R (AR Bz) ⟨R, Aa⟩
def Ex (p : AZ) : AZ := ⟨p.n, p.sec, List.replicate 8 0⟩
def F5 (k : List B8) (p : AZ) : List B8 := (Pn k (Cx (Ex p))).take 8
noncomputable def Cf (p : AZ) : Bool := Bg (Ex p) && decide (5 ≤ p.fld 0 ∧ p.fld 0 ≤ 11)
def BK (k : List B8) (p : AZ) : AZ := ⟨p.n, p.sec, F5 k p⟩
noncomputable def HJ (k : List B8) (p : AZ) : Bool := Cf p && decide (F5 k p = p.tg)
theorem R1 {p : AZ} (h : p.ok) : (Ex p).ok := ⟨h.1, h.2.1, rfl, h.2.2.2⟩
theorem L3 {k : List B8} {p : AZ} : (F5 k p).length = 8 := by
 have : (Pn k (Cx (Ex p))).length = 32 := DE
 rw [F5, List.length_take]
 omega
theorem F6 {k : List B8} {p : AZ} (h : p.ok) : (if Cf p = true then BK k p else Ec).ok := by
 split
 · exact ⟨h.1, h.2.1, L3, h.2.2.2⟩
 · exact Bz
theorem Wl {k : List B8} {p : AZ} : (BK k p = p) = (F5 k p = p.tg) := by
 obtain ⟨n, s, t⟩ := p
 simp [BK]
theorem E7 (p : AZ) (h : p.ok) : (Cx p).length ≤ 100 := by
 have h1 := G2 (p := p) rfl (i := (AH (p.fld 0)).length) (Nat.le_refl _)
 have h2 := GC (p.fld 0)
 have h3 : (if 2 ≤ p.fld 0 ∧ p.fld 0 ≤ 4 then p.sec else []).length ≤ 16 := by
  split
  · rw [h.2.1]; exact Nat.le_refl _
  · simp
 have h4 : (if 5 ≤ p.fld 0 ∧ p.fld 0 ≤ 11 then p.tg else []).length ≤ 8 := by
  split
  · rw [h.2.2.1]; exact Nat.le_refl _
  · simp
 rw [Cx, List.length_append, List.length_append]
 omega
theorem aV (w : World) (p : AZ) (hp : p.ok) (h : Bg p = true) : Calls Tryz.prog 107 #[.agg (pv p)] w fun e w' => (∃ D A c, D = w.heap.size ∧ e = .returned (.tuple #[.slice A (Cx p).length c, J 0]) ∧ Dg w' D (.slice A (Cx p).length c) (Cx p)) ∧ Below w.heap.size w w' :=
 (TS w p hp).mono fun e w' ⟨h1, h2⟩ => by
  rcases h1 with ⟨_, A, c, he, ho⟩ | ⟨h1, _⟩
  · exact ⟨⟨_, A, c, rfl, he, ho⟩, h2⟩
  · rw [h] at h1; cases h1
theorem aW (w : World) (p : AZ) (hp : p.ok) (h : ¬ Bg p = true) : Calls Tryz.prog 107 #[.agg (pv p)] w fun e w' => e = .returned (.tuple #[.slice none 0 0, J 1]) ∧ Below w.heap.size w w' :=
 (TS w p hp).mono fun e w' ⟨h1, h2⟩ => by
  rcases h1 with ⟨h1, _⟩ | ⟨_, he⟩
  · exact absurd h1 h
  · exact ⟨he, h2⟩
theorem W3 (w : World) (p : AZ) (hp : p.ok) (h : Bg p = true) : Calls Tryz.prog 39 #[.agg (pv p)] w fun e w' => (∃ D A c, D = w.heap.size ∧ e = .returned (.tuple #[.slice A (Cx p).length c, J 0]) ∧ Dg w' D (.slice A (Cx p).length c) (Cx p)) ∧ Below w.heap.size w w' :=
 (MF w p hp).mono fun e w' ⟨h1, h2⟩ => by
  rcases h1 with ⟨_, A, c, he, ho⟩ | ⟨h1, _⟩
  · exact ⟨⟨_, A, c, rfl, he, ho⟩, h2⟩
  · rw [h] at h1; cases h1
theorem W4 (w : World) (p : AZ) (hp : p.ok) (h : ¬ Bg p = true) : Calls Tryz.prog 39 #[.agg (pv p)] w fun e w' => e = .returned (.tuple #[.slice none 0 0, J 1]) ∧ Below w.heap.size w w' :=
 (MF w p hp).mono fun e w' ⟨h1, h2⟩ => by
  rcases h1 with ⟨h1, _⟩ | ⟨_, he⟩
  · exact absurd h1 h
  · exact ⟨he, h2⟩
theorem U2 (w : World) (k : Int) (h : 5 ≤ k ∧ k ≤ 11) : Calls Tryz.prog 79 #[J k] w fun e w' => e = .returned (.bool true) ∧ Below w.heap.size w w' := by simpa [h] using L6 w k
theorem U6 (w : World) (k : Int) (h : ¬ (5 ≤ k ∧ k ≤ 11)) : Calls Tryz.prog 79 #[J k] w fun e w' => e = .returned (.bool false) ∧ Below w.heap.size w w' := by
 have := L6 w k
 rwa [decide_eq_false h] at this
theorem UG {w : World} {s : Value} {b : Nat} {bs : List B8} (k : Ad w b 30 #[s]) (hs : B9 w s bs) : KK w (.slice (some ⟨b, 0, none⟩) 1 1) [(s, bs)] :=
 ⟨⟨_, _, rfl, Nat.le_refl _, by simp [maxLen], (fun e => by cases e), Ad.holds k⟩, fun p hp => by
  rw [List.mem_singleton] at hp
  subst hp
  exact hs⟩
theorem WX (w : World) (v s : Value) (b : Nat) (kb bs : List B8) (hr : B9 w v kb) (k : Ad w b 30 #[s]) (hs : B9 w s bs) (hk : kb.length ≤ 64) (hn : bs.length ≤ 900000) :
  Calls Tryz.prog 108 #[v, .slice (some ⟨b, 0, none⟩) 1 1] w fun e w' => e = .returned (.agg (BL (Pn kb bs))) ∧ Below w.heap.size w w' := by
 have := YJ w v _ kb [(s, bs)] hr (UG k hs) hk (by simpa [Lz] using hn) (by simp)
 simpa [PG] using this
theorem Vs {w : World} {b : Nat} {t : TypeId} {l : List B8} (k : Ad w b t (BL l)) (n : Nat) : BJ w (some ⟨b, 0, none⟩) ((l.take n).map u8v) := fun j hj => ⟨b, 0, rfl, by
 have LS : j < n ∧ j < l.length := by simpa [Nat.lt_min] using hj
 rw [Nat.zero_add, k.cell]
 simp only [BL, List.getElem?_toArray, List.getElem?_map, List.getElem?_take_of_lt LS.1]⟩
theorem Ut {mm : List B8} (h : mm.length = 32) : mm.take 8 ++ (List.replicate 8 (0 : B8)).drop (mm.take 8).length = mm.take 8 := by
 rw [List.length_take, h, show min 8 32 = 8 from rfl]
 simp
theorem gE (t : List B8) (h : t.length = 8) (d : Nat) : Tryz.prog.keyLits (d + 2) 34 (t.map u8v) = some (t.map fun x => Lit.int .u8 (x.toNat : Int)) := by
 obtain ⟨t0, t1, t2, t3, t4, t5, t6, t7, rfl⟩ := YO h
 exact uU d t0 t1 t2 t3 t4 t5 t6 t7
theorem VP (w : World) {t u : List B8} (ht : t.length = 8) (hu : u.length = 8) : (Op.equalIn 10000 34 (.agg (t.map u8v).toArray) (.agg (u.map u8v).toArray)).run Tryz.prog w = .ok (decide (t = u)) w := by
 have fp : ∀ {t : List B8}, t.length = 8 → (Value.agg (t.map u8v).toArray).formed Tryz.prog 34 = true := fun {t} h => by
  have hs : (t.map u8v).toArray.size = 8 := by simp [h]
  simp only [Value.formed, XU, tT, hs]
  rfl
 have hk : Tryz.prog.keyTypeAt 9 34 = true := by kernel_rfl
 have E : EqAt Tryz.prog 10000 34 := run_equalIn_deep (P := Tryz.prog) 9991 9 34 hk
 obtain ⟨r, hr, hi⟩ := E w 9 9 (.agg (t.map u8v).toArray) (.agg (u.map u8v).toArray) _ _ (fp ht) (fp hu) (gE t ht 7) (gE u hu 7)
 rw [hr]
 have hii : (t.map fun x => Lit.int .u8 (x.toNat : Int)) = (u.map fun x => Lit.int .u8 (x.toNat : Int)) ↔ t = u := ⟨J5, fun h => by rw [h]⟩
 rw [hii] at hi
 by_cases h : t = u
 · rw [hi.2 h, decide_eq_true h]
 ·
  cases r with
  | true => exact absurd (hi.1 rfl) h
  | false => rw [decide_eq_false h]
theorem WF {d : Option Tmp} {tt : TypeId} {ps : String} {af : Array Edge} {gd : Option (Nat × Bool)} {a : Act} {w : World} {x y : Operand} {t2 : TypeId} {t u : List B8} {b : Bool} (ht : t.length = 8) (hu : u.length = 8) (hx : a.eval x = .agg (t.map u8v).toArray) (hy : a.eval y = .agg (u.map u8v).toArray) (hb : decide (t = u) = b) :
  (execOp a.eval ⟨d, .binOp .eql 34 x y t2, tt, ps, af, gd⟩).run Tryz.prog w = .ok (.value (.bool b)) w := by
 subst hb
 have h := fun w => VP w ht hu
 have hg : Tryz.prog.eqGuardType Tryz.prog.depth 34 = false := by kernel_rfl
 unfold execOp
 simp only [hx, hy]
 go_simp
theorem M2 (w : World) (k : List B8) (p : AZ) (hk : k.length = 16) (hp : p.ok) : Calls Tryz.prog 69 #[.agg (BL k), .agg (pv p)] w fun e w' => e = .returned (.tuple #[.agg (pv (if Cf p = true then BK k p else Ec)), .bool (Cf p)]) ∧ Below w.heap.size w w' := by
 have LC := R1 hp
 have Aa := Below.refl w.heap.size w
 refine Az 34 Tryz.func69 R R λ a H => zC (zD (B7 33 (.tmp 0) (BL k) (H.e R) fun w0 b0 Ak hb k0 => ?_))
 have g0 := Nat.le_trans Aa.size Ak; replace Aa := Aa.tr hb; clear hb; clear Ak; refine kl H rfl λ a H => B7 36 (.tmp 1) (pv p) (H.ev rfl) fun w1 b1 Ak hb k1 => ?_
 have g1 := Nat.le_trans Aa.size Ak; have N7 : b0 < b1 := Nat.lt_of_lt_of_le k0.lt Ak; replace k0 := k0.ups hb; replace Aa := Aa.tr hb; clear hb; clear Ak; refine kl H rfl λ a H => Bj 36 (pv Ec) Jn fun w2 b2 Ak hb k2 => ?_
 have g2 := Nat.le_trans Aa.size Ak; have Ro : b0 < b2 := Nat.lt_of_lt_of_le k0.lt Ak; have N6 : b1 < b2 := Nat.lt_of_lt_of_le k1.lt Ak; replace k0 := k0.ups hb; replace k1 := k1.ups hb; replace Aa := Aa.tr hb; clear hb; clear Ak; refine kL 1 H rfl λ a H => zA (zB (zC (zD (kX 1 (v := .agg (BL (List.replicate 8 0))) H (Bl #[] (.agg (BL (List.replicate 8 0))) (by simp) (fun w => by kernel_rfl)) rfl λ a H => Cp 34 (.tmp 10) (.tmp 9) b1 28 36 (BL (List.replicate 8 0)) _ (H.ev rfl) (H.ev rfl) k1 (by rw [Bk, List.length_replicate]; exact LN) (by rw [AI hp, Bk, List.length_replicate]; omega) (D5 _) fun w' hb ho kq => ?_))))
 clear k1; have k1 : Ad _ b1 36 (pv (Ex p)) := Mr hp.1 hp.2.1 (by rw [hp.2.2.1, List.length_replicate]) kq; replace k0 := Ae k0 (ho _ (by omega)); replace k2 := Ae k2 (ho _ (by omega)); replace Aa := Aa.trans (hb _ g1); clear hb ho; clear kq; refine Dz H λ a H => zA (zB (zC ?_))
 by_cases hR : Bg (Ex p) = true
 ·
  refine zD (kV (v := .agg (pv (Ex p))) H (Af b1 36 _ _ (H.e R) k1 C1 R (AR LC)) R λ a H => A8 _ _ _ (aV _ _ LC hR) (Av Uc (H.e R)) ?_)
  rintro e w9 ⟨⟨D, A, c, I5, rfl, Ah⟩, hb⟩; refine ⟨_, rfl, ?_⟩; have hD : b2 < D := I5 ▸ k2.lt; clear I5; replace k0 := k0.ups hb; replace k1 := k1.ups hb; replace k2 := k2.ups hb; replace Aa := Aa.tr hb; clear hb; refine kL 5 H rfl λ a H => zA (zB (zC (zC ?_)))
  by_cases FQ : (5 ≤ p.fld 0 ∧ p.fld 0 ≤ 11)
  ·
   refine zD (kR 1 H R λ a H => kX 2 H (E6 O8 (H.e R) Am dF) R λ a H => kW H R (Ai U3 R (H.e R) (AB k1 (AQ LC (j := 0) (by omega)))) R λ a H => kG H R (kC 0 (G9 _ _ FQ) (Av KG (H.e R)) H R fun w9 a hb H => ?_))
   replace k0 := k0.ups hb; replace k1 := k1.ups hb; replace k2 := k2.ups hb; replace Ah := Bh Ah hb; replace Aa := Aa.tr hb; clear hb
   refine kY 1 H R (Bs (H.e R) R) R λ a H => zA (zB (zG H R (zE (zB (zC (zD (kX 1 (v := .slice (some ⟨b0, 0, none⟩) 16 16) H (CN (b := b0) (o := 0) RG s5 (H.e R) (by omega)) R λ a H => BP 29 1 #[(0, .slice A (Cx (Ex p)).length c)] 30 #[.slice A (Cx (Ex p)).length c] (by simp [H.ev (j := 26) R]) (fun w => by kernel_rfl) fun w3 b3 Ak hb k3 => ?_)))))))
   have g3 := Nat.le_trans Aa.size Ak; have jE : b0 < b3 := Nat.lt_of_lt_of_le k0.lt Ak; have jD : b1 < b3 := Nat.lt_of_lt_of_le k1.lt Ak; have jA : b2 < b3 := Nat.lt_of_lt_of_le k2.lt Ak; replace k0 := k0.ups hb; replace k1 := k1.ups hb; replace k2 := k2.ups hb; replace Ah := Bh Ah hb; replace Aa := Aa.tr hb; clear hb; clear Ak; refine kl H rfl λ a H => A8 _ _ _ (WX _ _ _ b3 k (Cx (Ex p)) (GT k0 hk (by simp [maxLen])) k3 (Dg.row Ah) (by omega) (Nat.le_trans (E7 _ LC) (by omega))) (AA lS (H.ev rfl) (H.ev rfl)) ?_
   rintro e w9 ⟨rfl, hb⟩; refine ⟨_, rfl, ?_⟩; obtain ⟨mm, Xm⟩ : ∃ mm, Pn k (Cx (Ex p)) = mm := ⟨_, rfl⟩; have dE : mm.length = 32 := (by rw [← Xm]; exact DE); rw [Xm]; have HMM := Lib.hid Xm; clear Xm Ah; replace k0 := k0.ups hb; replace k1 := k1.ups hb; replace k2 := k2.ups hb; replace k3 := k3.ups hb; replace Aa := Aa.tr hb; clear hb; refine kl H rfl λ a H => Bj 105 (BL (List.replicate 32 0)) OA fun w4 b4 Ak hb k4 => ?_
   have g4 := Nat.le_trans Aa.size Ak; have eH : b0 < b4 := Nat.lt_of_lt_of_le k0.lt Ak; have eG : b1 < b4 := Nat.lt_of_lt_of_le k1.lt Ak; have eF : b2 < b4 := Nat.lt_of_lt_of_le k2.lt Ak; have rS : b3 < b4 := Nat.lt_of_lt_of_le k3.lt Ak; replace k0 := k0.ups hb; replace k1 := k1.ups hb; replace k2 := k2.ups hb; replace k3 := k3.ups hb; replace Aa := Aa.tr hb; clear hb; clear Ak; refine kl H rfl λ a H => AT 105 (.tmp 8) (.tmp 28) b4 105 (BL mm) _ (H.ev rfl) (H.ev rfl) k4 (by rw [Bk, dE]; exact Ws) (by rw [Bk, Bk, dE, List.length_replicate]) (D5 _) fun w' hb ho kq => ?_
   clear k4; have k4 := kq; replace k0 := Ae k0 (ho _ (by omega)); replace k1 := Ae k1 (ho _ (by omega)); replace k2 := Ae k2 (ho _ (by omega)); replace k3 := Ae k3 (ho _ (by omega)); replace Aa := Aa.trans (hb _ g4); clear hb ho; clear kq; refine Dz H λ a H => zA (zB (zC (rB 3 (Dn [0, 1, 2] (.one 3 .done)) fun hS => kQ 1 H rfl λ a H => kF (v := .slice (some ⟨b1, 28, none⟩) 8 8) H rfl rfl (fun w' Aj => CN (b := b1) (o := 28) XU s5 (H.ev rfl) (by omega)) rfl λ a H => kF (v := .slice (some ⟨b4, 0, none⟩) 32 32) H rfl rfl (fun w' Aj => CN (b := b4) (o := 0) LY s5 (H.ev rfl) (by omega)) rfl λ a H => Al (fun K hK => ?_))))
   replace k0 := Ad.ups k0 hS
   replace k1 := Ad.ups k1 hS
   replace k2 := Ad.ups k2 hS
   replace k3 := Ad.ups k3 hS
   replace k4 := Ad.ups k4 hS
   replace Aa := Aa.trans (Below.mono hS Aa.size)
   refine A7 R (Ka _ b1 36 (pv (Ex p)) _ k1 (Lb (.slice (some ⟨b1, 28, none⟩) 8 8) (.slice (some ⟨b4, 0, none⟩) 32 32) (H.e R) (H.e R) (Lr (EW _ _ _ _ 5 1 CO s5 (by omega) b1 28 8 8 _ 36 k1 (some ⟨b4, 0, none⟩) 32 32 ((mm.take 8).map u8v) (by rw [List.length_map, List.length_take, dE]; rfl) (Vs k4 8) (CC _) (by rw [List.length_map, List.length_take, AI LC]; omega)))) fun w7 kq HI GV => ?_); clear k1; rw [RN LC (by rw [List.length_take]; omega)] at kq; simp only [Ex] at kq; rw [Ut dE] at kq; have k1 := kq; replace k0 := Ae k0 (GV _ (by omega)); replace k2 := Ae k2 (GV _ (by omega)); replace k3 := Ae k3 (GV _ (by omega)); replace k4 := Ae k4 (GV _ (by omega)); replace Aa := Aa.trans (HI _ g1); clear HI GV; clear kq; refine hK _ _ ⟨(fun h => absurd R h), ?_⟩; clear hK K hS; refine kt H R λ a H => Aw (NoPanic.normal (zB (zC ?_)))
   have GY : AZ.ok (⟨p.n, p.sec, mm.take 8⟩ : AZ) := ⟨hp.1, hp.2.1, by rw [List.length_take]; omega, hp.2.2.2⟩
   have pM : BK k p = (⟨p.n, p.sec, mm.take 8⟩ : AZ) := by rw [BK, F5, HMM.out]
   refine zD (kV (v := .agg (pv (⟨p.n, p.sec, mm.take 8⟩ : AZ))) H (Af b1 36 _ _ (H.e R) k1 C1 R (AR GY)) R λ a H => AT 36 (.tmp 4) (.tmp 33) b2 36 (pv (⟨p.n, p.sec, mm.take 8⟩ : AZ)) _ (H.e R) (H.e R) k2 (AR GY) (by rw [AI Bz, AI GY]) (BU _) fun w' hb ho kq => ?_)
   clear k2; have k2 := kq; replace k0 := Ae k0 (ho _ (by omega)); replace k1 := Ae k1 (ho _ (by omega)); replace k3 := Ae k3 (ho _ (by omega)); replace k4 := Ae k4 (ho _ (by omega)); replace Aa := Aa.trans (hb _ g2); clear hb ho; clear kq; refine kO 1 H rfl λ a H => zA (zB (zF ?_))
   rw [show Cf p = true by rw [Cf, hR]; simp; omega, if_pos rfl, pM]
   exact BF H R R R k2 C1 R (AR GY) ⟨R, Aa⟩
  ·
   refine zD (kR 1 H R λ a H => kX 2 H (E6 O8 (H.e R) Am dF) R λ a H => kW H R (Ai U3 R (H.e R) (AB k1 (AQ LC (j := 0) (by omega)))) R λ a H => kG H R (kC 0 (GA _ _ FQ) (Av KG (H.e R)) H R fun w9 a hb H => ?_))
   replace k0 := k0.ups hb; replace k1 := k1.ups hb; replace k2 := k2.ups hb; replace Ah := Bh Ah hb; replace Aa := Aa.tr hb; clear hb
   refine kY 1 H R (Bs (H.e R) R) R λ a H => zA (zB (zH H R (zC (zD (kV (v := .agg (pv Ec)) H (Bl #[] (.agg (pv Ec)) (by simp) (fun w => by kernel_rfl)) R λ a H => AT 36 (.tmp 4) (.tmp 24) b2 36 (pv Ec) _ (H.e R) (H.e R) k2 (AR Bz) R (BU _) fun w' hb ho kq => ?_)))))
   clear k2; have k2 := kq; replace k0 := Ae k0 (ho _ (by omega)); replace k1 := Ae k1 (ho _ (by omega)); replace Ah := D9 Ah (fun q hq => ho q (fun e => by have := (World.ownsRow.lt Ah q hq).1; omega)); replace Aa := Aa.trans (hb _ g2); clear hb ho; clear kq; refine kO 1 H rfl λ a H => zA (zB (zF (zJ ?_)))
   rw [show Cf p = false by simp only [Cf, Bool.and_eq_false_iff]; exact .inr (decide_eq_false FQ), if_neg (by simp)]
   exact BF H R R R k2 C1 R (AR Bz) ⟨R, Aa⟩
 ·
  refine zD (kV (v := .agg (pv (Ex p))) H (Af b1 36 _ _ (H.e R) k1 C1 R (AR LC)) R λ a H => kC 0 (aW _ _ LC hR) (Av Uc (H.e R)) H R fun w9 a hb H => ?_)
  replace k0 := k0.ups hb; replace k1 := k1.ups hb; replace k2 := k2.ups hb; replace Aa := Aa.tr hb; clear hb
  refine kR 5 H R λ a H => zA (zB (zC (zC (zD (kR 1 H R λ a H => kX 6 H (E6 O8 (H.e R) Am dT) R λ a H => zA (zB (zH H R (zC (zD (kV (v := .agg (pv Ec)) H (Bl #[] (.agg (pv Ec)) (by simp) (fun w => by kernel_rfl)) R λ a H => AT 36 (.tmp 4) (.tmp 24) b2 36 (pv Ec) _ (H.e R) (H.e R) k2 (AR Bz) R (BU _) fun w' hb ho kq => ?_))))))))))
  clear k2; have k2 := kq; replace k0 := Ae k0 (ho _ (by omega)); replace k1 := Ae k1 (ho _ (by omega)); replace Aa := Aa.trans (hb _ g2); clear hb ho; clear kq; refine kO 1 H rfl λ a H => zA (zB (zF (zJ ?_)))
  rw [show Cf p = false by simp only [Cf, Bool.and_eq_false_iff]; exact .inl (by simpa using hR), if_neg (by simp)]
  exact BF H R R R k2 C1 R (AR Bz) ⟨R, Aa⟩
def Rsg (W : World) (p : AZ) (mm : List B8) (b1 b2 b4 : Nat) (a : Act) (w : World) : Prop :=
 ∃ i : Nat, Kn a 39 [(3, .pointer (some ⟨b1, 0, none⟩)), (4, .pointer (some ⟨b2, 0, none⟩)), (8, .pointer (some ⟨b4, 0, none⟩)), (9, J (i : Nat))] ∧ i ≤ 8 ∧ Ad w b1 36 (pv (⟨p.n, p.sec, (mm.take 8).take i ++ (List.replicate 8 (0 : B8)).drop i⟩ : AZ)) ∧ Ad w b2 36 (pv Ec) ∧ Ad w b4 105 (BL mm) ∧ Below W.heap.size W w
theorem Jr (w : World) (k : List B8) (p : AZ) (hk : k.length = 16) (hp : p.ok) : Calls Tryz.prog 43 #[.agg (BL k), .agg (pv p)] w fun e w' => e = .returned (.tuple #[.agg (pv (if Cf p = true then BK k p else Ec)), .bool (Cf p)]) ∧ Below w.heap.size w w' := by
 have LC := R1 hp
 have Aa := Below.refl w.heap.size w
 refine Az 39 Tryz.func43 R R λ a H => zC (zD (B7 33 (.tmp 0) (BL k) (H.e R) fun w0 b0 Ak hb k0 => ?_))
 have g0 := Nat.le_trans Aa.size Ak; replace Aa := Aa.tr hb; clear hb; clear Ak; refine kl H rfl λ a H => B7 36 (.tmp 1) (pv p) (H.ev rfl) fun w1 b1 Ak hb k1 => ?_
 have g1 := Nat.le_trans Aa.size Ak; have N7 : b0 < b1 := Nat.lt_of_lt_of_le k0.lt Ak; replace k0 := k0.ups hb; replace Aa := Aa.tr hb; clear hb; clear Ak; refine kl H rfl λ a H => Bj 36 (pv Ec) Jn fun w2 b2 Ak hb k2 => ?_
 have g2 := Nat.le_trans Aa.size Ak; have Ro : b0 < b2 := Nat.lt_of_lt_of_le k0.lt Ak; have N6 : b1 < b2 := Nat.lt_of_lt_of_le k1.lt Ak; replace k0 := k0.ups hb; replace k1 := k1.ups hb; replace Aa := Aa.tr hb; clear hb; clear Ak; refine kL 1 H rfl λ a H => zA (zB (zC (zC ?_)))
 by_cases FQ : (5 ≤ p.fld 0 ∧ p.fld 0 ≤ 11)
 ·
  refine zD (kR 1 H R λ a H => kV H (Ai U3 R (H.e R) (AB k1 (AQ hp (j := 0) (by omega)))) R λ a H => kC 0 (U2 _ _ FQ) (Av jS (H.e R)) H R fun w9 a hb H => ?_)
  replace k0 := k0.ups hb; replace k1 := k1.ups hb; replace k2 := k2.ups hb; replace Aa := Aa.tr hb; clear hb
  refine kV H (Bs (H.e R) R) R λ a H => zA (zB (zG H R (zE (zB (zC (zD (kX 1 (v := .agg (BL (List.replicate 8 0))) H (Bl #[] (.agg (BL (List.replicate 8 0))) (by simp) (fun w => by kernel_rfl)) R λ a H => Cp 34 (.tmp 16) (.tmp 15) b1 28 36 (BL (List.replicate 8 0)) _ (H.e R) (H.e R) k1 (by rw [Bk, List.length_replicate]; exact LN) (by rw [AI hp, Bk, List.length_replicate]; omega) (D5 _) fun w' hb ho kq => ?_)))))))
  clear k1; have k1 : Ad _ b1 36 (pv (Ex p)) := Mr hp.1 hp.2.1 (by rw [hp.2.2.1, List.length_replicate]) kq; replace k0 := Ae k0 (ho _ (by omega)); replace k2 := Ae k2 (ho _ (by omega)); replace Aa := Aa.trans (hb _ g1); clear hb ho; clear kq; refine Dz H λ a H => zA (zB (zC ?_))
  by_cases hR : Bg (Ex p) = true
  ·
   refine zD (kV (v := .agg (pv (Ex p))) H (Af b1 36 _ _ (H.e R) k1 C1 R (AR LC)) R λ a H => A8 _ _ _ (W3 _ _ LC hR) (Av Vk (H.e R)) ?_)
   rintro e w9 ⟨⟨D, A, c, I5, rfl, Ah⟩, hb⟩; refine ⟨_, rfl, ?_⟩; have hD : b2 < D := I5 ▸ k2.lt; clear I5; replace k0 := k0.ups hb; replace k1 := k1.ups hb; replace k2 := k2.ups hb; replace Aa := Aa.tr hb; clear hb; refine kL 5 H rfl λ a H => zA (zB (zC (zC (zD (kR 1 H rfl λ a H => kV H (E6 O8 (H.ev rfl) Am dF) rfl λ a H => zA (zB (zG H rfl (zE (zB (zC (zD (kX 1 (v := .slice (some ⟨b0, 0, none⟩) 16 16) H (CN (b := b0) (o := 0) RG s5 (H.ev rfl) (by omega)) rfl λ a H => A8 _ _ _ (Wy _ _ _ k (Cx (Ex p)) (GT k0 hk (by simp [maxLen])) (Dg.row Ah) (by omega) (Nat.le_trans (E7 _ LC) (by omega))) (AA sQ (H.ev rfl) (H.ev rfl)) ?_))))))))))))
   rintro e w9 ⟨rfl, hb⟩; refine ⟨_, rfl, ?_⟩; obtain ⟨mm, Xm⟩ : ∃ mm, Pn k (Cx (Ex p)) = mm := ⟨_, rfl⟩; have dE : mm.length = 32 := (by rw [← Xm]; exact DE); rw [Xm]; have HMM := Lib.hid Xm; clear Xm Ah; replace k0 := k0.ups hb; replace k1 := k1.ups hb; replace k2 := k2.ups hb; replace Aa := Aa.tr hb; clear hb; refine kl H rfl λ a H => Bj 105 (BL (List.replicate 32 0)) OA fun w4 b4 Ak hb k4 => ?_
   have g4 := Nat.le_trans Aa.size Ak; have eH : b0 < b4 := Nat.lt_of_lt_of_le k0.lt Ak; have eG : b1 < b4 := Nat.lt_of_lt_of_le k1.lt Ak; have eF : b2 < b4 := Nat.lt_of_lt_of_le k2.lt Ak; replace k0 := k0.ups hb; replace k1 := k1.ups hb; replace k2 := k2.ups hb; replace Aa := Aa.tr hb; clear hb; clear Ak; refine kl H rfl λ a H => AT 105 (.tmp 8) (.tmp 27) b4 105 (BL mm) _ (H.ev rfl) (H.ev rfl) k4 (by rw [Bk, dE]; exact Ws) (by rw [Bk, Bk, dE, List.length_replicate]) (D5 _) fun w' hb ho kq => ?_
   clear k4; have k4 := kq; replace k0 := Ae k0 (ho _ (by omega)); replace k1 := Ae k1 (ho _ (by omega)); replace k2 := Ae k2 (ho _ (by omega)); replace Aa := Aa.trans (hb _ g4); clear hb ho; clear kq; refine Dz H λ a H => zA (zB (zC (zC (zD (kR 1 H rfl λ a H => zA (zB (wp_block ?_)))))))
   have hm8 : (mm.take 8).length = 8 := by rw [List.length_take]; omega
   refine wp_loop (Rsg w p mm b1 b2 b4) (fun a _ => 8 - (intOf (a.eval (.tmp 9))).toNat) ⟨0, H.pick [3, 4, 8, 9], by omega, by simpa [Ex] using k1, k2, k4, Aa⟩ ?_
   clear H Aa k0 k1 k2 k4
   rintro a w' ⟨i, H, hi, k1, k2, k4, Aa⟩
   have H0 := H
   by_cases CM : i < 8
   ·
    obtain ⟨y, hy⟩ : ∃ y, mm[i]? = some y := ⟨_, List.getElem?_eq_getElem (by omega)⟩
    have yY : (mm.take 8)[i]? = some y := by rw [List.getElem?_take_of_lt CM]; exact hy
    have dA : AZ.ok (⟨p.n, p.sec, (mm.take 8).take i ++ (List.replicate 8 (0 : B8)).drop i⟩ : AZ) := ⟨hp.1, hp.2.1, by simp only [List.length_append, List.length_take, List.length_drop, List.length_replicate]; omega, hp.2.2.2⟩
    refine zC (zC (zD (kR 1 H R λ a H => kV H (By U3 (H.e R) Am dT) R λ a H => zA (zB (zH H R (zE (zB (zC (wp_block (zD (kR 2 H R λ a H => kV H (C2 (j := i) (q := i) LY s5 (H.e R) (H.e R) (by omega) (by omega)) R λ a H => kX 1 H (Ai U5 R (H.e R) (O2 k4 hy)) R λ a H => kV H (C2 (j := i) (q := 28 + i) XU s5 (H.e R) (H.e R) (by omega) (by omega)) R λ a H => AP 5 (.tmp 37) (.tmp 35) b1 (28 + i) 36 (u8v y) _ (H.e R) (H.e R) k1 s5 (by rw [AI dA]; show 28 + i + 1 ≤ 36; omega) (KT _) fun w' hb ho kq => ?_)))))))))))
    clear k1; have k1 := kq; have e1 := Tc (p := Ex p) LC (by omega) yY; simp only [Ex] at e1; rw [e1] at k1; clear e1; replace k2 := Ae k2 (ho _ (by omega)); replace k4 := Ae k4 (ho _ (by omega)); replace Aa := Aa.trans (hb _ g1); clear hb ho; clear kq; refine Dz H λ a H => zA (AC (zB (zD (kR 1 H rfl λ a H => kX 1 H (Bm (q := ((i + 1 : Nat) : Int)) U3 (H.ev rfl) Am) rfl λ a H => zA (zI ⟨⟨i + 1, H.pick [3, 4, 8, 9], by omega, k1, k2, k4, Aa⟩, ?_⟩)))))
    rw [H.ev (j := 9) rfl, H0.ev (j := 9) rfl]
    simp only [intOf]
    omega
   ·
    obtain rfl : i = 8 := by omega
    rw [show (⟨p.n, p.sec, (mm.take 8).take 8 ++ (List.replicate 8 (0 : B8)).drop 8⟩ : AZ) = ⟨p.n, p.sec, mm.take 8⟩ by simp [List.take_take]] at k1
    refine zC (zC (zD (kR 1 H R λ a H => kV H (By U3 (H.e R) Am dF) R λ a H => zA (zB (zG H R (wp_exit (AJ (AJ (BD (zB (zC ?_)))))))))))
    have GY : AZ.ok (⟨p.n, p.sec, mm.take 8⟩ : AZ) := ⟨hp.1, hp.2.1, by rw [List.length_take]; omega, hp.2.2.2⟩
    have pM : BK k p = (⟨p.n, p.sec, mm.take 8⟩ : AZ) := by rw [BK, F5, HMM.out]
    refine zD (kV (v := .agg (pv (⟨p.n, p.sec, mm.take 8⟩ : AZ))) H (Af b1 36 _ _ (H.e R) k1 C1 R (AR GY)) R λ a H => AT 36 (.tmp 4) (.tmp 38) b2 36 (pv (⟨p.n, p.sec, mm.take 8⟩ : AZ)) _ (H.e R) (H.e R) k2 (AR GY) (by rw [AI Bz, AI GY]) (BU _) fun w' hb ho kq => ?_)
    clear k2; have k2 := kq; replace k1 := Ae k1 (ho _ (by omega)); replace k4 := Ae k4 (ho _ (by omega)); replace Aa := Aa.trans (hb _ g2); clear hb ho; clear kq; refine kO 1 H rfl λ a H => zA (zB (zF ?_))
    rw [show Cf p = true by rw [Cf, hR]; simp; omega, if_pos rfl, pM]
    exact BF H R R R k2 C1 R (AR GY) ⟨R, Aa⟩
  ·
   refine zD (kV (v := .agg (pv (Ex p))) H (Af b1 36 _ _ (H.e R) k1 C1 R (AR LC)) R λ a H => kC 0 (W4 _ _ LC hR) (Av Vk (H.e R)) H R fun w9 a hb H => ?_)
   replace k0 := k0.ups hb; replace k1 := k1.ups hb; replace k2 := k2.ups hb; replace Aa := Aa.tr hb; clear hb
   refine kR 5 H R λ a H => zA (zB (zC (zC (zD (kR 1 H R λ a H => kV H (E6 O8 (H.e R) Am dT) R λ a H => zA (zB (zH H R (zC (zD (kV (v := .agg (pv Ec)) H (Bl #[] (.agg (pv Ec)) (by simp) (fun w => by kernel_rfl)) R λ a H => AT 36 (.tmp 4) (.tmp 24) b2 36 (pv Ec) _ (H.e R) (H.e R) k2 (AR Bz) R (BU _) fun w' hb ho kq => ?_))))))))))
   clear k2; have k2 := kq; replace k0 := Ae k0 (ho _ (by omega)); replace k1 := Ae k1 (ho _ (by omega)); replace Aa := Aa.trans (hb _ g2); clear hb ho; clear kq; refine kO 1 H rfl λ a H => zA (zB (zF (zJ ?_)))
   rw [show Cf p = false by simp only [Cf, Bool.and_eq_false_iff]; exact .inl (by simpa using hR), if_neg (by simp)]
   exact BF H R R R k2 C1 R (AR Bz) ⟨R, Aa⟩
 ·
  refine zD (kR 1 H R λ a H => kV H (Ai U3 R (H.e R) (AB k1 (AQ hp (j := 0) (by omega)))) R λ a H => kC 0 (U6 _ _ FQ) (Av jS (H.e R)) H R fun w9 a hb H => ?_)
  replace k0 := k0.ups hb; replace k1 := k1.ups hb; replace k2 := k2.ups hb; replace Aa := Aa.tr hb; clear hb
  refine kV H (Bs (H.e R) R) R λ a H => zA (zB (zH H R (zC (zD (kV (v := .agg (pv Ec)) H (Bl #[] (.agg (pv Ec)) (by simp) (fun w => by kernel_rfl)) R λ a H => AT 36 (.tmp 4) (.tmp 14) b2 36 (pv Ec) _ (H.e R) (H.e R) k2 (AR Bz) R (BU _) fun w' hb ho kq => ?_)))))
  clear k2; have k2 := kq; replace k0 := Ae k0 (ho _ (by omega)); replace k1 := Ae k1 (ho _ (by omega)); replace Aa := Aa.trans (hb _ g2); clear hb ho; clear kq; refine kO 1 H rfl λ a H => zA (zB (zF (zJ ?_)))
  rw [show Cf p = false by simp only [Cf, Bool.and_eq_false_iff]; exact .inr (decide_eq_false FQ), if_neg (by simp)]
  exact BF H R R R k2 C1 R (AR Bz) ⟨R, Aa⟩
theorem Xz (w : World) (k : List B8) (p : AZ) (hk : k.length = 16) (hp : p.ok) : Calls Tryz.prog 38 #[.agg (BL k), .agg (pv p)] w fun e w' => e = .returned (.bool (HJ k p)) ∧ Below w.heap.size w w' := by
 have Aa := Below.refl w.heap.size w
 refine Az 21 Tryz.func38 R R λ a H => zC (zD (B7 33 (.tmp 0) (BL k) (H.e R) fun w0 b0 Ak hb k0 => ?_))
 have g0 := Nat.le_trans Aa.size Ak; replace Aa := Aa.tr hb; clear hb; clear Ak; refine kl H rfl λ a H => B7 36 (.tmp 1) (pv p) (H.ev rfl) fun w1 b1 Ak hb k1 => ?_
 have g1 := Nat.le_trans Aa.size Ak; have N7 : b0 < b1 := Nat.lt_of_lt_of_le k0.lt Ak; replace k0 := k0.ups hb; replace Aa := Aa.tr hb; clear hb; clear Ak; refine kL 1 H rfl λ a H => zA (zB (zC (zD (kV (v := .agg (BL k)) H (Af b0 33 _ _ (H.ev rfl) k0 RG rfl (by rw [Bk, hk]; exact Ft)) rfl λ a H => kV (v := .agg (pv p)) H (Af b1 36 _ _ (H.ev rfl) k1 C1 rfl (AR hp)) rfl λ a H => A8 _ _ _ (M2 _ k p hk hp) (AA eP (H.ev rfl) (H.ev rfl)) ?_))))
 rintro e w9 ⟨rfl, hb⟩; refine ⟨_, rfl, ?_⟩; replace k0 := k0.ups hb; replace k1 := k1.ups hb; replace Aa := Aa.tr hb; clear hb; obtain ⟨S, hS⟩ : ∃ S, (if Cf p = true then BK k p else Ec) = S := ⟨_, rfl⟩; have GY : S.ok := (by rw [← hS]; exact F6 hp); rw [hS]; have HS := Lib.hid hS; clear hS; refine kL 3 H rfl λ a H => Bj 36 (pv Ec) Jn fun w2 b2 Ak hb k2 => ?_
 have g2 := Nat.le_trans Aa.size Ak; have Ro : b0 < b2 := Nat.lt_of_lt_of_le k0.lt Ak; have N6 : b1 < b2 := Nat.lt_of_lt_of_le k1.lt Ak; replace k0 := k0.ups hb; replace k1 := k1.ups hb; replace Aa := Aa.tr hb; clear hb; clear Ak; refine kl H rfl λ a H => AT 36 (.tmp 5) (.tmp 11) b2 36 (pv S) _ (H.ev rfl) (H.ev rfl) k2 (AR GY) (by rw [AI Bz, AI GY]) (BU _) fun w' hb ho kq => ?_
 clear k2; have k2 := kq; replace k0 := Ae k0 (ho _ (by omega)); replace k1 := Ae k1 (ho _ (by omega)); replace Aa := Aa.trans (hb _ g2); clear hb ho; clear kq; refine kO 1 H rfl λ a H => zA (zB (zC ?_))
 obtain ⟨so, Hf⟩ : ∃ so, Cf p = so := ⟨_, rfl⟩
 rw [Hf] at H
 have HSO := Lib.hid Hf
 clear Hf
 cases so
 ·
  exact zD (kR 9 H R λ a H => zA (zB (zF (Ag H R R ⟨by rw [HJ, HSO.out]; rfl, Aa⟩))))
 ·
  have Vc : S = BK k p := by rw [← HS.out, if_pos HSO.out]
  by_cases he : S.tg = p.tg
  ·
   exact zD (kR 3 H R λ a H => kG H R (kX 1 (v := .agg (S.tg.map u8v).toArray) H (AL (cs := S.tg.map u8v) (H.e R) (JE k2 GY) (by kernel_rfl) (by rw [List.length_map, GY.2.2.1]; exact LN) R) R λ a H => kG H R (kV (v := .agg (p.tg.map u8v).toArray) H (AL (cs := p.tg.map u8v) (H.e R) (JE k1 hp) (by kernel_rfl) (by rw [List.length_map, hp.2.2.1]; exact LN) R) R λ a H => kG H R (kX 2 (v := .bool true) H (WF GY.2.2.1 hp.2.2.1 (H.e R) (H.e R) (decide_eq_true he)) R λ a H => zA (zB (zF (Ag H R R ⟨by rw [HJ, HSO.out, show F5 k p = S.tg by rw [Vc]; rfl, decide_eq_true he]; rfl, Aa⟩)))))))
  ·
   exact zD (kR 3 H R λ a H => kG H R (kX 1 (v := .agg (S.tg.map u8v).toArray) H (AL (cs := S.tg.map u8v) (H.e R) (JE k2 GY) (by kernel_rfl) (by rw [List.length_map, GY.2.2.1]; exact LN) R) R λ a H => kG H R (kV (v := .agg (p.tg.map u8v).toArray) H (AL (cs := p.tg.map u8v) (H.e R) (JE k1 hp) (by kernel_rfl) (by rw [List.length_map, hp.2.2.1]; exact LN) R) R λ a H => kG H R (kX 2 (v := .bool false) H (WF GY.2.2.1 hp.2.2.1 (H.e R) (H.e R) (decide_eq_false he)) R λ a H => zA (zB (zF (Ag H R R ⟨by rw [HJ, HSO.out, show F5 k p = S.tg by rw [Vc]; rfl, decide_eq_false he]; rfl, Aa⟩)))))))
theorem NO (w : World) (k : List B8) (p : AZ) (hk : k.length = 16) (hp : p.ok) : Calls Tryz.prog 42 #[.agg (BL k), .agg (pv p)] w fun e w' => e = .returned (.bool (HJ k p)) ∧ Below w.heap.size w w' := by
 have Aa := Below.refl w.heap.size w
 refine Az 19 Tryz.func42 R R λ a H => zC (zD (B7 33 (.tmp 0) (BL k) (H.e R) fun w0 b0 Ak hb k0 => ?_))
 have g0 := Nat.le_trans Aa.size Ak; replace Aa := Aa.tr hb; clear hb; clear Ak; refine kl H rfl λ a H => B7 36 (.tmp 1) (pv p) (H.ev rfl) fun w1 b1 Ak hb k1 => ?_
 have g1 := Nat.le_trans Aa.size Ak; have N7 : b0 < b1 := Nat.lt_of_lt_of_le k0.lt Ak; replace k0 := k0.ups hb; replace Aa := Aa.tr hb; clear hb; clear Ak; refine kL 1 H rfl λ a H => zA (zB (zC (zD (kV (v := .agg (BL k)) H (Af b0 33 _ _ (H.ev rfl) k0 RG rfl (by rw [Bk, hk]; exact Ft)) rfl λ a H => kV (v := .agg (pv p)) H (Af b1 36 _ _ (H.ev rfl) k1 C1 rfl (AR hp)) rfl λ a H => A8 _ _ _ (Jr _ k p hk hp) (AA Z3 (H.ev rfl) (H.ev rfl)) ?_))))
 rintro e w9 ⟨rfl, hb⟩; refine ⟨_, rfl, ?_⟩; replace k0 := k0.ups hb; replace k1 := k1.ups hb; replace Aa := Aa.tr hb; clear hb; obtain ⟨S, hS⟩ : ∃ S, (if Cf p = true then BK k p else Ec) = S := ⟨_, rfl⟩; have GY : S.ok := (by rw [← hS]; exact F6 hp); rw [hS]; have HS := Lib.hid hS; clear hS; refine kL 3 H rfl λ a H => Bj 36 (pv Ec) Jn fun w2 b2 Ak hb k2 => ?_
 have g2 := Nat.le_trans Aa.size Ak; have Ro : b0 < b2 := Nat.lt_of_lt_of_le k0.lt Ak; have N6 : b1 < b2 := Nat.lt_of_lt_of_le k1.lt Ak; replace k0 := k0.ups hb; replace k1 := k1.ups hb; replace Aa := Aa.tr hb; clear hb; clear Ak; refine kl H rfl λ a H => AT 36 (.tmp 5) (.tmp 11) b2 36 (pv S) _ (H.ev rfl) (H.ev rfl) k2 (AR GY) (by rw [AI Bz, AI GY]) (BU _) fun w' hb ho kq => ?_
 clear k2; have k2 := kq; replace k0 := Ae k0 (ho _ (by omega)); replace k1 := Ae k1 (ho _ (by omega)); replace Aa := Aa.trans (hb _ g2); clear hb ho; clear kq; refine kO 1 H rfl λ a H => zA (zB (zC ?_))
 obtain ⟨so, Hf⟩ : ∃ so, Cf p = so := ⟨_, rfl⟩
 rw [Hf] at H
 have HSO := Lib.hid Hf
 clear Hf
 cases so
 ·
  exact zD (kR 7 H R λ a H => zA (zB (zF (Ag H R R ⟨by rw [HJ, HSO.out]; rfl, Aa⟩))))
 ·
  have Vc : S = BK k p := by rw [← HS.out, if_pos HSO.out]
  by_cases he : S = p
  ·
   exact zD (kR 2 H R λ a H => kG H R (kV (v := .agg (pv S)) H (Af b2 36 _ _ (H.e R) k2 C1 R (AR GY)) R λ a H => kG H R (kV (v := .agg (pv p)) H (Af b1 36 _ _ (H.e R) k1 C1 R (AR hp)) R λ a H => kG H R (kX 2 (v := .bool true) H (Cd GY hp (H.e R) (H.e R) (decide_eq_true he)) R λ a H => zA (zB (zF (Ag H R R ⟨by rw [HJ, HSO.out, decide_eq_true (show F5 k p = p.tg by rw [← Wl, ← Vc]; exact he)]; rfl, Aa⟩)))))))
  ·
   exact zD (kR 2 H R λ a H => kG H R (kV (v := .agg (pv S)) H (Af b2 36 _ _ (H.e R) k2 C1 R (AR GY)) R λ a H => kG H R (kV (v := .agg (pv p)) H (Af b1 36 _ _ (H.e R) k1 C1 R (AR hp)) R λ a H => kG H R (kX 2 (v := .bool false) H (Cd GY hp (H.e R) (H.e R) (decide_eq_false he)) R λ a H => zA (zB (zF (Ag H R R ⟨by rw [HJ, HSO.out, decide_eq_false (show ¬ F5 k p = p.tg by rw [← Wl, ← Vc]; exact he)]; rfl, Aa⟩)))))))
end Go.Proofs.YtbnmpoonkjlkjaaGreat
