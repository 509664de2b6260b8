/- Client: part G of the proof. -/
import Derived.Test.YtbnmpoonkjlkjaaGreatXF
import Derived.Test.YtbnmpoonkjlkjaaGreatXC
namespace Go.Proofs.YtbnmpoonkjlkjaaGreat
open Go.RowKit
set_option linter.unusedVariables false
set_option linter.unusedSimpArgs false
def encT (x : Nat × Nat × Nat × Nat) : List Int := [(x.1 : Int), (x.2.1 : Int), (x.2.2.1 : Int), (x.2.2.2 : Int)]
theorem encT_len (x : Nat × Nat × Nat × Nat) : (encT x).length = 4 := rfl
def ptail (k : Int) : List (Nat × Nat × Nat × Nat) := if 2 ≤ k ∧ k ≤ 4 then [(11, 16, 0, 0)] else if 5 ≤ k ∧ k ≤ 11 then [(12, 8, 0, 0)] else []
def pconv (s : Nat × Nat × Nat × Nat) : Nat × Nat × Nat × Nat := (atF s.1 - 1, s.2.1, s.2.2.1, s.2.2.2)
/-- the document's pieces of a kind -/
def partsF (k : Int) : List (Nat × Nat × Nat × Nat) := (slotsF k).map pconv ++ ptail k
theorem parts_none {k : Int} (h : k ≠ 1 ∧ k ≠ 2 ∧ k ≠ 3 ∧ k ≠ 4 ∧ k ≠ 5 ∧ k ≠ 6 ∧ k ≠ 7 ∧ k ≠ 8 ∧ k ≠ 9 ∧ k ≠ 10 ∧ k ≠ 11 ∧ k ≠ 12) : partsF k = [] := by
 obtain ⟨h1, h2, h3, h4, h5, h6, h7, h8, h9, h10, h11, h12⟩ := h
 have e1 : slotsF k = [] := by simp [slotsF, *]
 have e2 : ptail k = [] := by
  unfold ptail
  rw [if_neg (by omega), if_neg (by omega)]
 rw [partsF, e1, e2]
 rfl
set_option maxRecDepth 100000 in
set_option maxHeartbeats 4000000 in
theorem rparts_any (w : World) (k : Int) : Calls Tryz.prog 71 #[.int .i64 k] w fun e w' => (∃ A, e = .returned (.slice A (partsF k).length (partsF k).length) ∧ Holds w' A (FV encT (partsF k)) ∧ ∀ b o, A = some ⟨b, o, none⟩ → w.heap.size ≤ b) ∧ Below w.heap.size w w' := by
 have hall := Below.refl w.heap.size w
 refine K_enter 82 Tryz.func71 rfl rfl fun a H => ?_
 replace H := H.pick [0]
 refine zC (zD ?_)
 refine kR 1 H rfl fun a H => ?_
 refine zA (zB (zC (zD ?_)))
 refine kV H (r_build #[(0, .int .i64 11), (1, .int .i64 16), (2, .int .i64 0), (3, .int .i64 0)] (.agg #[.int .i64 11, .int .i64 16, .int .i64 0, .int .i64 0]) (by simp [evc]) (fun w => by kernel_rfl)) rfl fun a H => ?_
 refine op_new 99 3 (.tmp 5) #[.int .i64 11, .int .i64 16, .int .i64 0, .int .i64 0] _ z99 s99 rfl (ints_one [11, 16, 0, 0]) (fun p => (H.put 3 p rfl).ev rfl) (fun p => (H.put 3 p rfl).ev rfl) fun w0 b0 hge hb k0 => ?_; have g0 := Nat.le_trans hall.size hge; replace hall := hall.tr hb; clear hb; clear hge; refine kl H rfl fun a H => ?_
 refine zA (zB (zC (zD ?_)))
 refine kV H (r_build #[(0, .int .i64 12), (1, .int .i64 8), (2, .int .i64 0), (3, .int .i64 0)] (.agg #[.int .i64 12, .int .i64 8, .int .i64 0, .int .i64 0]) (by simp [evc]) (fun w => by kernel_rfl)) rfl fun a H => ?_
 refine op_new 99 4 (.tmp 6) #[.int .i64 12, .int .i64 8, .int .i64 0, .int .i64 0] _ z99 s99 rfl (ints_one [12, 8, 0, 0]) (fun p => (H.put 4 p rfl).ev rfl) (fun p => (H.put 4 p rfl).ev rfl) fun w1 b1 hge hb k1 => ?_; have g1 := Nat.le_trans hall.size hge; replace k0 := Block.ups k0 hb; replace hall := hall.tr hb; clear hb; clear hge; refine kl H rfl fun a H => ?_
 refine zA (zB (zC (zC (zD ?_))))
 refine kR 1 H rfl fun a H => ?_
 refine zA (zB ?_)
 refine wp_block ?_
 refine zC (zD ?_)
 by_cases hcc0 : k = 1
 ·
  refine kV H (r_eq U3 (H.ev rfl) evc (dec_t (hcc0))) rfl fun a H => ?_
  refine kR 1 H rfl fun a H => ?_
  refine zA (zB (zH H rfl (zC (zD ?_))))
  refine wl_call _ _ _ (rid_any _ 9 0) (r_call2 cf109 evc evc) ?_; rintro e w9 ⟨rfl, hb⟩; refine ⟨_, rfl, ?_⟩; replace k0 := Block.ups k0 hb; replace k1 := Block.ups k1 hb; replace hall := hall.tr hb; clear hb; refine kl H rfl fun a H => ?_
  refine op_litv 96 1 #[(0, .agg #[.int .i64 9, .int .i64 4, .int .i64 0, .int .i64 1073741824])] 99 #[.int .i64 9, .int .i64 4, .int .i64 0, .int .i64 1073741824] (by simp [evc, H.ev (j := 10) rfl]) (fun w => by kernel_rfl) fun w2 b2 hge hb k2 => ?_; have g2 := Nat.le_trans hall.size hge; replace k0 := Block.ups k0 hb; replace k1 := Block.ups k1 hb; replace hall := hall.tr hb; clear hb; clear hge; refine kl H rfl fun a H => ?_
  refine kR 1 H rfl fun a H => ?_
  refine zA (zB (zF (r_block (zJ ?_))))
  subst hcc0
  exact k_ret1 H rfl rfl ⟨⟨some ⟨b2, 0, none⟩, rfl, holds_block k2 rfl, fun b o e => by injection e with e; injection e with e; subst e; exact g2⟩, hall⟩
 ·
  refine kV H (r_eq U3 (H.ev rfl) evc (dec_f (hcc0))) rfl fun a H => ?_
  refine kR 1 H rfl fun a H => ?_
  refine zA (zB (zG H rfl (zC (zD ?_))))
  by_cases hcc1 : k = 2
  ·
   refine kV H (r_eq U3 (H.ev rfl) evc (dec_t (hcc1))) rfl fun a H => ?_
   refine kR 1 H rfl fun a H => ?_
   refine zA (zB (zH H rfl (zC ?_)))
   have hall7 := hall
   have hS : BelowOf (BelowTo hall7) _ := Below.drew (Below.refl _ (BelowTo hall7))
   refine region_tree (BelowOf (BelowTo hall7)) 5 (.fl 2 (.one 0 (.one 1 (.one 3 (.fl 4 .done))))) (by kernel_rfl) (by kernel_rfl) rfl (by kernel_rfl) hS ?_
   refine kF H rfl rfl (fun w' hS' => r_row (cs := [.int .i64 11, .int .i64 16, .int .i64 0, .int .i64 0]) (H.ev rfl) (block_range (Block.ups k0 hS')) (by kernel_rfl) s99 rfl) rfl fun a H => ?_
   refine pt_one (fun K hK => ?_)
   refine st_a0 rfl ?_; refine wpo_call _ _ _ (rid_any _ 9 0) (r_call2 cf109 evc evc) ?_; rintro e w9 ⟨rfl, hb⟩; refine ⟨_, rfl, ?_⟩; replace hS := Below.trans hS (Below.mono hb (Below.size hS)); clear hb; refine hK _ _ ⟨(fun _ => hS), ?_⟩; clear hK; clear K; refine kt H rfl fun a H => ?_
   refine pt_one (fun K hK => ?_)
   refine st_a0 rfl ?_; refine wpo_call _ _ _ (rid_any _ 10 0) (r_call2 cf109 evc evc) ?_; rintro e w9 ⟨rfl, hb⟩; refine ⟨_, rfl, ?_⟩; replace hS := Below.trans hS (Below.mono hb (Below.size hS)); clear hb; refine hK _ _ ⟨(fun _ => hS), ?_⟩; clear hK; clear K; refine kt H rfl fun a H => ?_
   refine pt_one (fun K hK => ?_)
   refine st_a0 rfl ?_; refine wpo_litv 96 3 #[(0, .agg #[.int .i64 9, .int .i64 4, .int .i64 0, .int .i64 1073741824]), (1, .agg #[.int .i64 10, .int .i64 4, .int .i64 0, .int .i64 1073741824]), (2, .agg #[.int .i64 11, .int .i64 16, .int .i64 0, .int .i64 0])] 99 #[.int .i64 9, .int .i64 4, .int .i64 0, .int .i64 1073741824, .int .i64 10, .int .i64 4, .int .i64 0, .int .i64 1073741824, .int .i64 11, .int .i64 16, .int .i64 0, .int .i64 0] (by simp [evc, H.ev (j := 14) rfl, H.ev (j := 15) rfl, H.ev (j := 16) rfl]) (fun w => by kernel_rfl) fun w3 b3 hge hb k3 => ?_; have g3 := Nat.le_trans (Nat.le_trans hall.size (Below.size hS)) hge; replace hS := Below.trans hS (Below.mono hb (Below.size hS)); clear hb hge; refine hK _ _ ⟨(fun _ => hS), ?_⟩; clear hK; clear K; refine kt H rfl fun a H => ?_
   refine kQ 1 H rfl fun a H => ?_
   refine pt_done (NoPanic.normal ?_)
   replace k0 := Block.ups k0 hS
   replace k1 := Block.ups k1 hS
   replace hall := hall.trans (Below.mono hS hall.size)
   clear hS
   refine zB (zF (r_block (zJ ?_)))
   subst hcc1
   exact k_ret1 H rfl rfl ⟨⟨some ⟨b3, 0, none⟩, rfl, holds_block k3 rfl, fun b o e => by injection e with e; injection e with e; subst e; exact g3⟩, hall⟩
  ·
   refine kV H (r_eq U3 (H.ev rfl) evc (dec_f (hcc1))) rfl fun a H => ?_
   refine kR 1 H rfl fun a H => ?_
   refine zA (zB (zG H rfl (zC (zD ?_))))
   by_cases hcc2 : k = 3
   ·
    refine kV H (r_eq U3 (H.ev rfl) evc (dec_t (hcc2))) rfl fun a H => ?_
    refine kR 1 H rfl fun a H => ?_
    refine zA (zB (zH H rfl (zC ?_)))
    have hall9 := hall
    have hS : BelowOf (BelowTo hall9) _ := Below.drew (Below.refl _ (BelowTo hall9))
    refine region_tree (BelowOf (BelowTo hall9)) 6 (.fl 3 (.one 0 (.one 1 (.one 2 (.one 4 (.fl 5 .done)))))) (by kernel_rfl) (by kernel_rfl) rfl (by kernel_rfl) hS ?_
    refine kF H rfl rfl (fun w' hS' => r_row (cs := [.int .i64 11, .int .i64 16, .int .i64 0, .int .i64 0]) (H.ev rfl) (block_range (Block.ups k0 hS')) (by kernel_rfl) s99 rfl) rfl fun a H => ?_
    refine pt_one (fun K hK => ?_)
    refine st_a0 rfl ?_; refine wpo_call _ _ _ (rsmall_any _ 2 1 16) (r_call3 cf110 evc evc evc) ?_; rintro e w9 ⟨rfl, hb⟩; refine ⟨_, rfl, ?_⟩; replace hS := Below.trans hS (Below.mono hb (Below.size hS)); clear hb; refine hK _ _ ⟨(fun _ => hS), ?_⟩; clear hK; clear K; refine kt H rfl fun a H => ?_
    refine pt_one (fun K hK => ?_)
    refine st_a0 rfl ?_; refine wpo_call _ _ _ (rid_any _ 9 0) (r_call2 cf109 evc evc) ?_; rintro e w9 ⟨rfl, hb⟩; refine ⟨_, rfl, ?_⟩; replace hS := Below.trans hS (Below.mono hb (Below.size hS)); clear hb; refine hK _ _ ⟨(fun _ => hS), ?_⟩; clear hK; clear K; refine kt H rfl fun a H => ?_
    refine pt_one (fun K hK => ?_)
    refine st_a0 rfl ?_; refine wpo_call _ _ _ (rid_any _ 10 0) (r_call2 cf109 evc evc) ?_; rintro e w9 ⟨rfl, hb⟩; refine ⟨_, rfl, ?_⟩; replace hS := Below.trans hS (Below.mono hb (Below.size hS)); clear hb; refine hK _ _ ⟨(fun _ => hS), ?_⟩; clear hK; clear K; refine kt H rfl fun a H => ?_
    refine pt_one (fun K hK => ?_)
    refine st_a0 rfl ?_; refine wpo_litv 96 4 #[(0, .agg #[.int .i64 2, .int .i64 1, .int .i64 1, .int .i64 16]), (1, .agg #[.int .i64 9, .int .i64 4, .int .i64 0, .int .i64 1073741824]), (2, .agg #[.int .i64 10, .int .i64 4, .int .i64 0, .int .i64 1073741824]), (3, .agg #[.int .i64 11, .int .i64 16, .int .i64 0, .int .i64 0])] 99 #[.int .i64 2, .int .i64 1, .int .i64 1, .int .i64 16, .int .i64 9, .int .i64 4, .int .i64 0, .int .i64 1073741824, .int .i64 10, .int .i64 4, .int .i64 0, .int .i64 1073741824, .int .i64 11, .int .i64 16, .int .i64 0, .int .i64 0] (by simp [evc, H.ev (j := 20) rfl, H.ev (j := 21) rfl, H.ev (j := 22) rfl, H.ev (j := 23) rfl]) (fun w => by kernel_rfl) fun w4 b4 hge hb k4 => ?_; have g4 := Nat.le_trans (Nat.le_trans hall.size (Below.size hS)) hge; replace hS := Below.trans hS (Below.mono hb (Below.size hS)); clear hb hge; refine hK _ _ ⟨(fun _ => hS), ?_⟩; clear hK; clear K; refine kt H rfl fun a H => ?_
    refine kQ 1 H rfl fun a H => ?_
    refine pt_done (NoPanic.normal ?_)
    replace k0 := Block.ups k0 hS
    replace k1 := Block.ups k1 hS
    replace hall := hall.trans (Below.mono hS hall.size)
    clear hS
    refine zB (zF (r_block (zJ ?_)))
    subst hcc2
    exact k_ret1 H rfl rfl ⟨⟨some ⟨b4, 0, none⟩, rfl, holds_block k4 rfl, fun b o e => by injection e with e; injection e with e; subst e; exact g4⟩, hall⟩
   ·
    refine kV H (r_eq U3 (H.ev rfl) evc (dec_f (hcc2))) rfl fun a H => ?_
    refine kR 1 H rfl fun a H => ?_
    refine zA (zB (zG H rfl (zC (zD ?_))))
    by_cases hcc3 : k = 4
    ·
     refine kV H (r_eq U3 (H.ev rfl) evc (dec_t (hcc3))) rfl fun a H => ?_
     refine kR 1 H rfl fun a H => ?_
     refine zA (zB (zH H rfl (zC ?_)))
     have hall11 := hall
     have hS : BelowOf (BelowTo hall11) _ := Below.drew (Below.refl _ (BelowTo hall11))
     refine region_tree (BelowOf (BelowTo hall11)) 5 (.fl 2 (.one 0 (.one 1 (.one 3 (.fl 4 .done))))) (by kernel_rfl) (by kernel_rfl) rfl (by kernel_rfl) hS ?_
     refine kF H rfl rfl (fun w' hS' => r_row (cs := [.int .i64 11, .int .i64 16, .int .i64 0, .int .i64 0]) (H.ev rfl) (block_range (Block.ups k0 hS')) (by kernel_rfl) s99 rfl) rfl fun a H => ?_
     refine pt_one (fun K hK => ?_)
     refine st_a0 rfl ?_; refine wpo_call _ _ _ (rid_any _ 0 1) (r_call2 cf109 evc evc) ?_; rintro e w9 ⟨rfl, hb⟩; refine ⟨_, rfl, ?_⟩; replace hS := Below.trans hS (Below.mono hb (Below.size hS)); clear hb; refine hK _ _ ⟨(fun _ => hS), ?_⟩; clear hK; clear K; refine kt H rfl fun a H => ?_
     refine pt_one (fun K hK => ?_)
     refine st_a0 rfl ?_; refine wpo_call _ _ _ (rid_any _ 9 0) (r_call2 cf109 evc evc) ?_; rintro e w9 ⟨rfl, hb⟩; refine ⟨_, rfl, ?_⟩; replace hS := Below.trans hS (Below.mono hb (Below.size hS)); clear hb; refine hK _ _ ⟨(fun _ => hS), ?_⟩; clear hK; clear K; refine kt H rfl fun a H => ?_
     refine pt_one (fun K hK => ?_)
     refine st_a0 rfl ?_; refine wpo_litv 96 3 #[(0, .agg #[.int .i64 0, .int .i64 4, .int .i64 1, .int .i64 1073741824]), (1, .agg #[.int .i64 9, .int .i64 4, .int .i64 0, .int .i64 1073741824]), (2, .agg #[.int .i64 11, .int .i64 16, .int .i64 0, .int .i64 0])] 99 #[.int .i64 0, .int .i64 4, .int .i64 1, .int .i64 1073741824, .int .i64 9, .int .i64 4, .int .i64 0, .int .i64 1073741824, .int .i64 11, .int .i64 16, .int .i64 0, .int .i64 0] (by simp [evc, H.ev (j := 27) rfl, H.ev (j := 28) rfl, H.ev (j := 29) rfl]) (fun w => by kernel_rfl) fun w5 b5 hge hb k5 => ?_; have g5 := Nat.le_trans (Nat.le_trans hall.size (Below.size hS)) hge; replace hS := Below.trans hS (Below.mono hb (Below.size hS)); clear hb hge; refine hK _ _ ⟨(fun _ => hS), ?_⟩; clear hK; clear K; refine kt H rfl fun a H => ?_
     refine kQ 1 H rfl fun a H => ?_
     refine pt_done (NoPanic.normal ?_)
     replace k0 := Block.ups k0 hS
     replace k1 := Block.ups k1 hS
     replace hall := hall.trans (Below.mono hS hall.size)
     clear hS
     refine zB (zF (r_block (zJ ?_)))
     subst hcc3
     exact k_ret1 H rfl rfl ⟨⟨some ⟨b5, 0, none⟩, rfl, holds_block k5 rfl, fun b o e => by injection e with e; injection e with e; subst e; exact g5⟩, hall⟩
    ·
     refine kV H (r_eq U3 (H.ev rfl) evc (dec_f (hcc3))) rfl fun a H => ?_
     refine kR 1 H rfl fun a H => ?_
     refine zA (zB (zG H rfl (zC (zC (zD ?_)))))
     by_cases hcc4 : k = 5
     ·
      refine kV H (r_eq U3 (H.ev rfl) evc (dec_t (hcc4))) rfl fun a H => ?_
      refine kR 1 H rfl fun a H => ?_
      refine zA (zB (zH H rfl (zE (zB (zH H rfl (zC ?_))))))
      have hall14 := hall
      have hS : BelowOf (BelowTo hall14) _ := Below.drew (Below.refl _ (BelowTo hall14))
      refine region_tree (BelowOf (BelowTo hall14)) 5 (.fl 2 (.one 0 (.one 1 (.one 3 (.fl 4 .done))))) (by kernel_rfl) (by kernel_rfl) rfl (by kernel_rfl) hS ?_
      refine kF H rfl rfl (fun w' hS' => r_row (cs := [.int .i64 12, .int .i64 8, .int .i64 0, .int .i64 0]) (H.ev rfl) (block_range (Block.ups k1 hS')) (by kernel_rfl) s99 rfl) rfl fun a H => ?_
      refine pt_one (fun K hK => ?_)
      refine st_a0 rfl ?_; refine wpo_call _ _ _ (rid_any _ 0 1) (r_call2 cf109 evc evc) ?_; rintro e w9 ⟨rfl, hb⟩; refine ⟨_, rfl, ?_⟩; replace hS := Below.trans hS (Below.mono hb (Below.size hS)); clear hb; refine hK _ _ ⟨(fun _ => hS), ?_⟩; clear hK; clear K; refine kt H rfl fun a H => ?_
      refine pt_one (fun K hK => ?_)
      refine st_a0 rfl ?_; refine wpo_call _ _ _ (rid_any _ 1 1) (r_call2 cf109 evc evc) ?_; rintro e w9 ⟨rfl, hb⟩; refine ⟨_, rfl, ?_⟩; replace hS := Below.trans hS (Below.mono hb (Below.size hS)); clear hb; refine hK _ _ ⟨(fun _ => hS), ?_⟩; clear hK; clear K; refine kt H rfl fun a H => ?_
      refine pt_one (fun K hK => ?_)
      refine st_a0 rfl ?_; refine wpo_litv 96 3 #[(0, .agg #[.int .i64 0, .int .i64 4, .int .i64 1, .int .i64 1073741824]), (1, .agg #[.int .i64 1, .int .i64 4, .int .i64 1, .int .i64 1073741824]), (2, .agg #[.int .i64 12, .int .i64 8, .int .i64 0, .int .i64 0])] 99 #[.int .i64 0, .int .i64 4, .int .i64 1, .int .i64 1073741824, .int .i64 1, .int .i64 4, .int .i64 1, .int .i64 1073741824, .int .i64 12, .int .i64 8, .int .i64 0, .int .i64 0] (by simp [evc, H.ev (j := 34) rfl, H.ev (j := 35) rfl, H.ev (j := 36) rfl]) (fun w => by kernel_rfl) fun w6 b6 hge hb k6 => ?_; have g6 := Nat.le_trans (Nat.le_trans hall.size (Below.size hS)) hge; replace hS := Below.trans hS (Below.mono hb (Below.size hS)); clear hb hge; refine hK _ _ ⟨(fun _ => hS), ?_⟩; clear hK; clear K; refine kt H rfl fun a H => ?_
      refine kQ 1 H rfl fun a H => ?_
      refine pt_done (NoPanic.normal ?_)
      replace k0 := Block.ups k0 hS
      replace k1 := Block.ups k1 hS
      replace hall := hall.trans (Below.mono hS hall.size)
      clear hS
      refine zB (zF (r_block (zJ ?_)))
      subst hcc4
      exact k_ret1 H rfl rfl ⟨⟨some ⟨b6, 0, none⟩, rfl, holds_block k6 rfl, fun b o e => by injection e with e; injection e with e; subst e; exact g6⟩, hall⟩
     ·
      refine kV H (r_eq U3 (H.ev rfl) evc (dec_f (hcc4))) rfl fun a H => ?_
      refine kR 1 H rfl fun a H => ?_
      refine zA (zB (zG H rfl (zD ?_)))
      by_cases hcc5 : k = 10
      ·
       refine kV H (r_eq U3 (H.ev rfl) evc (dec_t (hcc5))) rfl fun a H => ?_
       refine kR 1 H rfl fun a H => ?_
       refine zA (zB (zH H rfl (zC ?_)))
       have hall14 := hall
       have hS : BelowOf (BelowTo hall14) _ := Below.drew (Below.refl _ (BelowTo hall14))
       refine region_tree (BelowOf (BelowTo hall14)) 5 (.fl 2 (.one 0 (.one 1 (.one 3 (.fl 4 .done))))) (by kernel_rfl) (by kernel_rfl) rfl (by kernel_rfl) hS ?_
       refine kF H rfl rfl (fun w' hS' => r_row (cs := [.int .i64 12, .int .i64 8, .int .i64 0, .int .i64 0]) (H.ev rfl) (block_range (Block.ups k1 hS')) (by kernel_rfl) s99 rfl) rfl fun a H => ?_
       refine pt_one (fun K hK => ?_)
       refine st_a0 rfl ?_; refine wpo_call _ _ _ (rid_any _ 0 1) (r_call2 cf109 evc evc) ?_; rintro e w9 ⟨rfl, hb⟩; refine ⟨_, rfl, ?_⟩; replace hS := Below.trans hS (Below.mono hb (Below.size hS)); clear hb; refine hK _ _ ⟨(fun _ => hS), ?_⟩; clear hK; clear K; refine kt H rfl fun a H => ?_
       refine pt_one (fun K hK => ?_)
       refine st_a0 rfl ?_; refine wpo_call _ _ _ (rid_any _ 1 1) (r_call2 cf109 evc evc) ?_; rintro e w9 ⟨rfl, hb⟩; refine ⟨_, rfl, ?_⟩; replace hS := Below.trans hS (Below.mono hb (Below.size hS)); clear hb; refine hK _ _ ⟨(fun _ => hS), ?_⟩; clear hK; clear K; refine kt H rfl fun a H => ?_
       refine pt_one (fun K hK => ?_)
       refine st_a0 rfl ?_; refine wpo_litv 96 3 #[(0, .agg #[.int .i64 0, .int .i64 4, .int .i64 1, .int .i64 1073741824]), (1, .agg #[.int .i64 1, .int .i64 4, .int .i64 1, .int .i64 1073741824]), (2, .agg #[.int .i64 12, .int .i64 8, .int .i64 0, .int .i64 0])] 99 #[.int .i64 0, .int .i64 4, .int .i64 1, .int .i64 1073741824, .int .i64 1, .int .i64 4, .int .i64 1, .int .i64 1073741824, .int .i64 12, .int .i64 8, .int .i64 0, .int .i64 0] (by simp [evc, H.ev (j := 34) rfl, H.ev (j := 35) rfl, H.ev (j := 36) rfl]) (fun w => by kernel_rfl) fun w7 b7 hge hb k7 => ?_; have g7 := Nat.le_trans (Nat.le_trans hall.size (Below.size hS)) hge; replace hS := Below.trans hS (Below.mono hb (Below.size hS)); clear hb hge; refine hK _ _ ⟨(fun _ => hS), ?_⟩; clear hK; clear K; refine kt H rfl fun a H => ?_
       refine kQ 1 H rfl fun a H => ?_
       refine pt_done (NoPanic.normal ?_)
       replace k0 := Block.ups k0 hS
       replace k1 := Block.ups k1 hS
       replace hall := hall.trans (Below.mono hS hall.size)
       clear hS
       refine zB (zF (r_block (zJ ?_)))
       subst hcc5
       exact k_ret1 H rfl rfl ⟨⟨some ⟨b7, 0, none⟩, rfl, holds_block k7 rfl, fun b o e => by injection e with e; injection e with e; subst e; exact g7⟩, hall⟩
      ·
       refine kV H (r_eq U3 (H.ev rfl) evc (dec_f (hcc5))) rfl fun a H => ?_
       refine kR 1 H rfl fun a H => ?_
       refine zA (zB (zG H rfl (zC (zD ?_))))
       by_cases hcc6 : k = 6
       ·
        refine kV H (r_eq U3 (H.ev rfl) evc (dec_t (hcc6))) rfl fun a H => ?_
        refine kR 1 H rfl fun a H => ?_
        refine zA (zB (zH H rfl (zC ?_)))
        have hall16 := hall
        have hS : BelowOf (BelowTo hall16) _ := Below.drew (Below.refl _ (BelowTo hall16))
        refine region_tree (BelowOf (BelowTo hall16)) 6 (.fl 3 (.one 0 (.one 1 (.one 2 (.one 4 (.fl 5 .done)))))) (by kernel_rfl) (by kernel_rfl) rfl (by kernel_rfl) hS ?_
        refine kF H rfl rfl (fun w' hS' => r_row (cs := [.int .i64 12, .int .i64 8, .int .i64 0, .int .i64 0]) (H.ev rfl) (block_range (Block.ups k1 hS')) (by kernel_rfl) s99 rfl) rfl fun a H => ?_
        refine pt_one (fun K hK => ?_)
        refine st_a0 rfl ?_; refine wpo_call _ _ _ (rid_any _ 0 1) (r_call2 cf109 evc evc) ?_; rintro e w9 ⟨rfl, hb⟩; refine ⟨_, rfl, ?_⟩; replace hS := Below.trans hS (Below.mono hb (Below.size hS)); clear hb; refine hK _ _ ⟨(fun _ => hS), ?_⟩; clear hK; clear K; refine kt H rfl fun a H => ?_
        refine pt_one (fun K hK => ?_)
        refine st_a0 rfl ?_; refine wpo_call _ _ _ (rid_any _ 1 1) (r_call2 cf109 evc evc) ?_; rintro e w9 ⟨rfl, hb⟩; refine ⟨_, rfl, ?_⟩; replace hS := Below.trans hS (Below.mono hb (Below.size hS)); clear hb; refine hK _ _ ⟨(fun _ => hS), ?_⟩; clear hK; clear K; refine kt H rfl fun a H => ?_
        refine pt_one (fun K hK => ?_)
        refine st_a0 rfl ?_; refine wpo_call _ _ _ (rsmall_any _ 4 1 3) (r_call3 cf110 evc evc evc) ?_; rintro e w9 ⟨rfl, hb⟩; refine ⟨_, rfl, ?_⟩; replace hS := Below.trans hS (Below.mono hb (Below.size hS)); clear hb; refine hK _ _ ⟨(fun _ => hS), ?_⟩; clear hK; clear K; refine kt H rfl fun a H => ?_
        refine pt_one (fun K hK => ?_)
        refine st_a0 rfl ?_; refine wpo_litv 96 4 #[(0, .agg #[.int .i64 0, .int .i64 4, .int .i64 1, .int .i64 1073741824]), (1, .agg #[.int .i64 1, .int .i64 4, .int .i64 1, .int .i64 1073741824]), (2, .agg #[.int .i64 4, .int .i64 1, .int .i64 1, .int .i64 3]), (3, .agg #[.int .i64 12, .int .i64 8, .int .i64 0, .int .i64 0])] 99 #[.int .i64 0, .int .i64 4, .int .i64 1, .int .i64 1073741824, .int .i64 1, .int .i64 4, .int .i64 1, .int .i64 1073741824, .int .i64 4, .int .i64 1, .int .i64 1, .int .i64 3, .int .i64 12, .int .i64 8, .int .i64 0, .int .i64 0] (by simp [evc, H.ev (j := 40) rfl, H.ev (j := 41) rfl, H.ev (j := 42) rfl, H.ev (j := 43) rfl]) (fun w => by kernel_rfl) fun w8 b8 hge hb k8 => ?_; have g8 := Nat.le_trans (Nat.le_trans hall.size (Below.size hS)) hge; replace hS := Below.trans hS (Below.mono hb (Below.size hS)); clear hb hge; refine hK _ _ ⟨(fun _ => hS), ?_⟩; clear hK; clear K; refine kt H rfl fun a H => ?_
        refine kQ 1 H rfl fun a H => ?_
        refine pt_done (NoPanic.normal ?_)
        replace k0 := Block.ups k0 hS
        replace k1 := Block.ups k1 hS
        replace hall := hall.trans (Below.mono hS hall.size)
        clear hS
        refine zB (zF (r_block (zJ ?_)))
        subst hcc6
        exact k_ret1 H rfl rfl ⟨⟨some ⟨b8, 0, none⟩, rfl, holds_block k8 rfl, fun b o e => by injection e with e; injection e with e; subst e; exact g8⟩, hall⟩
       ·
        refine kV H (r_eq U3 (H.ev rfl) evc (dec_f (hcc6))) rfl fun a H => ?_
        refine kR 1 H rfl fun a H => ?_
        refine zA (zB (zG H rfl (zC (zD ?_))))
        by_cases hcc7 : k = 7
        ·
         refine kV H (r_eq U3 (H.ev rfl) evc (dec_t (hcc7))) rfl fun a H => ?_
         refine kR 1 H rfl fun a H => ?_
         refine zA (zB (zH H rfl (zC ?_)))
         have hall18 := hall
         have hS : BelowOf (BelowTo hall18) _ := Below.drew (Below.refl _ (BelowTo hall18))
         refine region_tree (BelowOf (BelowTo hall18)) 7 (.fl 4 (.one 0 (.one 1 (.one 2 (.one 3 (.one 5 (.fl 6 .done))))))) (by kernel_rfl) (by kernel_rfl) rfl (by kernel_rfl) hS ?_
         refine kF H rfl rfl (fun w' hS' => r_row (cs := [.int .i64 12, .int .i64 8, .int .i64 0, .int .i64 0]) (H.ev rfl) (block_range (Block.ups k1 hS')) (by kernel_rfl) s99 rfl) rfl fun a H => ?_
         refine pt_one (fun K hK => ?_)
         refine st_a0 rfl ?_; refine wpo_call _ _ _ (rid_any _ 0 1) (r_call2 cf109 evc evc) ?_; rintro e w9 ⟨rfl, hb⟩; refine ⟨_, rfl, ?_⟩; replace hS := Below.trans hS (Below.mono hb (Below.size hS)); clear hb; refine hK _ _ ⟨(fun _ => hS), ?_⟩; clear hK; clear K; refine kt H rfl fun a H => ?_
         refine pt_one (fun K hK => ?_)
         refine st_a0 rfl ?_; refine wpo_call _ _ _ (rid_any _ 1 1) (r_call2 cf109 evc evc) ?_; rintro e w9 ⟨rfl, hb⟩; refine ⟨_, rfl, ?_⟩; replace hS := Below.trans hS (Below.mono hb (Below.size hS)); clear hb; refine hK _ _ ⟨(fun _ => hS), ?_⟩; clear hK; clear K; refine kt H rfl fun a H => ?_
         refine pt_one (fun K hK => ?_)
         refine st_a0 rfl ?_; refine wpo_call _ _ _ (rsmall_any _ 3 1 7) (r_call3 cf110 evc evc evc) ?_; rintro e w9 ⟨rfl, hb⟩; refine ⟨_, rfl, ?_⟩; replace hS := Below.trans hS (Below.mono hb (Below.size hS)); clear hb; refine hK _ _ ⟨(fun _ => hS), ?_⟩; clear hK; clear K; refine kt H rfl fun a H => ?_
         refine pt_one (fun K hK => ?_)
         refine st_a0 rfl ?_; refine wpo_call _ _ _ (rsmall_any _ 2 1 16) (r_call3 cf110 evc evc evc) ?_; rintro e w9 ⟨rfl, hb⟩; refine ⟨_, rfl, ?_⟩; replace hS := Below.trans hS (Below.mono hb (Below.size hS)); clear hb; refine hK _ _ ⟨(fun _ => hS), ?_⟩; clear hK; clear K; refine kt H rfl fun a H => ?_
         refine pt_one (fun K hK => ?_)
         refine st_a0 rfl ?_; refine wpo_litv 96 5 #[(0, .agg #[.int .i64 0, .int .i64 4, .int .i64 1, .int .i64 1073741824]), (1, .agg #[.int .i64 1, .int .i64 4, .int .i64 1, .int .i64 1073741824]), (2, .agg #[.int .i64 3, .int .i64 1, .int .i64 1, .int .i64 7]), (3, .agg #[.int .i64 2, .int .i64 1, .int .i64 1, .int .i64 16]), (4, .agg #[.int .i64 12, .int .i64 8, .int .i64 0, .int .i64 0])] 99 #[.int .i64 0, .int .i64 4, .int .i64 1, .int .i64 1073741824, .int .i64 1, .int .i64 4, .int .i64 1, .int .i64 1073741824, .int .i64 3, .int .i64 1, .int .i64 1, .int .i64 7, .int .i64 2, .int .i64 1, .int .i64 1, .int .i64 16, .int .i64 12, .int .i64 8, .int .i64 0, .int .i64 0] (by simp [evc, H.ev (j := 47) rfl, H.ev (j := 48) rfl, H.ev (j := 49) rfl, H.ev (j := 50) rfl, H.ev (j := 51) rfl]) (fun w => by kernel_rfl) fun w9 b9 hge hb k9 => ?_; have g9 := Nat.le_trans (Nat.le_trans hall.size (Below.size hS)) hge; replace hS := Below.trans hS (Below.mono hb (Below.size hS)); clear hb hge; refine hK _ _ ⟨(fun _ => hS), ?_⟩; clear hK; clear K; refine kt H rfl fun a H => ?_
         refine kQ 1 H rfl fun a H => ?_
         refine pt_done (NoPanic.normal ?_)
         replace k0 := Block.ups k0 hS
         replace k1 := Block.ups k1 hS
         replace hall := hall.trans (Below.mono hS hall.size)
         clear hS
         refine zB (zF (r_block (zJ ?_)))
         subst hcc7
         exact k_ret1 H rfl rfl ⟨⟨some ⟨b9, 0, none⟩, rfl, holds_block k9 rfl, fun b o e => by injection e with e; injection e with e; subst e; exact g9⟩, hall⟩
        ·
         refine kV H (r_eq U3 (H.ev rfl) evc (dec_f (hcc7))) rfl fun a H => ?_
         refine kR 1 H rfl fun a H => ?_
         refine zA (zB (zG H rfl (zC (zD ?_))))
         by_cases hcc8 : k = 8
         ·
          refine kV H (r_eq U3 (H.ev rfl) evc (dec_t (hcc8))) rfl fun a H => ?_
          refine kR 1 H rfl fun a H => ?_
          refine zA (zB (zH H rfl (zC ?_)))
          have hall20 := hall
          have hS : BelowOf (BelowTo hall20) _ := Below.drew (Below.refl _ (BelowTo hall20))
          refine region_tree (BelowOf (BelowTo hall20)) 9 (.fl 6 (.one 0 (.one 1 (.one 2 (.one 3 (.one 4 (.one 5 (.one 7 (.fl 8 .done))))))))) (by kernel_rfl) (by kernel_rfl) rfl (by kernel_rfl) hS ?_
          refine kF H rfl rfl (fun w' hS' => r_row (cs := [.int .i64 12, .int .i64 8, .int .i64 0, .int .i64 0]) (H.ev rfl) (block_range (Block.ups k1 hS')) (by kernel_rfl) s99 rfl) rfl fun a H => ?_
          refine pt_one (fun K hK => ?_)
          refine st_a0 rfl ?_; refine wpo_call _ _ _ (rid_any _ 0 1) (r_call2 cf109 evc evc) ?_; rintro e w9 ⟨rfl, hb⟩; refine ⟨_, rfl, ?_⟩; replace hS := Below.trans hS (Below.mono hb (Below.size hS)); clear hb; refine hK _ _ ⟨(fun _ => hS), ?_⟩; clear hK; clear K; refine kt H rfl fun a H => ?_
          refine pt_one (fun K hK => ?_)
          refine st_a0 rfl ?_; refine wpo_call _ _ _ (rid_any _ 1 1) (r_call2 cf109 evc evc) ?_; rintro e w9 ⟨rfl, hb⟩; refine ⟨_, rfl, ?_⟩; replace hS := Below.trans hS (Below.mono hb (Below.size hS)); clear hb; refine hK _ _ ⟨(fun _ => hS), ?_⟩; clear hK; clear K; refine kt H rfl fun a H => ?_
          refine pt_one (fun K hK => ?_)
          refine st_a0 rfl ?_; refine wpo_call _ _ _ (rsmall_any _ 2 0 16) (r_call3 cf110 evc evc evc) ?_; rintro e w9 ⟨rfl, hb⟩; refine ⟨_, rfl, ?_⟩; replace hS := Below.trans hS (Below.mono hb (Below.size hS)); clear hb; refine hK _ _ ⟨(fun _ => hS), ?_⟩; clear hK; clear K; refine kt H rfl fun a H => ?_
          refine pt_one (fun K hK => ?_)
          refine st_a0 rfl ?_; refine wpo_call _ _ _ (rid_any _ 6 0) (r_call2 cf109 evc evc) ?_; rintro e w9 ⟨rfl, hb⟩; refine ⟨_, rfl, ?_⟩; replace hS := Below.trans hS (Below.mono hb (Below.size hS)); clear hb; refine hK _ _ ⟨(fun _ => hS), ?_⟩; clear hK; clear K; refine kt H rfl fun a H => ?_
          refine pt_one (fun K hK => ?_)
          refine st_a0 rfl ?_; refine wpo_call _ _ _ (rsmall_any _ 4 0 3) (r_call3 cf110 evc evc evc) ?_; rintro e w9 ⟨rfl, hb⟩; refine ⟨_, rfl, ?_⟩; replace hS := Below.trans hS (Below.mono hb (Below.size hS)); clear hb; refine hK _ _ ⟨(fun _ => hS), ?_⟩; clear hK; clear K; refine kt H rfl fun a H => ?_
          refine pt_one (fun K hK => ?_)
          refine st_a0 rfl ?_; refine wpo_call _ _ _ (rsmall_any _ 5 0 4) (r_call3 cf110 evc evc evc) ?_; rintro e w9 ⟨rfl, hb⟩; refine ⟨_, rfl, ?_⟩; replace hS := Below.trans hS (Below.mono hb (Below.size hS)); clear hb; refine hK _ _ ⟨(fun _ => hS), ?_⟩; clear hK; clear K; refine kt H rfl fun a H => ?_
          refine pt_one (fun K hK => ?_)
          refine st_a0 rfl ?_; refine wpo_litv 96 7 #[(0, .agg #[.int .i64 0, .int .i64 4, .int .i64 1, .int .i64 1073741824]), (1, .agg #[.int .i64 1, .int .i64 4, .int .i64 1, .int .i64 1073741824]), (2, .agg #[.int .i64 2, .int .i64 1, .int .i64 0, .int .i64 16]), (3, .agg #[.int .i64 6, .int .i64 4, .int .i64 0, .int .i64 1073741824]), (4, .agg #[.int .i64 4, .int .i64 1, .int .i64 0, .int .i64 3]), (5, .agg #[.int .i64 5, .int .i64 1, .int .i64 0, .int .i64 4]), (6, .agg #[.int .i64 12, .int .i64 8, .int .i64 0, .int .i64 0])] 99 #[.int .i64 0, .int .i64 4, .int .i64 1, .int .i64 1073741824, .int .i64 1, .int .i64 4, .int .i64 1, .int .i64 1073741824, .int .i64 2, .int .i64 1, .int .i64 0, .int .i64 16, .int .i64 6, .int .i64 4, .int .i64 0, .int .i64 1073741824, .int .i64 4, .int .i64 1, .int .i64 0, .int .i64 3, .int .i64 5, .int .i64 1, .int .i64 0, .int .i64 4, .int .i64 12, .int .i64 8, .int .i64 0, .int .i64 0] (by simp [evc, H.ev (j := 55) rfl, H.ev (j := 56) rfl, H.ev (j := 57) rfl, H.ev (j := 58) rfl, H.ev (j := 59) rfl, H.ev (j := 60) rfl, H.ev (j := 61) rfl]) (fun w => by kernel_rfl) fun w10 b10 hge hb k10 => ?_; have g10 := Nat.le_trans (Nat.le_trans hall.size (Below.size hS)) hge; replace hS := Below.trans hS (Below.mono hb (Below.size hS)); clear hb hge; refine hK _ _ ⟨(fun _ => hS), ?_⟩; clear hK; clear K; refine kt H rfl fun a H => ?_
          refine kQ 1 H rfl fun a H => ?_
          refine pt_done (NoPanic.normal ?_)
          replace k0 := Block.ups k0 hS
          replace k1 := Block.ups k1 hS
          replace hall := hall.trans (Below.mono hS hall.size)
          clear hS
          refine zB (zF (r_block (zJ ?_)))
          subst hcc8
          exact k_ret1 H rfl rfl ⟨⟨some ⟨b10, 0, none⟩, rfl, holds_block k10 rfl, fun b o e => by injection e with e; injection e with e; subst e; exact g10⟩, hall⟩
         ·
          refine kV H (r_eq U3 (H.ev rfl) evc (dec_f (hcc8))) rfl fun a H => ?_
          refine kR 1 H rfl fun a H => ?_
          refine zA (zB (zG H rfl (zC (zD ?_))))
          by_cases hcc9 : k = 9
          ·
           refine kV H (r_eq U3 (H.ev rfl) evc (dec_t (hcc9))) rfl fun a H => ?_
           refine kR 1 H rfl fun a H => ?_
           refine zA (zB (zH H rfl (zC ?_)))
           have hall22 := hall
           have hS : BelowOf (BelowTo hall22) _ := Below.drew (Below.refl _ (BelowTo hall22))
           refine region_tree (BelowOf (BelowTo hall22)) 6 (.fl 3 (.one 0 (.one 1 (.one 2 (.one 4 (.fl 5 .done)))))) (by kernel_rfl) (by kernel_rfl) rfl (by kernel_rfl) hS ?_
           refine kF H rfl rfl (fun w' hS' => r_row (cs := [.int .i64 12, .int .i64 8, .int .i64 0, .int .i64 0]) (H.ev rfl) (block_range (Block.ups k1 hS')) (by kernel_rfl) s99 rfl) rfl fun a H => ?_
           refine pt_one (fun K hK => ?_)
           refine st_a0 rfl ?_; refine wpo_call _ _ _ (rid_any _ 0 1) (r_call2 cf109 evc evc) ?_; rintro e w9 ⟨rfl, hb⟩; refine ⟨_, rfl, ?_⟩; replace hS := Below.trans hS (Below.mono hb (Below.size hS)); clear hb; refine hK _ _ ⟨(fun _ => hS), ?_⟩; clear hK; clear K; refine kt H rfl fun a H => ?_
           refine pt_one (fun K hK => ?_)
           refine st_a0 rfl ?_; refine wpo_call _ _ _ (rid_any _ 7 0) (r_call2 cf109 evc evc) ?_; rintro e w9 ⟨rfl, hb⟩; refine ⟨_, rfl, ?_⟩; replace hS := Below.trans hS (Below.mono hb (Below.size hS)); clear hb; refine hK _ _ ⟨(fun _ => hS), ?_⟩; clear hK; clear K; refine kt H rfl fun a H => ?_
           refine pt_one (fun K hK => ?_)
           refine st_a0 rfl ?_; refine wpo_call _ _ _ (rsmall_any _ 8 0 255) (r_call3 cf110 evc evc evc) ?_; rintro e w9 ⟨rfl, hb⟩; refine ⟨_, rfl, ?_⟩; replace hS := Below.trans hS (Below.mono hb (Below.size hS)); clear hb; refine hK _ _ ⟨(fun _ => hS), ?_⟩; clear hK; clear K; refine kt H rfl fun a H => ?_
           refine pt_one (fun K hK => ?_)
           refine st_a0 rfl ?_; refine wpo_litv 96 4 #[(0, .agg #[.int .i64 0, .int .i64 4, .int .i64 1, .int .i64 1073741824]), (1, .agg #[.int .i64 7, .int .i64 4, .int .i64 0, .int .i64 1073741824]), (2, .agg #[.int .i64 8, .int .i64 1, .int .i64 0, .int .i64 255]), (3, .agg #[.int .i64 12, .int .i64 8, .int .i64 0, .int .i64 0])] 99 #[.int .i64 0, .int .i64 4, .int .i64 1, .int .i64 1073741824, .int .i64 7, .int .i64 4, .int .i64 0, .int .i64 1073741824, .int .i64 8, .int .i64 1, .int .i64 0, .int .i64 255, .int .i64 12, .int .i64 8, .int .i64 0, .int .i64 0] (by simp [evc, H.ev (j := 65) rfl, H.ev (j := 66) rfl, H.ev (j := 67) rfl, H.ev (j := 68) rfl]) (fun w => by kernel_rfl) fun w11 b11 hge hb k11 => ?_; have g11 := Nat.le_trans (Nat.le_trans hall.size (Below.size hS)) hge; replace hS := Below.trans hS (Below.mono hb (Below.size hS)); clear hb hge; refine hK _ _ ⟨(fun _ => hS), ?_⟩; clear hK; clear K; refine kt H rfl fun a H => ?_
           refine kQ 1 H rfl fun a H => ?_
           refine pt_done (NoPanic.normal ?_)
           replace k0 := Block.ups k0 hS
           replace k1 := Block.ups k1 hS
           replace hall := hall.trans (Below.mono hS hall.size)
           clear hS
           refine zB (zF (r_block (zJ ?_)))
           subst hcc9
           exact k_ret1 H rfl rfl ⟨⟨some ⟨b11, 0, none⟩, rfl, holds_block k11 rfl, fun b o e => by injection e with e; injection e with e; subst e; exact g11⟩, hall⟩
          ·
           refine kV H (r_eq U3 (H.ev rfl) evc (dec_f (hcc9))) rfl fun a H => ?_
           refine kR 1 H rfl fun a H => ?_
           refine zA (zB (zG H rfl (zC (zD ?_))))
           by_cases hcc10 : k = 11
           ·
            refine kV H (r_eq U3 (H.ev rfl) evc (dec_t (hcc10))) rfl fun a H => ?_
            refine kR 1 H rfl fun a H => ?_
            refine zA (zB (zH H rfl (zC ?_)))
            have hall24 := hall
            have hS : BelowOf (BelowTo hall24) _ := Below.drew (Below.refl _ (BelowTo hall24))
            refine region_tree (BelowOf (BelowTo hall24)) 6 (.fl 3 (.one 0 (.one 1 (.one 2 (.one 4 (.fl 5 .done)))))) (by kernel_rfl) (by kernel_rfl) rfl (by kernel_rfl) hS ?_
            refine kF H rfl rfl (fun w' hS' => r_row (cs := [.int .i64 12, .int .i64 8, .int .i64 0, .int .i64 0]) (H.ev rfl) (block_range (Block.ups k1 hS')) (by kernel_rfl) s99 rfl) rfl fun a H => ?_
            refine pt_one (fun K hK => ?_)
            refine st_a0 rfl ?_; refine wpo_call _ _ _ (rid_any _ 0 1) (r_call2 cf109 evc evc) ?_; rintro e w9 ⟨rfl, hb⟩; refine ⟨_, rfl, ?_⟩; replace hS := Below.trans hS (Below.mono hb (Below.size hS)); clear hb; refine hK _ _ ⟨(fun _ => hS), ?_⟩; clear hK; clear K; refine kt H rfl fun a H => ?_
            refine pt_one (fun K hK => ?_)
            refine st_a0 rfl ?_; refine wpo_call _ _ _ (rid_any _ 1 1) (r_call2 cf109 evc evc) ?_; rintro e w9 ⟨rfl, hb⟩; refine ⟨_, rfl, ?_⟩; replace hS := Below.trans hS (Below.mono hb (Below.size hS)); clear hb; refine hK _ _ ⟨(fun _ => hS), ?_⟩; clear hK; clear K; refine kt H rfl fun a H => ?_
            refine pt_one (fun K hK => ?_)
            refine st_a0 rfl ?_; refine wpo_call _ _ _ (rsmall_any _ 3 0 15) (r_call3 cf110 evc evc evc) ?_; rintro e w9 ⟨rfl, hb⟩; refine ⟨_, rfl, ?_⟩; replace hS := Below.trans hS (Below.mono hb (Below.size hS)); clear hb; refine hK _ _ ⟨(fun _ => hS), ?_⟩; clear hK; clear K; refine kt H rfl fun a H => ?_
            refine pt_one (fun K hK => ?_)
            refine st_a0 rfl ?_; refine wpo_litv 96 4 #[(0, .agg #[.int .i64 0, .int .i64 4, .int .i64 1, .int .i64 1073741824]), (1, .agg #[.int .i64 1, .int .i64 4, .int .i64 1, .int .i64 1073741824]), (2, .agg #[.int .i64 3, .int .i64 1, .int .i64 0, .int .i64 15]), (3, .agg #[.int .i64 12, .int .i64 8, .int .i64 0, .int .i64 0])] 99 #[.int .i64 0, .int .i64 4, .int .i64 1, .int .i64 1073741824, .int .i64 1, .int .i64 4, .int .i64 1, .int .i64 1073741824, .int .i64 3, .int .i64 1, .int .i64 0, .int .i64 15, .int .i64 12, .int .i64 8, .int .i64 0, .int .i64 0] (by simp [evc, H.ev (j := 72) rfl, H.ev (j := 73) rfl, H.ev (j := 74) rfl, H.ev (j := 75) rfl]) (fun w => by kernel_rfl) fun w12 b12 hge hb k12 => ?_; have g12 := Nat.le_trans (Nat.le_trans hall.size (Below.size hS)) hge; replace hS := Below.trans hS (Below.mono hb (Below.size hS)); clear hb hge; refine hK _ _ ⟨(fun _ => hS), ?_⟩; clear hK; clear K; refine kt H rfl fun a H => ?_
            refine kQ 1 H rfl fun a H => ?_
            refine pt_done (NoPanic.normal ?_)
            replace k0 := Block.ups k0 hS
            replace k1 := Block.ups k1 hS
            replace hall := hall.trans (Below.mono hS hall.size)
            clear hS
            refine zB (zF (r_block (zJ ?_)))
            subst hcc10
            exact k_ret1 H rfl rfl ⟨⟨some ⟨b12, 0, none⟩, rfl, holds_block k12 rfl, fun b o e => by injection e with e; injection e with e; subst e; exact g12⟩, hall⟩
           ·
            refine kV H (r_eq U3 (H.ev rfl) evc (dec_f (hcc10))) rfl fun a H => ?_
            refine kR 1 H rfl fun a H => ?_
            refine zA (zB (zG H rfl (zC (zD ?_))))
            by_cases hcc11 : k = 12
            ·
             refine kV H (r_eq U3 (H.ev rfl) evc (dec_t (hcc11))) rfl fun a H => ?_
             refine kR 1 H rfl fun a H => ?_
             refine zA (zB (zH H rfl (zC (zD ?_))))
             refine wl_call _ _ _ (rid_any _ 9 0) (r_call2 cf109 evc evc) ?_; rintro e w9 ⟨rfl, hb⟩; refine ⟨_, rfl, ?_⟩; replace k0 := Block.ups k0 hb; replace k1 := Block.ups k1 hb; replace hall := hall.tr hb; clear hb; refine kl H rfl fun a H => ?_
             refine wl_call _ _ _ (rsmall_any _ 3 0 15) (r_call3 cf110 evc evc evc) ?_; rintro e w9 ⟨rfl, hb⟩; refine ⟨_, rfl, ?_⟩; replace k0 := Block.ups k0 hb; replace k1 := Block.ups k1 hb; replace hall := hall.tr hb; clear hb; refine kl H rfl fun a H => ?_
             refine op_litv 96 2 #[(0, .agg #[.int .i64 9, .int .i64 4, .int .i64 0, .int .i64 1073741824]), (1, .agg #[.int .i64 3, .int .i64 1, .int .i64 0, .int .i64 15])] 99 #[.int .i64 9, .int .i64 4, .int .i64 0, .int .i64 1073741824, .int .i64 3, .int .i64 1, .int .i64 0, .int .i64 15] (by simp [evc, H.ev (j := 79) rfl, H.ev (j := 80) rfl]) (fun w => by kernel_rfl) fun w13 b13 hge hb k13 => ?_; have g13 := Nat.le_trans hall.size hge; replace k0 := Block.ups k0 hb; replace k1 := Block.ups k1 hb; replace hall := hall.tr hb; clear hb; clear hge; refine kl H rfl fun a H => ?_
             refine kR 1 H rfl fun a H => ?_
             refine zA (zB (zF (r_block (zJ ?_))))
             subst hcc11
             exact k_ret1 H rfl rfl ⟨⟨some ⟨b13, 0, none⟩, rfl, holds_block k13 rfl, fun b o e => by injection e with e; injection e with e; subst e; exact g13⟩, hall⟩
            ·
             refine kV H (r_eq U3 (H.ev rfl) evc (dec_f (hcc11))) rfl fun a H => ?_
             refine kR 1 H rfl fun a H => ?_
             refine zA (zB (zG H rfl (zE (n_block (zB (zC (zD ?_)))))))
             refine kR 1 H rfl fun a H => ?_
             refine zA (zB (zF ?_))
             have hL : partsF k = [] := parts_none (by omega)
             rw [hL]
             exact k_ret1 H rfl rfl ⟨⟨none, rfl, (fun j hj => absurd hj (by simp [FV, IV, flat])), fun b o e => by cases e⟩, hall⟩
theorem fld99_0 : fldAt Tryz.prog 99 0 0 := fun b o w => by go_simp
theorem fld99_1 : fldAt Tryz.prog 99 1 1 := fun b o w => by go_simp
theorem fld99_2 : fldAt Tryz.prog 99 2 2 := fun b o w => by go_simp
theorem fld99_3 : fldAt Tryz.prog 99 3 3 := fun b o w => by go_simp
theorem tail_le (k : Int) : (ptail k).length ≤ 1 := by
 unfold ptail
 split
 · simp
 · split <;> simp
theorem parts_le (k : Int) : (partsF k).length ≤ 8 := by
 have := slots_le k
 have := tail_le k
 rw [partsF, List.length_append, List.length_map]
 omega
theorem holds_lt {w : World} {A : Option Addr} {xs : List Value} {n : Nat} (h : Holds w A xs) (hn : w.heap.size ≤ n) : ∀ b o, A = some ⟨b, o, none⟩ → 0 < xs.length → b < n := fun b o e hx => Nat.lt_of_lt_of_le (Holds.lt h e hx) hn
theorem Holds.away {w w' : World} {A : Option Addr} {xs : List Value} {n : Nat} (h : Holds w A xs) (hl : ∀ b o, A = some ⟨b, o, none⟩ → 0 < xs.length → b < n) (hb : Below n w w') : Holds w' A xs := fun j hj => by
 obtain ⟨q, o, he, hc⟩ := h j hj
 refine ⟨q, o, he, ?_⟩
 rw [← hc]
 exact hb.cell (p := ⟨q, o + j, none⟩) (hl q o he (by omega))
theorem part_cases {k : Int} {L P : List (Nat × Nat × Nat × Nat)} {i : Nat} {x : Nat × Nat × Nat × Nat} (hP : partsF k = P) (hL : slotsF k = L) (h : P[i]? = some x) :
  (∃ s, L[i]? = some s ∧ x = pconv s) ∨ (i = L.length ∧ P.length = i + 1 ∧ (2 ≤ k ∧ k ≤ 4) ∧ x = (11, 16, 0, 0)) ∨ (i = L.length ∧ P.length = i + 1 ∧ (5 ≤ k ∧ k ≤ 11) ∧ x = (12, 8, 0, 0)) := by
 subst hP hL
 unfold partsF at h ⊢
 by_cases hi : i < (slotsF k).length
 ·
  rw [List.getElem?_append_left (by simpa using hi), List.getElem?_map] at h
  cases hs : (slotsF k)[i]? with
  | none => rw [hs] at h; cases h
  | some s =>
   rw [hs] at h
   injection h with h
   exact .inl ⟨s, rfl, h.symm⟩
 ·
  rw [List.getElem?_append_right (by simpa using hi)] at h
  simp only [List.length_map] at h
  have ht := (List.getElem?_eq_some_iff.1 h).1
  have hl := tail_le k
  have e : i = (slotsF k).length := by omega
  have e0 : i - (slotsF k).length = 0 := by omega
  rw [e0] at h ht
  have hn : (partsF k).length = i + 1 := by rw [partsF, List.length_append, List.length_map]; omega
  unfold ptail at h hl ht
  by_cases h1 : 2 ≤ k ∧ k ≤ 4
  ·
   rw [if_pos h1] at h
   injection h with h
   exact .inr (.inl ⟨e, hn, h1, h.symm⟩)
  ·
   rw [if_neg h1] at h
   by_cases h2 : 5 ≤ k ∧ k ≤ 11
   ·
    rw [if_pos h2] at h
    injection h with h
    exact .inr (.inr ⟨e, hn, h2, h.symm⟩)
   ·
    rw [if_neg h2] at h
    cases h
theorem slot_part_le {k : Int} {L P : List (Nat × Nat × Nat × Nat)} (hP : partsF k = P) (hL : slotsF k = L) : L.length ≤ P.length := by
 subst hP hL
 rw [partsF, List.length_append, List.length_map]
 omega
theorem parts_nil {k : Int} {P : List (Nat × Nat × Nat × Nat)} (hP : partsF k = P) (h : P = []) : slotsF k = [] := by
 subst hP
 have := (List.append_eq_nil_iff.1 h).1
 simpa using this
theorem slots_kind {k : Int} (h : slotsF k = []) : ¬ (1 ≤ k ∧ k ≤ 12) := by
 intro ⟨h1, h2⟩
 have : k = 1 ∨ k = 2 ∨ k = 3 ∨ k = 4 ∨ k = 5 ∨ k = 6 ∨ k = 7 ∨ k = 8 ∨ k = 9 ∨ k = 10 ∨ k = 11 ∨ k = 12 := by omega
 rcases this with rfl | rfl | rfl | rfl | rfl | rfl | rfl | rfl | rfl | rfl | rfl | rfl <;> exact absurd h (by decide)
theorem tail_no {k : Int} (h : ¬ (1 ≤ k ∧ k ≤ 12)) : ptail k = [] := by
 unfold ptail
 rw [if_neg (by omega), if_neg (by omega)]
theorem parts_ne {k : Int} {P : List (Nat × Nat × Nat × Nat)} (hP : partsF k = P) (h : P ≠ []) : slotsF k ≠ [] := fun e => by
 subst hP
 exact h (by rw [partsF, e, tail_no (slots_kind e)]; rfl)
/-- the packet that the document's Right has made of the first i pieces -/
def bareP (p : Pkt) (L : List (Nat × Nat × Nat × Nat)) (i : Nat) : Pkt := if i ≤ L.length then bare p L i else full p L
theorem bareP_slot {p : Pkt} {L : List (Nat × Nat × Nat × Nat)} {i : Nat} (h : i ≤ L.length) : bareP p L i = bare p L i := if_pos h
theorem bareP_tail {p : Pkt} {L : List (Nat × Nat × Nat × Nat)} : bareP p L (L.length + 1) = full p L := if_neg (by omega)
theorem full_sec {p : Pkt} {L : List (Nat × Nat × Nat × Nat)} (h : 2 ≤ p.fld 0 ∧ p.fld 0 ≤ 4) : full p L = ⟨bareN p L L.length, p.sec, List.replicate 8 0⟩ := by
 rw [full, if_pos h, if_neg (by omega)]
theorem full_tg {p : Pkt} {L : List (Nat × Nat × Nat × Nat)} (h : 5 ≤ p.fld 0 ∧ p.fld 0 ≤ 11) : full p L = ⟨bareN p L L.length, List.replicate 16 0, p.tg⟩ := by
 rw [full, if_neg (by omega), if_pos h]
theorem bareP_end {p : Pkt} {L P : List (Nat × Nat × Nat × Nat)} (hP : partsF (p.fld 0) = P) (hL : slotsF (p.fld 0) = L) : bareP p L P.length = full p L := by
 subst hP hL
 unfold bareP
 rw [partsF, List.length_append, List.length_map]
 unfold ptail
 by_cases h1 : 2 ≤ p.fld 0 ∧ p.fld 0 ≤ 4
 · rw [if_pos h1, if_neg (by simp)]
 ·
  rw [if_neg h1]
  by_cases h2 : 5 ≤ p.fld 0 ∧ p.fld 0 ≤ 11
  · rw [if_pos h2, if_neg (by simp)]
  ·
   rw [if_neg h2, if_pos (by simp), full, if_neg h1, if_neg h2]
   rfl
theorem full_ok {p : Pkt} {L : List (Nat × Nat × Nat × Nat)} (hp : p.ok) : (full p L).ok := by
 refine ⟨bare_len _ _ _, ?_, ?_, (bare_ok (i := L.length) hp).2.2.2⟩
 ·
  simp only [full]
  split
  · exact hp.2.1
  · rfl
 ·
  simp only [full]
  split
  · exact hp.2.2.1
  · rfl
theorem fld_in {p : Pkt} (hp : p.ok) (j : Nat) : -9223372036854775808 ≤ p.fld j ∧ p.fld j ≤ 9223372036854775807 := by
 by_cases hj : j < 12
 · exact hp.2.2.2 _ (List.mem_of_getElem? (fld_at hp hj))
 ·
  have : p.fld j = 0 := by
   unfold Pkt.fld
   rw [List.getD_eq_getElem?_getD, List.getElem?_eq_none (by rw [hp.1]; omega)]
   rfl
  omega
theorem bare_set {p : Pkt} {L : List (Nat × Nat × Nat × Nat)} {i m : Nat} {s : Nat × Nat × Nat × Nat} (hp : p.ok) (hs : L[i]? = some s) (hm : atF s.1 = m + 1) (hat : atF s.1 < 12) : pv ((bare p L i).set (m + 1) (p.fld (m + 1))) = pv (bare p L (i + 1)) := by
 rw [← hm, ← pv_set (bare_ok hp) hat, bare_next hs hat]
def Rr1 (W : World) (p : Pkt) (L P : List (Nat × Nat × Nat × Nat)) (A : Option Addr) (b0 b1 : Nat) (a : Act) (w : World) : Prop :=
 ∃ i : Nat, Kn a 101 [(1, .pointer (some ⟨b0, 0, none⟩)), (3, .slice A P.length P.length), (4, .pointer (some ⟨b1, 0, none⟩)), (5, .int .i64 (i : Nat))] ∧ i ≤ P.length ∧ (∀ j s, j < i → L[j]? = some s → ((s.2.2.1 : Nat) : Int) ≤ p.fld (atF s.1) ∧ p.fld (atF s.1) ≤ ((s.2.2.2 : Nat) : Int)) ∧ Block w b0 36 (pv p) ∧ Block w b1 36 (pv (bareP p L i)) ∧ Holds w A (FV encT P) ∧ Below W.heap.size W w
set_option maxRecDepth 100000 in
set_option maxHeartbeats 8000000 in
theorem rright_any (w : World) (p : Pkt) (hp : p.ok) : Calls Tryz.prog 70 #[.agg (pv p)] w fun e w' => e = .returned (.bool (rightF p)) ∧ Below w.heap.size w w' := by
 have hall := Below.refl w.heap.size w
 refine K_enter 101 Tryz.func70 rfl rfl fun a H => ?_
 replace H := H.pick [0]
 refine zC (zD ?_)
 refine op_box 36 (.tmp 0) (pv p) (H.ev rfl) fun w0 b0 hge hb k0 => ?_; have g0 := Nat.le_trans hall.size hge; replace hall := hall.tr hb; clear hb hge; refine kl H rfl fun a H => ?_
 refine kR 1 H rfl fun a H => ?_
 refine zA (zB (zC (zD ?_)))
 refine kR 1 H rfl fun a H => ?_
 refine kV H (r_ld U3 rfl (H.ev rfl) (pv_cell k0 (fld_at hp (j := 0) (by omega)))) rfl fun a H => ?_
 refine wl_call _ _ _ (rparts_any _ (p.fld 0)) (r_call1 cf71 (H.ev rfl)) ?_; rintro e w9 ⟨⟨A, rfl, hh, hA⟩, hb⟩; refine ⟨_, rfl, ?_⟩; replace k0 := Block.ups k0 hb; replace hall := hall.tr hb; clear hb; obtain ⟨P, hP⟩ : ∃ P, partsF (p.fld 0) = P := ⟨_, rfl⟩; obtain ⟨L, hL⟩ : ∃ L, slotsF (p.fld 0) = L := ⟨_, rfl⟩; rw [hP] at hh; have hPn : P.length ≤ 8 := (by rw [← hP]; exact parts_le _); have HP := Lib.hid hP; have HL := Lib.hid hL; rw [hP]; clear hL hP hA; refine kl H rfl fun a H => ?_
 refine kR 1 H rfl fun a H => ?_
 refine zA (zB (zC (zD ?_)))
 refine kR 1 H rfl fun a H => ?_
 refine kV H (r_ld U3 rfl (H.ev rfl) (pv_cell k0 (fld_at hp (j := 0) (by omega)))) rfl fun a H => ?_
 refine kV (v := .agg (pv (bare p L 0))) H (r_bare (H.ev rfl)) rfl fun a H => ?_
 refine op_alloc 36 (pv pk0) z36 fun w1 b1 hge hb k1 => ?_; have g1 := Nat.le_trans hall.size hge; have h01 : b0 < b1 := Nat.lt_of_lt_of_le k0.lt hge; have hA1 := holds_lt hh hge; replace k0 := Block.ups k0 hb; replace hh := holds_ups hh hb; replace hall := hall.tr hb; clear hb; clear hge; refine kl H rfl fun a H => ?_
 refine op_store 36 (.tmp 4) (.tmp 13) b1 36 (pv (bare p L 0)) _ (H.ev rfl) (H.ev rfl) k1 (s36p (bare_ok hp)) (by rw [pv_size pk0_ok, pv_size (bare_ok hp)]) (pv_one _) fun w' hb ho kq => ?_; clear k1; have k1 := kq; replace k0 := block_same k0 (ho _ (by omega)); replace hh := Holds.away hh hA1 (hb _ (Nat.le_refl _)); replace hall := hall.trans (hb _ g1); clear hb ho kq; refine kl0 H fun a H => ?_
 refine zA (zB (zC (zC (zD ?_))))
 refine kR 1 H rfl fun a H => ?_
 refine zA (zB ?_)
 refine wp_block ?_
 refine wp_loop (Rr1 w p L P A b0 b1) (fun a _ => P.length - (intOf (a.eval (.tmp 5))).toNat) ⟨0, H.pick [1, 3, 4, 5], by omega, fun j s hj => by omega, k0, k1, hh, hall⟩ ?_
 clear H hall k0 k1 hh
 rintro a w' ⟨i, H, hi, hin, k0, k1, hh, hall⟩
 have H0 := H
 by_cases hlt : i < P.length
 ·
  obtain ⟨b, o, hAe, hr⟩ := flat_some encT_len hh (by omega) hlt
  subst hAe
  have hr0 : b < b1 := hA1 b o rfl (by rw [FV_len encT_len]; omega)
  have hpi : P[i]? = some P[i] := List.getElem?_eq_getElem hlt
  rcases part_cases HP.out HL.out hpi with ⟨s, hs, hx⟩ | ⟨hiL, hin1, hse, hx⟩ | ⟨hiL, hin1, htg, hx⟩
  ·
   rw [hx] at hr
   clear hx hpi
   have hat := at_lt (show (slotsF (p.fld 0))[i]? = some s by rw [HL.out]; exact hs)
   have hap := at_pos (show (slotsF (p.fld 0))[i]? = some s by rw [HL.out]; exact hs)
   have hiL : i < L.length := (List.getElem?_eq_some_iff.1 hs).1
   obtain ⟨m, hm⟩ : ∃ m, atF s.1 = m + 1 := ⟨atF s.1 - 1, by omega⟩
   have hxm : encT (pconv s) = [((m : Nat) : Int), ((s.2.1 : Nat) : Int), ((s.2.2.1 : Nat) : Int), ((s.2.2.2 : Nat) : Int)] := by simp [encT, pconv, hm]
   rw [hxm] at hr
   clear hxm
   have HLS := Lib.hid hs
   have HS := Lib.hid (show (slotsF (p.fld 0))[i]? = some s by rw [HL.out]; exact hs)
   clear hs
   rw [bareP_slot (by omega)] at k1
   refine zC (zC (zD ?_))
   refine kR 2 H rfl fun a H => ?_
   refine kV H (r_len U96 (H.ev rfl)) rfl fun a H => ?_
   refine kV H (r_lt U3 (H.ev rfl) (H.ev rfl) (dec_t (by omega))) rfl fun a H => ?_
   refine zA (zB (zH H rfl (zE (zB (zC ?_)))))
   refine wp_block ?_
   refine zC (zD ?_)
   refine kR 2 H rfl fun a H => ?_
   refine kV H (r_idx (j := i) (q := o + i * 4) U96 s99 (H.ev rfl) (H.ev rfl) (by omega) rfl) rfl fun a H => ?_
   refine kV H (r_fld (q := o + i * 4) fld99_0 (H.ev rfl) rfl) rfl fun a H => ?_
   refine kV H (r_ld U3 rfl (H.ev rfl) (range_cell hr 0 rfl)) rfl fun a H => ?_
   refine zA (zB ?_)
   refine wp_block ?_
   refine zC (zD ?_)
   refine kV H (r_eq U3 (H.ev rfl) evc (dec_f (by omega))) rfl fun a H => ?_
   refine kR 1 H rfl fun a H => ?_
   refine zA (zB (zG H rfl (zC (zD ?_))))
   refine kV H (r_eq U3 (H.ev rfl) evc (dec_f (by omega))) rfl fun a H => ?_
   refine kR 1 H rfl fun a H => ?_
   refine zA (zB (zG H rfl (zC ?_)))
   have hall7 := hall
   have hS : BelowOf (BelowTo hall7) _ := Below.drew (Below.refl _ (BelowTo hall7))
   refine region_tree (BelowOf (BelowTo hall7)) 8 (.fl 0 (.fl 1 (.fl 2 (.fl 3 (.fl 4 (.fl 5 (.one 6 (.fl 7 .done)))))))) (by kernel_rfl) (by kernel_rfl) rfl (by kernel_rfl) hS ?_
   refine kF (v := .agg (pv p)) H rfl rfl (fun w' hS' => run_load_row b0 36 _ _ (H.ev rfl) (Block.ups k0 hS') U36 rfl (s36p hp)) rfl fun a H => ?_
   refine kQ 2 H rfl fun a H => ?_
   refine kF H rfl rfl (fun w' hS' => r_idx (j := i) (q := o + i * 4) U96 s99 (H.ev rfl) (H.ev rfl) (by omega) rfl) rfl fun a H => ?_
   refine kF H rfl rfl (fun w' hS' => r_fld (q := o + i * 4) fld99_0 (H.ev rfl) rfl) rfl fun a H => ?_
   refine kF H rfl rfl (fun w' hS' => r_ld U3 rfl (H.ev rfl) (range_cell (range_ups hr hS') 0 rfl)) rfl fun a H => ?_
   refine pt_one (fun K hK => ?_)
   refine st_a0 rfl ?_; refine wpo_call _ _ _ (rget_lit _ p m _ rfl hp (by omega)) (r_call2 cf73 (H.ev rfl) (H.ev rfl)) ?_; rintro e w9 ⟨rfl, hb⟩; refine ⟨_, rfl, ?_⟩; replace hS := Below.trans hS (Below.mono hb (Below.size hS)); clear hb; refine hK _ _ ⟨(fun _ => hS), ?_⟩; clear hK; clear K; refine kt H rfl fun a H => ?_
   refine kQ 1 H rfl fun a H => ?_
   refine pt_done (NoPanic.normal ?_)
   replace k0 := Block.ups k0 hS
   replace k1 := Block.ups k1 hS
   replace hh := holds_ups hh hS
   replace hr := range_ups hr hS
   replace hall := hall.trans (Below.mono hS hall.size)
   clear hS
   refine zB (zC (zC (zD ?_)))
   refine kR 3 H rfl fun a H => ?_
   refine kV H (r_idx (j := i) (q := o + i * 4) U96 s99 (H.ev rfl) (H.ev rfl) (by omega) rfl) rfl fun a H => ?_
   refine kV H (r_fld (q := o + i * 4 + 2) fld99_2 (H.ev rfl) rfl) rfl fun a H => ?_
   refine kV H (r_ld U3 rfl (H.ev rfl) (range_cell hr 2 rfl)) rfl fun a H => ?_
   by_cases hcc0 : (p.fld (m + 1)) < ((s.2.2.1 : Nat) : Int)
   ·
    refine kV H (r_lt U3 (H.ev rfl) (H.ev rfl) (dec_t (hcc0))) rfl fun a H => ?_
    refine kR 9 H rfl fun a H => ?_
    refine zA (zB (zH H rfl (zC (zD ?_))))
    refine kR 1 H rfl fun a H => ?_
    refine zA (zB (zF (zJ (r_block (r_block (zJ (zJ (r_block (zJ ?_)))))))))
    exact k_ret1 H rfl rfl ⟨by rw [right_no2 HS.out (by rw [hm]; omega)]; first | done | rfl, hall⟩
   ·
    refine kV H (r_lt U3 (H.ev rfl) (H.ev rfl) (dec_f (hcc0))) rfl fun a H => ?_
    refine kR 4 H rfl fun a H => ?_
    refine kW H rfl (r_idx (j := i) (q := o + i * 4) U96 s99 (H.ev rfl) (H.ev rfl) (by omega) rfl) rfl fun a H => ?_
    refine kW H rfl (r_fld (q := o + i * 4 + 3) fld99_3 (H.ev rfl) rfl) rfl fun a H => ?_
    refine kW H rfl (r_ld U3 rfl (H.ev rfl) (range_cell hr 3 rfl)) rfl fun a H => ?_
    by_cases hcc1 : (p.fld (m + 1)) > ((s.2.2.2 : Nat) : Int)
    ·
     refine kW H rfl (r_gt U3 (H.ev rfl) (H.ev rfl) (dec_t (hcc1))) rfl fun a H => ?_
     refine kR 1 H rfl fun a H => ?_
     refine zA (zB (zH H rfl (zC (zD ?_))))
     refine kR 1 H rfl fun a H => ?_
     refine zA (zB (zF (zJ (r_block (r_block (zJ (zJ (r_block (zJ ?_)))))))))
     exact k_ret1 H rfl rfl ⟨by rw [right_no2 HS.out (by rw [hm]; omega)]; first | done | rfl, hall⟩
    ·
     refine kW H rfl (r_gt U3 (H.ev rfl) (H.ev rfl) (dec_f (hcc1))) rfl fun a H => ?_
     refine kR 1 H rfl fun a H => ?_
     refine zA (zB (zG H rfl (zE (zB ?_))))
     have hall10 := hall
     have hS : BelowOf (BelowTo hall10) _ := Below.drew (Below.refl _ (BelowTo hall10))
     refine region_tree (BelowOf (BelowTo hall10)) 8 (.fl 0 (.fl 1 (.fl 2 (.fl 3 (.fl 4 (.fl 5 (.fl 6 (.one 7 (.one 8 .done))))))))) (by kernel_rfl) (by kernel_rfl) rfl (by kernel_rfl) hS ?_
     refine kF (v := .agg (pv (bare p L i))) H rfl rfl (fun w' hS' => run_load_row b1 36 _ _ (H.ev rfl) (Block.ups k1 hS') U36 rfl (s36p (bare_ok hp))) rfl fun a H => ?_
     refine kQ 2 H rfl fun a H => ?_
     refine kF H rfl rfl (fun w' hS' => r_idx (j := i) (q := o + i * 4) U96 s99 (H.ev rfl) (H.ev rfl) (by omega) rfl) rfl fun a H => ?_
     refine kF H rfl rfl (fun w' hS' => r_fld (q := o + i * 4) fld99_0 (H.ev rfl) rfl) rfl fun a H => ?_
     refine kF H rfl rfl (fun w' hS' => r_ld U3 rfl (H.ev rfl) (range_cell (range_ups hr hS') 0 rfl)) rfl fun a H => ?_
     refine kQ 1 H rfl fun a H => ?_
     refine pt_one (fun K hK => ?_)
     refine st_a0 rfl ?_; refine wpo_call _ _ _ (rwith_lit _ (bare p L i) m _ (p.fld (m + 1)) rfl (bare_ok hp) (by omega) (fld_in hp _)) (r_call3 cf77 (H.ev rfl) (H.ev rfl) (H.ev rfl)) ?_; rintro e w9 ⟨rfl, hb⟩; refine ⟨_, rfl, ?_⟩; rw [bare_set hp HLS.out hm hat]; replace hS := Below.trans hS (Below.mono hb (Below.size hS)); clear hb; refine hK _ _ ⟨(fun _ => hS), ?_⟩; clear hK; clear K; refine kt H rfl fun a H => ?_
     refine pt_one (fun K hK => ?_)
     replace k0 := Block.ups k0 hS
     replace k1 := Block.ups k1 hS
     replace hh := holds_ups hh hS
     replace hr := range_ups hr hS
     replace hall := hall.trans (Below.mono hS hall.size)
     refine st_a0 rfl ?_; refine wpo_store 36 (.tmp 4) (.tmp 55) b1 36 (pv (bare p L (i + 1))) _ (H.ev rfl) (H.ev rfl) k1 (s36p (bare_ok hp)) (by rw [pv_size (bare_ok hp), pv_size (bare_ok hp)]) (pv_one _) fun w' hb ho kq => ?_; clear k1; have k1 := kq; replace k0 := block_same k0 (ho _ (by omega)); replace hh := Holds.away hh hA1 (hb _ (Nat.le_refl _)); replace hall := hall.trans (hb _ g1); clear hb ho kq; refine hK _ _ ⟨(fun h => absurd rfl h), ?_⟩; clear hK; clear K; clear hS; skip
     refine pt_done (NoPanic.normal ?_)
     refine n_block (n_block (zB (zD ?_)))
     refine kR 1 H rfl fun a H => ?_
     refine kV H (r_add (q := ((i + 1 : Nat) : Int)) U3 (H.ev rfl) evc (by omega) (by omega)) rfl fun a H => ?_
     refine kR 1 H rfl fun a H => ?_
     refine zA ?_
     have hin3 : ∀ j s, j < i + 1 → L[j]? = some s → ((s.2.2.1 : Nat) : Int) ≤ p.fld (atF s.1) ∧ p.fld (atF s.1) ≤ ((s.2.2.2 : Nat) : Int) := hin_next hin HLS.out (by rw [hm]; omega) (by rw [hm]; omega)
     refine zI ⟨⟨i + 1, H.pick [1, 3, 4, 5], by omega, hin3, k0, by rw [bareP_slot (by omega)]; exact k1, hh, hall⟩, ?_⟩
     rw [H.ev (j := 5) rfl, H0.ev (j := 5) rfl]
     simp only [intOf]
     omega
  ·
   rw [hx] at hr
   clear hx hpi
   rw [bareP_slot (by omega)] at k1
   refine zC (zC (zD ?_))
   refine kR 2 H rfl fun a H => ?_
   refine kV H (r_len U96 (H.ev rfl)) rfl fun a H => ?_
   refine kV H (r_lt U3 (H.ev rfl) (H.ev rfl) (dec_t (by omega))) rfl fun a H => ?_
   refine zA (zB (zH H rfl (zE (zB (zC ?_)))))
   refine wp_block ?_
   refine zC (zD ?_)
   refine kR 2 H rfl fun a H => ?_
   refine kV H (r_idx (j := i) (q := o + i * 4) U96 s99 (H.ev rfl) (H.ev rfl) (by omega) rfl) rfl fun a H => ?_
   refine kV H (r_fld (q := o + i * 4) fld99_0 (H.ev rfl) rfl) rfl fun a H => ?_
   refine kV H (r_ld U3 rfl (H.ev rfl) (range_cell hr 0 rfl)) rfl fun a H => ?_
   refine zA (zB ?_)
   refine wp_block ?_
   refine zC (zD ?_)
   refine kV H (r_eq U3 (H.ev rfl) evc (dec_t (by omega))) rfl fun a H => ?_
   refine kR 1 H rfl fun a H => ?_
   refine zA (zB (zH H rfl (zD ?_)))
   refine kR 1 H rfl fun a H => ?_
   refine kV (v := .agg (p.sec.map u8v).toArray) H (r_row (cs := p.sec.map u8v) (H.ev rfl) (pv_sec k0 hp) (by kernel_rfl) (by rw [List.length_map, hp.2.1]; exact s33a) rfl) rfl fun a H => ?_
   refine kR 1 H rfl fun a H => ?_
   refine op_store_mid 33 (.tmp 60) (.tmp 59) b1 12 36 (p.sec.map u8v).toArray _ (H.ev rfl) (H.ev rfl) k1 (by rw [List.size_toArray, List.length_map, hp.2.1]; exact s33a) (by rw [pv_size (bare_ok hp), List.size_toArray, List.length_map, hp.2.1]; omega) (bytes_one _) fun w' hb ho kq => ?_; clear k1; have k1 := sec_set (bare_len p L _) (by rw [List.length_replicate, hp.2.1]) kq; replace k0 := block_same k0 (ho _ (by omega)); replace hh := Holds.away hh hA1 (hb _ (Nat.le_refl _)); replace hall := hall.trans (hb _ g1); clear hb ho kq; refine kl0 H fun a H => ?_
   refine zA (n_block (n_block (zB (zD ?_))))
   refine kR 1 H rfl fun a H => ?_
   refine kV H (r_add (q := ((i + 1 : Nat) : Int)) U3 (H.ev rfl) evc (by omega) (by omega)) rfl fun a H => ?_
   refine kR 1 H rfl fun a H => ?_
   refine zA ?_
   have hin3 : ∀ j s, j < i + 1 → L[j]? = some s → ((s.2.2.1 : Nat) : Int) ≤ p.fld (atF s.1) ∧ p.fld (atF s.1) ≤ ((s.2.2.2 : Nat) : Int) := fun j s hj hs => hin j s (by have := (List.getElem?_eq_some_iff.1 hs).1; omega) hs
   refine zI ⟨⟨i + 1, H.pick [1, 3, 4, 5], by omega, hin3, k0, by rw [show i + 1 = L.length + 1 by omega, bareP_tail, full_sec hse, ← hiL]; exact k1, hh, hall⟩, ?_⟩
   rw [H.ev (j := 5) rfl, H0.ev (j := 5) rfl]
   simp only [intOf]
   omega
  ·
   rw [hx] at hr
   clear hx hpi
   rw [bareP_slot (by omega)] at k1
   refine zC (zC (zD ?_))
   refine kR 2 H rfl fun a H => ?_
   refine kV H (r_len U96 (H.ev rfl)) rfl fun a H => ?_
   refine kV H (r_lt U3 (H.ev rfl) (H.ev rfl) (dec_t (by omega))) rfl fun a H => ?_
   refine zA (zB (zH H rfl (zE (zB (zC ?_)))))
   refine wp_block ?_
   refine zC (zD ?_)
   refine kR 2 H rfl fun a H => ?_
   refine kV H (r_idx (j := i) (q := o + i * 4) U96 s99 (H.ev rfl) (H.ev rfl) (by omega) rfl) rfl fun a H => ?_
   refine kV H (r_fld (q := o + i * 4) fld99_0 (H.ev rfl) rfl) rfl fun a H => ?_
   refine kV H (r_ld U3 rfl (H.ev rfl) (range_cell hr 0 rfl)) rfl fun a H => ?_
   refine zA (zB ?_)
   refine wp_block ?_
   refine zC (zD ?_)
   refine kV H (r_eq U3 (H.ev rfl) evc (dec_f (by omega))) rfl fun a H => ?_
   refine kR 1 H rfl fun a H => ?_
   refine zA (zB (zG H rfl (zC (zD ?_))))
   refine kV H (r_eq U3 (H.ev rfl) evc (dec_t (by omega))) rfl fun a H => ?_
   refine kR 1 H rfl fun a H => ?_
   refine zA (zB (zH H rfl (zD ?_)))
   refine kR 1 H rfl fun a H => ?_
   refine kV (v := .agg (p.tg.map u8v).toArray) H (r_row (cs := p.tg.map u8v) (H.ev rfl) (pv_tg k0 hp) (by kernel_rfl) (by rw [List.length_map, hp.2.2.1]; exact s34a) rfl) rfl fun a H => ?_
   refine kR 1 H rfl fun a H => ?_
   refine op_store_mid 34 (.tmp 65) (.tmp 64) b1 28 36 (p.tg.map u8v).toArray _ (H.ev rfl) (H.ev rfl) k1 (by rw [List.size_toArray, List.length_map, hp.2.2.1]; exact s34a) (by rw [List.size_toArray, List.length_map, hp.2.2.1, pv_size (bare_ok hp)]; omega) (bytes_one _) fun w' hb ho kq => ?_; clear k1; have k1 := tg_set (bare_len p L _) rfl (by rw [List.length_replicate, hp.2.2.1]) kq; replace k0 := block_same k0 (ho _ (by omega)); replace hh := Holds.away hh hA1 (hb _ (Nat.le_refl _)); replace hall := hall.trans (hb _ g1); clear hb ho kq; refine kl0 H fun a H => ?_
   refine zA (n_block (n_block (zB (zD ?_))))
   refine kR 1 H rfl fun a H => ?_
   refine kV H (r_add (q := ((i + 1 : Nat) : Int)) U3 (H.ev rfl) evc (by omega) (by omega)) rfl fun a H => ?_
   refine kR 1 H rfl fun a H => ?_
   refine zA ?_
   have hin3 : ∀ j s, j < i + 1 → L[j]? = some s → ((s.2.2.1 : Nat) : Int) ≤ p.fld (atF s.1) ∧ p.fld (atF s.1) ≤ ((s.2.2.2 : Nat) : Int) := fun j s hj hs => hin j s (by have := (List.getElem?_eq_some_iff.1 hs).1; omega) hs
   refine zI ⟨⟨i + 1, H.pick [1, 3, 4, 5], by omega, hin3, k0, by rw [show i + 1 = L.length + 1 by omega, bareP_tail, full_tg htg, ← hiL]; exact k1, hh, hall⟩, ?_⟩
   rw [H.ev (j := 5) rfl, H0.ev (j := 5) rfl]
   simp only [intOf]
   omega
 ·
  obtain rfl : i = P.length := by omega
  clear hh
  rw [bareP_end HP.out HL.out] at k1
  obtain ⟨F, hF⟩ : ∃ F, full p L = F := ⟨_, rfl⟩
  have hFo : F.ok := by rw [← hF]; exact full_ok hp
  rw [hF] at k1
  have HF := Lib.hid hF
  clear hF
  have hin2 : ∀ (j : Nat) s, (slotsF (p.fld 0))[j]? = some s → ((s.2.2.1 : Nat) : Int) ≤ p.fld (atF s.1) ∧ p.fld (atF s.1) ≤ ((s.2.2.2 : Nat) : Int) := fun j s hj => hin j s (by have := slot_part_le HP.out HL.out; have := (List.getElem?_eq_some_iff.1 hj).1; rw [HL.out] at this; omega) (by rw [← HL.out]; exact hj)
  clear hin
  refine zC (zC (zD ?_))
  refine kR 2 H rfl fun a H => ?_
  refine kV H (r_len U96 (H.ev rfl)) rfl fun a H => ?_
  refine kV H (r_lt U3 (H.ev rfl) (H.ev rfl) (dec_f (by omega))) rfl fun a H => ?_
  refine zA (zB (zG H rfl (wp_exit (e_then (e_then ?_)))))
  refine e_here ?_
  refine zB (zC (zD ?_))
  refine kR 1 H rfl fun a H => ?_
  refine kV H (r_ld U3 rfl (H.ev rfl) (pv_cell k0 (fld_at hp (j := 0) (by omega)))) rfl fun a H => ?_
  by_cases hcc2 : (p.fld 0) = 8
  ·
   refine kV H (r_eq U3 (H.ev rfl) evc (dec_t (hcc2))) rfl fun a H => ?_
   refine kR 2 H rfl fun a H => ?_
   refine kW H rfl (r_ld U3 rfl (H.ev rfl) (pv_cell k0 (fld_at hp (j := 3) (by omega)))) rfl fun a H => ?_
   by_cases hcc3 : (p.fld 3) = 0
   ·
    refine kW H rfl (r_eq U3 (H.ev rfl) evc (dec_t (hcc3))) rfl fun a H => ?_
    refine kR 2 H rfl fun a H => ?_
    refine zA (zB (zC ?_))
    by_cases hL0 : P = []
    ·
     refine zD ?_
     refine kR 1 H rfl fun a H => ?_
     refine kV H (r_len U96 (H.ev rfl)) rfl fun a H => ?_
     refine kV H (r_gt U3 (H.ev rfl) evc (dec_f (by simp [hL0]))) rfl fun a H => ?_
     refine kR 25 H rfl fun a H => ?_
     refine zA (zB (zF ?_))
     exact k_ret1 H rfl rfl ⟨by rw [right_no1 (parts_nil HP.out hL0)]; first | done | rfl, hall⟩
    ·
     have hPl : 0 < P.length := List.length_pos_iff.2 hL0
     have hLn := parts_ne HP.out hL0
     by_cases he : F = p
     ·
      obtain ⟨v1, v2, v3, v4, v5, v6⟩ := void_bounds (p := p) (by assumption) hin2
      refine zD ?_
      refine kR 1 H rfl fun a H => ?_
      refine kV H (r_len U96 (H.ev rfl)) rfl fun a H => ?_
      refine kV H (r_gt U3 (H.ev rfl) evc (dec_t (by omega))) rfl fun a H => ?_
      refine kR 1 H rfl fun a H => ?_
      refine kG H rfl ?_; refine kV (v := .agg (pv F)) H (run_load_row b1 36 _ _ (H.ev rfl) k1 U36 rfl (s36p hFo)) rfl fun a H => ?_
      refine kG H rfl ?_; refine kV (v := .agg (pv p)) H (run_load_row b0 36 _ _ (H.ev rfl) k0 U36 rfl (s36p hp)) rfl fun a H => ?_
      refine kG H rfl ?_; refine kV (v := .bool true) H (r_eqpk_b hFo hp (H.ev rfl) (H.ev rfl) (decide_eq_true he)) rfl fun a H => ?_
      refine kR 3 H rfl fun a H => ?_
      refine kW H rfl (r_not (H.ev rfl) rfl) rfl fun a H => ?_
      refine kR 2 H rfl fun a H => ?_
      refine kW H rfl (r_ld U3 rfl (H.ev rfl) (pv_cell k0 (fld_at hp (j := 7) (by omega)))) rfl fun a H => ?_
      by_cases hcc4 : (p.fld 7) = 0
      ·
       refine kW H rfl (r_eq U3 (H.ev rfl) evc (dec_t (hcc4))) rfl fun a H => ?_
       refine kR 2 H rfl fun a H => ?_
       refine kW H rfl (r_ld U3 rfl (H.ev rfl) (pv_cell k0 (fld_at hp (j := 5) (by omega)))) rfl fun a H => ?_
       by_cases hcc5 : (p.fld 5) = 0
       ·
        refine kW H rfl (r_eq U3 (H.ev rfl) evc (dec_t (hcc5))) rfl fun a H => ?_
        refine kR 3 H rfl fun a H => ?_
        refine kW H rfl (r_ld U3 rfl (H.ev rfl) (pv_cell k0 (fld_at hp (j := 6) (by omega)))) rfl fun a H => ?_
        by_cases hcc6 : (p.fld 6) = 0
        ·
         refine kW H rfl (r_eq U3 (H.ev rfl) evc (dec_t (hcc6))) rfl fun a H => ?_
         refine kR 4 H rfl fun a H => ?_
         refine zA (zB (zF ?_))
         exact k_ret1 H rfl rfl ⟨by rw [rightF_t ⟨hLn, hin2, by rw [HL.out, HF.out]; exact he, by omega⟩]; first | done | rfl, hall⟩
        ·
         refine kW H rfl (r_eq U3 (H.ev rfl) evc (dec_f (hcc6))) rfl fun a H => ?_
         refine kR 4 H rfl fun a H => ?_
         refine zA (zB (zF ?_))
         exact k_ret1 H rfl rfl ⟨by rw [right_no4 (by omega)]; first | done | rfl, hall⟩
       ·
        refine kW H rfl (r_eq U3 (H.ev rfl) evc (dec_f (hcc5))) rfl fun a H => ?_
        refine kR 9 H rfl fun a H => ?_
        refine zA (zB (zF ?_))
        exact k_ret1 H rfl rfl ⟨by rw [right_no4 (by omega)]; first | done | rfl, hall⟩
      ·
       refine kW H rfl (r_eq U3 (H.ev rfl) evc (dec_f (hcc4))) rfl fun a H => ?_
       refine kR 13 H rfl fun a H => ?_
       refine zA (zB (zF ?_))
       exact k_ret1 H rfl rfl ⟨by rw [right_no4 (by omega)]; first | done | rfl, hall⟩
     ·
      refine zD ?_
      refine kR 1 H rfl fun a H => ?_
      refine kV H (r_len U96 (H.ev rfl)) rfl fun a H => ?_
      refine kV H (r_gt U3 (H.ev rfl) evc (dec_t (by omega))) rfl fun a H => ?_
      refine kR 1 H rfl fun a H => ?_
      refine kG H rfl ?_; refine kV (v := .agg (pv F)) H (run_load_row b1 36 _ _ (H.ev rfl) k1 U36 rfl (s36p hFo)) rfl fun a H => ?_
      refine kG H rfl ?_; refine kV (v := .agg (pv p)) H (run_load_row b0 36 _ _ (H.ev rfl) k0 U36 rfl (s36p hp)) rfl fun a H => ?_
      refine kG H rfl ?_; refine kV (v := .bool false) H (r_eqpk_b hFo hp (H.ev rfl) (H.ev rfl) (decide_eq_false he)) rfl fun a H => ?_
      refine kR 21 H rfl fun a H => ?_
      refine zA (zB (zF ?_))
      exact k_ret1 H rfl rfl ⟨by rw [right_no3 (by rw [HL.out, HF.out]; exact he)]; first | done | rfl, hall⟩
   ·
    refine kW H rfl (r_eq U3 (H.ev rfl) evc (dec_f (hcc3))) rfl fun a H => ?_
    refine kR 2 H rfl fun a H => ?_
    refine zA (zB (zC ?_))
    by_cases hL0 : P = []
    ·
     refine zD ?_
     refine kR 1 H rfl fun a H => ?_
     refine kV H (r_len U96 (H.ev rfl)) rfl fun a H => ?_
     refine kV H (r_gt U3 (H.ev rfl) evc (dec_f (by simp [hL0]))) rfl fun a H => ?_
     refine kR 25 H rfl fun a H => ?_
     refine zA (zB (zF ?_))
     exact k_ret1 H rfl rfl ⟨by rw [right_no1 (parts_nil HP.out hL0)]; first | done | rfl, hall⟩
    ·
     have hPl : 0 < P.length := List.length_pos_iff.2 hL0
     have hLn := parts_ne HP.out hL0
     by_cases he : F = p
     ·
      obtain ⟨v1, v2, v3, v4, v5, v6⟩ := void_bounds (p := p) (by assumption) hin2
      refine zD ?_
      refine kR 1 H rfl fun a H => ?_
      refine kV H (r_len U96 (H.ev rfl)) rfl fun a H => ?_
      refine kV H (r_gt U3 (H.ev rfl) evc (dec_t (by omega))) rfl fun a H => ?_
      refine kR 1 H rfl fun a H => ?_
      refine kG H rfl ?_; refine kV (v := .agg (pv F)) H (run_load_row b1 36 _ _ (H.ev rfl) k1 U36 rfl (s36p hFo)) rfl fun a H => ?_
      refine kG H rfl ?_; refine kV (v := .agg (pv p)) H (run_load_row b0 36 _ _ (H.ev rfl) k0 U36 rfl (s36p hp)) rfl fun a H => ?_
      refine kG H rfl ?_; refine kV (v := .bool true) H (r_eqpk_b hFo hp (H.ev rfl) (H.ev rfl) (decide_eq_true he)) rfl fun a H => ?_
      refine kR 3 H rfl fun a H => ?_
      refine kW H rfl (r_not (H.ev rfl) rfl) rfl fun a H => ?_
      refine kR 17 H rfl fun a H => ?_
      refine zA (zB (zF ?_))
      exact k_ret1 H rfl rfl ⟨by rw [rightF_t ⟨hLn, hin2, by rw [HL.out, HF.out]; exact he, by omega⟩]; first | done | rfl, hall⟩
     ·
      refine zD ?_
      refine kR 1 H rfl fun a H => ?_
      refine kV H (r_len U96 (H.ev rfl)) rfl fun a H => ?_
      refine kV H (r_gt U3 (H.ev rfl) evc (dec_t (by omega))) rfl fun a H => ?_
      refine kR 1 H rfl fun a H => ?_
      refine kG H rfl ?_; refine kV (v := .agg (pv F)) H (run_load_row b1 36 _ _ (H.ev rfl) k1 U36 rfl (s36p hFo)) rfl fun a H => ?_
      refine kG H rfl ?_; refine kV (v := .agg (pv p)) H (run_load_row b0 36 _ _ (H.ev rfl) k0 U36 rfl (s36p hp)) rfl fun a H => ?_
      refine kG H rfl ?_; refine kV (v := .bool false) H (r_eqpk_b hFo hp (H.ev rfl) (H.ev rfl) (decide_eq_false he)) rfl fun a H => ?_
      refine kR 21 H rfl fun a H => ?_
      refine zA (zB (zF ?_))
      exact k_ret1 H rfl rfl ⟨by rw [right_no3 (by rw [HL.out, HF.out]; exact he)]; first | done | rfl, hall⟩
  ·
   refine kV H (r_eq U3 (H.ev rfl) evc (dec_f (hcc2))) rfl fun a H => ?_
   refine kR 6 H rfl fun a H => ?_
   refine zA (zB (zC ?_))
   by_cases hL0 : P = []
   ·
    refine zD ?_
    refine kR 1 H rfl fun a H => ?_
    refine kV H (r_len U96 (H.ev rfl)) rfl fun a H => ?_
    refine kV H (r_gt U3 (H.ev rfl) evc (dec_f (by simp [hL0]))) rfl fun a H => ?_
    refine kR 25 H rfl fun a H => ?_
    refine zA (zB (zF ?_))
    exact k_ret1 H rfl rfl ⟨by rw [right_no1 (parts_nil HP.out hL0)]; first | done | rfl, hall⟩
   ·
    have hPl : 0 < P.length := List.length_pos_iff.2 hL0
    have hLn := parts_ne HP.out hL0
    by_cases he : F = p
    ·
     refine zD ?_
     refine kR 1 H rfl fun a H => ?_
     refine kV H (r_len U96 (H.ev rfl)) rfl fun a H => ?_
     refine kV H (r_gt U3 (H.ev rfl) evc (dec_t (by omega))) rfl fun a H => ?_
     refine kR 1 H rfl fun a H => ?_
     refine kG H rfl ?_; refine kV (v := .agg (pv F)) H (run_load_row b1 36 _ _ (H.ev rfl) k1 U36 rfl (s36p hFo)) rfl fun a H => ?_
     refine kG H rfl ?_; refine kV (v := .agg (pv p)) H (run_load_row b0 36 _ _ (H.ev rfl) k0 U36 rfl (s36p hp)) rfl fun a H => ?_
     refine kG H rfl ?_; refine kV (v := .bool true) H (r_eqpk_b hFo hp (H.ev rfl) (H.ev rfl) (decide_eq_true he)) rfl fun a H => ?_
     refine kR 3 H rfl fun a H => ?_
     refine kW H rfl (r_not (H.ev rfl) rfl) rfl fun a H => ?_
     refine kR 17 H rfl fun a H => ?_
     refine zA (zB (zF ?_))
     exact k_ret1 H rfl rfl ⟨by rw [rightF_t ⟨hLn, hin2, by rw [HL.out, HF.out]; exact he, by omega⟩]; first | done | rfl, hall⟩
    ·
     refine zD ?_
     refine kR 1 H rfl fun a H => ?_
     refine kV H (r_len U96 (H.ev rfl)) rfl fun a H => ?_
     refine kV H (r_gt U3 (H.ev rfl) evc (dec_t (by omega))) rfl fun a H => ?_
     refine kR 1 H rfl fun a H => ?_
     refine kG H rfl ?_; refine kV (v := .agg (pv F)) H (run_load_row b1 36 _ _ (H.ev rfl) k1 U36 rfl (s36p hFo)) rfl fun a H => ?_
     refine kG H rfl ?_; refine kV (v := .agg (pv p)) H (run_load_row b0 36 _ _ (H.ev rfl) k0 U36 rfl (s36p hp)) rfl fun a H => ?_
     refine kG H rfl ?_; refine kV (v := .bool false) H (r_eqpk_b hFo hp (H.ev rfl) (H.ev rfl) (decide_eq_false he)) rfl fun a H => ?_
     refine kR 21 H rfl fun a H => ?_
     refine zA (zB (zF ?_))
     exact k_ret1 H rfl rfl ⟨by rw [right_no3 (by rw [HL.out, HF.out]; exact he)]; first | done | rfl, hall⟩
theorem rright_t (w : World) (p : Pkt) (hp : p.ok) (h : rightF p = true) : Calls Tryz.prog 70 #[.agg (pv p)] w fun e w' => e = .returned (.bool true) ∧ Below w.heap.size w w' := by
 have := rright_any w p hp
 rwa [h] at this
theorem rright_f (w : World) (p : Pkt) (hp : p.ok) (h : ¬ rightF p = true) : Calls Tryz.prog 70 #[.agg (pv p)] w fun e w' => e = .returned (.bool false) ∧ Below w.heap.size w w' := by
 have := rright_any w p hp
 rwa [show rightF p = false by simpa using h] at this
/-- the bytes of the first i pieces -/
def encP (p : Pkt) (L : List (Nat × Nat × Nat × Nat)) (i : Nat) : List B8 := if i ≤ L.length then encS0 p L i else encF p
theorem encP_slot {p : Pkt} {L : List (Nat × Nat × Nat × Nat)} {i : Nat} (h : i ≤ L.length) : encP p L i = encS0 p L i := if_pos h
theorem encP_tail {p : Pkt} {L : List (Nat × Nat × Nat × Nat)} : encP p L (L.length + 1) = encF p := if_neg (by omega)
theorem encP_end {p : Pkt} {L P : List (Nat × Nat × Nat × Nat)} (hP : partsF (p.fld 0) = P) (hL : slotsF (p.fld 0) = L) : encP p L P.length = encF p := by
 subst hP hL
 unfold encP
 rw [partsF, List.length_append, List.length_map]
 unfold ptail
 by_cases h1 : 2 ≤ p.fld 0 ∧ p.fld 0 ≤ 4
 · rw [if_pos h1, if_neg (by simp)]
 ·
  rw [if_neg h1]
  by_cases h2 : 5 ≤ p.fld 0 ∧ p.fld 0 ≤ 11
  · rw [if_pos h2, if_neg (by simp)]
  ·
   rw [if_neg h2, if_pos (by simp), encF, if_neg h1, if_neg h2]
   simp
def Rn1 (W : World) (p : Pkt) (L P : List (Nat × Nat × Nat × Nat)) (A : Option Addr) (b0 : Nat) (a : Act) (w : World) : Prop :=
 ∃ (i : Nat) (Ao : Option Addr) (co : Nat), Kn a 55 [(1, .pointer (some ⟨b0, 0, none⟩)), (4, .slice Ao (encP p L i).length co), (5, .slice A P.length P.length), (6, .int .i64 (i : Nat))] ∧ i ≤ P.length ∧ BOwn w (b0 + 1) (.slice Ao (encP p L i).length co) (encP p L i) ∧ Block w b0 36 (pv p) ∧ (i < P.length → Holds w A (FV encT P)) ∧ Below W.heap.size W w
set_option maxRecDepth 100000 in
set_option maxHeartbeats 8000000 in
theorem renc_any (w : World) (p : Pkt) (hp : p.ok) : Calls Tryz.prog 39 #[.agg (pv p)] w fun e w' => ((rightF p = true ∧ ∃ A c, e = .returned (.tuple #[.slice A (encF p).length c, .int .i64 0]) ∧ BOwn w' w.heap.size (.slice A (encF p).length c) (encF p)) ∨ (rightF p = false ∧ e = .returned (.tuple #[.slice none 0 0, .int .i64 1]))) ∧ Below w.heap.size w w' := by
 have hall := Below.refl w.heap.size w
 refine K_enter 55 Tryz.func39 rfl rfl fun a H => ?_
 replace H := H.pick [0]
 refine zC (zD ?_)
 refine op_box 36 (.tmp 0) (pv p) (H.ev rfl) fun w0 b0 hge hb k0 => ?_; have g0 := Nat.le_trans hall.size hge; replace hall := hall.tr hb; clear hb hge; refine kl H rfl fun a H => ?_
 refine kR 2 H rfl fun a H => ?_
 refine zA (zB (zC (zC ?_)))
 by_cases hR : rightF p = true
 ·
  refine zD ?_
  refine kV (v := .agg (pv p)) H (run_load_row b0 36 _ _ (H.ev rfl) k0 U36 rfl (s36p hp)) rfl fun a H => ?_
  refine wl_call _ _ _ (rright_t _ p hp hR) (r_call1 cf70 (H.ev rfl)) ?_; rintro e w9 ⟨rfl, hb⟩; refine ⟨_, rfl, ?_⟩; replace k0 := Block.ups k0 hb; replace hall := hall.tr hb; clear hb; refine kl H rfl fun a H => ?_
  refine kV H (r_not (H.ev rfl) rfl) rfl fun a H => ?_
  refine zA (zB (zG H rfl (zE (zB (zC (zD ?_))))))
  refine kR 1 H rfl fun a H => ?_
  refine kV H (r_ld U3 rfl (H.ev rfl) (pv_cell k0 (fld_at hp (j := 0) (by omega)))) rfl fun a H => ?_
  refine kV H (r_cvi_8 U3 U5 (H.ev rfl)) rfl fun a H => ?_
  refine op_litv 30 1 #[(0, u8v (BitVec.ofInt 8 (p.fld 0)))] 5 #[u8v (BitVec.ofInt 8 (p.fld 0))] (by simp [H.ev (j := 12) rfl]) (fun w => by kernel_rfl) fun w1 bo hge hb ko => ?_; have hown : BOwn _ (b0 + 1) (.slice (some ⟨bo, 0, none⟩) 1 1) [BitVec.ofInt 8 (p.fld 0)] := own_lit1 ko (Nat.le_trans k0.lt hge); replace k0 := Block.ups k0 hb; replace hall := hall.tr hb; clear hb hge ko; refine kl H rfl fun a H => ?_
  refine kR 1 H rfl fun a H => ?_
  refine zA (zB (zC (zD ?_)))
  refine kR 1 H rfl fun a H => ?_
  refine kV H (r_ld U3 rfl (H.ev rfl) (pv_cell k0 (fld_at hp (j := 0) (by omega)))) rfl fun a H => ?_
  refine wl_call _ _ _ (rparts_any _ (p.fld 0)) (r_call1 cf71 (H.ev rfl)) ?_; rintro e w9 ⟨⟨A, rfl, hh, hA⟩, hb⟩; refine ⟨_, rfl, ?_⟩; replace k0 := Block.ups k0 hb; replace hown := own_ups hown hb; replace hall := hall.tr hb; clear hb; obtain ⟨P, hP⟩ : ∃ P, partsF (p.fld 0) = P := ⟨_, rfl⟩; obtain ⟨L, hL⟩ : ∃ L, slotsF (p.fld 0) = L := ⟨_, rfl⟩; rw [hP] at hh; have hPn : P.length ≤ 8 := (by rw [← hP]; exact parts_le _); have hLn : L.length ≤ 6 := (by rw [← hL]; exact slots_le _); have HP := Lib.hid hP; have HL := Lib.hid hL; rw [hP]; clear hL hP hA; refine kl H rfl fun a H => ?_
  refine kR 1 H rfl fun a H => ?_
  refine zA (zB (zC (zC (zD ?_))))
  refine kR 1 H rfl fun a H => ?_
  refine zA (zB ?_)
  refine wp_block ?_
  refine wp_loop (Rn1 w p L P A b0) (fun a _ => P.length - (intOf (a.eval (.tmp 6))).toNat) ⟨0, some ⟨bo, 0, none⟩, 1, H.pick [1, 4, 5, 6], by omega, hown, k0, fun _ => hh, hall⟩ ?_
  clear H hall k0 hown hh
  rintro a w' ⟨i, Ao, co, H, hi, hown, k0, hh, hall⟩
  have H0 := H
  by_cases hlt : i < P.length
  ·
   replace hh := hh hlt
   obtain ⟨b, o, hAe, hr⟩ := flat_some encT_len hh (by omega) hlt
   subst hAe
   have hpi : P[i]? = some P[i] := List.getElem?_eq_getElem hlt
   rcases part_cases HP.out HL.out hpi with ⟨s, hs, hx⟩ | ⟨hiL, hin1, hse, hx⟩ | ⟨hiL, hin1, htg, hx⟩
   ·
    rw [hx] at hr
    clear hx hpi
    have hat := at_lt (show (slotsF (p.fld 0))[i]? = some s by rw [HL.out]; exact hs)
    have hap := at_pos (show (slotsF (p.fld 0))[i]? = some s by rw [HL.out]; exact hs)
    have hsz := slot_size (show (slotsF (p.fld 0))[i]? = some s by rw [HL.out]; exact hs)
    have hiL : i < L.length := (List.getElem?_eq_some_iff.1 hs).1
    obtain ⟨m, hm⟩ : ∃ m, atF s.1 = m + 1 := ⟨atF s.1 - 1, by omega⟩
    have hxm : encT (pconv s) = [((m : Nat) : Int), ((s.2.1 : Nat) : Int), ((s.2.2.1 : Nat) : Int), ((s.2.2.2 : Nat) : Int)] := by simp [encT, pconv, hm]
    rw [hxm] at hr
    clear hxm
    have HLS := Lib.hid hs
    clear hs
    rw [encP_slot (by omega)] at H hown
    have hel := encS0_len (i := i) HL.out (by omega)
    refine zC (zC (zD ?_))
    refine kR 2 H rfl fun a H => ?_
    refine kV H (r_len U96 (H.ev rfl)) rfl fun a H => ?_
    refine kV H (r_lt U3 (H.ev rfl) (H.ev rfl) (dec_t (by omega))) rfl fun a H => ?_
    refine zA (zB (zH H rfl (zE (zB (zC ?_)))))
    refine wp_block ?_
    refine zC (zD ?_)
    refine kR 2 H rfl fun a H => ?_
    refine kV H (r_idx (j := i) (q := o + i * 4) U96 s99 (H.ev rfl) (H.ev rfl) (by omega) rfl) rfl fun a H => ?_
    refine kV H (r_fld (q := o + i * 4) fld99_0 (H.ev rfl) rfl) rfl fun a H => ?_
    refine kV H (r_ld U3 rfl (H.ev rfl) (range_cell hr 0 rfl)) rfl fun a H => ?_
    refine zA (zB ?_)
    refine wp_block ?_
    refine zC (zD ?_)
    refine kV H (r_eq U3 (H.ev rfl) evc (dec_f (by omega))) rfl fun a H => ?_
    refine kR 1 H rfl fun a H => ?_
    refine zA (zB (zG H rfl (zC (zD ?_))))
    refine kV H (r_eq U3 (H.ev rfl) evc (dec_f (by omega))) rfl fun a H => ?_
    refine kR 1 H rfl fun a H => ?_
    refine zA (zB (zG H rfl ?_))
    have hall9 := hall
    have hS : BelowOf (BelowTo hall9) _ := Below.drew (Below.refl _ (BelowTo hall9))
    refine region_tree (BelowOf (BelowTo hall9)) 15 (.fl 0 (.fl 1 (.fl 2 (.fl 3 (.fl 4 (.fl 5 (.fl 6 (.fl 8 (.fl 9 (.fl 10 (.fl 11 (.fl 12 (.one 7 (.one 13 (.fl 14 .done))))))))))))))) (by kernel_rfl) (by kernel_rfl) rfl (by kernel_rfl) hS ?_
    refine kQ 1 H rfl fun a H => ?_
    refine kF (v := .agg (pv p)) H rfl rfl (fun w' hS' => run_load_row b0 36 _ _ (H.ev rfl) (Block.ups k0 hS') U36 rfl (s36p hp)) rfl fun a H => ?_
    refine kQ 2 H rfl fun a H => ?_
    refine kF H rfl rfl (fun w' hS' => r_idx (j := i) (q := o + i * 4) U96 s99 (H.ev rfl) (H.ev rfl) (by omega) rfl) rfl fun a H => ?_
    refine kF H rfl rfl (fun w' hS' => r_fld (q := o + i * 4) fld99_0 (H.ev rfl) rfl) rfl fun a H => ?_
    refine kF H rfl rfl (fun w' hS' => r_ld U3 rfl (H.ev rfl) (range_cell (range_ups hr hS') 0 rfl)) rfl fun a H => ?_
    refine kQ 2 H rfl fun a H => ?_
    refine kF H rfl rfl (fun w' hS' => r_idx (j := i) (q := o + i * 4) U96 s99 (H.ev rfl) (H.ev rfl) (by omega) rfl) rfl fun a H => ?_
    refine kF H rfl rfl (fun w' hS' => r_fld (q := o + i * 4 + 1) fld99_1 (H.ev rfl) rfl) rfl fun a H => ?_
    refine kF H rfl rfl (fun w' hS' => r_ld U3 rfl (H.ev rfl) (range_cell (range_ups hr hS') 1 rfl)) rfl fun a H => ?_
    refine pt_one (fun K hK => ?_)
    refine st_a0 rfl ?_; refine wpo_call _ _ _ (rget_lit _ p m _ rfl hp (by omega)) (r_call2 cf73 (H.ev rfl) (H.ev rfl)) ?_; rintro e w9 ⟨rfl, hb⟩; refine ⟨_, rfl, ?_⟩; replace hS := Below.trans hS (Below.mono hb (Below.size hS)); clear hb; refine hK _ _ ⟨(fun _ => hS), ?_⟩; clear hK; clear K; refine kt H rfl fun a H => ?_
    refine pt_one (fun K hK => ?_)
    refine st_a0 rfl ?_; refine wpo_call _ _ _ (rput_lit _ _ (encS0 p L i) (p.fld (m + 1)) s.2.1 _ rfl (BOwn.row (own_ups hown hS)) (by omega) (by omega) (by omega)) (r_call3 cf72 (H.ev rfl) (H.ev rfl) (H.ev rfl)) ?_; rintro e w9 ⟨⟨D, A3, c3, hDe, rfl, hown3⟩, hb⟩; refine ⟨_, rfl, ?_⟩; have hown4 := own_baseB hown3 (show b0 + 1 ≤ D by rw [hDe]; exact Nat.le_trans k0.lt (Below.size hS)); clear hown hown3 hDe; replace hS := Below.trans hS (Below.mono hb (Below.size hS)); clear hb; refine hK _ _ ⟨(fun _ => hS), ?_⟩; clear hK; clear K; refine kt H rfl fun a H => ?_
    refine kQ 1 H rfl fun a H => ?_
    refine pt_done (NoPanic.normal ?_)
    replace k0 := Block.ups k0 hS
    replace hr := range_ups hr hS
    replace hh := holds_ups hh hS
    replace hall := hall.trans (Below.mono hS hall.size)
    clear hS
    refine n_block (n_block (zB (zD ?_)))
    refine kR 1 H rfl fun a H => ?_
    refine kV H (r_add (q := ((i + 1 : Nat) : Int)) U3 (H.ev rfl) evc (by omega) (by omega)) rfl fun a H => ?_
    refine kR 1 H rfl fun a H => ?_
    refine zA ?_
    rw [← hm, ← encS0_next HLS.out, ← encP_slot (p := p) (L := L) (i := i + 1) (by omega)] at H hown4
    refine zI ⟨⟨i + 1, _, _, H.pick [1, 4, 5, 6], by omega, hown4, k0, fun _ => hh, hall⟩, ?_⟩
    rw [H.ev (j := 6) rfl, H0.ev (j := 6) rfl]
    simp only [intOf]
    omega
   ·
    rw [hx] at hr
    clear hx hpi hh
    rw [encP_slot (by omega)] at H hown
    have hel := encS0_len (i := i) HL.out (by omega)
    refine zC (zC (zD ?_))
    refine kR 2 H rfl fun a H => ?_
    refine kV H (r_len U96 (H.ev rfl)) rfl fun a H => ?_
    refine kV H (r_lt U3 (H.ev rfl) (H.ev rfl) (dec_t (by omega))) rfl fun a H => ?_
    refine zA (zB (zH H rfl (zE (zB (zC ?_)))))
    refine wp_block ?_
    refine zC (zD ?_)
    refine kR 2 H rfl fun a H => ?_
    refine kV H (r_idx (j := i) (q := o + i * 4) U96 s99 (H.ev rfl) (H.ev rfl) (by omega) rfl) rfl fun a H => ?_
    refine kV H (r_fld (q := o + i * 4) fld99_0 (H.ev rfl) rfl) rfl fun a H => ?_
    refine kV H (r_ld U3 rfl (H.ev rfl) (range_cell hr 0 rfl)) rfl fun a H => ?_
    refine zA (zB ?_)
    refine wp_block ?_
    refine zC (zD ?_)
    refine kV H (r_eq U3 (H.ev rfl) evc (dec_t (by omega))) rfl fun a H => ?_
    refine kR 1 H rfl fun a H => ?_
    refine zA (zB (zH H rfl (zD ?_)))
    refine kR 2 H rfl fun a H => ?_
    refine kV (v := .slice (some ⟨b0, 12, none⟩) 16 16) H (r_slice_all (b := b0) (o := 12) U33 s5 (H.ev rfl) (by omega)) rfl fun a H => ?_
    have hDs2 : b0 + 1 ≤ _ := k0.lt; refine op_append 30 5 (.tmp 44) (.tmp 46) (b0 + 1) (.int .u8 0) 1 1 _ _ _ (some ⟨b0, 12, none⟩) 16 16 (p.sec.map u8v) (H.ev rfl) (H.ev rfl) U30 i5 rfl (by omega) hown (by rw [List.length_map, hp.2.1]) (holds_range (pv_sec k0 hp)) (u8s_one _) (by unfold maxLen; omega) (by omega) hDs2 fun o2 w9 hown2 hg9 hv9 hb2 => ?_; have hown3 := bown_appn hp.2.1 hown2; replace k0 := Block.up k0 hb2 (by omega); replace hall := hall.trans (hb2.mono (by omega)); clear hDs2 hown hown2 hg9 hv9 hb2 hr; have hown := hown3; clear hown3; obtain ⟨A4, c4, hov⟩ := own_sliceB hown; subst hov; refine kl H rfl fun a H => ?_
    refine kR 1 H rfl fun a H => ?_
    refine zA (n_block (n_block (zB (zD ?_))))
    refine kR 1 H rfl fun a H => ?_
    refine kV H (r_add (q := ((i + 1 : Nat) : Int)) U3 (H.ev rfl) evc (by omega) (by omega)) rfl fun a H => ?_
    refine kR 1 H rfl fun a H => ?_
    refine zA ?_
    rw [show encS0 p L i ++ p.sec = encP p L (i + 1) by rw [show i + 1 = L.length + 1 by omega, encP_tail, encF_eq HL.out, if_pos hse, if_neg (by omega), List.append_nil, hiL]] at H hown
    refine zI ⟨⟨i + 1, _, _, H.pick [1, 4, 5, 6], by omega, hown, k0, fun h => absurd h (by omega), hall⟩, ?_⟩
    rw [H.ev (j := 6) rfl, H0.ev (j := 6) rfl]
    simp only [intOf]
    omega
   ·
    rw [hx] at hr
    clear hx hpi hh
    rw [encP_slot (by omega)] at H hown
    have hel := encS0_len (i := i) HL.out (by omega)
    refine zC (zC (zD ?_))
    refine kR 2 H rfl fun a H => ?_
    refine kV H (r_len U96 (H.ev rfl)) rfl fun a H => ?_
    refine kV H (r_lt U3 (H.ev rfl) (H.ev rfl) (dec_t (by omega))) rfl fun a H => ?_
    refine zA (zB (zH H rfl (zE (zB (zC ?_)))))
    refine wp_block ?_
    refine zC (zD ?_)
    refine kR 2 H rfl fun a H => ?_
    refine kV H (r_idx (j := i) (q := o + i * 4) U96 s99 (H.ev rfl) (H.ev rfl) (by omega) rfl) rfl fun a H => ?_
    refine kV H (r_fld (q := o + i * 4) fld99_0 (H.ev rfl) rfl) rfl fun a H => ?_
    refine kV H (r_ld U3 rfl (H.ev rfl) (range_cell hr 0 rfl)) rfl fun a H => ?_
    refine zA (zB ?_)
    refine wp_block ?_
    refine zC (zD ?_)
    refine kV H (r_eq U3 (H.ev rfl) evc (dec_f (by omega))) rfl fun a H => ?_
    refine kR 1 H rfl fun a H => ?_
    refine zA (zB (zG H rfl (zC (zD ?_))))
    refine kV H (r_eq U3 (H.ev rfl) evc (dec_t (by omega))) rfl fun a H => ?_
    refine kR 1 H rfl fun a H => ?_
    refine zA (zB (zH H rfl (zD ?_)))
    refine kR 2 H rfl fun a H => ?_
    refine kV (v := .slice (some ⟨b0, 28, none⟩) 8 8) H (r_slice_all (b := b0) (o := 28) U34 s5 (H.ev rfl) (by omega)) rfl fun a H => ?_
    have hDs2 : b0 + 1 ≤ _ := k0.lt; refine op_append 30 5 (.tmp 50) (.tmp 52) (b0 + 1) (.int .u8 0) 1 1 _ _ _ (some ⟨b0, 28, none⟩) 8 8 (p.tg.map u8v) (H.ev rfl) (H.ev rfl) U30 i5 rfl (by omega) hown (by rw [List.length_map, hp.2.2.1]) (holds_range (pv_tg k0 hp)) (u8s_one _) (by unfold maxLen; omega) (by omega) hDs2 fun o2 w9 hown2 hg9 hv9 hb2 => ?_; have hown3 := bown_appn hp.2.2.1 hown2; replace k0 := Block.up k0 hb2 (by omega); replace hall := hall.trans (hb2.mono (by omega)); clear hDs2 hown hown2 hg9 hv9 hb2 hr; have hown := hown3; clear hown3; obtain ⟨A4, c4, hov⟩ := own_sliceB hown; subst hov; refine kl H rfl fun a H => ?_
    refine kR 1 H rfl fun a H => ?_
    refine zA (n_block (n_block (zB (zD ?_))))
    refine kR 1 H rfl fun a H => ?_
    refine kV H (r_add (q := ((i + 1 : Nat) : Int)) U3 (H.ev rfl) evc (by omega) (by omega)) rfl fun a H => ?_
    refine kR 1 H rfl fun a H => ?_
    refine zA ?_
    rw [show encS0 p L i ++ p.tg = encP p L (i + 1) by rw [show i + 1 = L.length + 1 by omega, encP_tail, encF_eq HL.out, if_neg (by omega), if_pos htg, List.append_nil, hiL]] at H hown
    refine zI ⟨⟨i + 1, _, _, H.pick [1, 4, 5, 6], by omega, hown, k0, fun h => absurd h (by omega), hall⟩, ?_⟩
    rw [H.ev (j := 6) rfl, H0.ev (j := 6) rfl]
    simp only [intOf]
    omega
  ·
   obtain rfl : i = P.length := by omega
   clear hh
   rw [encP_end HP.out HL.out] at H hown
   refine zC (zC (zD ?_))
   refine kR 2 H rfl fun a H => ?_
   refine kV H (r_len U96 (H.ev rfl)) rfl fun a H => ?_
   refine kV H (r_lt U3 (H.ev rfl) (H.ev rfl) (dec_f (by omega))) rfl fun a H => ?_
   refine zA (zB (zG H rfl (wp_exit (e_then (e_then ?_)))))
   refine e_here ?_
   refine zB (zC (zD ?_))
   refine kR 3 H rfl fun a H => ?_
   refine zA (zB (zF ?_))
   exact k_ret2 H rfl rfl rfl ⟨.inl ⟨hR, _, _, rfl, own_baseB hown (by omega)⟩, hall⟩
 ·
  refine zD ?_
  refine kV (v := .agg (pv p)) H (run_load_row b0 36 _ _ (H.ev rfl) k0 U36 rfl (s36p hp)) rfl fun a H => ?_
  refine wl_call _ _ _ (rright_f _ p hp hR) (r_call1 cf70 (H.ev rfl)) ?_; rintro e w9 ⟨rfl, hb⟩; refine ⟨_, rfl, ?_⟩; replace k0 := Block.ups k0 hb; replace hall := hall.tr hb; clear hb; refine kl H rfl fun a H => ?_
  refine kV H (r_not (H.ev rfl) rfl) rfl fun a H => ?_
  refine zA (zB (zH H rfl (zC (zD ?_))))
  refine kR 2 H rfl fun a H => ?_
  refine zA (zB (zF (zJ ?_)))
  exact k_ret2 H rfl rfl rfl ⟨.inr ⟨by simpa using hR, rfl⟩, hall⟩
theorem range_grown {w w' : World} {b o br : Nat} {cs : List Value} (h : w.rangeAt b o cs) (hg : w.grownBy w' (some br)) (hne : br < b) : w'.rangeAt b o cs := fun j v hv => by
 have h1 := h j v hv
 have hlt := World.block_lt_of_cell? w _ h1
 rw [← h1]
 unfold World.cell?
 rw [hg.block b hlt (by simp; omega)]
theorem BRow.same1 {w w' : World} {g o n c : Nat} {bs : List B8} (h : BRow w (.slice (some ⟨g, o, none⟩) n c) bs) (hs : w'.heap[g]? = w.heap[g]?) : BRow w' (.slice (some ⟨g, o, none⟩) n c) bs := by
 obtain ⟨A', c', e, h1, h2, h3, hh⟩ := h
 injection e with e1 e2 e3
 subst e1 e3
 exact ⟨_, _, by rw [e2], h1, h2, h3, Holds.same1 hh hs⟩
theorem part_slot_le {k : Int} {L P : List (Nat × Nat × Nat × Nat)} {i : Nat} {x : Nat × Nat × Nat × Nat} (hP : partsF k = P) (hL : slotsF k = L) (h : P[i]? = some x) : i ≤ L.length := by
 rcases part_cases hP hL h with ⟨s, hs, _⟩ | ⟨h, _⟩ | ⟨h, _⟩
 · exact Nat.le_of_lt (List.getElem?_eq_some_iff.1 hs).1
 · omega
 · omega
/-- what the document's Decode has read of the first i pieces -/
def decS (L : List (Nat × Nat × Nat × Nat)) (bs : List B8) (kd i : Nat) : (List B8 × Bool) × Pkt := if i ≤ L.length then dst L bs kd i else decX bs
theorem decS_slot {L : List (Nat × Nat × Nat × Nat)} {bs : List B8} {kd i : Nat} (h : i ≤ L.length) : decS L bs kd i = dst L bs kd i := if_pos h
theorem decS_tail {L : List (Nat × Nat × Nat × Nat)} {bs : List B8} {kd : Nat} : decS L bs kd (L.length + 1) = decX bs := if_neg (by omega)
theorem decS_end {L P : List (Nat × Nat × Nat × Nat)} {bs : List B8} {kd : Nat} (hk : numF (tkO bs false 1) = kd) (hP : partsF ((kd : Nat) : Int) = P) (hL : slotsF ((kd : Nat) : Int) = L) : decS L bs kd P.length = decX bs := by
 have e := decX_eq hk hL rfl
 subst hP hL
 unfold decS
 rw [partsF, List.length_append, List.length_map]
 unfold ptail
 by_cases h1 : 2 ≤ ((kd : Nat) : Int) ∧ ((kd : Nat) : Int) ≤ 4
 · rw [if_pos h1, if_neg (by simp)]
 ·
  rw [if_neg h1]
  by_cases h2 : 5 ≤ ((kd : Nat) : Int) ∧ ((kd : Nat) : Int) ≤ 11
  · rw [if_pos h2, if_neg (by simp)]
  ·
   rw [if_neg h2, if_pos (by simp), e, if_neg h2, if_neg h1]
   simp
theorem decX_ok (bs : List B8) : (decX bs).2.ok := by
 have hk : numF (tkO bs false 1) < 281474976710656 := numF_lt (Nat.le_trans (tkO_len _ _ _) (by omega))
 have h := dst_ok (bs := bs) (i := (slotsF ((numF (tkO bs false 1) : Nat) : Int)).length) rfl hk
 rw [decX_eq (bs := bs) rfl rfl rfl]
 split
 ·
  split
  · exact tg8_ok (sec16_ok h)
  · exact tg8_ok h
 ·
  split
  · exact sec16_ok h
  · exact h
theorem take_set {out old : List B8} {k : Nat} {y : B8} (hy : out[k]? = some y) (hk : k < old.length) (hl : out.length ≤ old.length) : (out.take k ++ old.drop k).set k y = out.take (k + 1) ++ old.drop (k + 1) := by
 obtain ⟨hko, rfl⟩ := List.getElem?_eq_some_iff.1 hy
 rw [List.set_append_right _ _ (by rw [List.length_take]; omega), List.length_take, show k - min k out.length = 0 by omega, List.drop_eq_getElem_cons hk, List.set_cons_zero, List.take_succ_eq_append_getElem hko, List.append_assoc]
 rfl
theorem sec_set1 {p : Pkt} {out : List B8} {k : Nat} {y : B8} (hp : p.ok) (hl : out.length ≤ 16) (hy : out[k]? = some y) : setL (pv ⟨p.n, out.take k ++ p.sec.drop k, p.tg⟩) (12 + k) (u8v y).cells.toList = pv ⟨p.n, out.take (k + 1) ++ p.sec.drop (k + 1), p.tg⟩ := by
 have hko := (List.getElem?_eq_some_iff.1 hy).1
 have h2 := hp.2.1
 rw [← take_set hy (by omega) (by omega)]
 show setL _ _ [u8v y] = _
 rw [setL1]
 simp only [pv, pcell, List.setIfInBounds_toArray]
 congr 1
 rw [List.append_assoc, List.append_assoc, List.set_append_right _ _ (by rw [List.length_map, hp.1]; omega), List.length_map, hp.1, List.set_append_left _ _ (by rw [List.length_map, List.length_append, List.length_take, List.length_drop]; omega), show 12 + k - 12 = k by omega, List.map_set]
theorem tg_set1 {p : Pkt} {out : List B8} {k : Nat} {y : B8} (hp : p.ok) (hl : out.length ≤ 8) (hy : out[k]? = some y) : setL (pv ⟨p.n, p.sec, out.take k ++ p.tg.drop k⟩) (28 + k) (u8v y).cells.toList = pv ⟨p.n, p.sec, out.take (k + 1) ++ p.tg.drop (k + 1)⟩ := by
 have hko := (List.getElem?_eq_some_iff.1 hy).1
 have h2 := hp.2.2.1
 rw [← take_set hy (by omega) (by omega)]
 show setL _ _ [u8v y] = _
 rw [setL1]
 simp only [pv, pcell, List.setIfInBounds_toArray]
 congr 1
 rw [List.set_append_right _ _ (by rw [List.length_append, List.length_map, List.length_map, hp.1, hp.2.1]; omega), List.length_append, List.length_map, List.length_map, hp.1, hp.2.1, show 28 + k - (12 + 16) = k by omega, List.map_set]
def Rosec (W : World) (x : (List B8 × Bool) × Pkt) (T : List B8 × Bool) (P : List (Nat × Nat × Nat × Nat)) (b o b0 br b1 i : Nat) (Ax : Option Addr) (cx : Nat) (out : List B8) (a : Act) (w : World) : Prop :=
 ∃ k : Nat, Kn a 89 [(2, .pointer (some ⟨b0, 0, none⟩)), (3, .int .i64 0), (4, .pointer (some ⟨br, 0, none⟩)), (5, .pointer (some ⟨b1, 0, none⟩)), (6, .slice (some ⟨b, o, none⟩) P.length P.length), (7, .int .i64 (i : Nat)), (8, .slice Ax out.length cx), (9, .int .i64 (k : Nat))] ∧ k ≤ out.length ∧ Block w b0 36 (pv pk0) ∧ Block w b1 36 (pv ⟨x.2.n, out.take k ++ x.2.sec.drop k, x.2.tg⟩) ∧ Rd w br 123 T.1 T.2 ∧ BRow w (.slice Ax out.length cx) out ∧ Holds w (some ⟨b, o, none⟩) (FV encT P) ∧ Below W.heap.size W w
def Rotg (W : World) (x : (List B8 × Bool) × Pkt) (T : List B8 × Bool) (P : List (Nat × Nat × Nat × Nat)) (b o b0 br b1 i : Nat) (Ax : Option Addr) (cx : Nat) (out : List B8) (a : Act) (w : World) : Prop :=
 ∃ k : Nat, Kn a 89 [(2, .pointer (some ⟨b0, 0, none⟩)), (3, .int .i64 0), (4, .pointer (some ⟨br, 0, none⟩)), (5, .pointer (some ⟨b1, 0, none⟩)), (6, .slice (some ⟨b, o, none⟩) P.length P.length), (7, .int .i64 (i : Nat)), (10, .slice Ax out.length cx), (11, .int .i64 (k : Nat))] ∧ k ≤ out.length ∧ Block w b0 36 (pv pk0) ∧ Block w b1 36 (pv ⟨x.2.n, x.2.sec, out.take k ++ x.2.tg.drop k⟩) ∧ Rd w br 123 T.1 T.2 ∧ BRow w (.slice Ax out.length cx) out ∧ Holds w (some ⟨b, o, none⟩) (FV encT P) ∧ Below W.heap.size W w
def Ro1 (W : World) (bs : List B8) (kd : Nat) (L P : List (Nat × Nat × Nat × Nat)) (A : Option Addr) (b0 br b1 : Nat) (a : Act) (w : World) : Prop :=
 ∃ i : Nat, Kn a 89 [(2, .pointer (some ⟨b0, 0, none⟩)), (3, .int .i64 0), (4, .pointer (some ⟨br, 0, none⟩)), (5, .pointer (some ⟨b1, 0, none⟩)), (6, .slice A P.length P.length), (7, .int .i64 (i : Nat))] ∧ i ≤ P.length ∧ Block w b0 36 (pv pk0) ∧ Block w b1 36 (pv (decS L bs kd i).2) ∧ Rd w br 123 (decS L bs kd i).1.1 (decS L bs kd i).1.2 ∧ Holds w A (FV encT P) ∧ Below W.heap.size W w
set_option maxRecDepth 100000 in
set_option maxHeartbeats 8000000 in
theorem rdec_any (w : World) (v : Value) (bs : List B8) (hr : BRow w v bs) (hn : bs.length ≤ 1000000) : Calls Tryz.prog 41 #[v] w fun e w' => e = .returned (.tuple #[.agg (pv (decP bs)), .int .i64 (decE bs)]) ∧ Below w.heap.size w w' := by
 have hall := Below.refl w.heap.size w
 refine K_enter 89 Tryz.func41 rfl rfl fun a H => ?_
 replace H := H.pick [0]
 refine zC (zD ?_)
 refine op_alloc 36 (pv pk0) z36 fun w0 b0 hge hb k0 => ?_; have g0 := Nat.le_trans hall.size hge; replace hall := hall.tr hb; clear hb hge; refine kl H rfl fun a H => ?_
 refine kR 1 H rfl fun a H => ?_
 refine zA (zB (zC (zD ?_)))
 refine kR 1 H rfl fun a H => ?_
 refine wl_call _ _ _ (ropen_any _ v bs (BRow.up hr hall) hn) (r_call1 cf74 (H.ev rfl)) ?_; rintro e w9 ⟨⟨br, rfl, hge, hrd⟩, hb⟩; refine ⟨_, rfl, ?_⟩; have h0r : b0 < br := Nat.lt_of_lt_of_le k0.lt hge; have gr := Nat.le_trans hall.size hge; replace k0 := Block.ups k0 hb; replace hall := hall.tr hb; clear hb; clear hge; refine kl H rfl fun a H => ?_
 refine kR 1 H rfl fun a H => ?_
 refine zA (zB (zC (zD ?_)))
 refine kR 1 H rfl fun a H => ?_
 refine wl_call _ _ _ (rnum_lit _ br 1 bs false _ rfl hrd hn (by omega) (by omega)) (r_call2 cf75 (H.ev rfl) evc) ?_; rintro e w9 ⟨⟨rfl, hrd2⟩, hg⟩; refine ⟨_, rfl, ?_⟩; clear hrd; have hrd := hrd2; clear hrd2; replace k0 := Block.grown k0 hg (by simp; omega); replace hall := grown_down hall hg gr; clear hg; obtain ⟨kd, hkd⟩ : ∃ kd, numF (tkO bs false 1) = kd := ⟨_, rfl⟩; have hkb : kd < 281474976710656 := (by rw [← hkd]; exact numF_lt (Nat.le_trans (tkO_len _ _ _) (by omega))); rw [hkd]; have HKD := Lib.hid hkd; clear hkd; refine kl H rfl fun a H => ?_
 refine kV (v := .agg (pv (kpk kd))) H (r_kpk (H.ev rfl)) rfl fun a H => ?_
 refine op_alloc 36 (pv pk0) z36 fun w1 b1 hge hb k1 => ?_; have g1 := Nat.le_trans hall.size hge; have h01 : b0 < b1 := Nat.lt_of_lt_of_le k0.lt hge; have hr1 : br < b1 := Nat.lt_of_lt_of_le hrd.lt hge; replace k0 := Block.ups k0 hb; replace hrd := Rd.up hrd hb; replace hall := hall.tr hb; clear hb; clear hge; refine kl H rfl fun a H => ?_
 refine op_store 36 (.tmp 5) (.tmp 16) b1 36 (pv (kpk kd)) _ (H.ev rfl) (H.ev rfl) k1 (s36p (kpk_ok hkb)) (by rw [pv_size pk0_ok, pv_size (kpk_ok hkb)]) (pv_one _) fun w' hb ho kq => ?_; clear k1; have k1 := kq; replace k0 := block_same k0 (ho _ (by omega)); replace hrd := Rd.far hrd (hb _ (Nat.le_refl _)) hr1; replace hall := hall.trans (hb _ g1); clear hb ho kq; refine kl0 H fun a H => ?_
 refine zA (zB (zC (zD ?_)))
 refine kR 1 H rfl fun a H => ?_
 refine kV H (r_ld U3 rfl (H.ev rfl) (pv_cell k1 rfl)) rfl fun a H => ?_
 refine wl_call _ _ _ (rparts_any _ (kd : Nat)) (r_call1 cf71 (H.ev rfl)) ?_; rintro e w9 ⟨⟨A, rfl, hh, hA⟩, hb⟩; refine ⟨_, rfl, ?_⟩; have hA1 : ∀ b o, A = some ⟨b, o, none⟩ → b1 < b := fun b o e => Nat.lt_of_lt_of_le k1.lt (hA b o e); clear hA; replace k0 := Block.ups k0 hb; replace hrd := Rd.up hrd hb; replace k1 := Block.ups k1 hb; replace hall := hall.tr hb; clear hb; obtain ⟨P, hP⟩ : ∃ P, partsF ((kd : Nat) : Int) = P := ⟨_, rfl⟩; obtain ⟨L, hL⟩ : ∃ L, slotsF ((kd : Nat) : Int) = L := ⟨_, rfl⟩; rw [hP] at hh; have hPn : P.length ≤ 8 := (by rw [← hP]; exact parts_le _); have hLn : L.length ≤ 6 := (by rw [← hL]; exact slots_le _); have HP := Lib.hid hP; have HL := Lib.hid hL; rw [hP]; clear hL hP; refine kl H rfl fun a H => ?_
 refine kR 1 H rfl fun a H => ?_
 refine zA (zB (zC (zC (zD ?_))))
 refine kR 1 H rfl fun a H => ?_
 refine zA (zB ?_)
 refine wp_block ?_
 refine wp_loop (Ro1 w bs kd L P A b0 br b1) (fun a _ => P.length - (intOf (a.eval (.tmp 7))).toNat) ⟨0, H.pick [2, 3, 4, 5, 6, 7], by omega, k0, by rw [decS_slot (by omega)]; exact k1, by rw [decS_slot (by omega)]; exact hrd, hh, hall⟩ ?_
 clear H hall k0 k1 hh hrd
 rintro a w' ⟨i, H, hi, k0, k1, hrd, hh, hall⟩
 have H0 := H
 by_cases hlt : i < P.length
 ·
  obtain ⟨b, o, hAe, hr⟩ := flat_some encT_len hh (by omega) hlt
  subst hAe
  have hb1 := hA1 b o rfl
  have hpi : P[i]? = some P[i] := List.getElem?_eq_getElem hlt
  have hsl := part_slot_le HP.out HL.out hpi
  rw [decS_slot hsl] at k1 hrd
  have hpo := dst_ok (bs := bs) (i := i) HL.out hkb
  have hxl := dst_len (kd := kd) (i := i) (L := L) hn
  obtain ⟨x, hx0⟩ : ∃ x, dst L bs kd i = x := ⟨_, rfl⟩
  rw [hx0] at k1 hrd hpo hxl
  have HX := Lib.hid hx0
  clear hx0
  rcases part_cases HP.out HL.out hpi with ⟨s, hs, hx⟩ | ⟨hiL, hin1, hse, hx⟩ | ⟨hiL, hin1, htg, hx⟩
  ·
   rw [hx] at hr
   clear hx hpi
   have hat := at_lt (show (slotsF ((kd : Nat) : Int))[i]? = some s by rw [HL.out]; exact hs)
   have hap := at_pos (show (slotsF ((kd : Nat) : Int))[i]? = some s by rw [HL.out]; exact hs)
   have hsz := slot_size (show (slotsF ((kd : Nat) : Int))[i]? = some s by rw [HL.out]; exact hs)
   have hiL : i < L.length := (List.getElem?_eq_some_iff.1 hs).1
   obtain ⟨m, hm⟩ : ∃ m, atF s.1 = m + 1 := ⟨atF s.1 - 1, by omega⟩
   have hxm : encT (pconv s) = [((m : Nat) : Int), ((s.2.1 : Nat) : Int), ((s.2.2.1 : Nat) : Int), ((s.2.2.2 : Nat) : Int)] := by simp [encT, pconv, hm]
   rw [hxm] at hr
   clear hxm
   have HLS := Lib.hid hs
   clear hs
   refine zC (zC (zD ?_))
   refine kR 2 H rfl fun a H => ?_
   refine kV H (r_len U96 (H.ev rfl)) rfl fun a H => ?_
   refine kV H (r_lt U3 (H.ev rfl) (H.ev rfl) (dec_t (by omega))) rfl fun a H => ?_
   refine zA (zB (zH H rfl (zE (zB (zC ?_)))))
   refine wp_block ?_
   refine zC (zD ?_)
   refine kR 2 H rfl fun a H => ?_
   refine kV H (r_idx (j := i) (q := o + i * 4) U96 s99 (H.ev rfl) (H.ev rfl) (by omega) rfl) rfl fun a H => ?_
   refine kV H (r_fld (q := o + i * 4) fld99_0 (H.ev rfl) rfl) rfl fun a H => ?_
   refine kV H (r_ld U3 rfl (H.ev rfl) (range_cell hr 0 rfl)) rfl fun a H => ?_
   refine zA (zB ?_)
   refine wp_block ?_
   refine zC (zD ?_)
   refine kV H (r_eq U3 (H.ev rfl) evc (dec_f (by omega))) rfl fun a H => ?_
   refine kR 1 H rfl fun a H => ?_
   refine zA (zB (zG H rfl (zC (zD ?_))))
   refine kV H (r_eq U3 (H.ev rfl) evc (dec_f (by omega))) rfl fun a H => ?_
   refine kR 1 H rfl fun a H => ?_
   refine zA (zB (zG H rfl ?_))
   have hall8 := hall
   have hS : GrownOf br (BelowTo hall8) _ := grown_drew _ _
   refine region_tree (GrownOf br (BelowTo hall8)) 14 (.fl 0 (.fl 1 (.fl 2 (.fl 3 (.fl 4 (.fl 5 (.fl 6 (.fl 7 (.fl 8 (.fl 9 (.fl 10 (.fl 11 (.one 12 (.one 13 (.one 14 .done))))))))))))))) (by kernel_rfl) (by kernel_rfl) rfl (by kernel_rfl) hS ?_
   replace hrd := Rd.up hrd (Below.drew (Below.refl _ _))
   refine kF (v := .agg (pv x.2)) H rfl rfl (fun w' hS' => run_load_row b1 36 _ _ (H.ev rfl) (Block.grown k1 hS' (by simp; omega)) U36 rfl (s36p hpo)) rfl fun a H => ?_
   refine kQ 2 H rfl fun a H => ?_
   refine kF H rfl rfl (fun w' hS' => r_idx (j := i) (q := o + i * 4) U96 s99 (H.ev rfl) (H.ev rfl) (by omega) rfl) rfl fun a H => ?_
   refine kF H rfl rfl (fun w' hS' => r_fld (q := o + i * 4) fld99_0 (H.ev rfl) rfl) rfl fun a H => ?_
   refine kF H rfl rfl (fun w' hS' => r_ld U3 rfl (H.ev rfl) (range_cell (range_grown hr hS' (by omega)) 0 rfl)) rfl fun a H => ?_
   refine kQ 3 H rfl fun a H => ?_
   refine kF H rfl rfl (fun w' hS' => r_idx (j := i) (q := o + i * 4) U96 s99 (H.ev rfl) (H.ev rfl) (by omega) rfl) rfl fun a H => ?_
   refine kF H rfl rfl (fun w' hS' => r_fld (q := o + i * 4 + 1) fld99_1 (H.ev rfl) rfl) rfl fun a H => ?_
   refine kF H rfl rfl (fun w' hS' => r_ld U3 rfl (H.ev rfl) (range_cell (range_grown hr hS' (by omega)) 1 rfl)) rfl fun a H => ?_
   refine pt_one (fun K hK => ?_)
   refine st_a0 rfl ?_; refine wpo_call _ _ _ (rnum_lit _ br s.2.1 x.1.1 x.1.2 _ rfl hrd hxl hsz.1 hsz.2) (r_call2 cf75 (H.ev rfl) (H.ev rfl)) ?_; rintro e w9 ⟨⟨rfl, hrd2⟩, hg⟩; refine ⟨_, rfl, ?_⟩; clear hrd; have hrd := hrd2; clear hrd2; replace hS := grown_trans hS hg; clear hg; refine hK _ _ ⟨(fun _ => hS), ?_⟩; clear hK; clear K; refine kt H rfl fun a H => ?_
   refine pt_one (fun K hK => ?_)
   refine st_a0 rfl ?_; refine wpo_call _ _ _ (rwith_lit _ x.2 m _ ((numF (tkO x.1.1 x.1.2 s.2.1) : Nat) : Int) rfl hpo (by omega) (num_in _ _ hsz.2)) (r_call3 cf77 (H.ev rfl) (H.ev rfl) (H.ev rfl)) ?_; rintro e w9 ⟨rfl, hb⟩; refine ⟨_, rfl, ?_⟩; rw [show (x.2.set (m + 1) ((numF (tkO x.1.1 x.1.2 s.2.1) : Nat) : Int)) = (dnx x s).2 by rw [dnx, hm]]; replace hrd := Rd.up hrd hb; replace hS := grown_below hS hb; clear hb; refine hK _ _ ⟨(fun _ => hS), ?_⟩; clear hK; clear K; refine kt H rfl fun a H => ?_
   refine pt_one (fun K hK => ?_)
   replace k0 := Block.grown k0 hS (by simp; omega)
   replace k1 := Block.grown k1 hS (by simp; omega)
   replace hh := Holds.grown1 hh hS (by omega)
   replace hr := range_grown hr hS (by omega)
   replace hall := grown_down hall hS gr
   refine st_a0 rfl ?_; have hdo : (dnx x s).2.ok := set_ok hpo (num_in _ _ hsz.2); refine wpo_store 36 (.tmp 5) (.tmp 44) b1 36 (pv (dnx x s).2) _ (H.ev rfl) (H.ev rfl) k1 (s36p hdo) (by rw [pv_size hpo, pv_size hdo]) (pv_one _) fun w' hb ho kq => ?_; clear k1; have k1 := kq; replace hh := Holds.same1 hh (ho _ (by omega)); replace k0 := block_same k0 (ho _ (by omega)); replace hrd := Rd.far hrd (hb _ (Nat.le_refl _)) hr1; replace hall := hall.trans (hb _ g1); clear hb ho kq; clear hr; refine hK _ _ ⟨(fun h => absurd rfl h), ?_⟩; clear hK; clear K; clear hS; skip
   refine pt_done (NoPanic.normal ?_)
   refine n_block (n_block (zB (zD ?_)))
   refine kR 1 H rfl fun a H => ?_
   refine kV H (r_add (q := ((i + 1 : Nat) : Int)) U3 (H.ev rfl) evc (by omega) (by omega)) rfl fun a H => ?_
   refine kR 1 H rfl fun a H => ?_
   refine zA ?_
   have hdn : dst L bs kd (i + 1) = dnx x s := by rw [dst_next HLS.out, HX.out]
   refine zI ⟨⟨i + 1, H.pick [2, 3, 4, 5, 6, 7], by omega, k0, by rw [decS_slot (by omega), hdn]; exact k1, by rw [decS_slot (by omega), hdn]; exact hrd, hh, hall⟩, ?_⟩
   rw [H.ev (j := 7) rfl, H0.ev (j := 7) rfl]
   simp only [intOf]
   omega
  ·
   rw [hx] at hr
   clear hx hpi
   refine zC (zC (zD ?_))
   refine kR 2 H rfl fun a H => ?_
   refine kV H (r_len U96 (H.ev rfl)) rfl fun a H => ?_
   refine kV H (r_lt U3 (H.ev rfl) (H.ev rfl) (dec_t (by omega))) rfl fun a H => ?_
   refine zA (zB (zH H rfl (zE (zB (zC ?_)))))
   refine wp_block ?_
   refine zC (zD ?_)
   refine kR 2 H rfl fun a H => ?_
   refine kV H (r_idx (j := i) (q := o + i * 4) U96 s99 (H.ev rfl) (H.ev rfl) (by omega) rfl) rfl fun a H => ?_
   refine kV H (r_fld (q := o + i * 4) fld99_0 (H.ev rfl) rfl) rfl fun a H => ?_
   refine kV H (r_ld U3 rfl (H.ev rfl) (range_cell hr 0 rfl)) rfl fun a H => ?_
   refine zA (zB ?_)
   refine wp_block ?_
   refine zC (zD ?_)
   refine kV H (r_eq U3 (H.ev rfl) evc (dec_t (by omega))) rfl fun a H => ?_
   refine kR 1 H rfl fun a H => ?_
   refine zA (zB (zH H rfl (zC (zD ?_))))
   refine kR 1 H rfl fun a H => ?_
   refine wl_call _ _ _ (rtakeF_lit _ br 16 x.1.1 x.1.2 _ rfl hrd hxl) (r_call2 cf76 (H.ev rfl) evc) ?_; rintro e w9 ⟨⟨v1, rfl, hrow, hrd2, hfv⟩, hg⟩; refine ⟨_, rfl, ?_⟩; clear hrd; have hrd := hrd2; clear hrd2; replace k0 := Block.grown k0 hg (by simp; omega); have h1w := k1.lt; replace k1 := Block.grown k1 hg (by simp; omega); replace hh := Holds.grown1 hh hg (by omega); clear hr; replace hall := grown_down hall hg gr; clear hg; obtain ⟨out, hout⟩ : ∃ out, tkO x.1.1 x.1.2 16 = out := ⟨_, rfl⟩; have hol : out.length ≤ 16 := (by rw [← hout]; exact tkO_len _ _ _); rw [hout] at hrow; have HO := Lib.hid hout; clear hout; obtain ⟨Ax, cx, hv⟩ := brow_shape hrow; subst hv; refine kl H rfl fun a H => ?_
   refine kR 1 H rfl fun a H => ?_
   refine zA (zB (zC (zD ?_)))
   refine kR 1 H rfl fun a H => ?_
   refine zA (zB ?_)
   refine wp_block ?_
   refine wp_loop (Rosec w x (stepR x.1 16) P b o b0 br b1 i Ax cx out) (fun a _ => out.length - (intOf (a.eval (.tmp 9))).toNat) ⟨0, H.pick [2, 3, 4, 5, 6, 7, 8, 9], by omega, k0, by simpa using k1, hrd, hrow, hh, hall⟩ ?_
   clear H hall k0 k1 hh hrd hrow
   rintro a w' ⟨k, H, hk, k0, k1, hrd, hrow, hh, hall⟩
   have H1 := H
   by_cases hlk : k < out.length
   ·
    obtain ⟨x0, o2, hAx⟩ := brow_addr hrow (by omega)
    subst hAx
    have hx0 : b1 < x0 := Nat.lt_of_lt_of_le h1w (hfv x0 o2 _ _ rfl)
    obtain ⟨y, hy⟩ : ∃ y, out[k]? = some y := ⟨_, List.getElem?_eq_getElem hlk⟩
    have HY := Lib.hid hy
    clear hy
    have hps : Pkt.ok ⟨x.2.n, out.take k ++ x.2.sec.drop k, x.2.tg⟩ := ⟨hpo.1, by have := hpo.2.1; simp only [List.length_append, List.length_take, List.length_drop]; omega, hpo.2.2.1, hpo.2.2.2⟩
    refine zC (zC (zD ?_))
    refine kR 2 H rfl fun a H => ?_
    refine kV H (r_len U30 (H.ev rfl)) rfl fun a H => ?_
    refine kV H (r_lt U3 (H.ev rfl) (H.ev rfl) (dec_t (by omega))) rfl fun a H => ?_
    refine zA (zB (zH H rfl (zE (zB (zC ?_)))))
    refine wp_block ?_
    refine zD ?_
    refine kR 3 H rfl fun a H => ?_
    refine kV H (r_idx (j := k) (q := o2 + k) U30 s5 (H.ev rfl) (H.ev rfl) (by omega) (by omega)) rfl fun a H => ?_
    refine kV H (r_ld U5 rfl (H.ev rfl) (brow_cell hrow HY.out (by omega))) rfl fun a H => ?_
    refine kR 1 H rfl fun a H => ?_
    refine kV H (r_ixa (j := k) (q := 12 + k) U33 s5 (H.ev rfl) (H.ev rfl) (by omega) (by omega)) rfl fun a H => ?_
    refine op_store1 5 (.tmp 61) (.tmp 59) b1 (12 + k) 36 (u8v y) _ (H.ev rfl) (H.ev rfl) k1 s5 (by rw [pv_size hps]; show 12 + k + 1 ≤ 36; omega) (u8_one _) fun w' hb ho kq => ?_; clear k1; have k1 := kq; rw [sec_set1 hpo (by omega) HY.out] at k1; replace hh := Holds.same1 hh (ho _ (by omega)); replace hrow := BRow.same1 hrow (ho _ (by omega)); replace k0 := block_same k0 (ho _ (by omega)); replace hrd := Rd.far hrd (hb _ (Nat.le_refl _)) hr1; replace hall := hall.trans (hb _ g1); clear hb ho kq; refine kl0 H fun a H => ?_
    refine zA (n_block (zB (zD ?_)))
    refine kR 1 H rfl fun a H => ?_
    refine kV H (r_add (q := ((k + 1 : Nat) : Int)) U3 (H.ev rfl) evc (by omega) (by omega)) rfl fun a H => ?_
    refine kR 1 H rfl fun a H => ?_
    refine zA ?_
    refine zI ⟨⟨k + 1, H.pick [2, 3, 4, 5, 6, 7, 8, 9], by omega, k0, k1, hrd, hrow, hh, hall⟩, ?_⟩
    rw [H.ev (j := 9) rfl, H1.ev (j := 9) rfl]
    simp only [intOf]
    omega
   ·
    obtain rfl : k = out.length := by omega
    clear hrow
    rw [List.take_length] at k1
    refine zC (zC (zD ?_))
    refine kR 2 H rfl fun a H => ?_
    refine kV H (r_len U30 (H.ev rfl)) rfl fun a H => ?_
    refine kV H (r_lt U3 (H.ev rfl) (H.ev rfl) (dec_f (by omega))) rfl fun a H => ?_
    refine zA (zB (zG H rfl (wp_exit (e_then (e_then ?_)))))
    refine e_here ?_
    refine n_block (n_block (zB (zD ?_)))
    refine kR 1 H rfl fun a H => ?_
    refine kV H (r_add (q := ((i + 1 : Nat) : Int)) U3 (H.ev rfl) evc (by omega) (by omega)) rfl fun a H => ?_
    refine kR 1 H rfl fun a H => ?_
    refine zA ?_
    have hdn : decS L bs kd (i + 1) = sec16 x := by rw [show i + 1 = L.length + 1 by omega, decS_tail, decX_eq (x := x) HKD.out HL.out (by rw [← hiL]; exact HX.out), if_neg (by omega), if_pos hse]
    refine zI ⟨⟨i + 1, H.pick [2, 3, 4, 5, 6, 7], by omega, k0, by rw [hdn, sec16, HO.out]; exact k1, by rw [hdn]; exact hrd, hh, hall⟩, ?_⟩
    rw [H.ev (j := 7) rfl, H0.ev (j := 7) rfl]
    simp only [intOf]
    omega
  ·
   rw [hx] at hr
   clear hx hpi
   refine zC (zC (zD ?_))
   refine kR 2 H rfl fun a H => ?_
   refine kV H (r_len U96 (H.ev rfl)) rfl fun a H => ?_
   refine kV H (r_lt U3 (H.ev rfl) (H.ev rfl) (dec_t (by omega))) rfl fun a H => ?_
   refine zA (zB (zH H rfl (zE (zB (zC ?_)))))
   refine wp_block ?_
   refine zC (zD ?_)
   refine kR 2 H rfl fun a H => ?_
   refine kV H (r_idx (j := i) (q := o + i * 4) U96 s99 (H.ev rfl) (H.ev rfl) (by omega) rfl) rfl fun a H => ?_
   refine kV H (r_fld (q := o + i * 4) fld99_0 (H.ev rfl) rfl) rfl fun a H => ?_
   refine kV H (r_ld U3 rfl (H.ev rfl) (range_cell hr 0 rfl)) rfl fun a H => ?_
   refine zA (zB ?_)
   refine wp_block ?_
   refine zC (zD ?_)
   refine kV H (r_eq U3 (H.ev rfl) evc (dec_f (by omega))) rfl fun a H => ?_
   refine kR 1 H rfl fun a H => ?_
   refine zA (zB (zG H rfl (zC (zD ?_))))
   refine kV H (r_eq U3 (H.ev rfl) evc (dec_t (by omega))) rfl fun a H => ?_
   refine kR 1 H rfl fun a H => ?_
   refine zA (zB (zH H rfl (zC (zD ?_))))
   refine kR 1 H rfl fun a H => ?_
   refine wl_call _ _ _ (rtakeF_lit _ br 8 x.1.1 x.1.2 _ rfl hrd hxl) (r_call2 cf76 (H.ev rfl) evc) ?_; rintro e w9 ⟨⟨v1, rfl, hrow, hrd2, hfv⟩, hg⟩; refine ⟨_, rfl, ?_⟩; clear hrd; have hrd := hrd2; clear hrd2; replace k0 := Block.grown k0 hg (by simp; omega); have h1w := k1.lt; replace k1 := Block.grown k1 hg (by simp; omega); replace hh := Holds.grown1 hh hg (by omega); clear hr; replace hall := grown_down hall hg gr; clear hg; obtain ⟨out, hout⟩ : ∃ out, tkO x.1.1 x.1.2 8 = out := ⟨_, rfl⟩; have hol : out.length ≤ 8 := (by rw [← hout]; exact tkO_len _ _ _); rw [hout] at hrow; have HO := Lib.hid hout; clear hout; obtain ⟨Ax, cx, hv⟩ := brow_shape hrow; subst hv; refine kl H rfl fun a H => ?_
   refine kR 1 H rfl fun a H => ?_
   refine zA (zB (zC (zD ?_)))
   refine kR 1 H rfl fun a H => ?_
   refine zA (zB ?_)
   refine wp_block ?_
   refine wp_loop (Rotg w x (stepR x.1 8) P b o b0 br b1 i Ax cx out) (fun a _ => out.length - (intOf (a.eval (.tmp 11))).toNat) ⟨0, H.pick [2, 3, 4, 5, 6, 7, 10, 11], by omega, k0, by simpa using k1, hrd, hrow, hh, hall⟩ ?_
   clear H hall k0 k1 hh hrd hrow
   rintro a w' ⟨k, H, hk, k0, k1, hrd, hrow, hh, hall⟩
   have H1 := H
   by_cases hlk : k < out.length
   ·
    obtain ⟨x0, o2, hAx⟩ := brow_addr hrow (by omega)
    subst hAx
    have hx0 : b1 < x0 := Nat.lt_of_lt_of_le h1w (hfv x0 o2 _ _ rfl)
    obtain ⟨y, hy⟩ : ∃ y, out[k]? = some y := ⟨_, List.getElem?_eq_getElem hlk⟩
    have HY := Lib.hid hy
    clear hy
    have hps : Pkt.ok ⟨x.2.n, x.2.sec, out.take k ++ x.2.tg.drop k⟩ := ⟨hpo.1, hpo.2.1, by have := hpo.2.2.1; simp only [List.length_append, List.length_take, List.length_drop]; omega, hpo.2.2.2⟩
    refine zC (zC (zD ?_))
    refine kR 2 H rfl fun a H => ?_
    refine kV H (r_len U30 (H.ev rfl)) rfl fun a H => ?_
    refine kV H (r_lt U3 (H.ev rfl) (H.ev rfl) (dec_t (by omega))) rfl fun a H => ?_
    refine zA (zB (zH H rfl (zE (zB (zC ?_)))))
    refine wp_block ?_
    refine zD ?_
    refine kR 3 H rfl fun a H => ?_
    refine kV H (r_idx (j := k) (q := o2 + k) U30 s5 (H.ev rfl) (H.ev rfl) (by omega) (by omega)) rfl fun a H => ?_
    refine kV H (r_ld U5 rfl (H.ev rfl) (brow_cell hrow HY.out (by omega))) rfl fun a H => ?_
    refine kR 1 H rfl fun a H => ?_
    refine kV H (r_ixa (j := k) (q := 28 + k) U34 s5 (H.ev rfl) (H.ev rfl) (by omega) (by omega)) rfl fun a H => ?_
    refine op_store1 5 (.tmp 78) (.tmp 76) b1 (28 + k) 36 (u8v y) _ (H.ev rfl) (H.ev rfl) k1 s5 (by rw [pv_size hps]; show 28 + k + 1 ≤ 36; omega) (u8_one _) fun w' hb ho kq => ?_; clear k1; have k1 := kq; rw [tg_set1 hpo (by omega) HY.out] at k1; replace hh := Holds.same1 hh (ho _ (by omega)); replace hrow := BRow.same1 hrow (ho _ (by omega)); replace k0 := block_same k0 (ho _ (by omega)); replace hrd := Rd.far hrd (hb _ (Nat.le_refl _)) hr1; replace hall := hall.trans (hb _ g1); clear hb ho kq; refine kl0 H fun a H => ?_
    refine zA (n_block (zB (zD ?_)))
    refine kR 1 H rfl fun a H => ?_
    refine kV H (r_add (q := ((k + 1 : Nat) : Int)) U3 (H.ev rfl) evc (by omega) (by omega)) rfl fun a H => ?_
    refine kR 1 H rfl fun a H => ?_
    refine zA ?_
    refine zI ⟨⟨k + 1, H.pick [2, 3, 4, 5, 6, 7, 10, 11], by omega, k0, k1, hrd, hrow, hh, hall⟩, ?_⟩
    rw [H.ev (j := 11) rfl, H1.ev (j := 11) rfl]
    simp only [intOf]
    omega
   ·
    obtain rfl : k = out.length := by omega
    clear hrow
    rw [List.take_length] at k1
    refine zC (zC (zD ?_))
    refine kR 2 H rfl fun a H => ?_
    refine kV H (r_len U30 (H.ev rfl)) rfl fun a H => ?_
    refine kV H (r_lt U3 (H.ev rfl) (H.ev rfl) (dec_f (by omega))) rfl fun a H => ?_
    refine zA (zB (zG H rfl (wp_exit (e_then (e_then ?_)))))
    refine e_here ?_
    refine n_block (n_block (zB (zD ?_)))
    refine kR 1 H rfl fun a H => ?_
    refine kV H (r_add (q := ((i + 1 : Nat) : Int)) U3 (H.ev rfl) evc (by omega) (by omega)) rfl fun a H => ?_
    refine kR 1 H rfl fun a H => ?_
    refine zA ?_
    have hdn : decS L bs kd (i + 1) = tg8 x := by rw [show i + 1 = L.length + 1 by omega, decS_tail, decX_eq (x := x) HKD.out HL.out (by rw [← hiL]; exact HX.out), if_pos htg, if_neg (by omega)]
    refine zI ⟨⟨i + 1, H.pick [2, 3, 4, 5, 6, 7], by omega, k0, by rw [hdn, tg8, HO.out]; exact k1, by rw [hdn]; exact hrd, hh, hall⟩, ?_⟩
    rw [H.ev (j := 7) rfl, H0.ev (j := 7) rfl]
    simp only [intOf]
    omega
 ·
  obtain rfl : i = P.length := by omega
  clear hh
  rw [decS_end HKD.out HP.out HL.out] at k1 hrd
  have hzp : (decX bs).2.ok := decX_ok bs
  obtain ⟨z, hdx⟩ : ∃ z, decX bs = z := ⟨_, rfl⟩
  rw [hdx] at k1 hrd hzp
  refine zC (zC (zD ?_))
  refine kR 2 H rfl fun a H => ?_
  refine kV H (r_len U96 (H.ev rfl)) rfl fun a H => ?_
  refine kV H (r_lt U3 (H.ev rfl) (H.ev rfl) (dec_f (by omega))) rfl fun a H => ?_
  refine zA (zB (zG H rfl (wp_exit (e_then (e_then ?_)))))
  refine e_here ?_
  refine zB (zC (zC ?_))
  obtain ⟨dn, hdn⟩ : ∃ dn, (!z.1.2 && decide (z.1.1.length = 0)) = dn := ⟨_, rfl⟩
  have HDN := Lib.hid hdn
  clear hdn
  cases dn
  ·
   refine zD ?_
   refine kR 1 H rfl fun a H => ?_
   refine wl_call _ _ _ (rdone_any _ br z.1.1 z.1.2 hrd) (r_call1 cf78 (H.ev rfl)) ?_; rintro e w9 ⟨rfl, hb⟩; refine ⟨_, rfl, ?_⟩; rw [HDN.out]; replace k0 := Block.ups k0 hb; replace k1 := Block.ups k1 hb; replace hrd := Rd.up hrd hb; replace hall := hall.tr hb; clear hb; refine kl H rfl fun a H => ?_
   refine kV H (r_not (H.ev rfl) rfl) rfl fun a H => ?_
   refine kR 5 H rfl fun a H => ?_
   refine zA (zB (zH H rfl (zC (zD ?_))))
   refine kV (v := .agg (pv pk0)) H (r_build #[] (.agg (pv pk0)) (by simp) (fun w => by kernel_rfl)) rfl fun a H => ?_
   refine op_store 36 (.tmp 2) (.tmp 87) b0 36 (pv pk0) _ (H.ev rfl) (H.ev rfl) k0 (s36p pk0_ok) rfl (pv_one _) fun w' hb ho kq => ?_; clear k0 k1 hrd; have k0 := kq; replace hall := hall.trans (hb _ g0); clear hb ho kq; refine kl0 H fun a H => ?_
   refine kR 1 H rfl fun a H => ?_
   refine zA (zB (zF (zJ ?_)))
   rw [(dec_no (.inl (by rw [hdx]; exact HDN.out))).1, (dec_no (.inl (by rw [hdx]; exact HDN.out))).2]
   exact k_ret_cell2 H rfl rfl rfl k0 U36 rfl (s36p pk0_ok) ⟨rfl, hall⟩
  ·
   by_cases hR : rightF z.2 = true
   ·
    refine zD ?_
    refine kR 1 H rfl fun a H => ?_
    refine wl_call _ _ _ (rdone_any _ br z.1.1 z.1.2 hrd) (r_call1 cf78 (H.ev rfl)) ?_; rintro e w9 ⟨rfl, hb⟩; refine ⟨_, rfl, ?_⟩; rw [HDN.out]; replace k0 := Block.ups k0 hb; replace k1 := Block.ups k1 hb; replace hrd := Rd.up hrd hb; replace hall := hall.tr hb; clear hb; refine kl H rfl fun a H => ?_
    refine kV H (r_not (H.ev rfl) rfl) rfl fun a H => ?_
    refine kR 1 H rfl fun a H => ?_
    refine kG H rfl ?_; refine kV (v := .agg (pv z.2)) H (run_load_row b1 36 _ _ (H.ev rfl) k1 U36 rfl (s36p hzp)) rfl fun a H => ?_
    refine kG H rfl ?_; refine wl_call _ _ _ (rright_t _ z.2 hzp hR) (r_call1 cf70 (H.ev rfl)) ?_; rintro e w9 ⟨rfl, hb⟩; refine ⟨_, rfl, ?_⟩; replace k0 := Block.ups k0 hb; replace k1 := Block.ups k1 hb; replace hrd := Rd.up hrd hb; replace hall := hall.tr hb; clear hb; refine kl H rfl fun a H => ?_
    refine kW H rfl (r_not (H.ev rfl) rfl) rfl fun a H => ?_
    refine kR 1 H rfl fun a H => ?_
    refine zA (zB (zG H rfl (zE (zB (zC (zD ?_))))))
    refine kV (v := .agg (pv z.2)) H (run_load_row b1 36 _ _ (H.ev rfl) k1 U36 rfl (s36p hzp)) rfl fun a H => ?_
    refine op_store 36 (.tmp 2) (.tmp 88) b0 36 (pv z.2) _ (H.ev rfl) (H.ev rfl) k0 (s36p hzp) (by rw [pv_size pk0_ok, pv_size hzp]) (pv_one _) fun w' hb ho kq => ?_; clear k0 k1 hrd; have k0 := kq; replace hall := hall.trans (hb _ g0); clear hb ho kq; refine kl0 H fun a H => ?_
    refine kR 1 H rfl fun a H => ?_
    refine zA (zB (zF ?_))
    rw [show decP bs = z.2 by rw [dec_yes (by rw [hdx]; exact HDN.out) (by rw [hdx]; exact hR), hdx], show decE bs = 0 from decE_yes (by rw [hdx]; exact HDN.out) (by rw [hdx]; exact hR)]
    exact k_ret_cell2 H rfl rfl rfl k0 U36 rfl (s36p hzp) ⟨rfl, hall⟩
   ·
    refine zD ?_
    refine kR 1 H rfl fun a H => ?_
    refine wl_call _ _ _ (rdone_any _ br z.1.1 z.1.2 hrd) (r_call1 cf78 (H.ev rfl)) ?_; rintro e w9 ⟨rfl, hb⟩; refine ⟨_, rfl, ?_⟩; rw [HDN.out]; replace k0 := Block.ups k0 hb; replace k1 := Block.ups k1 hb; replace hrd := Rd.up hrd hb; replace hall := hall.tr hb; clear hb; refine kl H rfl fun a H => ?_
    refine kV H (r_not (H.ev rfl) rfl) rfl fun a H => ?_
    refine kR 1 H rfl fun a H => ?_
    refine kG H rfl ?_; refine kV (v := .agg (pv z.2)) H (run_load_row b1 36 _ _ (H.ev rfl) k1 U36 rfl (s36p hzp)) rfl fun a H => ?_
    refine kG H rfl ?_; refine wl_call _ _ _ (rright_f _ z.2 hzp hR) (r_call1 cf70 (H.ev rfl)) ?_; rintro e w9 ⟨rfl, hb⟩; refine ⟨_, rfl, ?_⟩; replace k0 := Block.ups k0 hb; replace k1 := Block.ups k1 hb; replace hrd := Rd.up hrd hb; replace hall := hall.tr hb; clear hb; refine kl H rfl fun a H => ?_
    refine kW H rfl (r_not (H.ev rfl) rfl) rfl fun a H => ?_
    refine kR 1 H rfl fun a H => ?_
    refine zA (zB (zH H rfl (zC (zD ?_))))
    refine kV (v := .agg (pv pk0)) H (r_build #[] (.agg (pv pk0)) (by simp) (fun w => by kernel_rfl)) rfl fun a H => ?_
    refine op_store 36 (.tmp 2) (.tmp 87) b0 36 (pv pk0) _ (H.ev rfl) (H.ev rfl) k0 (s36p pk0_ok) rfl (pv_one _) fun w' hb ho kq => ?_; clear k0 k1 hrd; have k0 := kq; replace hall := hall.trans (hb _ g0); clear hb ho kq; refine kl0 H fun a H => ?_
    refine kR 1 H rfl fun a H => ?_
    refine zA (zB (zF (zJ ?_)))
    rw [(dec_no (.inr (by rw [hdx]; simpa using hR))).1, (dec_no (.inr (by rw [hdx]; simpa using hR))).2]
    exact k_ret_cell2 H rfl rfl rfl k0 U36 rfl (s36p pk0_ok) ⟨rfl, hall⟩
def bareT (p : Pkt) : Pkt := ⟨p.n, p.sec, List.replicate 8 0⟩
def signTag (k : List B8) (p : Pkt) : List B8 := (macF k (encF (bareT p))).take 8
noncomputable def signOk (p : Pkt) : Bool := rightF (bareT p) && decide (5 ≤ p.fld 0 ∧ p.fld 0 ≤ 11)
def signF (k : List B8) (p : Pkt) : Pkt := ⟨p.n, p.sec, signTag k p⟩
noncomputable def goodF (k : List B8) (p : Pkt) : Bool := signOk p && decide (signTag k p = p.tg)
theorem bareT_ok {p : Pkt} (h : p.ok) : (bareT p).ok := ⟨h.1, h.2.1, rfl, h.2.2.2⟩
theorem signTag_len {k : List B8} {p : Pkt} : (signTag k p).length = 8 := by
 have : (macF k (encF (bareT p))).length = 32 := sumF_len
 rw [signTag, List.length_take]
 omega
theorem sgn_ok {k : List B8} {p : Pkt} (h : p.ok) : (if signOk p = true then signF k p else pk0).ok := by
 split
 · exact ⟨h.1, h.2.1, signTag_len, h.2.2.2⟩
 · exact pk0_ok
theorem sgn_eq {k : List B8} {p : Pkt} : (signF k p = p) = (signTag k p = p.tg) := by
 obtain ⟨n, s, t⟩ := p
 simp [signF]
theorem encF_len (p : Pkt) (h : p.ok) : (encF p).length ≤ 100 := by
 have h1 := encS0_len (p := p) rfl (i := (slotsF (p.fld 0)).length) (Nat.le_refl _)
 have h2 := slots_le (p.fld 0)
 have h3 : (if 2 ≤ p.fld 0 ∧ p.fld 0 ≤ 4 then p.sec else []).length ≤ 16 := by
  split
  · rw [h.2.1]; exact Nat.le_refl _
  · simp
 have h4 : (if 5 ≤ p.fld 0 ∧ p.fld 0 ≤ 11 then p.tg else []).length ≤ 8 := by
  split
  · rw [h.2.2.1]; exact Nat.le_refl _
  · simp
 rw [encF, List.length_append, List.length_append]
 omega
theorem enc_t (w : World) (p : Pkt) (hp : p.ok) (h : rightF p = true) : Calls Tryz.prog 107 #[.agg (pv p)] w fun e w' => (∃ D A c, D = w.heap.size ∧ e = .returned (.tuple #[.slice A (encF p).length c, .int .i64 0]) ∧ BOwn w' D (.slice A (encF p).length c) (encF p)) ∧ Below w.heap.size w w' :=
 (enc_any w p hp).mono fun e w' ⟨h1, h2⟩ => by
  rcases h1 with ⟨_, A, c, he, ho⟩ | ⟨h1, _⟩
  · exact ⟨⟨_, A, c, rfl, he, ho⟩, h2⟩
  · rw [h] at h1; cases h1
theorem enc_f (w : World) (p : Pkt) (hp : p.ok) (h : ¬ rightF p = true) : Calls Tryz.prog 107 #[.agg (pv p)] w fun e w' => e = .returned (.tuple #[.slice none 0 0, .int .i64 1]) ∧ Below w.heap.size w w' :=
 (enc_any w p hp).mono fun e w' ⟨h1, h2⟩ => by
  rcases h1 with ⟨h1, _⟩ | ⟨_, he⟩
  · exact absurd h1 h
  · exact ⟨he, h2⟩
theorem renc_t (w : World) (p : Pkt) (hp : p.ok) (h : rightF p = true) : Calls Tryz.prog 39 #[.agg (pv p)] w fun e w' => (∃ D A c, D = w.heap.size ∧ e = .returned (.tuple #[.slice A (encF p).length c, .int .i64 0]) ∧ BOwn w' D (.slice A (encF p).length c) (encF p)) ∧ Below w.heap.size w w' :=
 (renc_any w p hp).mono fun e w' ⟨h1, h2⟩ => by
  rcases h1 with ⟨_, A, c, he, ho⟩ | ⟨h1, _⟩
  · exact ⟨⟨_, A, c, rfl, he, ho⟩, h2⟩
  · rw [h] at h1; cases h1
theorem renc_f (w : World) (p : Pkt) (hp : p.ok) (h : ¬ rightF p = true) : Calls Tryz.prog 39 #[.agg (pv p)] w fun e w' => e = .returned (.tuple #[.slice none 0 0, .int .i64 1]) ∧ Below w.heap.size w w' :=
 (renc_any w p hp).mono fun e w' ⟨h1, h2⟩ => by
  rcases h1 with ⟨h1, _⟩ | ⟨_, he⟩
  · exact absurd h1 h
  · exact ⟨he, h2⟩
theorem rtagged_t (w : World) (k : Int) (h : 5 ≤ k ∧ k ≤ 11) : Calls Tryz.prog 79 #[.int .i64 k] w fun e w' => e = .returned (.bool true) ∧ Below w.heap.size w w' := by simpa [h] using rtagged_any w k
theorem rtagged_f (w : World) (k : Int) (h : ¬ (5 ≤ k ∧ k ≤ 11)) : Calls Tryz.prog 79 #[.int .i64 k] w fun e w' => e = .returned (.bool false) ∧ Below w.heap.size w w' := by
 have := rtagged_any w k
 rwa [decide_eq_false h] at this
theorem prow_one1 {w : World} {s : Value} {b : Nat} {bs : List B8} (k : Block w b 30 #[s]) (hs : BRow w s bs) : PRow w (.slice (some ⟨b, 0, none⟩) 1 1) [(s, bs)] :=
 ⟨⟨_, _, rfl, Nat.le_refl _, by simp [maxLen], (fun e => by cases e), Block.holds k⟩, fun p hp => by
  rw [List.mem_singleton] at hp
  subst hp
  exact hs⟩
theorem mac1_any (w : World) (v s : Value) (b : Nat) (kb bs : List B8) (hr : BRow w v kb) (k : Block w b 30 #[s]) (hs : BRow w s bs) (hk : kb.length ≤ 64) (hn : bs.length ≤ 900000) :
  Calls Tryz.prog 108 #[v, .slice (some ⟨b, 0, none⟩) 1 1] w fun e w' => e = .returned (.agg (barr (macF kb bs))) ∧ Below w.heap.size w w' := by
 have := mac_any w v _ kb [(s, bs)] hr (prow_one1 k hs) hk (by simpa [tot] using hn) (by simp)
 simpa [cat] using this
theorem barr_take {w : World} {b : Nat} {t : TypeId} {l : List B8} (k : Block w b t (barr l)) (n : Nat) : Holds w (some ⟨b, 0, none⟩) ((l.take n).map u8v) := fun j hj => ⟨b, 0, rfl, by
 have hj' : j < n ∧ j < l.length := by simpa [Nat.lt_min] using hj
 rw [Nat.zero_add, k.cell]
 simp only [barr, List.getElem?_toArray, List.getElem?_map, List.getElem?_take_of_lt hj'.1]⟩
theorem take_rest {mm : List B8} (h : mm.length = 32) : mm.take 8 ++ (List.replicate 8 (0 : B8)).drop (mm.take 8).length = mm.take 8 := by
 rw [List.length_take, h, show min 8 32 = 8 from rfl]
 simp
theorem k34b (t : List B8) (h : t.length = 8) (d : Nat) : Tryz.prog.keyLits (d + 2) 34 (t.map u8v) = some (t.map fun x => Lit.int .u8 (x.toNat : Int)) := by
 obtain ⟨t0, t1, t2, t3, t4, t5, t6, t7, rfl⟩ := len8 h
 exact k34 d t0 t1 t2 t3 t4 t5 t6 t7
set_option maxRecDepth 100000 in
theorem tg_equal (w : World) {t u : List B8} (ht : t.length = 8) (hu : u.length = 8) : (Op.equalIn 10000 34 (.agg (t.map u8v).toArray) (.agg (u.map u8v).toArray)).run Tryz.prog w = .ok (decide (t = u)) w := by
 have fp : ∀ {t : List B8}, t.length = 8 → (Value.agg (t.map u8v).toArray).formed Tryz.prog 34 = true := fun {t} h => by
  have hs : (t.map u8v).toArray.size = 8 := by simp [h]
  simp only [Value.formed, U34, c34, hs]
  rfl
 have hk : Tryz.prog.keyTypeAt 9 34 = true := by kernel_rfl
 have E : EqAt Tryz.prog 10000 34 := run_equalIn_deep (P := Tryz.prog) 9991 9 34 hk
 obtain ⟨r, hr, hi⟩ := E w 9 9 (.agg (t.map u8v).toArray) (.agg (u.map u8v).toArray) _ _ (fp ht) (fp hu) (k34b t ht 7) (k34b u hu 7)
 rw [hr]
 have hii : (t.map fun x => Lit.int .u8 (x.toNat : Int)) = (u.map fun x => Lit.int .u8 (x.toNat : Int)) ↔ t = u := ⟨bytes_inj, fun h => by rw [h]⟩
 rw [hii] at hi
 by_cases h : t = u
 · rw [hi.2 h, decide_eq_true h]
 ·
  cases r with
  | true => exact absurd (hi.1 rfl) h
  | false => rw [decide_eq_false h]
set_option maxRecDepth 100000 in
theorem r_eqtg {d : Option Tmp} {tt : TypeId} {ps : String} {af : Array Edge} {gd : Option (Nat × Bool)} {a : Act} {w : World} {x y : Operand} {t2 : TypeId} {t u : List B8} {b : Bool} (ht : t.length = 8) (hu : u.length = 8) (hx : a.eval x = .agg (t.map u8v).toArray) (hy : a.eval y = .agg (u.map u8v).toArray) (hb : decide (t = u) = b) :
  (execOp a.eval ⟨d, .binOp .eql 34 x y t2, tt, ps, af, gd⟩).run Tryz.prog w = .ok (.value (.bool b)) w := by
 subst hb
 have h := fun w => tg_equal w ht hu
 have hg : Tryz.prog.eqGuardType Tryz.prog.depth 34 = false := by kernel_rfl
 unfold execOp
 simp only [hx, hy]
 go_simp
set_option maxRecDepth 100000 in
set_option maxHeartbeats 8000000 in
theorem sign_any (w : World) (k : List B8) (p : Pkt) (hk : k.length = 16) (hp : p.ok) : Calls Tryz.prog 69 #[.agg (barr k), .agg (pv p)] w fun e w' => e = .returned (.tuple #[.agg (pv (if signOk p = true then signF k p else pk0)), .bool (signOk p)]) ∧ Below w.heap.size w w' := by
 have hbt := bareT_ok hp
 have hall := Below.refl w.heap.size w
 refine K_enter 34 Tryz.func69 rfl rfl fun a H => ?_
 replace H := H.pick [0, 1]
 refine zC (zD ?_)
 refine op_box 33 (.tmp 0) (barr k) (H.ev rfl) fun w0 b0 hge hb k0 => ?_; have g0 := Nat.le_trans hall.size hge; replace hall := hall.tr hb; clear hb; clear hge; refine kl H rfl fun a H => ?_
 refine op_box 36 (.tmp 1) (pv p) (H.ev rfl) fun w1 b1 hge hb k1 => ?_; have g1 := Nat.le_trans hall.size hge; have d0_1 : b0 < b1 := Nat.lt_of_lt_of_le k0.lt hge; replace k0 := Block.ups k0 hb; replace hall := hall.tr hb; clear hb; clear hge; refine kl H rfl fun a H => ?_
 refine op_alloc 36 (pv pk0) z36 fun w2 b2 hge hb k2 => ?_; have g2 := Nat.le_trans hall.size hge; have d0_2 : b0 < b2 := Nat.lt_of_lt_of_le k0.lt hge; have d1_2 : b1 < b2 := Nat.lt_of_lt_of_le k1.lt hge; replace k0 := Block.ups k0 hb; replace k1 := Block.ups k1 hb; replace hall := hall.tr hb; clear hb; clear hge; refine kl H rfl fun a H => ?_
 refine kR 1 H rfl fun a H => ?_
 refine zA (zB (zC (zD ?_)))
 refine kV (v := .agg (barr (List.replicate 8 0))) H (r_build #[] (.agg (barr (List.replicate 8 0))) (by simp) (fun w => by kernel_rfl)) rfl fun a H => ?_
 refine kR 1 H rfl fun a H => ?_
 refine op_store_mid 34 (.tmp 10) (.tmp 9) b1 28 36 (barr (List.replicate 8 0)) _ (H.ev rfl) (H.ev rfl) k1 (by rw [barr_size, List.length_replicate]; exact s34a) (by rw [pv_size hp, barr_size, List.length_replicate]; omega) (barr_one _) fun w' hb ho kq => ?_; clear k1; have k1 : Block _ b1 36 (pv (bareT p)) := tg_set hp.1 hp.2.1 (by rw [hp.2.2.1, List.length_replicate]) kq; replace k0 := block_same k0 (ho _ (by omega)); replace k2 := block_same k2 (ho _ (by omega)); replace hall := hall.trans (hb _ g1); clear hb ho; clear kq; refine kl0 H fun a H => ?_
 refine zA (zB (zC ?_))
 by_cases hR : rightF (bareT p) = true
 ·
  refine zD ?_
  refine kV (v := .agg (pv (bareT p))) H (run_load_row b1 36 _ _ (H.ev rfl) k1 U36 rfl (s36p hbt)) rfl fun a H => ?_
  refine wl_call _ _ _ (enc_t _ _ hbt hR) (r_call1 cf107 (H.ev rfl)) ?_; rintro e w9 ⟨⟨D, A, c, hDe, rfl, hown⟩, hb⟩; refine ⟨_, rfl, ?_⟩; have hD : b2 < D := hDe ▸ k2.lt; clear hDe; replace k0 := Block.ups k0 hb; replace k1 := Block.ups k1 hb; replace k2 := Block.ups k2 hb; replace hall := hall.tr hb; clear hb; refine kl H rfl fun a H => ?_
  refine kR 5 H rfl fun a H => ?_
  refine zA (zB (zC (zC ?_)))
  by_cases htg : (5 ≤ p.fld 0 ∧ p.fld 0 ≤ 11)
  ·
   refine zD ?_
   refine kR 1 H rfl fun a H => ?_
   refine kV H (r_ne U46 (H.ev rfl) evc (dec_f (by omega))) rfl fun a H => ?_
   refine kR 2 H rfl fun a H => ?_
   refine kW H rfl (r_ld U3 rfl (H.ev rfl) (pv_cell k1 (fld_at hbt (j := 0) (by omega)))) rfl fun a H => ?_
   refine kG H rfl ?_; refine wl_call _ _ _ (tagged_t _ _ htg) (r_call1 cf66 (H.ev rfl)) ?_; rintro e w9 ⟨rfl, hb⟩; refine ⟨_, rfl, ?_⟩; replace k0 := Block.ups k0 hb; replace k1 := Block.ups k1 hb; replace k2 := Block.ups k2 hb; replace hown := own_ups hown hb; replace hall := hall.tr hb; clear hb; refine kl H rfl fun a H => ?_
   refine kW H rfl (r_not (H.ev rfl) rfl) rfl fun a H => ?_
   refine kR 1 H rfl fun a H => ?_
   refine zA (zB (zG H rfl (zE (zB (zC (zD ?_))))))
   refine kV (v := .slice (some ⟨b0, 0, none⟩) 16 16) H (r_slice_all (b := b0) (o := 0) U33 s5 (H.ev rfl) (by omega)) rfl fun a H => ?_
   refine kR 1 H rfl fun a H => ?_
   refine op_litv 29 1 #[(0, .slice A (encF (bareT p)).length c)] 30 #[.slice A (encF (bareT p)).length c] (by simp [H.ev (j := 26) rfl]) (fun w => by kernel_rfl) fun w3 b3 hge hb k3 => ?_; have g3 := Nat.le_trans hall.size hge; have d0_3 : b0 < b3 := Nat.lt_of_lt_of_le k0.lt hge; have d1_3 : b1 < b3 := Nat.lt_of_lt_of_le k1.lt hge; have d2_3 : b2 < b3 := Nat.lt_of_lt_of_le k2.lt hge; replace k0 := Block.ups k0 hb; replace k1 := Block.ups k1 hb; replace k2 := Block.ups k2 hb; replace hown := own_ups hown hb; replace hall := hall.tr hb; clear hb; clear hge; refine kl H rfl fun a H => ?_
   refine wl_call _ _ _ (mac1_any _ _ _ b3 k (encF (bareT p)) (brow_block k0 hk (by simp [maxLen])) k3 (BOwn.row hown) (by omega) (Nat.le_trans (encF_len _ hbt) (by omega))) (r_call2 cf108 (H.ev rfl) (H.ev rfl)) ?_; rintro e w9 ⟨rfl, hb⟩; refine ⟨_, rfl, ?_⟩; obtain ⟨mm, hmm⟩ : ∃ mm, macF k (encF (bareT p)) = mm := ⟨_, rfl⟩; have hml : mm.length = 32 := (by rw [← hmm]; exact sumF_len); rw [hmm]; have HMM := Lib.hid hmm; clear hmm hown; replace k0 := Block.ups k0 hb; replace k1 := Block.ups k1 hb; replace k2 := Block.ups k2 hb; replace k3 := Block.ups k3 hb; replace hall := hall.tr hb; clear hb; refine kl H rfl fun a H => ?_
   refine op_alloc 105 (barr (List.replicate 32 0)) z105 fun w4 b4 hge hb k4 => ?_; have g4 := Nat.le_trans hall.size hge; have d0_4 : b0 < b4 := Nat.lt_of_lt_of_le k0.lt hge; have d1_4 : b1 < b4 := Nat.lt_of_lt_of_le k1.lt hge; have d2_4 : b2 < b4 := Nat.lt_of_lt_of_le k2.lt hge; have d3_4 : b3 < b4 := Nat.lt_of_lt_of_le k3.lt hge; replace k0 := Block.ups k0 hb; replace k1 := Block.ups k1 hb; replace k2 := Block.ups k2 hb; replace k3 := Block.ups k3 hb; replace hall := hall.tr hb; clear hb; clear hge; refine kl H rfl fun a H => ?_
   refine op_store 105 (.tmp 8) (.tmp 28) b4 105 (barr mm) _ (H.ev rfl) (H.ev rfl) k4 (by rw [barr_size, hml]; exact s105) (by rw [barr_size, barr_size, hml, List.length_replicate]) (barr_one _) fun w' hb ho kq => ?_; clear k4; have k4 := kq; replace k0 := block_same k0 (ho _ (by omega)); replace k1 := block_same k1 (ho _ (by omega)); replace k2 := block_same k2 (ho _ (by omega)); replace k3 := block_same k3 (ho _ (by omega)); replace hall := hall.trans (hb _ g4); clear hb ho; clear kq; refine kl0 H fun a H => ?_
   refine zA (zB (zC ?_))
   have hall6 := hall
   have hS : BelowOf (BelowTo hall6) _ := Below.drew (Below.refl _ (BelowTo hall6))
   refine region_tree (BelowOf (BelowTo hall6)) 3 (.fl 0 (.fl 1 (.fl 2 (.one 3 .done)))) (by kernel_rfl) (by kernel_rfl) rfl (by kernel_rfl) hS ?_
   refine kQ 1 H rfl fun a H => ?_
   refine kF (v := .slice (some ⟨b1, 28, none⟩) 8 8) H rfl rfl (fun w' hS' => r_slice_all (b := b1) (o := 28) U34 s5 (H.ev rfl) (by omega)) rfl fun a H => ?_
   refine kF (v := .slice (some ⟨b4, 0, none⟩) 32 32) H rfl rfl (fun w' hS' => r_slice_all (b := b4) (o := 0) U105 s5 (H.ev rfl) (by omega)) rfl fun a H => ?_
   refine pt_one (fun K hK => ?_)
   replace k0 := Block.ups k0 hS
   replace k1 := Block.ups k1 hS
   replace k2 := Block.ups k2 hS
   replace k3 := Block.ups k3 hS
   replace k4 := Block.ups k4 hS
   replace hall := hall.trans (Below.mono hS hall.size)
   refine st_a0 rfl ?_; refine wpo_row _ b1 36 (pv (bareT p)) _ k1 (run_b2 (.slice (some ⟨b1, 28, none⟩) 8 8) (.slice (some ⟨b4, 0, none⟩) 32 32) (H.ev rfl) (H.ev rfl) (b_copy (run_copy_blk _ _ _ _ 5 1 U30 s5 (by omega) b1 28 8 8 _ 36 k1 (some ⟨b4, 0, none⟩) 32 32 ((mm.take 8).map u8v) (by rw [List.length_map, List.length_take, hml]; rfl) (barr_take k4 8) (u8s_one _) (by rw [List.length_map, List.length_take, pv_size hbt]; omega)))) fun w7 kq hb7 ho7 => ?_; clear k1; rw [tg_spl hbt (by rw [List.length_take]; omega)] at kq; simp only [bareT] at kq; rw [take_rest hml] at kq; have k1 := kq; replace k0 := block_same k0 (ho7 _ (by omega)); replace k2 := block_same k2 (ho7 _ (by omega)); replace k3 := block_same k3 (ho7 _ (by omega)); replace k4 := block_same k4 (ho7 _ (by omega)); replace hall := hall.trans (hb7 _ g1); clear hb7 ho7; clear kq; refine hK _ _ ⟨(fun h => absurd rfl h), ?_⟩; clear hK; clear K; clear hS; refine kt H rfl fun a H => ?_
   refine pt_done (NoPanic.normal ?_)
   refine zB (zC ?_)
   have hso : Pkt.ok (⟨p.n, p.sec, mm.take 8⟩ : Pkt) := ⟨hp.1, hp.2.1, by rw [List.length_take]; omega, hp.2.2.2⟩
   have hsf : signF k p = (⟨p.n, p.sec, mm.take 8⟩ : Pkt) := by rw [signF, signTag, HMM.out]
   refine zD ?_
   refine kV (v := .agg (pv (⟨p.n, p.sec, mm.take 8⟩ : Pkt))) H (run_load_row b1 36 _ _ (H.ev rfl) k1 U36 rfl (s36p hso)) rfl fun a H => ?_
   refine op_store 36 (.tmp 4) (.tmp 33) b2 36 (pv (⟨p.n, p.sec, mm.take 8⟩ : Pkt)) _ (H.ev rfl) (H.ev rfl) k2 (s36p hso) (by rw [pv_size pk0_ok, pv_size hso]) (pv_one _) fun w' hb ho kq => ?_; clear k2; have k2 := kq; replace k0 := block_same k0 (ho _ (by omega)); replace k1 := block_same k1 (ho _ (by omega)); replace k3 := block_same k3 (ho _ (by omega)); replace k4 := block_same k4 (ho _ (by omega)); replace hall := hall.trans (hb _ g2); clear hb ho; clear kq; refine kl0 H fun a H => ?_
   refine kR 1 H rfl fun a H => ?_
   refine zA (zB (zF ?_))
   rw [show signOk p = true by rw [signOk, hR]; simp; omega, if_pos rfl, hsf]
   exact k_ret_cell2 H rfl rfl rfl k2 U36 rfl (s36p hso) ⟨rfl, hall⟩
  ·
   refine zD ?_
   refine kR 1 H rfl fun a H => ?_
   refine kV H (r_ne U46 (H.ev rfl) evc (dec_f (by omega))) rfl fun a H => ?_
   refine kR 2 H rfl fun a H => ?_
   refine kW H rfl (r_ld U3 rfl (H.ev rfl) (pv_cell k1 (fld_at hbt (j := 0) (by omega)))) rfl fun a H => ?_
   refine kG H rfl ?_; refine wl_call _ _ _ (tagged_f _ _ htg) (r_call1 cf66 (H.ev rfl)) ?_; rintro e w9 ⟨rfl, hb⟩; refine ⟨_, rfl, ?_⟩; replace k0 := Block.ups k0 hb; replace k1 := Block.ups k1 hb; replace k2 := Block.ups k2 hb; replace hown := own_ups hown hb; replace hall := hall.tr hb; clear hb; refine kl H rfl fun a H => ?_
   refine kW H rfl (r_not (H.ev rfl) rfl) rfl fun a H => ?_
   refine kR 1 H rfl fun a H => ?_
   refine zA (zB (zH H rfl (zC (zD ?_))))
   refine kV (v := .agg (pv pk0)) H (r_build #[] (.agg (pv pk0)) (by simp) (fun w => by kernel_rfl)) rfl fun a H => ?_
   refine op_store 36 (.tmp 4) (.tmp 24) b2 36 (pv pk0) _ (H.ev rfl) (H.ev rfl) k2 (s36p pk0_ok) rfl (pv_one _) fun w' hb ho kq => ?_; clear k2; have k2 := kq; replace k0 := block_same k0 (ho _ (by omega)); replace k1 := block_same k1 (ho _ (by omega)); replace hown := own_block hown (fun q hq => ho q (fun e => by have := (World.ownsRow.lt hown q hq).1; omega)); replace hall := hall.trans (hb _ g2); clear hb ho; clear kq; refine kl0 H fun a H => ?_
   refine kR 1 H rfl fun a H => ?_
   refine zA (zB (zF (zJ ?_)))
   rw [show signOk p = false by simp only [signOk, Bool.and_eq_false_iff]; exact .inr (decide_eq_false htg), if_neg (by simp)]
   exact k_ret_cell2 H rfl rfl rfl k2 U36 rfl (s36p pk0_ok) ⟨rfl, hall⟩
 ·
  refine zD ?_
  refine kV (v := .agg (pv (bareT p))) H (run_load_row b1 36 _ _ (H.ev rfl) k1 U36 rfl (s36p hbt)) rfl fun a H => ?_
  refine wl_call _ _ _ (enc_f _ _ hbt hR) (r_call1 cf107 (H.ev rfl)) ?_; rintro e w9 ⟨rfl, hb⟩; refine ⟨_, rfl, ?_⟩; replace k0 := Block.ups k0 hb; replace k1 := Block.ups k1 hb; replace k2 := Block.ups k2 hb; replace hall := hall.tr hb; clear hb; refine kl H rfl fun a H => ?_
  refine kR 5 H rfl fun a H => ?_
  refine zA (zB (zC (zC (zD ?_))))
  refine kR 1 H rfl fun a H => ?_
  refine kV H (r_ne U46 (H.ev rfl) evc (dec_t (by omega))) rfl fun a H => ?_
  refine kR 6 H rfl fun a H => ?_
  refine zA (zB (zH H rfl (zC (zD ?_))))
  refine kV (v := .agg (pv pk0)) H (r_build #[] (.agg (pv pk0)) (by simp) (fun w => by kernel_rfl)) rfl fun a H => ?_
  refine op_store 36 (.tmp 4) (.tmp 24) b2 36 (pv pk0) _ (H.ev rfl) (H.ev rfl) k2 (s36p pk0_ok) rfl (pv_one _) fun w' hb ho kq => ?_; clear k2; have k2 := kq; replace k0 := block_same k0 (ho _ (by omega)); replace k1 := block_same k1 (ho _ (by omega)); replace hall := hall.trans (hb _ g2); clear hb ho; clear kq; refine kl0 H fun a H => ?_
  refine kR 1 H rfl fun a H => ?_
  refine zA (zB (zF (zJ ?_)))
  rw [show signOk p = false by simp only [signOk, Bool.and_eq_false_iff]; exact .inl (by simpa using hR), if_neg (by simp)]
  exact k_ret_cell2 H rfl rfl rfl k2 U36 rfl (s36p pk0_ok) ⟨rfl, hall⟩
def Rsg (W : World) (p : Pkt) (mm : List B8) (b1 b2 b4 : Nat) (a : Act) (w : World) : Prop :=
 ∃ i : Nat, Kn a 39 [(3, .pointer (some ⟨b1, 0, none⟩)), (4, .pointer (some ⟨b2, 0, none⟩)), (8, .pointer (some ⟨b4, 0, none⟩)), (9, .int .i64 (i : Nat))] ∧ i ≤ 8 ∧ Block w b1 36 (pv (⟨p.n, p.sec, (mm.take 8).take i ++ (List.replicate 8 (0 : B8)).drop i⟩ : Pkt)) ∧ Block w b2 36 (pv pk0) ∧ Block w b4 105 (barr mm) ∧ Below W.heap.size W w
set_option maxRecDepth 100000 in
set_option maxHeartbeats 8000000 in
theorem rsign_any (w : World) (k : List B8) (p : Pkt) (hk : k.length = 16) (hp : p.ok) : Calls Tryz.prog 43 #[.agg (barr k), .agg (pv p)] w fun e w' => e = .returned (.tuple #[.agg (pv (if signOk p = true then signF k p else pk0)), .bool (signOk p)]) ∧ Below w.heap.size w w' := by
 have hbt := bareT_ok hp
 have hall := Below.refl w.heap.size w
 refine K_enter 39 Tryz.func43 rfl rfl fun a H => ?_
 replace H := H.pick [0, 1]
 refine zC (zD ?_)
 refine op_box 33 (.tmp 0) (barr k) (H.ev rfl) fun w0 b0 hge hb k0 => ?_; have g0 := Nat.le_trans hall.size hge; replace hall := hall.tr hb; clear hb; clear hge; refine kl H rfl fun a H => ?_
 refine op_box 36 (.tmp 1) (pv p) (H.ev rfl) fun w1 b1 hge hb k1 => ?_; have g1 := Nat.le_trans hall.size hge; have d0_1 : b0 < b1 := Nat.lt_of_lt_of_le k0.lt hge; replace k0 := Block.ups k0 hb; replace hall := hall.tr hb; clear hb; clear hge; refine kl H rfl fun a H => ?_
 refine op_alloc 36 (pv pk0) z36 fun w2 b2 hge hb k2 => ?_; have g2 := Nat.le_trans hall.size hge; have d0_2 : b0 < b2 := Nat.lt_of_lt_of_le k0.lt hge; have d1_2 : b1 < b2 := Nat.lt_of_lt_of_le k1.lt hge; replace k0 := Block.ups k0 hb; replace k1 := Block.ups k1 hb; replace hall := hall.tr hb; clear hb; clear hge; refine kl H rfl fun a H => ?_
 refine kR 1 H rfl fun a H => ?_
 refine zA (zB (zC (zC ?_)))
 by_cases htg : (5 ≤ p.fld 0 ∧ p.fld 0 ≤ 11)
 ·
  refine zD ?_
  refine kR 1 H rfl fun a H => ?_
  refine kV H (r_ld U3 rfl (H.ev rfl) (pv_cell k1 (fld_at hp (j := 0) (by omega)))) rfl fun a H => ?_
  refine wl_call _ _ _ (rtagged_t _ _ htg) (r_call1 cf79 (H.ev rfl)) ?_; rintro e w9 ⟨rfl, hb⟩; refine ⟨_, rfl, ?_⟩; replace k0 := Block.ups k0 hb; replace k1 := Block.ups k1 hb; replace k2 := Block.ups k2 hb; replace hall := hall.tr hb; clear hb; refine kl H rfl fun a H => ?_
  refine kV H (r_not (H.ev rfl) rfl) rfl fun a H => ?_
  refine zA (zB (zG H rfl (zE (zB (zC (zD ?_))))))
  refine kV (v := .agg (barr (List.replicate 8 0))) H (r_build #[] (.agg (barr (List.replicate 8 0))) (by simp) (fun w => by kernel_rfl)) rfl fun a H => ?_
  refine kR 1 H rfl fun a H => ?_
  refine op_store_mid 34 (.tmp 16) (.tmp 15) b1 28 36 (barr (List.replicate 8 0)) _ (H.ev rfl) (H.ev rfl) k1 (by rw [barr_size, List.length_replicate]; exact s34a) (by rw [pv_size hp, barr_size, List.length_replicate]; omega) (barr_one _) fun w' hb ho kq => ?_; clear k1; have k1 : Block _ b1 36 (pv (bareT p)) := tg_set hp.1 hp.2.1 (by rw [hp.2.2.1, List.length_replicate]) kq; replace k0 := block_same k0 (ho _ (by omega)); replace k2 := block_same k2 (ho _ (by omega)); replace hall := hall.trans (hb _ g1); clear hb ho; clear kq; refine kl0 H fun a H => ?_
  refine zA (zB (zC ?_))
  by_cases hR : rightF (bareT p) = true
  ·
   refine zD ?_
   refine kV (v := .agg (pv (bareT p))) H (run_load_row b1 36 _ _ (H.ev rfl) k1 U36 rfl (s36p hbt)) rfl fun a H => ?_
   refine wl_call _ _ _ (renc_t _ _ hbt hR) (r_call1 cf39 (H.ev rfl)) ?_; rintro e w9 ⟨⟨D, A, c, hDe, rfl, hown⟩, hb⟩; refine ⟨_, rfl, ?_⟩; have hD : b2 < D := hDe ▸ k2.lt; clear hDe; replace k0 := Block.ups k0 hb; replace k1 := Block.ups k1 hb; replace k2 := Block.ups k2 hb; replace hall := hall.tr hb; clear hb; refine kl H rfl fun a H => ?_
   refine kR 5 H rfl fun a H => ?_
   refine zA (zB (zC (zC (zD ?_))))
   refine kR 1 H rfl fun a H => ?_
   refine kV H (r_ne U46 (H.ev rfl) evc (dec_f (by omega))) rfl fun a H => ?_
   refine zA (zB (zG H rfl (zE (zB (zC (zD ?_))))))
   refine kV (v := .slice (some ⟨b0, 0, none⟩) 16 16) H (r_slice_all (b := b0) (o := 0) U33 s5 (H.ev rfl) (by omega)) rfl fun a H => ?_
   refine kR 1 H rfl fun a H => ?_
   refine wl_call _ _ _ (rmac_any _ _ _ k (encF (bareT p)) (brow_block k0 hk (by simp [maxLen])) (BOwn.row hown) (by omega) (Nat.le_trans (encF_len _ hbt) (by omega))) (r_call2 cf80 (H.ev rfl) (H.ev rfl)) ?_; rintro e w9 ⟨rfl, hb⟩; refine ⟨_, rfl, ?_⟩; obtain ⟨mm, hmm⟩ : ∃ mm, macF k (encF (bareT p)) = mm := ⟨_, rfl⟩; have hml : mm.length = 32 := (by rw [← hmm]; exact sumF_len); rw [hmm]; have HMM := Lib.hid hmm; clear hmm hown; replace k0 := Block.ups k0 hb; replace k1 := Block.ups k1 hb; replace k2 := Block.ups k2 hb; replace hall := hall.tr hb; clear hb; refine kl H rfl fun a H => ?_
   refine op_alloc 105 (barr (List.replicate 32 0)) z105 fun w4 b4 hge hb k4 => ?_; have g4 := Nat.le_trans hall.size hge; have d0_4 : b0 < b4 := Nat.lt_of_lt_of_le k0.lt hge; have d1_4 : b1 < b4 := Nat.lt_of_lt_of_le k1.lt hge; have d2_4 : b2 < b4 := Nat.lt_of_lt_of_le k2.lt hge; replace k0 := Block.ups k0 hb; replace k1 := Block.ups k1 hb; replace k2 := Block.ups k2 hb; replace hall := hall.tr hb; clear hb; clear hge; refine kl H rfl fun a H => ?_
   refine op_store 105 (.tmp 8) (.tmp 27) b4 105 (barr mm) _ (H.ev rfl) (H.ev rfl) k4 (by rw [barr_size, hml]; exact s105) (by rw [barr_size, barr_size, hml, List.length_replicate]) (barr_one _) fun w' hb ho kq => ?_; clear k4; have k4 := kq; replace k0 := block_same k0 (ho _ (by omega)); replace k1 := block_same k1 (ho _ (by omega)); replace k2 := block_same k2 (ho _ (by omega)); replace hall := hall.trans (hb _ g4); clear hb ho; clear kq; refine kl0 H fun a H => ?_
   refine zA (zB (zC (zC (zD ?_))))
   refine kR 1 H rfl fun a H => ?_
   refine zA (zB ?_)
   refine wp_block ?_
   have hm8 : (mm.take 8).length = 8 := by rw [List.length_take]; omega
   refine wp_loop (Rsg w p mm b1 b2 b4) (fun a _ => 8 - (intOf (a.eval (.tmp 9))).toNat) ⟨0, H.pick [3, 4, 8, 9], by omega, by simpa [bareT] using k1, k2, k4, hall⟩ ?_
   clear H hall k0 k1 k2 k4
   rintro a w' ⟨i, H, hi, k1, k2, k4, hall⟩
   have H0 := H
   by_cases hlt : i < 8
   ·
    obtain ⟨y, hy⟩ : ∃ y, mm[i]? = some y := ⟨_, List.getElem?_eq_getElem (by omega)⟩
    have hy8 : (mm.take 8)[i]? = some y := by rw [List.getElem?_take_of_lt hlt]; exact hy
    have hps : Pkt.ok (⟨p.n, p.sec, (mm.take 8).take i ++ (List.replicate 8 (0 : B8)).drop i⟩ : Pkt) := ⟨hp.1, hp.2.1, by simp only [List.length_append, List.length_take, List.length_drop, List.length_replicate]; omega, hp.2.2.2⟩
    refine zC (zC (zD ?_))
    refine kR 1 H rfl fun a H => ?_
    refine kV H (r_lt U3 (H.ev rfl) evc (dec_t (by omega))) rfl fun a H => ?_
    refine zA (zB (zH H rfl (zE (zB (zC ?_)))))
    refine wp_block ?_
    refine zD ?_
    refine kR 2 H rfl fun a H => ?_
    refine kV H (r_ixa (j := i) (q := i) U105 s5 (H.ev rfl) (H.ev rfl) (by omega) (by omega)) rfl fun a H => ?_
    refine kV H (r_ld U5 rfl (H.ev rfl) (barr_cell k4 hy)) rfl fun a H => ?_
    refine kR 1 H rfl fun a H => ?_
    refine kV H (r_ixa (j := i) (q := 28 + i) U34 s5 (H.ev rfl) (H.ev rfl) (by omega) (by omega)) rfl fun a H => ?_
    refine op_store1 5 (.tmp 37) (.tmp 35) b1 (28 + i) 36 (u8v y) _ (H.ev rfl) (H.ev rfl) k1 s5 (by rw [pv_size hps]; show 28 + i + 1 ≤ 36; omega) (u8_one _) fun w' hb ho kq => ?_; clear k1; have k1 := kq; have e1 := tg_set1 (p := bareT p) hbt (by omega) hy8; simp only [bareT] at e1; rw [e1] at k1; clear e1; replace k2 := block_same k2 (ho _ (by omega)); replace k4 := block_same k4 (ho _ (by omega)); replace hall := hall.trans (hb _ g1); clear hb ho; clear kq; refine kl0 H fun a H => ?_
    refine zA (n_block (zB (zD ?_)))
    refine kR 1 H rfl fun a H => ?_
    refine kV H (r_add (q := ((i + 1 : Nat) : Int)) U3 (H.ev rfl) evc (by omega) (by omega)) rfl fun a H => ?_
    refine kR 1 H rfl fun a H => ?_
    refine zA ?_
    refine zI ⟨⟨i + 1, H.pick [3, 4, 8, 9], by omega, k1, k2, k4, hall⟩, ?_⟩
    rw [H.ev (j := 9) rfl, H0.ev (j := 9) rfl]
    simp only [intOf]
    omega
   ·
    obtain rfl : i = 8 := by omega
    rw [show (⟨p.n, p.sec, (mm.take 8).take 8 ++ (List.replicate 8 (0 : B8)).drop 8⟩ : Pkt) = ⟨p.n, p.sec, mm.take 8⟩ by simp [List.take_take]] at k1
    refine zC (zC (zD ?_))
    refine kR 1 H rfl fun a H => ?_
    refine kV H (r_lt U3 (H.ev rfl) evc (dec_f (by omega))) rfl fun a H => ?_
    refine zA (zB (zG H rfl (wp_exit (e_then (e_then ?_)))))
    refine e_here ?_
    refine zB (zC ?_)
    have hso : Pkt.ok (⟨p.n, p.sec, mm.take 8⟩ : Pkt) := ⟨hp.1, hp.2.1, by rw [List.length_take]; omega, hp.2.2.2⟩
    have hsf : signF k p = (⟨p.n, p.sec, mm.take 8⟩ : Pkt) := by rw [signF, signTag, HMM.out]
    refine zD ?_
    refine kV (v := .agg (pv (⟨p.n, p.sec, mm.take 8⟩ : Pkt))) H (run_load_row b1 36 _ _ (H.ev rfl) k1 U36 rfl (s36p hso)) rfl fun a H => ?_
    refine op_store 36 (.tmp 4) (.tmp 38) b2 36 (pv (⟨p.n, p.sec, mm.take 8⟩ : Pkt)) _ (H.ev rfl) (H.ev rfl) k2 (s36p hso) (by rw [pv_size pk0_ok, pv_size hso]) (pv_one _) fun w' hb ho kq => ?_; clear k2; have k2 := kq; replace k1 := block_same k1 (ho _ (by omega)); replace k4 := block_same k4 (ho _ (by omega)); replace hall := hall.trans (hb _ g2); clear hb ho; clear kq; refine kl0 H fun a H => ?_
    refine kR 1 H rfl fun a H => ?_
    refine zA (zB (zF ?_))
    rw [show signOk p = true by rw [signOk, hR]; simp; omega, if_pos rfl, hsf]
    exact k_ret_cell2 H rfl rfl rfl k2 U36 rfl (s36p hso) ⟨rfl, hall⟩
  ·
   refine zD ?_
   refine kV (v := .agg (pv (bareT p))) H (run_load_row b1 36 _ _ (H.ev rfl) k1 U36 rfl (s36p hbt)) rfl fun a H => ?_
   refine wl_call _ _ _ (renc_f _ _ hbt hR) (r_call1 cf39 (H.ev rfl)) ?_; rintro e w9 ⟨rfl, hb⟩; refine ⟨_, rfl, ?_⟩; replace k0 := Block.ups k0 hb; replace k1 := Block.ups k1 hb; replace k2 := Block.ups k2 hb; replace hall := hall.tr hb; clear hb; refine kl H rfl fun a H => ?_
   refine kR 5 H rfl fun a H => ?_
   refine zA (zB (zC (zC (zD ?_))))
   refine kR 1 H rfl fun a H => ?_
   refine kV H (r_ne U46 (H.ev rfl) evc (dec_t (by omega))) rfl fun a H => ?_
   refine zA (zB (zH H rfl (zC (zD ?_))))
   refine kV (v := .agg (pv pk0)) H (r_build #[] (.agg (pv pk0)) (by simp) (fun w => by kernel_rfl)) rfl fun a H => ?_
   refine op_store 36 (.tmp 4) (.tmp 24) b2 36 (pv pk0) _ (H.ev rfl) (H.ev rfl) k2 (s36p pk0_ok) rfl (pv_one _) fun w' hb ho kq => ?_; clear k2; have k2 := kq; replace k0 := block_same k0 (ho _ (by omega)); replace k1 := block_same k1 (ho _ (by omega)); replace hall := hall.trans (hb _ g2); clear hb ho; clear kq; refine kl0 H fun a H => ?_
   refine kR 1 H rfl fun a H => ?_
   refine zA (zB (zF (zJ ?_)))
   rw [show signOk p = false by simp only [signOk, Bool.and_eq_false_iff]; exact .inl (by simpa using hR), if_neg (by simp)]
   exact k_ret_cell2 H rfl rfl rfl k2 U36 rfl (s36p pk0_ok) ⟨rfl, hall⟩
 ·
  refine zD ?_
  refine kR 1 H rfl fun a H => ?_
  refine kV H (r_ld U3 rfl (H.ev rfl) (pv_cell k1 (fld_at hp (j := 0) (by omega)))) rfl fun a H => ?_
  refine wl_call _ _ _ (rtagged_f _ _ htg) (r_call1 cf79 (H.ev rfl)) ?_; rintro e w9 ⟨rfl, hb⟩; refine ⟨_, rfl, ?_⟩; replace k0 := Block.ups k0 hb; replace k1 := Block.ups k1 hb; replace k2 := Block.ups k2 hb; replace hall := hall.tr hb; clear hb; refine kl H rfl fun a H => ?_
  refine kV H (r_not (H.ev rfl) rfl) rfl fun a H => ?_
  refine zA (zB (zH H rfl (zC (zD ?_))))
  refine kV (v := .agg (pv pk0)) H (r_build #[] (.agg (pv pk0)) (by simp) (fun w => by kernel_rfl)) rfl fun a H => ?_
  refine op_store 36 (.tmp 4) (.tmp 14) b2 36 (pv pk0) _ (H.ev rfl) (H.ev rfl) k2 (s36p pk0_ok) rfl (pv_one _) fun w' hb ho kq => ?_; clear k2; have k2 := kq; replace k0 := block_same k0 (ho _ (by omega)); replace k1 := block_same k1 (ho _ (by omega)); replace hall := hall.trans (hb _ g2); clear hb ho; clear kq; refine kl0 H fun a H => ?_
  refine kR 1 H rfl fun a H => ?_
  refine zA (zB (zF (zJ ?_)))
  rw [show signOk p = false by simp only [signOk, Bool.and_eq_false_iff]; exact .inr (decide_eq_false htg), if_neg (by simp)]
  exact k_ret_cell2 H rfl rfl rfl k2 U36 rfl (s36p pk0_ok) ⟨rfl, hall⟩
set_option maxRecDepth 100000 in
set_option maxHeartbeats 8000000 in
theorem good_any (w : World) (k : List B8) (p : Pkt) (hk : k.length = 16) (hp : p.ok) : Calls Tryz.prog 38 #[.agg (barr k), .agg (pv p)] w fun e w' => e = .returned (.bool (goodF k p)) ∧ Below w.heap.size w w' := by
 have hall := Below.refl w.heap.size w
 refine K_enter 21 Tryz.func38 rfl rfl fun a H => ?_
 replace H := H.pick [0, 1]
 refine zC (zD ?_)
 refine op_box 33 (.tmp 0) (barr k) (H.ev rfl) fun w0 b0 hge hb k0 => ?_; have g0 := Nat.le_trans hall.size hge; replace hall := hall.tr hb; clear hb; clear hge; refine kl H rfl fun a H => ?_
 refine op_box 36 (.tmp 1) (pv p) (H.ev rfl) fun w1 b1 hge hb k1 => ?_; have g1 := Nat.le_trans hall.size hge; have d0_1 : b0 < b1 := Nat.lt_of_lt_of_le k0.lt hge; replace k0 := Block.ups k0 hb; replace hall := hall.tr hb; clear hb; clear hge; refine kl H rfl fun a H => ?_
 refine kR 1 H rfl fun a H => ?_
 refine zA (zB (zC (zD ?_)))
 refine kV (v := .agg (barr k)) H (run_load_row b0 33 _ _ (H.ev rfl) k0 U33 rfl (by rw [barr_size, hk]; exact s33a)) rfl fun a H => ?_
 refine kV (v := .agg (pv p)) H (run_load_row b1 36 _ _ (H.ev rfl) k1 U36 rfl (s36p hp)) rfl fun a H => ?_
 refine wl_call _ _ _ (sign_any _ k p hk hp) (r_call2 cf69 (H.ev rfl) (H.ev rfl)) ?_; rintro e w9 ⟨rfl, hb⟩; refine ⟨_, rfl, ?_⟩; replace k0 := Block.ups k0 hb; replace k1 := Block.ups k1 hb; replace hall := hall.tr hb; clear hb; obtain ⟨S, hS⟩ : ∃ S, (if signOk p = true then signF k p else pk0) = S := ⟨_, rfl⟩; have hso : S.ok := (by rw [← hS]; exact sgn_ok hp); rw [hS]; have HS := Lib.hid hS; clear hS; refine kl H rfl fun a H => ?_
 refine kR 3 H rfl fun a H => ?_
 refine op_alloc 36 (pv pk0) z36 fun w2 b2 hge hb k2 => ?_; have g2 := Nat.le_trans hall.size hge; have d0_2 : b0 < b2 := Nat.lt_of_lt_of_le k0.lt hge; have d1_2 : b1 < b2 := Nat.lt_of_lt_of_le k1.lt hge; replace k0 := Block.ups k0 hb; replace k1 := Block.ups k1 hb; replace hall := hall.tr hb; clear hb; clear hge; refine kl H rfl fun a H => ?_
 refine op_store 36 (.tmp 5) (.tmp 11) b2 36 (pv S) _ (H.ev rfl) (H.ev rfl) k2 (s36p hso) (by rw [pv_size pk0_ok, pv_size hso]) (pv_one _) fun w' hb ho kq => ?_; clear k2; have k2 := kq; replace k0 := block_same k0 (ho _ (by omega)); replace k1 := block_same k1 (ho _ (by omega)); replace hall := hall.trans (hb _ g2); clear hb ho; clear kq; refine kl0 H fun a H => ?_
 refine kR 1 H rfl fun a H => ?_
 refine zA (zB (zC ?_))
 obtain ⟨so, hs0⟩ : ∃ so, signOk p = so := ⟨_, rfl⟩
 rw [hs0] at H
 have HSO := Lib.hid hs0
 clear hs0
 cases so
 ·
  refine zD ?_
  refine kR 9 H rfl fun a H => ?_
  refine zA (zB (zF ?_))
  exact k_ret1 H rfl rfl ⟨by rw [goodF, HSO.out]; rfl, hall⟩
 ·
  have hSf : S = signF k p := by rw [← HS.out, if_pos HSO.out]
  by_cases he : S.tg = p.tg
  ·
   refine zD ?_
   refine kR 3 H rfl fun a H => ?_
   refine kG H rfl ?_; refine kV (v := .agg (S.tg.map u8v).toArray) H (r_row (cs := S.tg.map u8v) (H.ev rfl) (pv_tg k2 hso) (by kernel_rfl) (by rw [List.length_map, hso.2.2.1]; exact s34a) rfl) rfl fun a H => ?_
   refine kR 1 H rfl fun a H => ?_
   refine kG H rfl ?_; refine kV (v := .agg (p.tg.map u8v).toArray) H (r_row (cs := p.tg.map u8v) (H.ev rfl) (pv_tg k1 hp) (by kernel_rfl) (by rw [List.length_map, hp.2.2.1]; exact s34a) rfl) rfl fun a H => ?_
   refine kG H rfl ?_; refine kV (v := .bool true) H (r_eqtg hso.2.2.1 hp.2.2.1 (H.ev rfl) (H.ev rfl) (decide_eq_true he)) rfl fun a H => ?_
   refine kR 2 H rfl fun a H => ?_
   refine zA (zB (zF ?_))
   exact k_ret1 H rfl rfl ⟨by rw [goodF, HSO.out, show signTag k p = S.tg by rw [hSf]; rfl, decide_eq_true he]; rfl, hall⟩
  ·
   refine zD ?_
   refine kR 3 H rfl fun a H => ?_
   refine kG H rfl ?_; refine kV (v := .agg (S.tg.map u8v).toArray) H (r_row (cs := S.tg.map u8v) (H.ev rfl) (pv_tg k2 hso) (by kernel_rfl) (by rw [List.length_map, hso.2.2.1]; exact s34a) rfl) rfl fun a H => ?_
   refine kR 1 H rfl fun a H => ?_
   refine kG H rfl ?_; refine kV (v := .agg (p.tg.map u8v).toArray) H (r_row (cs := p.tg.map u8v) (H.ev rfl) (pv_tg k1 hp) (by kernel_rfl) (by rw [List.length_map, hp.2.2.1]; exact s34a) rfl) rfl fun a H => ?_
   refine kG H rfl ?_; refine kV (v := .bool false) H (r_eqtg hso.2.2.1 hp.2.2.1 (H.ev rfl) (H.ev rfl) (decide_eq_false he)) rfl fun a H => ?_
   refine kR 2 H rfl fun a H => ?_
   refine zA (zB (zF ?_))
   exact k_ret1 H rfl rfl ⟨by rw [goodF, HSO.out, show signTag k p = S.tg by rw [hSf]; rfl, decide_eq_false he]; rfl, hall⟩
set_option maxRecDepth 100000 in
set_option maxHeartbeats 8000000 in
theorem rgood_any (w : World) (k : List B8) (p : Pkt) (hk : k.length = 16) (hp : p.ok) : Calls Tryz.prog 42 #[.agg (barr k), .agg (pv p)] w fun e w' => e = .returned (.bool (goodF k p)) ∧ Below w.heap.size w w' := by
 have hall := Below.refl w.heap.size w
 refine K_enter 19 Tryz.func42 rfl rfl fun a H => ?_
 replace H := H.pick [0, 1]
 refine zC (zD ?_)
 refine op_box 33 (.tmp 0) (barr k) (H.ev rfl) fun w0 b0 hge hb k0 => ?_; have g0 := Nat.le_trans hall.size hge; replace hall := hall.tr hb; clear hb; clear hge; refine kl H rfl fun a H => ?_
 refine op_box 36 (.tmp 1) (pv p) (H.ev rfl) fun w1 b1 hge hb k1 => ?_; have g1 := Nat.le_trans hall.size hge; have d0_1 : b0 < b1 := Nat.lt_of_lt_of_le k0.lt hge; replace k0 := Block.ups k0 hb; replace hall := hall.tr hb; clear hb; clear hge; refine kl H rfl fun a H => ?_
 refine kR 1 H rfl fun a H => ?_
 refine zA (zB (zC (zD ?_)))
 refine kV (v := .agg (barr k)) H (run_load_row b0 33 _ _ (H.ev rfl) k0 U33 rfl (by rw [barr_size, hk]; exact s33a)) rfl fun a H => ?_
 refine kV (v := .agg (pv p)) H (run_load_row b1 36 _ _ (H.ev rfl) k1 U36 rfl (s36p hp)) rfl fun a H => ?_
 refine wl_call _ _ _ (rsign_any _ k p hk hp) (r_call2 cf43 (H.ev rfl) (H.ev rfl)) ?_; rintro e w9 ⟨rfl, hb⟩; refine ⟨_, rfl, ?_⟩; replace k0 := Block.ups k0 hb; replace k1 := Block.ups k1 hb; replace hall := hall.tr hb; clear hb; obtain ⟨S, hS⟩ : ∃ S, (if signOk p = true then signF k p else pk0) = S := ⟨_, rfl⟩; have hso : S.ok := (by rw [← hS]; exact sgn_ok hp); rw [hS]; have HS := Lib.hid hS; clear hS; refine kl H rfl fun a H => ?_
 refine kR 3 H rfl fun a H => ?_
 refine op_alloc 36 (pv pk0) z36 fun w2 b2 hge hb k2 => ?_; have g2 := Nat.le_trans hall.size hge; have d0_2 : b0 < b2 := Nat.lt_of_lt_of_le k0.lt hge; have d1_2 : b1 < b2 := Nat.lt_of_lt_of_le k1.lt hge; replace k0 := Block.ups k0 hb; replace k1 := Block.ups k1 hb; replace hall := hall.tr hb; clear hb; clear hge; refine kl H rfl fun a H => ?_
 refine op_store 36 (.tmp 5) (.tmp 11) b2 36 (pv S) _ (H.ev rfl) (H.ev rfl) k2 (s36p hso) (by rw [pv_size pk0_ok, pv_size hso]) (pv_one _) fun w' hb ho kq => ?_; clear k2; have k2 := kq; replace k0 := block_same k0 (ho _ (by omega)); replace k1 := block_same k1 (ho _ (by omega)); replace hall := hall.trans (hb _ g2); clear hb ho; clear kq; refine kl0 H fun a H => ?_
 refine kR 1 H rfl fun a H => ?_
 refine zA (zB (zC ?_))
 obtain ⟨so, hs0⟩ : ∃ so, signOk p = so := ⟨_, rfl⟩
 rw [hs0] at H
 have HSO := Lib.hid hs0
 clear hs0
 cases so
 ·
  refine zD ?_
  refine kR 7 H rfl fun a H => ?_
  refine zA (zB (zF ?_))
  exact k_ret1 H rfl rfl ⟨by rw [goodF, HSO.out]; rfl, hall⟩
 ·
  have hSf : S = signF k p := by rw [← HS.out, if_pos HSO.out]
  by_cases he : S = p
  ·
   refine zD ?_
   refine kR 2 H rfl fun a H => ?_
   refine kG H rfl ?_; refine kV (v := .agg (pv S)) H (run_load_row b2 36 _ _ (H.ev rfl) k2 U36 rfl (s36p hso)) rfl fun a H => ?_
   refine kG H rfl ?_; refine kV (v := .agg (pv p)) H (run_load_row b1 36 _ _ (H.ev rfl) k1 U36 rfl (s36p hp)) rfl fun a H => ?_
   refine kG H rfl ?_; refine kV (v := .bool true) H (r_eqpk_b hso hp (H.ev rfl) (H.ev rfl) (decide_eq_true he)) rfl fun a H => ?_
   refine kR 2 H rfl fun a H => ?_
   refine zA (zB (zF ?_))
   exact k_ret1 H rfl rfl ⟨by rw [goodF, HSO.out, decide_eq_true (show signTag k p = p.tg by rw [← sgn_eq, ← hSf]; exact he)]; rfl, hall⟩
  ·
   refine zD ?_
   refine kR 2 H rfl fun a H => ?_
   refine kG H rfl ?_; refine kV (v := .agg (pv S)) H (run_load_row b2 36 _ _ (H.ev rfl) k2 U36 rfl (s36p hso)) rfl fun a H => ?_
   refine kG H rfl ?_; refine kV (v := .agg (pv p)) H (run_load_row b1 36 _ _ (H.ev rfl) k1 U36 rfl (s36p hp)) rfl fun a H => ?_
   refine kG H rfl ?_; refine kV (v := .bool false) H (r_eqpk_b hso hp (H.ev rfl) (H.ev rfl) (decide_eq_false he)) rfl fun a H => ?_
   refine kR 2 H rfl fun a H => ?_
   refine zA (zB (zF ?_))
   exact k_ret1 H rfl rfl ⟨by rw [goodF, HSO.out, decide_eq_false (show ¬ signTag k p = p.tg by rw [← sgn_eq, ← hSf]; exact he)]; rfl, hall⟩
end Go.Proofs.YtbnmpoonkjlkjaaGreat
