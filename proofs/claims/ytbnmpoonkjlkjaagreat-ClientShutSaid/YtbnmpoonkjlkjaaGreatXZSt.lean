/- Client: part ZSt of the proof. -/
import Derived.Test.YtbnmpoonkjlkjaaGreatXL
namespace Go.Proofs.YtbnmpoonkjlkjaaGreat
open Go.RowKit
set_option linter.unusedVariables false
set_option linter.unusedSimpArgs false
theorem cell_up {w w' : World} {g i : Nat} {x : Value} (hb : Below w.heap.size w w') (h : w.cell? ⟨g, i, none⟩ = some x) : w'.cell? ⟨g, i, none⟩ = some x := by
 have h1 := World.block_lt_of_cell? w _ h
 rw [← h]
 unfold World.cell?
 rw [hb.block g h1]
theorem Outs.le {w : World} {B : Nat} {v : Value} {L : List (List B8)} (h : Outs w B v L) : L.length ≤ 9223372036854775807 := by
 obtain ⟨vs, h1, h2, _⟩ := h
 rcases h2.2 with ⟨_, h0⟩ | ⟨g, cap, cur, he, hB, hg, hn, hcm, _⟩
 · omega
 ·
  unfold maxLen at hcm
  omega
def Rsm (W : World) (A1 A2 : Option Addr) (c1 c2 : Nat) (L : List (List B8)) (a : Act) (w : World) : Prop :=
 ∃ i : Nat, Kn a 28 [(0, .slice A1 L.length c1), (1, .slice A2 L.length c2), (5, .int .i64 (i : Nat))] ∧ i ≤ L.length ∧ Below W.heap.size W w
set_option maxRecDepth 100000 in
set_option maxHeartbeats 4000000 in
theorem same_any (w : World) (x y : Value) (B1 B2 : Nat) (L : List (List B8)) (hx0 : Outs w B1 x L) (hy0 : Outs w B2 y L) : Calls Tryz.prog 26 #[x, y] w fun e w' => e = .returned (.bool true) ∧ Below w.heap.size w w' := by
 have hLb := Outs.le hx0
 obtain ⟨A1, c1, e1⟩ := Outs.shape hx0
 obtain ⟨A2, c2, e2⟩ := Outs.shape hy0
 subst e1 e2
 have hall := Below.refl w.heap.size w
 refine K_enter 28 Tryz.func26 rfl rfl fun a H => ?_
 replace H := H.pick [0, 1]
 refine zC (zD ?_)
 refine kR 1 H rfl fun a H => ?_
 refine zA (zB (zC (zC (zD ?_))))
 refine kR 1 H rfl fun a H => ?_
 refine kV H (r_len U29 (H.ev rfl)) rfl fun a H => ?_
 refine kR 1 H rfl fun a H => ?_
 refine kV H (r_len U29 (H.ev rfl)) rfl fun a H => ?_
 refine kV H (r_ne U3 (H.ev rfl) (H.ev rfl) (dec_f (by omega))) rfl fun a H => ?_
 refine zA (zB (zG H rfl (zE (zB (zC (zC (zD ?_)))))))
 refine kR 1 H rfl fun a H => ?_
 refine zA (zB ?_)
 refine wp_block ?_
 refine wp_loop (Rsm w A1 A2 c1 c2 L) (fun a _ => L.length - (intOf (a.eval (.tmp 5))).toNat) ⟨0, H.pick [0, 1, 5], by omega, hall⟩ ?_
 clear H hall
 rintro a w' ⟨i, H, hi, hall⟩
 have H0 := H
 by_cases hlt : i < L.length
 ·
  obtain ⟨y, hy⟩ : ∃ y, L[i]? = some y := ⟨_, List.getElem?_eq_getElem hlt⟩
  have hx1 := Outs.up hx0 hall
  have hy1 := Outs.up hy0 hall
  obtain ⟨g1, e1⟩ := Outs.head hx1 (by omega)
  obtain ⟨g2, e2⟩ := Outs.head hy1 (by omega)
  subst e1 e2
  obtain ⟨u1, hu1, hr1⟩ := Outs.at hx1 hy
  obtain ⟨u2, hu2, hr2⟩ := Outs.at hy1 hy
  refine zC (zC (zD ?_))
  refine kR 2 H rfl fun a H => ?_
  refine kV H (r_len U29 (H.ev rfl)) rfl fun a H => ?_
  refine kV H (r_lt U3 (H.ev rfl) (H.ev rfl) (dec_t (by omega))) rfl fun a H => ?_
  refine zA (zB (zH H rfl (zE (zB (zC ?_)))))
  refine wp_block ?_
  refine zC ?_
  have hall6 := hall
  have hS : BelowOf (BelowTo hall6) _ := Below.drew (Below.refl _ (BelowTo hall6))
  refine region_tree (BelowOf (BelowTo hall6)) 11 (.fl 0 (.fl 1 (.fl 2 (.fl 3 (.fl 4 (.fl 5 (.fl 6 (.fl 7 (.fl 8 (.fl 9 (.fl 10 .done))))))))))) (by kernel_rfl) (by kernel_rfl) rfl (by kernel_rfl) hS ?_
  refine kQ 2 H rfl fun a H => ?_
  refine kF (v := .pointer (some ⟨g1, i, none⟩)) H rfl rfl (fun w' hS' => r_idx (j := i) (q := i) U29 s30 (H.ev rfl) (H.ev rfl) hlt (by omega)) rfl fun a H => ?_
  refine kF (v := u1) H rfl rfl (fun w' hS' => r_ld U30 rfl (H.ev rfl) (cell_up hS' hu1)) rfl fun a H => ?_
  refine kF (v := .string (strB y)) H rfl rfl (fun w' hS' => r_str (H.ev rfl) (BRow.up hr1 hS')) rfl fun a H => ?_
  refine kQ 2 H rfl fun a H => ?_
  refine kF (v := .pointer (some ⟨g2, i, none⟩)) H rfl rfl (fun w' hS' => r_idx (j := i) (q := i) U29 s30 (H.ev rfl) (H.ev rfl) hlt (by omega)) rfl fun a H => ?_
  refine kF (v := u2) H rfl rfl (fun w' hS' => r_ld U30 rfl (H.ev rfl) (cell_up hS' hu2)) rfl fun a H => ?_
  refine kF (v := .string (strB y)) H rfl rfl (fun w' hS' => r_str (H.ev rfl) (BRow.up hr2 hS')) rfl fun a H => ?_
  refine kF (v := .bool false) H rfl rfl (fun w' hS' => r_nestr (s := strB y) (H.ev rfl) (H.ev rfl)) rfl fun a H => ?_
  refine pt_done (NoPanic.normal ?_)
  replace hall := hall.trans (Below.mono hS hall.size)
  clear hS
  refine zB (zG H rfl (zE (n_block (zB (zD ?_)))))
  refine kR 1 H rfl fun a H => ?_
  refine kV H (r_add (q := ((i + 1 : Nat) : Int)) U3 (H.ev rfl) evc (by omega) (by omega)) rfl fun a H => ?_
  refine kR 1 H rfl fun a H => ?_
  refine zA ?_
  refine zI ⟨⟨i + 1, H.pick [0, 1, 5], by omega, hall⟩, ?_⟩
  rw [H.ev (j := 5) rfl, H0.ev (j := 5) rfl]
  simp only [intOf]
  omega
 ·
  obtain rfl : i = L.length := by omega
  refine zC (zC (zD ?_))
  refine kR 2 H rfl fun a H => ?_
  refine kV H (r_len U29 (H.ev rfl)) rfl fun a H => ?_
  refine kV H (r_lt U3 (H.ev rfl) (H.ev rfl) (dec_f (by omega))) rfl fun a H => ?_
  refine zA (zB (zG H rfl (wp_exit (e_then (e_then ?_)))))
  refine e_here ?_
  refine zB (zC (zD ?_))
  refine kR 1 H rfl fun a H => ?_
  refine zA (zB (zF ?_))
  exact k_ret1 H rfl rfl ⟨rfl, hall⟩
end Go.Proofs.YtbnmpoonkjlkjaaGreat
