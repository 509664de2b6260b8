/- Client: part ZRo of the proof. -/
import Derived.Test.YtbnmpoonkjlkjaaGreatXM
import Derived.ChangeSame
import Derived.ChangeOld
namespace Go.Proofs.YtbnmpoonkjlkjaaGreat
open Go.RowKit
set_option linter.unusedVariables false
set_option linter.unusedSimpArgs false
section
open Go.ChangeShapes Go.WideShapes Go.ChangeAt Go.Maps
theorem wp_mid {P : Program} {c : Code} {Q : Exit → Act → World → Prop} {a : Act} {w : World} (M : Act → World → Prop) (h : c.wp P (fun e a w => e = .normal ∧ M a w) a w) (k : ∀ a w, M a w → Q .normal a w) : c.wp P Q a w :=
 wp_mono h fun e a w ⟨he, hm⟩ => he.symm ▸ k a w hm
theorem ac_o {w : World} {b q : Nat} {x : Ac} {vb : Value} (h : w.rangeAt b q (acL x vb)) : w.rangeAt b (q + 3) [.int .i64 x.o.1, .int .i64 x.o.2.1, .int .i64 x.o.2.2.1, .int .i64 x.o.2.2.2] := fun j v hj => by
 have := h (3 + j) v (by
  match j, hj with
  | 0, hj => exact hj
  | 1, hj => exact hj
  | 2, hj => exact hj
  | 3, hj => exact hj
  | j + 4, hj => simp at hj)
 rwa [← Nat.add_assoc] at this
theorem raw_le (p : Pkt) : (rawF p).length ≤ 1 := by unfold rawF; split <;> simp
theorem sgn_le (c : Cl) (p : Pkt) : (sgnF c p).length ≤ 1 := by
 unfold sgnF
 split
 · exact raw_le _
 · simp
theorem beat_le (c : Cl) : (beatO c).length ≤ 1 := by
 unfold beatO
 split
 · simp
 · exact sgn_le _ _
theorem say_le (c : Cl) : (sayO c).length ≤ 1 := by
 unfold sayO
 split
 · simp
 ·
  split
  · simp
  · exact sgn_le _ _
theorem say_state (c : Cl) : (sayC c).state = c.state := by
 unfold sayC
 split
 · rfl
 · split <;> rfl
theorem beat_state (c : Cl) : (beatC c).state = c.state := by
 unfold beatC
 split <;> rfl
theorem tick_facts (c : Cl) : (tickC c).os.length = c.os.length ∧ (tickC c).state = c.state ∧ (tickO c).length ≤ 2 ∧ (c.state = 0 → (tickO c).length = 0) := by
 refine ⟨by rw [(tick_same c).2.1], ?_, ?_, fun h => by rw [tickO, if_pos h]; rfl⟩
 ·
  by_cases h0 : c.state = 0
  · rw [tickC, if_pos h0]
  rw [tickC, if_neg h0]
  unfold tick1C
  split
  · rw [say_state, beat_state]; rfl
  ·
   split
   · rfl
   · split <;> rfl
 ·
  by_cases h0 : c.state = 0
  · rw [tickO, if_pos h0]; simp
  rw [tickO, if_neg h0]
  unfold tick1O
  split
  ·
   have := beat_le (timeC c)
   have := say_le (beatC (timeC c))
   rw [List.length_append]
   omega
  ·
   split
   · simp
   ·
    split
    · exact Nat.le_trans (raw_le _) (by omega)
    ·
     split
     · exact Nat.le_trans (raw_le _) (by omega)
     · simp
theorem step_facts {c : Cl} {bs : List B8} (h : ClOk c) : (stepC c bs).os.length ≤ c.os.length ∧ ((stepC c bs).state ≠ 0 → c.os.length ≤ (stepC c bs).os.length + 1) ∧ (stepO c bs).length ≤ 2 ∧ (c.state = 0 → (stepO c bs).length = 0) := by
 by_cases he : ¬ decE bs = 0
 ·
  rw [stepC, stepO, if_neg he, if_neg he]
  exact ⟨Nat.le_refl _, fun _ => by omega, by simp, fun _ => rfl⟩
 replace he : decE bs = 0 := Decidable.of_not_not he
 rw [stepC, stepO, if_pos he, if_pos he]
 generalize decP bs = p
 have hC : (gotC c p).os = c.os ∨ (gotC c p).os.length ≤ c.os.length ∧ ((gotC c p).state ≠ 0 → c.os.length ≤ (gotC c p).os.length + 1) := by
  unfold gotC
  split
  · left; unfold cookC; split <;> rfl
  ·
   split
   · left; unfold accC; split <;> rfl
   ·
    split
    ·
     left; unfold refC; split
     · rfl
     · split <;> rfl
    ·
     split
     · left; unfold notC; split <;> rfl
     ·
      split
      ·
       unfold repC
       split
       · left; rfl
       ·
        rename_i o l hos
        split
        ·
         right
         unfold repC1
         rw [hos]
         split
         · exact ⟨by show (0 : Nat) ≤ _; omega, fun hh => absurd rfl hh⟩
         · exact ⟨by simp, fun _ => by simp⟩
        · left; rfl
      · left; rfl
 have hO : (gotO c p).length ≤ 1 ∧ (c.state = 0 → (gotO c p).length = 0) := by
  unfold gotO
  split
  ·
   unfold cookO
   split
   ·
    rename_i hh
    exact ⟨raw_le _, fun h0 => by have := hh.1; omega⟩
   · exact ⟨by simp, fun _ => rfl⟩
  ·
   split
   ·
    unfold notO
    split
    ·
     rename_i hh
     exact ⟨sgn_le _ _, fun h0 => by have := own_on hh; omega⟩
    · exact ⟨by simp, fun _ => rfl⟩
   · exact ⟨by simp, fun _ => rfl⟩
 refine ⟨?_, ?_, by omega, hO.2⟩
 ·
  rcases hC with e | e
  · rw [e]; exact Nat.le_refl _
  · exact e.1
 ·
  rcases hC with e | e
  · intro _; rw [e]; omega
  · exact e.2
theorem sess_on {c : Cl} (h : ClOk c) : (c.state = 3 ∧ 0 < sessF c) ∨ (c.state ≠ 3 ∧ sessF c = 0) := by
 by_cases h3 : c.state = 3
 · exact .inl ⟨h3, by rw [sessF, if_pos h3]; have := (h.on h3).1; omega⟩
 · exact .inr ⟨h3, by rw [sessF, if_neg h3]⟩
def Ror (W : World) (bcl : Nat) (A : Option Addr) (cc : Nat) (L : List Ac) (a : Act) (w : World) : Prop :=
 ∃ (i : Nat) (m : Option Nat) (c : Cl), Kn a 162 [(1, .slice A L.length cc), (5, .bool true), (7, .pointer (some ⟨bcl, 0, none⟩)), (8, .int .i64 (i : Nat))] ∧ i ≤ L.length ∧ ClAt w bcl m c ∧ Below W.heap.size W w
def Rom (W : World) (bcl : Nat) (A : Option Addr) (cc : Nat) (L : List Ac) (i : Nat) (c : Cl) (a : Act) (w : World) : Prop :=
 ∃ (out : Nat) (m : Option Nat) (c1 : Cl), Kn a 162 [(1, .slice A L.length cc), (5, .bool true), (7, .pointer (some ⟨bcl, 0, none⟩)), (8, .int .i64 (i : Nat)), (10, .int .i64 (c.state)), (11, .int .i64 (out : Nat))] ∧ (out ≤ 2 ∧ (c.state = 0 → out = 0)) ∧ ClAt w bcl m c1 ∧ Below W.heap.size W w
set_option maxRecDepth 100000 in
set_option maxHeartbeats 4000000 in
theorem orders_all (w : World) (u : Int) (v : Value) (L : List Ac) (hr0 : ARow w v L) : Calls Tryz.prog 5 #[.int .i64 (u), v] w fun e w' => e = .returned (.bool true) ∧ Below w.heap.size w w' := by
 obtain ⟨A, cc, hvv⟩ := ARow.shape hr0
 subst hvv
 have hall := Below.refl w.heap.size w
 refine K_enter 162 Tryz.func5 rfl rfl fun a H => ?_
 replace H := H.pick [0, 1]
 refine zC (zD ?_)
 refine kR 1 H rfl fun a H => ?_
 refine zA (zB (zC (zD ?_)))
 refine wl_call _ _ _ (small_any _) (r_call0 cf11) ?_; rintro e w9 ⟨rfl, hb⟩; refine ⟨_, rfl, ?_⟩; replace hall := hall.tr hb; clear hb; refine kl H rfl fun a H => ?_
 refine kR 1 H rfl fun a H => ?_
 refine zA (zB (zC (zD ?_)))
 refine kR 1 H rfl fun a H => ?_
 refine wl_call _ _ _ (few_any _ _ L (ARow.up hr0 hall)) (r_call1 cf12 (H.ev rfl)) ?_; rintro e w9 ⟨⟨r, rfl, hfew⟩, hb⟩; refine ⟨_, rfl, ?_⟩; replace hall := hall.tr hb; clear hb; refine kl H rfl fun a H => ?_
 refine kR 1 H rfl fun a H => ?_
 refine zA (zB (zC (zC ?_)))
 cases r
 ·
  refine zD ?_
  refine kR 1 H rfl fun a H => ?_
  refine kV H (r_not (H.ev rfl) rfl) rfl fun a H => ?_
  refine zA (zB (zH H rfl (zC (zD ?_))))
  refine kR 2 H rfl fun a H => ?_
  refine zA (zB (zF (zJ ?_)))
  exact k_ret1 H rfl rfl ⟨rfl, hall⟩
 ·
  obtain ⟨hfl, hfb⟩ := hfew rfl
  refine zD ?_
  refine kR 1 H rfl fun a H => ?_
  refine kV H (r_not (H.ev rfl) rfl) rfl fun a H => ?_
  refine zA (zB (zG H rfl (zE (zB (zC (zD ?_))))))
  refine kR 1 H rfl fun a H => ?_
  refine wl_call _ _ _ (new_l _ (u) (clZ (clampU u)) rfl) (r_call1 cf13 (H.ev rfl)) ?_; rintro e w9 ⟨⟨bcl, rfl, hge, hcl⟩, hb⟩; refine ⟨_, rfl, ?_⟩; have ghcl : _ ≤ bcl := Nat.le_trans hall.size hge; replace hall := hall.tr hb; clear hb; clear hge; refine kl H rfl fun a H => ?_
  refine kR 1 H rfl fun a H => ?_
  refine zA (zB (zC (zC (zD ?_))))
  refine kR 1 H rfl fun a H => ?_
  refine kV H (r_eqpnil (H.ev rfl) rfl) rfl fun a H => ?_
  refine zA (zB (zG H rfl (zE (zB (zC (zC (zD ?_)))))))
  refine kR 1 H rfl fun a H => ?_
  refine zA (zB ?_)
  refine wp_block ?_
  refine wp_loop (Ror w bcl A cc L) (fun a _ => L.length - (intOf (a.eval (.tmp 8))).toNat) ⟨0, _, _, H.pick [1, 5, 7, 8], by omega, hcl, hall⟩ ?_
  clear H hall hcl
  rintro a w' ⟨i, m, c, H, hi, hcl, hall⟩
  have H0 := H
  have hr := hr0
  by_cases hlt : i < L.length
  ·
   obtain ⟨x, hx⟩ : ∃ x, L[i]? = some x := ⟨_, List.getElem?_eq_getElem hlt⟩
   obtain ⟨hxo, b, o, vb, hA, hvb, hrg⟩ := ARow.at hr hx
   subst hA
   have hok := hcl.ok
   have hst := hok.state
   have hol := hok.os
   have hoff := hok.off
   have hxb := hfb x (List.mem_of_getElem? hx)
   refine zC (zC (zD ?_))
   refine kR 2 H rfl fun a H => ?_
   refine kV H (r_len U22 (H.ev rfl)) rfl fun a H => ?_
   refine kV H (r_lt U3 (H.ev rfl) (H.ev rfl) (dec_t (by omega))) rfl fun a H => ?_
   refine zA (zB (zH H rfl (zE (zB (zC ?_)))))
   refine wp_block ?_
   refine zC (zD ?_)
   refine kR 1 H rfl fun a H => ?_
   refine wl_call _ _ _ (waits_l _ _ _ c ((c.os.length : Nat) : Int) hcl rfl) (r_call1 cf31 (H.ev rfl)) ?_; rintro e w9 ⟨rfl, hb⟩; refine ⟨_, rfl, ?_⟩; replace hcl := ClAt.up hcl hb; replace hall := hall.tr hb; clear hb; refine kl H rfl fun a H => ?_
   refine kR 1 H rfl fun a H => ?_
   refine zA (zB (zC (zD ?_)))
   refine kR 1 H rfl fun a H => ?_
   refine wl_call _ _ _ (state_l _ _ _ c c.state hcl rfl) (r_call1 cf27 (H.ev rfl)) ?_; rintro e w9 ⟨rfl, hb⟩; refine ⟨_, rfl, ?_⟩; replace hcl := ClAt.up hcl hb; replace hall := hall.tr hb; clear hb; refine kl H rfl fun a H => ?_
   refine kR 1 H rfl fun a H => ?_
   refine zA (zB (zC (zD ?_)))
   refine kR 1 H rfl fun a H => ?_
   refine zA (zB (zC (zC (zD ?_))))
   refine kR 2 H rfl fun a H => ?_
   refine kV (v := .pointer (some ⟨b, o + i * 59, none⟩)) H (r_idx (j := i) (q := o + i * 59) U22 s38 (H.ev rfl) (H.ev rfl) hlt rfl) rfl fun a H => ?_
   refine kV (v := .pointer (some ⟨b, o + i * 59 + 0, none⟩)) H (r_fld (q := o + i * 59 + 0) fld38_0 (H.ev rfl) rfl) rfl fun a H => ?_
   refine kV (v := .int .i64 (x.d)) H (r_ld U3 rfl (H.ev rfl) (range_cell (range_up hrg hall) 0 rfl)) rfl fun a H => ?_
   refine zA (zB ?_)
   refine wp_mid (Rom w bcl (some ⟨b, o, none⟩) cc L i c) ?_ ?_
   ·
    refine wp_block ?_
    refine zC (zD ?_)
    by_cases hcc0 : (x.d) = 0
    ·
     refine kV H (r_eq U3 (H.ev rfl) evc (dec_t (hcc0))) rfl fun a H => ?_
     refine kR 1 H rfl fun a H => ?_
     refine zA (zB (zH H rfl (zC ?_)))
     obtain ⟨hq1, hq2, hq3, hq4⟩ := tick_facts c
     refine zD ?_
     refine kR 1 H rfl fun a H => ?_
     refine wl_call _ _ _ (tick_l _ _ _ c (tickC c) (tickO c) ((tickO c).length) hcl rfl rfl rfl) (r_call1 cf15 (H.ev rfl)) ?_; rintro e w9 ⟨⟨A0, q0, rfl, B0, hB0, ho0⟩, hc9, hon⟩; refine ⟨_, rfl, ?_⟩; replace hall := ClAt.down hcl hall ghcl hall.size hon; clear hcl; have hcl := hc9; clear hc9 hon; clear ho0 hB0; refine kl H rfl fun a H => ?_
     refine kR 1 H rfl fun a H => ?_
     refine zA (zB (zC (zD ?_)))
     refine kR 1 H rfl fun a H => ?_
     refine kV H (r_len U29 (H.ev rfl)) rfl fun a H => ?_
     refine kR 1 H rfl fun a H => ?_
     refine zA (zB (zC (zD ?_)))
     refine kR 1 H rfl fun a H => ?_
     refine wl_call _ _ _ (waits_l _ _ _ (tickC c) (((tickC c).os.length : Nat) : Int) hcl rfl) (r_call1 cf31 (H.ev rfl)) ?_; rintro e w9 ⟨rfl, hb⟩; refine ⟨_, rfl, ?_⟩; replace hcl := ClAt.up hcl hb; replace hall := hall.tr hb; clear hb; refine kl H rfl fun a H => ?_
     refine kR 1 H rfl fun a H => ?_
     by_cases hcc1 : (((tickC c).os.length : Nat) : Int) ≠ ((c.os.length : Nat) : Int)
     ·
      refine kV H (r_ne U3 (H.ev rfl) (H.ev rfl) (dec_t (hcc1))) rfl fun a H => ?_
      refine kR 6 H rfl fun a H => ?_
      refine zA (zB (zH H rfl (zC (zD ?_))))
      refine kR 1 H rfl fun a H => ?_
      refine zA (zB (zF (r_block ?_)))
      exfalso; omega
     ·
      refine kV H (r_ne U3 (H.ev rfl) (H.ev rfl) (dec_f (hcc1))) rfl fun a H => ?_
      refine kR 2 H rfl fun a H => ?_
      refine kG H rfl ?_; refine wl_call _ _ _ (state_l _ _ _ (tickC c) ((tickC c).state) hcl rfl) (r_call1 cf27 (H.ev rfl)) ?_; rintro e w9 ⟨rfl, hb⟩; refine ⟨_, rfl, ?_⟩; replace hcl := ClAt.up hcl hb; replace hall := hall.tr hb; clear hb; refine kl H rfl fun a H => ?_
      refine kR 1 H rfl fun a H => ?_
      by_cases hcc2 : ((tickC c).state) ≠ c.state
      ·
       refine kW H rfl (r_ne U3 (H.ev rfl) (H.ev rfl) (dec_t (hcc2))) rfl fun a H => ?_
       refine kR 1 H rfl fun a H => ?_
       refine zA (zB (zH H rfl (zC (zD ?_))))
       refine kR 1 H rfl fun a H => ?_
       refine zA (zB (zF (r_block ?_)))
       exfalso; omega
      ·
       refine kW H rfl (r_ne U3 (H.ev rfl) (H.ev rfl) (dec_f (hcc2))) rfl fun a H => ?_
       refine kR 1 H rfl fun a H => ?_
       refine zA (zB (zG H rfl (zE (n_block ?_))))
       exact ⟨rfl, (tickO c).length, _, _, H.pick [1, 5, 7, 8, 10, 11], ⟨by omega, fun h => by omega⟩, hcl, hall⟩
    ·
     refine kV H (r_eq U3 (H.ev rfl) evc (dec_f (hcc0))) rfl fun a H => ?_
     refine kR 1 H rfl fun a H => ?_
     refine zA (zB (zG H rfl (zC (zD ?_))))
     by_cases hcc3 : (x.d) = 2
     ·
      refine kV H (r_eq U3 (H.ev rfl) evc (dec_t (hcc3))) rfl fun a H => ?_
      refine kR 1 H rfl fun a H => ?_
      refine zA (zB (zH H rfl (zD ?_)))
      refine kR 3 H rfl fun a H => ?_
      refine kV (v := .pointer (some ⟨b, o + i * 59, none⟩)) H (r_idx (j := i) (q := o + i * 59) U22 s38 (H.ev rfl) (H.ev rfl) hlt rfl) rfl fun a H => ?_
      refine kV (v := .pointer (some ⟨b, o + i * 59 + 1, none⟩)) H (r_fld (q := o + i * 59 + 1) fld38_1 (H.ev rfl) rfl) rfl fun a H => ?_
      refine kV (v := .int .i64 (x.n)) H (r_ld U3 rfl (H.ev rfl) (range_cell (range_up hrg hall) 1 rfl)) rfl fun a H => ?_
      refine wl_call _ _ _ (start_l _ _ _ c (startF c x.n) (x.n) (startB x.n) hcl rfl rfl) (r_call2 cf17 (H.ev rfl) (H.ev rfl)) ?_; rintro e w9 ⟨rfl, ⟨m9, hc9⟩, hon⟩; refine ⟨_, rfl, ?_⟩; replace hall := ClAt.down hcl hall ghcl hall.size hon; clear hcl; have hcl := hc9; clear hc9 hon; refine kl H rfl fun a H => ?_
      refine zA (n_block ?_)
      exact ⟨rfl, 0, _, _, H.pick [1, 5, 7, 8, 10, 11], ⟨by omega, fun h => by omega⟩, hcl, hall⟩
     ·
      refine kV H (r_eq U3 (H.ev rfl) evc (dec_f (hcc3))) rfl fun a H => ?_
      refine kR 1 H rfl fun a H => ?_
      refine zA (zB (zG H rfl (zC (zD ?_))))
      by_cases hcc4 : (x.d) = 3
      ·
       refine kV H (r_eq U3 (H.ev rfl) evc (dec_t (hcc4))) rfl fun a H => ?_
       refine kR 1 H rfl fun a H => ?_
       refine zA (zB (zH H rfl (zD ?_)))
       refine kR 1 H rfl fun a H => ?_
       refine wl_call _ _ _ (crash_l _ _ _ c hcl) (r_call1 cf19 (H.ev rfl)) ?_; rintro e w9 ⟨rfl, hc9, hon⟩; refine ⟨_, rfl, ?_⟩; replace hall := ClAt.down hcl hall ghcl hall.size hon; clear hcl; have hcl := hc9; clear hc9 hon; refine kl H rfl fun a H => ?_
       refine zA (n_block ?_)
       exact ⟨rfl, 0, _, _, H.pick [1, 5, 7, 8, 10, 11], ⟨by omega, fun h => by omega⟩, hcl, hall⟩
      ·
       refine kV H (r_eq U3 (H.ev rfl) evc (dec_f (hcc4))) rfl fun a H => ?_
       refine kR 1 H rfl fun a H => ?_
       refine zA (zB (zG H rfl (zC (zD ?_))))
       by_cases hcc5 : (x.d) = 4
       ·
        refine kV H (r_eq U3 (H.ev rfl) evc (dec_t (hcc5))) rfl fun a H => ?_
        refine kR 1 H rfl fun a H => ?_
        refine zA (zB (zH H rfl (zC ?_)))
        by_cases hno : orderNo c x.o
        ·
         have hor : decide (¬ orderNo c x.o) = false := decide_eq_false (fun h => h hno)
         have hq1 : (orderF c x.o).os.length = c.os.length := by rw [orderF, if_pos hno]
         refine zD ?_
         refine kR 3 H rfl fun a H => ?_
         refine kV (v := .pointer (some ⟨b, o + i * 59, none⟩)) H (r_idx (j := i) (q := o + i * 59) U22 s38 (H.ev rfl) (H.ev rfl) hlt rfl) rfl fun a H => ?_
         refine kV (v := .pointer (some ⟨b, o + i * 59 + 3, none⟩)) H (r_fld (q := o + i * 59 + 3) fld38_3 (H.ev rfl) rfl) rfl fun a H => ?_
         refine kV (v := .agg (cN x.o)) H (r_row (cs := [.int .i64 x.o.1, .int .i64 x.o.2.1, .int .i64 x.o.2.2.1, .int .i64 x.o.2.2.2]) (H.ev rfl) (ac_o (range_up hrg hall)) (by kernel_rfl) s32 rfl) rfl fun a H => ?_
         refine wl_call _ _ _ (order_l _ _ _ c (orderF c x.o) x.o false hcl hor rfl) (r_call2 cf21 (H.ev rfl) (H.ev rfl)) ?_; rintro e w9 ⟨rfl, hc9, hon⟩; refine ⟨_, rfl, ?_⟩; replace hall := ClAt.down hcl hall ghcl hall.size hon; clear hcl; have hcl := hc9; clear hc9 hon; refine kl H rfl fun a H => ?_
         refine kR 1 H rfl fun a H => ?_
         refine zA (zB (zC (zD ?_)))
         refine kR 2 H rfl fun a H => ?_
         refine wl_call _ _ _ (waits_l _ _ _ (orderF c x.o) (((orderF c x.o).os.length : Nat) : Int) hcl rfl) (r_call1 cf31 (H.ev rfl)) ?_; rintro e w9 ⟨rfl, hb⟩; refine ⟨_, rfl, ?_⟩; replace hcl := ClAt.up hcl hb; replace hall := hall.tr hb; clear hb; refine kl H rfl fun a H => ?_
         refine kR 1 H rfl fun a H => ?_
         refine kV H (r_add (q := ((c.os.length + 1 : Nat) : Int)) U3 (H.ev rfl) evc (by omega) (by omega)) rfl fun a H => ?_
         by_cases hcc6 : (((orderF c x.o).os.length : Nat) : Int) = ((c.os.length + 1 : Nat) : Int)
         ·
          refine kV H (r_eq U3 (H.ev rfl) (H.ev rfl) (dec_t (hcc6))) rfl fun a H => ?_
          refine kV (v := .bool true) H (r_nebool U4 (H.ev rfl) (H.ev rfl) rfl) rfl fun a H => ?_
          refine kR 17 H rfl fun a H => ?_
          refine zA (zB (zH H rfl (zC (zD ?_))))
          refine kR 1 H rfl fun a H => ?_
          refine zA (zB (zF (r_block ?_)))
          exfalso; omega
         ·
          refine kV H (r_eq U3 (H.ev rfl) (H.ev rfl) (dec_f (hcc6))) rfl fun a H => ?_
          refine kV (v := .bool false) H (r_nebool U4 (H.ev rfl) (H.ev rfl) rfl) rfl fun a H => ?_
          refine kR 2 H rfl fun a H => ?_
          refine kW H rfl (r_not (H.ev rfl) rfl) rfl fun a H => ?_
          refine kR 2 H rfl fun a H => ?_
          refine kG H rfl ?_; refine wl_call _ _ _ (waits_l _ _ _ (orderF c x.o) (((orderF c x.o).os.length : Nat) : Int) hcl rfl) (r_call1 cf31 (H.ev rfl)) ?_; rintro e w9 ⟨rfl, hb⟩; refine ⟨_, rfl, ?_⟩; replace hcl := ClAt.up hcl hb; replace hall := hall.tr hb; clear hb; refine kl H rfl fun a H => ?_
          refine kR 1 H rfl fun a H => ?_
          by_cases hcc7 : (((orderF c x.o).os.length : Nat) : Int) ≠ ((c.os.length : Nat) : Int)
          ·
           refine kW H rfl (r_ne U3 (H.ev rfl) (H.ev rfl) (dec_t (hcc7))) rfl fun a H => ?_
           refine kR 9 H rfl fun a H => ?_
           refine zA (zB (zH H rfl (zC (zD ?_))))
           refine kR 1 H rfl fun a H => ?_
           refine zA (zB (zF (r_block ?_)))
           exfalso; omega
          ·
           refine kW H rfl (r_ne U3 (H.ev rfl) (H.ev rfl) (dec_f (hcc7))) rfl fun a H => ?_
           refine kR 9 H rfl fun a H => ?_
           refine zA (zB (zG H rfl (zE (n_block ?_))))
           exact ⟨rfl, 0, _, _, H.pick [1, 5, 7, 8, 10, 11], ⟨by omega, fun h => by omega⟩, hcl, hall⟩
        ·
         have hor : decide (¬ orderNo c x.o) = true := decide_eq_true hno
         have hq1 : (orderF c x.o).os.length = c.os.length + 1 := by rw [orderF, if_neg hno]; simp
         have hq2 : c.state ≠ 0 := fun h => hno (.inl h)
         refine zD ?_
         refine kR 3 H rfl fun a H => ?_
         refine kV (v := .pointer (some ⟨b, o + i * 59, none⟩)) H (r_idx (j := i) (q := o + i * 59) U22 s38 (H.ev rfl) (H.ev rfl) hlt rfl) rfl fun a H => ?_
         refine kV (v := .pointer (some ⟨b, o + i * 59 + 3, none⟩)) H (r_fld (q := o + i * 59 + 3) fld38_3 (H.ev rfl) rfl) rfl fun a H => ?_
         refine kV (v := .agg (cN x.o)) H (r_row (cs := [.int .i64 x.o.1, .int .i64 x.o.2.1, .int .i64 x.o.2.2.1, .int .i64 x.o.2.2.2]) (H.ev rfl) (ac_o (range_up hrg hall)) (by kernel_rfl) s32 rfl) rfl fun a H => ?_
         refine wl_call _ _ _ (order_l _ _ _ c (orderF c x.o) x.o true hcl hor rfl) (r_call2 cf21 (H.ev rfl) (H.ev rfl)) ?_; rintro e w9 ⟨rfl, hc9, hon⟩; refine ⟨_, rfl, ?_⟩; replace hall := ClAt.down hcl hall ghcl hall.size hon; clear hcl; have hcl := hc9; clear hc9 hon; refine kl H rfl fun a H => ?_
         refine kR 1 H rfl fun a H => ?_
         refine zA (zB (zC (zD ?_)))
         refine kR 2 H rfl fun a H => ?_
         refine wl_call _ _ _ (waits_l _ _ _ (orderF c x.o) (((orderF c x.o).os.length : Nat) : Int) hcl rfl) (r_call1 cf31 (H.ev rfl)) ?_; rintro e w9 ⟨rfl, hb⟩; refine ⟨_, rfl, ?_⟩; replace hcl := ClAt.up hcl hb; replace hall := hall.tr hb; clear hb; refine kl H rfl fun a H => ?_
         refine kR 1 H rfl fun a H => ?_
         refine kV H (r_add (q := ((c.os.length + 1 : Nat) : Int)) U3 (H.ev rfl) evc (by omega) (by omega)) rfl fun a H => ?_
         by_cases hcc8 : (((orderF c x.o).os.length : Nat) : Int) = ((c.os.length + 1 : Nat) : Int)
         ·
          refine kV H (r_eq U3 (H.ev rfl) (H.ev rfl) (dec_t (hcc8))) rfl fun a H => ?_
          refine kV (v := .bool false) H (r_nebool U4 (H.ev rfl) (H.ev rfl) rfl) rfl fun a H => ?_
          refine kR 2 H rfl fun a H => ?_
          refine kW H rfl (r_not (H.ev rfl) rfl) rfl fun a H => ?_
          refine kR 11 H rfl fun a H => ?_
          by_cases hcc9 : c.state = 0
          ·
           refine kW H rfl (r_eq U3 (H.ev rfl) evc (dec_t (hcc9))) rfl fun a H => ?_
           refine kR 2 H rfl fun a H => ?_
           refine zA (zB (zH H rfl (zC (zD ?_))))
           refine kR 1 H rfl fun a H => ?_
           refine zA (zB (zF (r_block ?_)))
           exfalso; omega
          ·
           refine kW H rfl (r_eq U3 (H.ev rfl) evc (dec_f (hcc9))) rfl fun a H => ?_
           refine kR 2 H rfl fun a H => ?_
           refine zA (zB (zG H rfl (zE (n_block ?_))))
           exact ⟨rfl, 0, _, _, H.pick [1, 5, 7, 8, 10, 11], ⟨by omega, fun h => by omega⟩, hcl, hall⟩
         ·
          refine kV H (r_eq U3 (H.ev rfl) (H.ev rfl) (dec_f (hcc8))) rfl fun a H => ?_
          refine kV (v := .bool true) H (r_nebool U4 (H.ev rfl) (H.ev rfl) rfl) rfl fun a H => ?_
          refine kR 17 H rfl fun a H => ?_
          refine zA (zB (zH H rfl (zC (zD ?_))))
          refine kR 1 H rfl fun a H => ?_
          refine zA (zB (zF (r_block ?_)))
          exfalso; omega
       ·
        refine kV H (r_eq U3 (H.ev rfl) evc (dec_f (hcc5))) rfl fun a H => ?_
        refine kR 1 H rfl fun a H => ?_
        refine zA (zB (zG H rfl (zC ?_)))
        obtain ⟨hq1, hq2, hq3, hq4⟩ := step_facts (bs := inputF x) hok
        refine zD ?_
        refine kR 3 H rfl fun a H => ?_
        refine kV (v := .pointer (some ⟨b, o + i * 59, none⟩)) H (r_idx (j := i) (q := o + i * 59) U22 s38 (H.ev rfl) (H.ev rfl) hlt rfl) rfl fun a H => ?_
        refine kV (v := .agg (acV x vb)) H (r_row (cs := acL x vb) (H.ev rfl) (range_up hrg hall) (by kernel_rfl) (by rw [acL_len hxo]; exact s38) rfl) rfl fun a H => ?_
        refine wl_call _ _ _ (input_l _ x _ (inputF x) hxo (BRow.up hvb hall) rfl) (r_call1 cf24 (H.ev rfl)) ?_; rintro e w9 ⟨⟨v9, rfl, hv⟩, hb⟩; refine ⟨_, rfl, ?_⟩; replace hcl := ClAt.up hcl hb; replace hall := hall.tr hb; clear hb; refine kl H rfl fun a H => ?_
        refine wl_call _ _ _ (step_l _ _ _ c (stepC c (inputF x)) (stepO c (inputF x)) ((stepO c (inputF x)).length) hcl rfl _ (inputF x) hv (input_len hxo hxb) rfl rfl) (r_call2 cf23 (H.ev rfl) (H.ev rfl)) ?_; rintro e w9 ⟨⟨A1, q1, rfl, B1, hB1, ho1⟩, ⟨m9, hc9⟩, hon⟩; refine ⟨_, rfl, ?_⟩; clear hv; replace hall := ClAt.down hcl hall ghcl hall.size hon; clear hcl; have hcl := hc9; clear hc9 hon; clear ho1 hB1; refine kl H rfl fun a H => ?_
        refine kR 1 H rfl fun a H => ?_
        refine zA (zB (zC (zD ?_)))
        refine kR 1 H rfl fun a H => ?_
        refine kV H (r_len U29 (H.ev rfl)) rfl fun a H => ?_
        refine kR 1 H rfl fun a H => ?_
        refine zA (zB (zC (zD ?_)))
        refine kR 1 H rfl fun a H => ?_
        refine wl_call _ _ _ (waits_l _ _ _ (stepC c (inputF x)) (((stepC c (inputF x)).os.length : Nat) : Int) hcl rfl) (r_call1 cf31 (H.ev rfl)) ?_; rintro e w9 ⟨rfl, hb⟩; refine ⟨_, rfl, ?_⟩; replace hcl := ClAt.up hcl hb; replace hall := hall.tr hb; clear hb; refine kl H rfl fun a H => ?_
        refine kR 1 H rfl fun a H => ?_
        by_cases hcc10 : (((stepC c (inputF x)).os.length : Nat) : Int) > ((c.os.length : Nat) : Int)
        ·
         refine kV H (r_gt U3 (H.ev rfl) (H.ev rfl) (dec_t (hcc10))) rfl fun a H => ?_
         refine kR 12 H rfl fun a H => ?_
         refine zA (zB (zH H rfl (zC (zD ?_))))
         refine kR 1 H rfl fun a H => ?_
         refine zA (zB (zF (r_block ?_)))
         exfalso; omega
        ·
         refine kV H (r_gt U3 (H.ev rfl) (H.ev rfl) (dec_f (hcc10))) rfl fun a H => ?_
         refine kR 2 H rfl fun a H => ?_
         refine kG H rfl ?_; refine wl_call _ _ _ (state_l _ _ _ (stepC c (inputF x)) ((stepC c (inputF x)).state) hcl rfl) (r_call1 cf27 (H.ev rfl)) ?_; rintro e w9 ⟨rfl, hb⟩; refine ⟨_, rfl, ?_⟩; replace hcl := ClAt.up hcl hb; replace hall := hall.tr hb; clear hb; refine kl H rfl fun a H => ?_
         by_cases hcc11 : ((stepC c (inputF x)).state) ≠ 0
         ·
          refine kW H rfl (r_ne U3 (H.ev rfl) evc (dec_t (hcc11))) rfl fun a H => ?_
          refine kR 2 H rfl fun a H => ?_
          refine kG H rfl ?_; refine wl_call _ _ _ (waits_l _ _ _ (stepC c (inputF x)) (((stepC c (inputF x)).os.length : Nat) : Int) hcl rfl) (r_call1 cf31 (H.ev rfl)) ?_; rintro e w9 ⟨rfl, hb⟩; refine ⟨_, rfl, ?_⟩; replace hcl := ClAt.up hcl hb; replace hall := hall.tr hb; clear hb; refine kl H rfl fun a H => ?_
          refine kR 1 H rfl fun a H => ?_
          refine kW H rfl (r_sub (q := ((c.os.length : Nat) : Int) - 1) U3 (H.ev rfl) evc (by omega) (by omega)) rfl fun a H => ?_
          by_cases hcc12 : (((stepC c (inputF x)).os.length : Nat) : Int) < (((c.os.length : Nat) : Int) - 1)
          ·
           refine kW H rfl (r_lt U3 (H.ev rfl) (H.ev rfl) (dec_t (hcc12))) rfl fun a H => ?_
           refine kR 2 H rfl fun a H => ?_
           refine zA (zB (zH H rfl (zC (zD ?_))))
           refine kR 1 H rfl fun a H => ?_
           refine zA (zB (zF (r_block ?_)))
           exfalso; omega
          ·
           refine kW H rfl (r_lt U3 (H.ev rfl) (H.ev rfl) (dec_f (hcc12))) rfl fun a H => ?_
           refine kR 2 H rfl fun a H => ?_
           refine zA (zB (zG H rfl (zE (n_block ?_))))
           exact ⟨rfl, (stepO c (inputF x)).length, _, _, H.pick [1, 5, 7, 8, 10, 11], ⟨by omega, fun h => by omega⟩, hcl, hall⟩
         ·
          refine kW H rfl (r_ne U3 (H.ev rfl) evc (dec_f (hcc11))) rfl fun a H => ?_
          refine kR 8 H rfl fun a H => ?_
          refine zA (zB (zG H rfl (zE (n_block ?_))))
          exact ⟨rfl, (stepO c (inputF x)).length, _, _, H.pick [1, 5, 7, 8, 10, 11], ⟨by omega, fun h => by omega⟩, hcl, hall⟩
   ·
    clear H hall hcl
    rintro a w' ⟨out, m1, c1, H, ⟨ho2, ho0⟩, hcl, hall⟩
    have hok1 := hcl.ok
    have hst1 := hok1.state
    have hol1 := hok1.os
    have hss := sess_on hok1
    refine zB (zC (zD ?_))
    refine kR 1 H rfl fun a H => ?_
    refine wl_call _ _ _ (state_l _ _ _ c1 c1.state hcl rfl) (r_call1 cf27 (H.ev rfl)) ?_; rintro e w9 ⟨rfl, hb⟩; refine ⟨_, rfl, ?_⟩; replace hcl := ClAt.up hcl hb; replace hall := hall.tr hb; clear hb; refine kl H rfl fun a H => ?_
    refine kR 1 H rfl fun a H => ?_
    refine zA (zB (zC (zD ?_)))
    refine kR 1 H rfl fun a H => ?_
    by_cases hcc13 : ((out : Nat) : Int) > 2
    ·
     refine kV H (r_gt U3 (H.ev rfl) evc (dec_t (hcc13))) rfl fun a H => ?_
     refine kR 29 H rfl fun a H => ?_
     refine zA (zB (zH H rfl (zC (zD ?_))))
     refine kR 1 H rfl fun a H => ?_
     refine zA (zB (zF (r_block (zJ (zJ (r_block (zJ ?_)))))))
     exfalso; omega
    ·
     refine kV H (r_gt U3 (H.ev rfl) evc (dec_f (hcc13))) rfl fun a H => ?_
     refine kR 2 H rfl fun a H => ?_
     by_cases hcc14 : (c.state) = 0
     ·
      refine kW H rfl (r_eq U3 (H.ev rfl) evc (dec_t (hcc14))) rfl fun a H => ?_
      refine kR 2 H rfl fun a H => ?_
      by_cases hcc15 : ((out : Nat) : Int) > 0
      ·
       refine kW H rfl (r_gt U3 (H.ev rfl) evc (dec_t (hcc15))) rfl fun a H => ?_
       refine kR 23 H rfl fun a H => ?_
       refine zA (zB (zH H rfl (zC (zD ?_))))
       refine kR 1 H rfl fun a H => ?_
       refine zA (zB (zF (r_block (zJ (zJ (r_block (zJ ?_)))))))
       exfalso; omega
      ·
       refine kW H rfl (r_gt U3 (H.ev rfl) evc (dec_f (hcc15))) rfl fun a H => ?_
       refine kR 4 H rfl fun a H => ?_
       refine kG H rfl ?_; refine wl_call _ _ _ (waits_l _ _ _ c1 ((c1.os.length : Nat) : Int) hcl rfl) (r_call1 cf31 (H.ev rfl)) ?_; rintro e w9 ⟨rfl, hb⟩; refine ⟨_, rfl, ?_⟩; replace hcl := ClAt.up hcl hb; replace hall := hall.tr hb; clear hb; refine kl H rfl fun a H => ?_
       by_cases hcc16 : ((c1.os.length : Nat) : Int) > 8
       ·
        refine kW H rfl (r_gt U3 (H.ev rfl) evc (dec_t (hcc16))) rfl fun a H => ?_
        refine kR 17 H rfl fun a H => ?_
        refine zA (zB (zH H rfl (zC (zD ?_))))
        refine kR 1 H rfl fun a H => ?_
        refine zA (zB (zF (r_block (zJ (zJ (r_block (zJ ?_)))))))
        exfalso; omega
       ·
        refine kW H rfl (r_gt U3 (H.ev rfl) evc (dec_f (hcc16))) rfl fun a H => ?_
        refine kR 3 H rfl fun a H => ?_
        by_cases hcc17 : c1.state < 0
        ·
         refine kW H rfl (r_lt U3 (H.ev rfl) evc (dec_t (hcc17))) rfl fun a H => ?_
         refine kR 13 H rfl fun a H => ?_
         refine zA (zB (zH H rfl (zC (zD ?_))))
         refine kR 1 H rfl fun a H => ?_
         refine zA (zB (zF (r_block (zJ (zJ (r_block (zJ ?_)))))))
         exfalso; omega
        ·
         refine kW H rfl (r_lt U3 (H.ev rfl) evc (dec_f (hcc17))) rfl fun a H => ?_
         refine kR 3 H rfl fun a H => ?_
         by_cases hcc18 : c1.state > 3
         ·
          refine kW H rfl (r_gt U3 (H.ev rfl) evc (dec_t (hcc18))) rfl fun a H => ?_
          refine kR 9 H rfl fun a H => ?_
          refine zA (zB (zH H rfl (zC (zD ?_))))
          refine kR 1 H rfl fun a H => ?_
          refine zA (zB (zF (r_block (zJ (zJ (r_block (zJ ?_)))))))
          exfalso; omega
         ·
          refine kW H rfl (r_gt U3 (H.ev rfl) evc (dec_f (hcc18))) rfl fun a H => ?_
          refine kR 3 H rfl fun a H => ?_
          refine kG H rfl ?_; refine wl_call _ _ _ (sess_l _ _ _ c1 (sessF c1) hcl rfl) (r_call1 cf29 (H.ev rfl)) ?_; rintro e w9 ⟨rfl, hb⟩; refine ⟨_, rfl, ?_⟩; replace hcl := ClAt.up hcl hb; replace hall := hall.tr hb; clear hb; refine kl H rfl fun a H => ?_
          by_cases hcc19 : (sessF c1) > 0
          ·
           refine kW H rfl (r_gt U3 (H.ev rfl) evc (dec_t (hcc19))) rfl fun a H => ?_
           refine kR 1 H rfl fun a H => ?_
           by_cases hcc20 : c1.state = 3
           ·
            refine kW H rfl (r_eq U3 (H.ev rfl) evc (dec_t (hcc20))) rfl fun a H => ?_
            refine kG H rfl ?_; refine kV (v := .bool false) H (r_nebool U4 (H.ev rfl) (H.ev rfl) rfl) rfl fun a H => ?_
            refine kR 1 H rfl fun a H => ?_
            refine zA (zB (zG H rfl (zE (n_block (zB (zD ?_))))))
            refine kR 1 H rfl fun a H => ?_
            refine kV H (r_add (q := ((i + 1 : Nat) : Int)) U3 (H.ev rfl) evc (by omega) (by omega)) rfl fun a H => ?_
            refine kR 1 H rfl fun a H => ?_
            refine zA ?_
            refine zI ⟨⟨i + 1, _, _, H.pick [1, 5, 7, 8], by omega, hcl, hall⟩, ?_⟩
            rw [H.ev (j := 8) rfl, H0.ev (j := 8) rfl]
            simp only [intOf]
            omega
           ·
            refine kW H rfl (r_eq U3 (H.ev rfl) evc (dec_f (hcc20))) rfl fun a H => ?_
            refine kG H rfl ?_; refine kV (v := .bool true) H (r_nebool U4 (H.ev rfl) (H.ev rfl) rfl) rfl fun a H => ?_
            refine kR 1 H rfl fun a H => ?_
            refine zA (zB (zH H rfl (zC (zD ?_))))
            refine kR 1 H rfl fun a H => ?_
            refine zA (zB (zF (r_block (zJ (zJ (r_block (zJ ?_)))))))
            exfalso; omega
          ·
           refine kW H rfl (r_gt U3 (H.ev rfl) evc (dec_f (hcc19))) rfl fun a H => ?_
           refine kR 1 H rfl fun a H => ?_
           by_cases hcc21 : c1.state = 3
           ·
            refine kW H rfl (r_eq U3 (H.ev rfl) evc (dec_t (hcc21))) rfl fun a H => ?_
            refine kG H rfl ?_; refine kV (v := .bool true) H (r_nebool U4 (H.ev rfl) (H.ev rfl) rfl) rfl fun a H => ?_
            refine kR 1 H rfl fun a H => ?_
            refine zA (zB (zH H rfl (zC (zD ?_))))
            refine kR 1 H rfl fun a H => ?_
            refine zA (zB (zF (r_block (zJ (zJ (r_block (zJ ?_)))))))
            exfalso; omega
           ·
            refine kW H rfl (r_eq U3 (H.ev rfl) evc (dec_f (hcc21))) rfl fun a H => ?_
            refine kG H rfl ?_; refine kV (v := .bool false) H (r_nebool U4 (H.ev rfl) (H.ev rfl) rfl) rfl fun a H => ?_
            refine kR 1 H rfl fun a H => ?_
            refine zA (zB (zG H rfl (zE (n_block (zB (zD ?_))))))
            refine kR 1 H rfl fun a H => ?_
            refine kV H (r_add (q := ((i + 1 : Nat) : Int)) U3 (H.ev rfl) evc (by omega) (by omega)) rfl fun a H => ?_
            refine kR 1 H rfl fun a H => ?_
            refine zA ?_
            refine zI ⟨⟨i + 1, _, _, H.pick [1, 5, 7, 8], by omega, hcl, hall⟩, ?_⟩
            rw [H.ev (j := 8) rfl, H0.ev (j := 8) rfl]
            simp only [intOf]
            omega
     ·
      refine kW H rfl (r_eq U3 (H.ev rfl) evc (dec_f (hcc14))) rfl fun a H => ?_
      refine kR 7 H rfl fun a H => ?_
      refine kG H rfl ?_; refine wl_call _ _ _ (waits_l _ _ _ c1 ((c1.os.length : Nat) : Int) hcl rfl) (r_call1 cf31 (H.ev rfl)) ?_; rintro e w9 ⟨rfl, hb⟩; refine ⟨_, rfl, ?_⟩; replace hcl := ClAt.up hcl hb; replace hall := hall.tr hb; clear hb; refine kl H rfl fun a H => ?_
      by_cases hcc22 : ((c1.os.length : Nat) : Int) > 8
      ·
       refine kW H rfl (r_gt U3 (H.ev rfl) evc (dec_t (hcc22))) rfl fun a H => ?_
       refine kR 17 H rfl fun a H => ?_
       refine zA (zB (zH H rfl (zC (zD ?_))))
       refine kR 1 H rfl fun a H => ?_
       refine zA (zB (zF (r_block (zJ (zJ (r_block (zJ ?_)))))))
       exfalso; omega
      ·
       refine kW H rfl (r_gt U3 (H.ev rfl) evc (dec_f (hcc22))) rfl fun a H => ?_
       refine kR 3 H rfl fun a H => ?_
       by_cases hcc23 : c1.state < 0
       ·
        refine kW H rfl (r_lt U3 (H.ev rfl) evc (dec_t (hcc23))) rfl fun a H => ?_
        refine kR 13 H rfl fun a H => ?_
        refine zA (zB (zH H rfl (zC (zD ?_))))
        refine kR 1 H rfl fun a H => ?_
        refine zA (zB (zF (r_block (zJ (zJ (r_block (zJ ?_)))))))
        exfalso; omega
       ·
        refine kW H rfl (r_lt U3 (H.ev rfl) evc (dec_f (hcc23))) rfl fun a H => ?_
        refine kR 3 H rfl fun a H => ?_
        by_cases hcc24 : c1.state > 3
        ·
         refine kW H rfl (r_gt U3 (H.ev rfl) evc (dec_t (hcc24))) rfl fun a H => ?_
         refine kR 9 H rfl fun a H => ?_
         refine zA (zB (zH H rfl (zC (zD ?_))))
         refine kR 1 H rfl fun a H => ?_
         refine zA (zB (zF (r_block (zJ (zJ (r_block (zJ ?_)))))))
         exfalso; omega
        ·
         refine kW H rfl (r_gt U3 (H.ev rfl) evc (dec_f (hcc24))) rfl fun a H => ?_
         refine kR 3 H rfl fun a H => ?_
         refine kG H rfl ?_; refine wl_call _ _ _ (sess_l _ _ _ c1 (sessF c1) hcl rfl) (r_call1 cf29 (H.ev rfl)) ?_; rintro e w9 ⟨rfl, hb⟩; refine ⟨_, rfl, ?_⟩; replace hcl := ClAt.up hcl hb; replace hall := hall.tr hb; clear hb; refine kl H rfl fun a H => ?_
         by_cases hcc25 : (sessF c1) > 0
         ·
          refine kW H rfl (r_gt U3 (H.ev rfl) evc (dec_t (hcc25))) rfl fun a H => ?_
          refine kR 1 H rfl fun a H => ?_
          by_cases hcc26 : c1.state = 3
          ·
           refine kW H rfl (r_eq U3 (H.ev rfl) evc (dec_t (hcc26))) rfl fun a H => ?_
           refine kG H rfl ?_; refine kV (v := .bool false) H (r_nebool U4 (H.ev rfl) (H.ev rfl) rfl) rfl fun a H => ?_
           refine kR 1 H rfl fun a H => ?_
           refine zA (zB (zG H rfl (zE (n_block (zB (zD ?_))))))
           refine kR 1 H rfl fun a H => ?_
           refine kV H (r_add (q := ((i + 1 : Nat) : Int)) U3 (H.ev rfl) evc (by omega) (by omega)) rfl fun a H => ?_
           refine kR 1 H rfl fun a H => ?_
           refine zA ?_
           refine zI ⟨⟨i + 1, _, _, H.pick [1, 5, 7, 8], by omega, hcl, hall⟩, ?_⟩
           rw [H.ev (j := 8) rfl, H0.ev (j := 8) rfl]
           simp only [intOf]
           omega
          ·
           refine kW H rfl (r_eq U3 (H.ev rfl) evc (dec_f (hcc26))) rfl fun a H => ?_
           refine kG H rfl ?_; refine kV (v := .bool true) H (r_nebool U4 (H.ev rfl) (H.ev rfl) rfl) rfl fun a H => ?_
           refine kR 1 H rfl fun a H => ?_
           refine zA (zB (zH H rfl (zC (zD ?_))))
           refine kR 1 H rfl fun a H => ?_
           refine zA (zB (zF (r_block (zJ (zJ (r_block (zJ ?_)))))))
           exfalso; omega
         ·
          refine kW H rfl (r_gt U3 (H.ev rfl) evc (dec_f (hcc25))) rfl fun a H => ?_
          refine kR 1 H rfl fun a H => ?_
          by_cases hcc27 : c1.state = 3
          ·
           refine kW H rfl (r_eq U3 (H.ev rfl) evc (dec_t (hcc27))) rfl fun a H => ?_
           refine kG H rfl ?_; refine kV (v := .bool true) H (r_nebool U4 (H.ev rfl) (H.ev rfl) rfl) rfl fun a H => ?_
           refine kR 1 H rfl fun a H => ?_
           refine zA (zB (zH H rfl (zC (zD ?_))))
           refine kR 1 H rfl fun a H => ?_
           refine zA (zB (zF (r_block (zJ (zJ (r_block (zJ ?_)))))))
           exfalso; omega
          ·
           refine kW H rfl (r_eq U3 (H.ev rfl) evc (dec_f (hcc27))) rfl fun a H => ?_
           refine kG H rfl ?_; refine kV (v := .bool false) H (r_nebool U4 (H.ev rfl) (H.ev rfl) rfl) rfl fun a H => ?_
           refine kR 1 H rfl fun a H => ?_
           refine zA (zB (zG H rfl (zE (n_block (zB (zD ?_))))))
           refine kR 1 H rfl fun a H => ?_
           refine kV H (r_add (q := ((i + 1 : Nat) : Int)) U3 (H.ev rfl) evc (by omega) (by omega)) rfl fun a H => ?_
           refine kR 1 H rfl fun a H => ?_
           refine zA ?_
           refine zI ⟨⟨i + 1, _, _, H.pick [1, 5, 7, 8], by omega, hcl, hall⟩, ?_⟩
           rw [H.ev (j := 8) rfl, H0.ev (j := 8) rfl]
           simp only [intOf]
           omega
  ·
   obtain rfl : i = L.length := by omega
   refine zC (zC (zD ?_))
   refine kR 2 H rfl fun a H => ?_
   refine kV H (r_len U22 (H.ev rfl)) rfl fun a H => ?_
   refine kV H (r_lt U3 (H.ev rfl) (H.ev rfl) (dec_f (by omega))) rfl fun a H => ?_
   refine zA (zB (zG H rfl (wp_exit (e_then (e_then ?_)))))
   refine e_here ?_
   refine zB (zC (zD ?_))
   refine kR 2 H rfl fun a H => ?_
   refine zA (zB (zF ?_))
   exact k_ret1 H rfl rfl ⟨rfl, hall⟩
set_option maxRecDepth 100000 in
theorem clientOrders_lifted (os : Os) (started : os.Started) (H : Type) (enc : TypeId × Value → H) :
  ReturnsInHanded {} Tryz.checked os 5 .any (Rows.clientOrdersSpec.pre6 enc Tryz.prog Tryz.f5 Rows.clientOrdersRow.domain false) (Rows.clientOrdersSpec.post enc Tryz.prog Tryz.f5 false true false false) := by
 refine returnsInHanded_of_change (C := Tryz.checked) own started (by kernel_rfl) Tryz.func5
  (ChangeSpec.witness6 (enc := enc) (C := Tryz.checked) false ⟨#[], #[.int .i64 0, .slice none 0 0], []⟩ 8 (by kernel_rfl) (by kernel_rfl) (by kernel_rfl) (by kernel_rfl)) ?_
 intro W base args ds gs before hval0 hW hcnd _
 have hval : ∀ (j : Nat) t v, Tryz.f5.params[j]? = some t → args[j]? = some v → Value.okWide Tryz.prog W .any base t v := hval0
 have hW' := hW
 obtain ⟨p, q, hA0, hV, rfl, hfz, hnd⟩ := hW
 have hA : DataW.TrodAll enc Tryz.prog W 0 (fun _ => true) true Tryz.f5.params.toList args.toList ds p := hA0
 rw [Tryz.params5] at hA hval
 obtain ⟨v0, vs0, d0, ds0, p0, q0, hargs, rfl, rfl, h0, r0⟩ := trodAll_cons hA
 obtain ⟨v1, vs1, d1, ds1, p1, q1, rfl, rfl, rfl, h1, r1⟩ := trodAll_cons r0
 obtain ⟨rfl, rfl, rfl⟩ := trodAll_nil r1
 obtain rfl : args = #[v0, v1] := by cases args; simp_all
 obtain ⟨rfl, rfl⟩ := trodVars_none hV
 have k1 := h1
 have lt1 : ∀ x ∈ p1, x.block < W.heap.size := by obtain ⟨m, hm⟩ := k1; exact DataW.trod_lt m _ _ _ hm
 obtain ⟨u0, rfl, rfl, rfl, wu0⟩ := open_int U3 (hval 0 3 v0 rfl rfl) h0
 obtain ⟨L1, hL1⟩ := open_acts (hval 1 22 v1 rfl rfl) h1
 clear hA0 hval0
 refine (orders_all W u0 v1 L1 hL1).mono fun e W' ⟨he, bel⟩ => ?_
 subst he
 exact ⟨_, rfl, _, _, _, [], _, [], hW', trodAll_mk1 (shut_bool U4 _), (trodAll_cons_mk (shut_int U3 wu0) (trodAll_cons_mk (Below.trod laidOut (by kernel_rfl) (of_decide_eq_true (by kernel_rfl)) k1 bel lt1) trodAll_mk0)), rfl, bel.frame _, fun h => by cases h⟩
theorem clientOrders_holds : Rows.ClientOrdersSaid :=
 OpenClaim.holds_of_wide 5 Tryz.f5 rfl rfl rfl rfl rfl rfl rfl ⟨rfl, rfl, rfl, rfl, rfl⟩ rfl rfl rfl rfl rfl (by kernel_rfl) Tryz.func5 (by kernel_rfl)
  (of_decide_eq_true (by kernel_rfl)) (by unfold Func.isWrapper; first | (rw [if_pos (by decide +kernel)]; kernel_rfl) | (rw [if_neg (by decide +kernel)]; exact ⟨rfl, rfl⟩))
  (fun os started H enc _ => clientOrders_lifted os started H enc)
#print axioms clientOrders_holds
end
end Go.Proofs.YtbnmpoonkjlkjaaGreat
