/- Client: part ZRv of the proof. -/
import Derived.Test.YtbnmpoonkjlkjaaGreatXZVp
import Derived.ChangeSame
import Derived.ChangeOld
namespace Go.Proofs.YtbnmpoonkjlkjaaGreat
open Go.RowKit
set_option linter.unusedVariables false
set_option linter.unusedSimpArgs false
section
open Go.ChangeShapes Go.WideShapes Go.ChangeAt Go.Maps
theorem below_tr {a b c : World} (h : Below a.heap.size a b) (hb : Below b.heap.size b c) : Below a.heap.size a c := h.trans (hb.mono h.size)
theorem good38_l (w : World) (k : List B8) (p : Pkt) (r : Bool) (hk : k.length = 16) (hp : p.ok) (hr : goodF k p = r) : Calls Tryz.prog 38 #[.agg (barr k), .agg (pv p)] w fun e w' => e = .returned (.bool r) ∧ Below w.heap.size w w' := by
 subst hr
 exact good_any w k p hk hp
def Rva (W : World) (bcl b8 : Nat) (A : Option Addr) (cc : Nat) (L : List Ac) (a : Act) (w : World) : Prop :=
 ∃ (i : Nat) (m : Option Nat) (c : Cl) (K : List B8), Kn a 182 [(1, .slice A L.length cc), (5, .bool true), (7, .pointer (some ⟨bcl, 0, none⟩)), (8, .pointer (some ⟨b8, 0, none⟩)), (9, .int .i64 (i : Nat))] ∧ i ≤ L.length ∧ K.length = 16 ∧ (c.state = 3 → K = c.key) ∧ ClAt w bcl m c ∧ Block w b8 33 (barr K) ∧ Below W.heap.size W w
def RvA (W0 : World) (bcl b8 : Nat) (A : Option Addr) (cc : Nat) (L : List Ac) (i : Nat) (c : Cl) (a : Act) (w : World) : Prop :=
 ∃ (j : Nat) (v : Value), Kn a 182 [(1, .slice A L.length cc), (5, .bool true), (7, .pointer (some ⟨bcl, 0, none⟩)), (8, .pointer (some ⟨b8, 0, none⟩)), (9, .int .i64 (i : Nat)), (10, v), (11, .int .i64 (j + 1 : Nat))] ∧ j ≤ 16 ∧ NOwn w W0.heap.size v (wasL c j) ∧ Below W0.heap.size W0 w
/-- behind an act: c1, its key K1, was it begun anew, and what came -/
structure VM (w : World) (bcl b8 b17 B : Nat) (c c1 : Cl) (m1 : Option Nat) (K1 : List B8) (fresh : Bool) (p : Pkt) (v : Value) : Prop where
 len : K1.length = 16
 key : c1.state = 3 → K1 = c1.key
 ok : p.ok
 new : fresh = true → (∀ u, c1.vw u = none) ∧ c1.os.length = 0
 old : fresh = false → ∀ u, seen c1 u = seen c u ∨ Told c c1 K1 p u
 cl : ClAt w bcl m1 c1
 row : NOwn w B v (wasL c 16)
 k8 : Block w b8 33 (barr K1)
 k17 : Block w b17 36 (pv p)
def Rvm (W : World) (bcl b8 b17 B : Nat) (A : Option Addr) (cc : Nat) (L : List Ac) (i : Nat) (c : Cl) (Av : Option Addr) (cv : Nat) (a : Act) (w : World) : Prop :=
 ∃ (c1 : Cl) (m1 : Option Nat) (K1 : List B8) (fresh : Bool) (p : Pkt), Kn a 182 [(1, .slice A L.length cc), (5, .bool true), (7, .pointer (some ⟨bcl, 0, none⟩)), (8, .pointer (some ⟨b8, 0, none⟩)), (9, .int .i64 (i : Nat)), (10, .slice Av (wasL c 16).length cv), (14, .int .i64 (c.state)), (15, .int .i64 (sessF c)), (16, .bool fresh), (17, .pointer (some ⟨b17, 0, none⟩))] ∧ VM w bcl b8 b17 B c c1 m1 K1 fresh p (.slice Av (wasL c 16).length cv) ∧ Below W.heap.size W w
def Rvb (W : World) (bcl b8 b17 B : Nat) (A : Option Addr) (cc : Nat) (L : List Ac) (i : Nat) (c c1 : Cl) (m1 : Option Nat) (K1 : List B8) (fresh : Bool) (p : Pkt) (Av : Option Addr) (cv : Nat) (a : Act) (w : World) : Prop :=
 ∃ j : Nat, Kn a 182 [(1, .slice A L.length cc), (5, .bool true), (7, .pointer (some ⟨bcl, 0, none⟩)), (8, .pointer (some ⟨b8, 0, none⟩)), (9, .int .i64 (i : Nat)), (10, .slice Av (wasL c 16).length cv), (14, .int .i64 (c.state)), (15, .int .i64 (sessF c)), (16, .bool fresh), (17, .pointer (some ⟨b17, 0, none⟩)), (18, .int .i64 (j + 1 : Nat))] ∧ j ≤ 16 ∧ VM w bcl b8 b17 B c c1 m1 K1 fresh p (.slice Av (wasL c 16).length cv) ∧ Below W.heap.size W w
theorem VM.up {w w' : World} {bcl b8 b17 B : Nat} {c c1 : Cl} {m1 : Option Nat} {K1 : List B8} {fresh : Bool} {p : Pkt} {v : Value} (h : VM w bcl b8 b17 B c c1 m1 K1 fresh p v) (hb : Below w.heap.size w w') : VM w' bcl b8 b17 B c c1 m1 K1 fresh p v :=
 ⟨h.len, h.key, h.ok, h.new, h.old, h.cl.up hb, own_ups h.row hb, h.k8.ups hb, h.k17.ups hb⟩
set_option maxRecDepth 100000 in
set_option maxHeartbeats 4000000 in
theorem views_all (w : World) (u : Int) (v : Value) (L : List Ac) (hr0 : ARow w v L) : Calls Tryz.prog 4 #[.int .i64 (u), v] w fun e w' => e = .returned (.bool true) ∧ Below w.heap.size w w' := by
 obtain ⟨A, cc, hvv⟩ := ARow.shape hr0
 subst hvv
 have hall := Below.refl w.heap.size w
 refine K_enter 182 Tryz.func4 rfl rfl fun a H => ?_
 replace H := H.pick [0, 1]
 refine zC (zD ?_)
 refine kR 1 H rfl fun a H => ?_
 refine zA (zB (zC (zD ?_)))
 refine wl_call _ _ _ (small_any _) (r_call0 cf11) ?_; rintro e w9 ⟨rfl, hb⟩; refine ⟨_, rfl, ?_⟩; replace hall := hall.tr hb; clear hb; refine kl H rfl fun a H => ?_
 refine kR 1 H rfl fun a H => ?_
 refine zA (zB (zC (zD ?_)))
 refine kR 1 H rfl fun a H => ?_
 refine wl_call _ _ _ (few_any _ _ L (ARow.up hr0 hall)) (r_call1 cf12 (H.ev rfl)) ?_; rintro e w9 ⟨⟨r, rfl, hfew⟩, hb⟩; refine ⟨_, rfl, ?_⟩; replace hall := hall.tr hb; clear hb; refine kl H rfl fun a H => ?_
 refine kR 1 H rfl fun a H => ?_
 refine zA (zB (zC (zC ?_)))
 cases r
 ·
  refine zD ?_
  refine kR 1 H rfl fun a H => ?_
  refine kV H (r_not (H.ev rfl) rfl) rfl fun a H => ?_
  refine zA (zB (zH H rfl (zC (zD ?_))))
  refine kR 2 H rfl fun a H => ?_
  refine zA (zB (zF (zJ ?_)))
  exact k_ret1 H rfl rfl ⟨rfl, hall⟩
 ·
  obtain ⟨hfl, hfb⟩ := hfew rfl
  refine zD ?_
  refine kR 1 H rfl fun a H => ?_
  refine kV H (r_not (H.ev rfl) rfl) rfl fun a H => ?_
  refine zA (zB (zG H rfl (zE (zB (zC (zD ?_))))))
  refine kR 1 H rfl fun a H => ?_
  refine wl_call _ _ _ (new_l _ (u) (clZ (clampU u)) rfl) (r_call1 cf13 (H.ev rfl)) ?_; rintro e w9 ⟨⟨bcl, rfl, hge, hcl⟩, hb⟩; refine ⟨_, rfl, ?_⟩; have ghcl : _ ≤ bcl := Nat.le_trans hall.size hge; replace hall := hall.tr hb; clear hb; clear hge; refine kl H rfl fun a H => ?_
  refine kR 1 H rfl fun a H => ?_
  refine zA (zB (zC (zC (zD ?_))))
  refine kR 1 H rfl fun a H => ?_
  refine kV H (r_eqpnil (H.ev rfl) rfl) rfl fun a H => ?_
  refine zA (zB (zG H rfl (zE (zB (zC (zD ?_))))))
  refine op_alloc 33 (barr (List.replicate 16 0)) z33 fun w8 b8 hge hb k8 => ?_; have g8 := Nat.le_trans hall.size hge; have dhcl_8 : bcl < b8 := Nat.lt_of_lt_of_le hcl.lt hge; replace hcl := ClAt.up hcl hb; replace hall := hall.tr hb; clear hb; clear hge; refine kl H rfl fun a H => ?_
  refine zA (zB (zC (zC (zD ?_))))
  refine kR 1 H rfl fun a H => ?_
  refine zA (zB ?_)
  refine wp_block ?_
  refine wp_loop (Rva w bcl b8 A cc L) (fun a _ => L.length - (intOf (a.eval (.tmp 9))).toNat) ⟨0, _, _, List.replicate 16 0, H.pick [1, 5, 7, 8, 9], by omega, rfl, (fun h => absurd (show (0 : Int) = 3 from h) (by decide)), hcl, k8, hall⟩ ?_
  clear H hall hcl k8
  rintro a w' ⟨i, m, c, K, H, hi, hK, hkey, hcl, k8, hall⟩
  have H0 := H
  have hr := hr0
  by_cases hlt : i < L.length
  ·
   obtain ⟨x, hx⟩ : ∃ x, L[i]? = some x := ⟨_, List.getElem?_eq_getElem hlt⟩
   obtain ⟨hxo, b, o, vb, hA, hvb, hrg⟩ := ARow.at hr hx
   subst hA
   have hok := hcl.ok
   have hxb := hfb x (List.mem_of_getElem? hx)
   refine zC (zC (zD ?_))
   refine kR 2 H rfl fun a H => ?_
   refine kV H (r_len U22 (H.ev rfl)) rfl fun a H => ?_
   refine kV H (r_lt U3 (H.ev rfl) (H.ev rfl) (dec_t (by omega))) rfl fun a H => ?_
   refine zA (zB (zH H rfl (zE (zB (zC ?_)))))
   refine wp_block ?_
   refine zC (zD ?_)
   refine kR 1 H rfl fun a H => ?_
   refine zA (zB (zC (zC (zD ?_))))
   refine kR 1 H rfl fun a H => ?_
   refine zA (zB ?_)
   refine wp_block ?_
   have hallA := hall
   have hclA : ClAt (BelowTo hallA) bcl m c := hcl
   have k8A : Block (BelowTo hallA) b8 33 (barr K) := k8
   have hallW : Below w.heap.size w (BelowTo hallA) := hall
   refine wp_loop (RvA (BelowTo hallA) bcl b8 (some ⟨b, o, none⟩) cc L i c) (fun a _ => 17 - (intOf (a.eval (.tmp 11))).toNat) ⟨0, .slice none 0 0, H.pick [1, 5, 7, 8, 9, 10, 11], by omega, World.ownsRow_nil _ _ _ _, Below.refl _ _⟩ ?_
   clear H hall hcl k8
   rintro a w' ⟨j, v, H, hj, hrow, hall⟩
   have H1 := H
   have hcl := ClAt.up hclA hall
   have k8 := Block.ups k8A hall
   by_cases hj6 : j < 16
   ·
    obtain ⟨y, hy⟩ : ∃ y, seen c ((j + 1 : Nat) : Int) = y := ⟨_, rfl⟩
    obtain ⟨ok, hok2⟩ : ∃ ok, (c.vw ((j + 1 : Nat) : Int)).isSome = ok := ⟨_, rfl⟩
    refine zC (zC (zD ?_))
    refine kR 1 H rfl fun a H => ?_
    refine kV H (r_le U3 (H.ev rfl) evc (dec_t (by omega))) rfl fun a H => ?_
    refine zA (zB (zH H rfl (zE (zB (zC ?_)))))
    refine wp_block ?_
    refine zC (zD ?_)
    refine kR 2 H rfl fun a H => ?_
    refine wl_call _ _ _ (view_l _ _ _ c ((j + 1 : Nat) : Int) y ok hcl (by omega) hy hok2) (r_call2 cf35 (H.ev rfl) (H.ev rfl)) ?_; rintro e w9 ⟨rfl, hb⟩; refine ⟨_, rfl, ?_⟩; replace hcl := ClAt.up hcl hb; replace k8 := Block.ups k8 hb; replace hrow := own_ups hrow hb; replace hall := hall.tr hb; clear hb; refine kl H rfl fun a H => ?_
    refine kR 3 H rfl fun a H => ?_
    refine op_new 49 12 (.tmp 46) (cN y) _ z49 s49 rfl (by simp [Value.oneCell']) (fun p => (H.put 12 p rfl).ev rfl) (fun p => (H.put 12 p rfl).ev rfl) fun w12 b12 hge hb k12 => ?_; have g12 := Nat.le_trans hall.size hge; have d8_12 : b8 < b12 := Nat.lt_of_lt_of_le k8.lt hge; have dhcl_12 : bcl < b12 := Nat.lt_of_lt_of_le hcl.lt hge; replace hcl := ClAt.up hcl hb; replace k8 := Block.ups k8 hb; replace hrow := own_ups hrow hb; replace hall := hall.tr hb; clear hb; clear hge; refine kl H rfl fun a H => ?_
    refine kR 1 H rfl fun a H => ?_
    refine zA (zB (zD ?_))
    refine kR 1 H rfl fun a H => ?_
    refine kV (v := .agg (cN y)) H (run_load_row b12 49 _ _ (H.ev rfl) k12 U49 rfl s49) rfl fun a H => ?_
    refine op_litv 53 1 #[(0, .agg (cN y))] 49 (cN y) (by simp [H.ev (j := 49) rfl]) (fun w => by kernel_rfl) fun w13 b13 hge hb k13 => ?_; have g13 := Nat.le_trans hall.size hge; have d8_13 : b8 < b13 := Nat.lt_of_lt_of_le k8.lt hge; have d12_13 : b12 < b13 := Nat.lt_of_lt_of_le k12.lt hge; replace hcl := ClAt.up hcl hb; replace k8 := Block.ups k8 hb; replace hrow := own_ups hrow hb; replace k12 := Block.ups k12 hb; replace hall := hall.tr hb; clear hb; clear hge; refine kl H rfl fun a H => ?_
    refine op_append 53 49 (.tmp 48) (.tmp 50) (BelowTo hallA).heap.size (.agg #[.int .i64 0, .int .i64 0, .int .i64 0, .int .i64 0]) 4 32 v _ _ (some ⟨b13, 0, none⟩) 1 1 (FV encN [y]) (H.ev rfl) (H.ev rfl) U53 i49 rfl (by omega) hrow (by rw [FV_len encN_len]; rfl) (holds_block k13 rfl) (FV_one _ _) (by rw [wasL_len]; unfold maxLen; omega) (by rw [wasL_len]; omega) hall.size fun o2 w9 hown2 hg9 hv9 hb2 => ?_; replace hall := hall.trans hb2; clear hrow hcl k8 k12 k13 hg9 hv9 hb2; refine kl H rfl fun a H => ?_
    refine kR 1 H rfl fun a H => ?_
    refine zA (n_block (zB (zD ?_)))
    refine kR 1 H rfl fun a H => ?_
    refine kV H (r_add (q := ((j + 1 + 1 : Nat) : Int)) U3 (H.ev rfl) evc (by omega) (by omega)) rfl fun a H => ?_
    refine kR 1 H rfl fun a H => ?_
    refine zA ?_
    refine zI ⟨⟨j + 1, _, H.pick [1, 5, 7, 8, 9, 10, 11], by omega, (by rw [wasL_next, hy]; exact app_own hown2), hall⟩, ?_⟩
    rw [H.ev (j := 11) rfl, H1.ev (j := 11) rfl]
    simp only [intOf]
    omega
   ·
    obtain rfl : j = 16 := by omega
    have hBB : bcl < (BelowTo hallA).heap.size := hclA.lt
    have h8B : b8 < (BelowTo hallA).heap.size := k8A.lt
    obtain ⟨Av, cv, hvv, _⟩ := own_slice hrow
    subst hvv
    have hallX := hallW.trans (hall.mono hallW.size)
    clear hall
    have hall := hallX
    clear hallX
    refine zC (zC (zD ?_))
    refine kR 1 H rfl fun a H => ?_
    refine kV H (r_le U3 (H.ev rfl) evc (dec_f (by omega))) rfl fun a H => ?_
    refine zA (zB (zG H rfl (wp_exit (e_then (e_then ?_)))))
    refine e_here ?_
    refine zB (zC (zD ?_))
    refine kR 1 H rfl fun a H => ?_
    refine wl_call _ _ _ (state_l _ _ _ c c.state hcl rfl) (r_call1 cf27 (H.ev rfl)) ?_; rintro e w9 ⟨rfl, hb⟩; refine ⟨_, rfl, ?_⟩; replace hcl := ClAt.up hcl hb; replace k8 := Block.ups k8 hb; replace hrow := own_ups hrow hb; replace hall := hall.tr hb; clear hb; refine kl H rfl fun a H => ?_
    refine kR 1 H rfl fun a H => ?_
    refine zA (zB (zC (zD ?_)))
    refine kR 1 H rfl fun a H => ?_
    refine wl_call _ _ _ (sess_l _ _ _ c (sessF c) hcl rfl) (r_call1 cf29 (H.ev rfl)) ?_; rintro e w9 ⟨rfl, hb⟩; refine ⟨_, rfl, ?_⟩; replace hcl := ClAt.up hcl hb; replace k8 := Block.ups k8 hb; replace hrow := own_ups hrow hb; replace hall := hall.tr hb; clear hb; refine kl H rfl fun a H => ?_
    refine kR 1 H rfl fun a H => ?_
    refine zA (zB (zC (zD ?_)))
    refine kR 1 H rfl fun a H => ?_
    refine zA (zB (zC ?_))
    have hall1 := hall
    have hcl1 : ClAt (BelowTo hall1) bcl m c := hcl
    have hrow1 : NOwn (BelowTo hall1) (BelowTo hallA).heap.size (.slice Av (wasL c 16).length cv) (wasL c 16) := hrow
    have k81 : Block (BelowTo hall1) b8 33 (barr K) := k8
    have hW1 : Below (BelowTo hall1).heap.size (BelowTo hall1) _ := Below.refl _ _
    refine zD ?_
    refine op_alloc 36 (pv pk0) z36 fun w17 b17 hge hb k17 => ?_; have g17 := Nat.le_trans hall.size hge; have gW1 : (BelowTo hall1).heap.size ≤ b17 := hge; have d8_17 : b8 < b17 := Nat.lt_of_lt_of_le k8.lt hge; have dhcl_17 : bcl < b17 := Nat.lt_of_lt_of_le hcl.lt hge; replace hcl := ClAt.up hcl hb; replace k8 := Block.ups k8 hb; replace hrow := own_ups hrow hb; replace hW1 := below_tr hW1 hb; replace hall := hall.tr hb; clear hb; clear hge; refine kl H rfl fun a H => ?_
    refine zA (zB (zC (zC (zD ?_))))
    refine kR 2 H rfl fun a H => ?_
    refine kV (v := .pointer (some ⟨b, o + i * 59, none⟩)) H (r_idx (j := i) (q := o + i * 59) U22 s38 (H.ev rfl) (H.ev rfl) hlt rfl) rfl fun a H => ?_
    refine kV (v := .pointer (some ⟨b, o + i * 59 + 0, none⟩)) H (r_fld (q := o + i * 59 + 0) fld38_0 (H.ev rfl) rfl) rfl fun a H => ?_
    refine kV (v := .int .i64 (x.d)) H (r_ld U3 rfl (H.ev rfl) (range_cell (range_up hrg hall) 0 rfl)) rfl fun a H => ?_
    refine zA (zB ?_)
    refine wp_mid (Rvm w bcl b8 b17 (BelowTo hallA).heap.size (some ⟨b, o, none⟩) cc L i c Av cv) ?_ ?_
    ·
     refine wp_block ?_
     refine zC (zD ?_)
     by_cases hcc0 : (x.d) = 0
     ·
      refine kV H (r_eq U3 (H.ev rfl) evc (dec_t (hcc0))) rfl fun a H => ?_
      refine kR 1 H rfl fun a H => ?_
      refine zA (zB (zH H rfl ?_))
      clear hW1 hcl1 hrow1 k81
      refine zD ?_
      refine kR 1 H rfl fun a H => ?_
      refine wl_call _ _ _ (tick_l _ _ _ c (tickC c) (tickO c) ((tickO c).length) hcl rfl rfl rfl) (r_call1 cf15 (H.ev rfl)) ?_; rintro e w9 ⟨⟨A0, q0, rfl, B0, hB0, ho0⟩, hc9, hon⟩; refine ⟨_, rfl, ?_⟩; replace k8 := Block.onlym k8 (by omega) hcl.mp hon; replace hrow := own_onlym hrow hBB hcl.mp hon; replace k17 := Block.onlym k17 (by omega) hcl.mp hon; replace hall := ClAt.down hcl hall ghcl hall.size hon; clear hcl; have hcl := hc9; clear hc9 hon; clear ho0 hB0; refine kl H rfl fun a H => ?_
      refine zA (n_block ?_)
      exact ⟨rfl, (tickC c), _, K, false, pk0, H.pick [1, 5, 7, 8, 9, 10, 14, 15, 16, 17], ⟨hK, (fun h => by rw [tick_key]; exact hkey (by rw [← (tick_facts c).2.1]; exact h)), pk0_ok, (fun h => by cases h), (fun _ u => .inl (by rw [seen, (tick_same c).2.2]; rfl)), hcl, hrow, k8, k17⟩, hall⟩
     ·
      refine kV H (r_eq U3 (H.ev rfl) evc (dec_f (hcc0))) rfl fun a H => ?_
      refine kR 1 H rfl fun a H => ?_
      refine zA (zB (zG H rfl (zC (zD ?_))))
      by_cases hcc1 : (x.d) = 2
      ·
       refine kV H (r_eq U3 (H.ev rfl) evc (dec_t (hcc1))) rfl fun a H => ?_
       refine kR 1 H rfl fun a H => ?_
       refine zA (zB (zH H rfl ?_))
       by_cases hsb : startB x.n = true
       ·
        clear hW1 hcl1 hrow1 k81
        refine zD ?_
        refine kR 3 H rfl fun a H => ?_
        refine kV (v := .pointer (some ⟨b, o + i * 59, none⟩)) H (r_idx (j := i) (q := o + i * 59) U22 s38 (H.ev rfl) (H.ev rfl) hlt rfl) rfl fun a H => ?_
        refine kV (v := .pointer (some ⟨b, o + i * 59 + 1, none⟩)) H (r_fld (q := o + i * 59 + 1) fld38_1 (H.ev rfl) rfl) rfl fun a H => ?_
        refine kV (v := .int .i64 (x.n)) H (r_ld U3 rfl (H.ev rfl) (range_cell (range_up hrg hall) 1 rfl)) rfl fun a H => ?_
        refine wl_call _ _ _ (start_l _ _ _ c ({ clZ c.user with nonce := x.n, state := 1 } : Cl) (x.n) true hcl hsb (if_neg (of_decide_eq_true hsb))) (r_call2 cf17 (H.ev rfl) (H.ev rfl)) ?_; rintro e w9 ⟨rfl, ⟨m9, hc9⟩, hon⟩; refine ⟨_, rfl, ?_⟩; replace k8 := Block.onlym k8 (by omega) hcl.mp hon; replace hrow := own_onlym hrow hBB hcl.mp hon; replace k17 := Block.onlym k17 (by omega) hcl.mp hon; replace hall := ClAt.down hcl hall ghcl hall.size hon; clear hcl; have hcl := hc9; clear hc9 hon; refine kl H rfl fun a H => ?_
        refine kR 1 H rfl fun a H => ?_
        refine zA (n_block ?_)
        exact ⟨rfl, ({ clZ c.user with nonce := x.n, state := 1 } : Cl), _, K, true, pk0, H.pick [1, 5, 7, 8, 9, 10, 14, 15, 16, 17], ⟨hK, (fun h => absurd (show (1 : Int) = 3 from h) (by decide)), pk0_ok, (fun _ => ⟨fun _ => rfl, rfl⟩), (fun h => by cases h), hcl, hrow, k8, k17⟩, hall⟩
       ·
        clear hW1 hcl1 hrow1 k81
        refine zD ?_
        refine kR 3 H rfl fun a H => ?_
        refine kV (v := .pointer (some ⟨b, o + i * 59, none⟩)) H (r_idx (j := i) (q := o + i * 59) U22 s38 (H.ev rfl) (H.ev rfl) hlt rfl) rfl fun a H => ?_
        refine kV (v := .pointer (some ⟨b, o + i * 59 + 1, none⟩)) H (r_fld (q := o + i * 59 + 1) fld38_1 (H.ev rfl) rfl) rfl fun a H => ?_
        refine kV (v := .int .i64 (x.n)) H (r_ld U3 rfl (H.ev rfl) (range_cell (range_up hrg hall) 1 rfl)) rfl fun a H => ?_
        refine wl_call _ _ _ (start_l _ _ _ c c (x.n) false hcl (by simpa using hsb) (if_pos (by have := hsb; simp only [startB, decide_eq_true_eq] at this; exact Decidable.of_not_not this))) (r_call2 cf17 (H.ev rfl) (H.ev rfl)) ?_; rintro e w9 ⟨rfl, ⟨m9, hc9⟩, hon⟩; refine ⟨_, rfl, ?_⟩; replace k8 := Block.onlym k8 (by omega) hcl.mp hon; replace hrow := own_onlym hrow hBB hcl.mp hon; replace k17 := Block.onlym k17 (by omega) hcl.mp hon; replace hall := ClAt.down hcl hall ghcl hall.size hon; clear hcl; have hcl := hc9; clear hc9 hon; refine kl H rfl fun a H => ?_
        refine kR 1 H rfl fun a H => ?_
        refine zA (n_block ?_)
        exact ⟨rfl, c, _, K, false, pk0, H.pick [1, 5, 7, 8, 9, 10, 14, 15, 16, 17], ⟨hK, hkey, pk0_ok, (fun h => by cases h), (fun _ u => .inl rfl), hcl, hrow, k8, k17⟩, hall⟩
      ·
       refine kV H (r_eq U3 (H.ev rfl) evc (dec_f (hcc1))) rfl fun a H => ?_
       refine kR 1 H rfl fun a H => ?_
       refine zA (zB (zG H rfl (zC (zD ?_))))
       by_cases hcc2 : (x.d) = 3
       ·
        refine kV H (r_eq U3 (H.ev rfl) evc (dec_t (hcc2))) rfl fun a H => ?_
        refine kR 1 H rfl fun a H => ?_
        refine zA (zB (zH H rfl (zC ?_)))
        clear hW1 hcl1 hrow1 k81
        refine zD ?_
        refine kR 1 H rfl fun a H => ?_
        refine wl_call _ _ _ (crash_l _ _ _ c hcl) (r_call1 cf19 (H.ev rfl)) ?_; rintro e w9 ⟨rfl, hc9, hon⟩; refine ⟨_, rfl, ?_⟩; replace k8 := Block.onlym k8 (by omega) hcl.mp hon; replace hrow := own_onlym hrow hBB hcl.mp hon; replace k17 := Block.onlym k17 (by omega) hcl.mp hon; replace hall := ClAt.down hcl hall ghcl hall.size hon; clear hcl; have hcl := hc9; clear hc9 hon; refine kl H rfl fun a H => ?_
        refine zA (zB (zD ?_))
        refine kR 1 H rfl fun a H => ?_
        refine zA (n_block ?_)
        exact ⟨rfl, (crashF c), _, K, true, pk0, H.pick [1, 5, 7, 8, 9, 10, 14, 15, 16, 17], ⟨hK, (fun h => absurd (show (0 : Int) = 3 from h) (by decide)), pk0_ok, (fun _ => ⟨fun _ => rfl, rfl⟩), (fun h => by cases h), hcl, hrow, k8, k17⟩, hall⟩
       ·
        refine kV H (r_eq U3 (H.ev rfl) evc (dec_f (hcc2))) rfl fun a H => ?_
        refine kR 1 H rfl fun a H => ?_
        refine zA (zB (zG H rfl (zC (zD ?_))))
        by_cases hcc3 : (x.d) = 4
        ·
         refine kV H (r_eq U3 (H.ev rfl) evc (dec_t (hcc3))) rfl fun a H => ?_
         refine kR 1 H rfl fun a H => ?_
         refine zA (zB (zH H rfl ?_))
         clear hW1 hcl1 hrow1 k81
         refine zD ?_
         refine kR 3 H rfl fun a H => ?_
         refine kV (v := .pointer (some ⟨b, o + i * 59, none⟩)) H (r_idx (j := i) (q := o + i * 59) U22 s38 (H.ev rfl) (H.ev rfl) hlt rfl) rfl fun a H => ?_
         refine kV (v := .pointer (some ⟨b, o + i * 59 + 3, none⟩)) H (r_fld (q := o + i * 59 + 3) fld38_3 (H.ev rfl) rfl) rfl fun a H => ?_
         refine kV (v := .agg (cN x.o)) H (r_row (cs := [.int .i64 x.o.1, .int .i64 x.o.2.1, .int .i64 x.o.2.2.1, .int .i64 x.o.2.2.2]) (H.ev rfl) (ac_o (range_up hrg hall)) (by kernel_rfl) s32 rfl) rfl fun a H => ?_
         refine wl_call _ _ _ (order_l _ _ _ c (orderF c x.o) x.o (decide (¬ orderNo c x.o)) hcl rfl rfl) (r_call2 cf21 (H.ev rfl) (H.ev rfl)) ?_; rintro e w9 ⟨rfl, hc9, hon⟩; refine ⟨_, rfl, ?_⟩; replace k8 := Block.onlym k8 (by omega) hcl.mp hon; replace hrow := own_onlym hrow hBB hcl.mp hon; replace k17 := Block.onlym k17 (by omega) hcl.mp hon; replace hall := ClAt.down hcl hall ghcl hall.size hon; clear hcl; have hcl := hc9; clear hc9 hon; refine kl H rfl fun a H => ?_
         refine zA (n_block ?_)
         exact ⟨rfl, (orderF c x.o), _, K, false, pk0, H.pick [1, 5, 7, 8, 9, 10, 14, 15, 16, 17], ⟨hK, (fun h => by rw [(order_same c x.o).2.1]; exact hkey (by rw [← (order_same c x.o).1]; exact h)), pk0_ok, (fun h => by cases h), (fun _ u => .inl (by rw [seen, (order_same c x.o).2.2]; rfl)), hcl, hrow, k8, k17⟩, hall⟩
        ·
         refine kV H (r_eq U3 (H.ev rfl) evc (dec_f (hcc3))) rfl fun a H => ?_
         refine kR 1 H rfl fun a H => ?_
         refine zA (zB (zG H rfl (zC (zD ?_))))
         refine kR 2 H rfl fun a H => ?_
         refine kV (v := .pointer (some ⟨b, o + i * 59, none⟩)) H (r_idx (j := i) (q := o + i * 59) U22 s38 (H.ev rfl) (H.ev rfl) hlt rfl) rfl fun a H => ?_
         refine kV (v := .agg (acV x vb)) H (r_row (cs := acL x vb) (H.ev rfl) (range_up hrg hall) (by kernel_rfl) (by rw [acL_len hxo]; exact s38) rfl) rfl fun a H => ?_
         refine wl_call _ _ _ (input_l _ x _ (inputF x) hxo (BRow.up hvb hall) rfl) (r_call1 cf24 (H.ev rfl)) ?_; rintro e w9 ⟨⟨v9, rfl, hv⟩, hb⟩; refine ⟨_, rfl, ?_⟩; replace hcl := ClAt.up hcl hb; replace k8 := Block.ups k8 hb; replace hrow := own_ups hrow hb; replace hW1 := below_tr hW1 hb; replace k17 := Block.ups k17 hb; replace hall := hall.tr hb; clear hb; refine kl H rfl fun a H => ?_
         refine wl_call _ _ _ (dec_any _ _ (inputF x) hv (input_len hxo hxb)) (r_call1 cf37 (H.ev rfl)) ?_; rintro e w9 ⟨rfl, hb⟩; refine ⟨_, rfl, ?_⟩; replace hcl := ClAt.up hcl hb; replace k8 := Block.ups k8 hb; replace hrow := own_ups hrow hb; replace hW1 := below_tr hW1 hb; replace k17 := Block.ups k17 hb; replace hall := hall.tr hb; clear hb; clear hv; refine kl H rfl fun a H => ?_
         refine kR 3 H rfl fun a H => ?_
         refine op_store 36 (.tmp 17) (.tmp 68) b17 36 (pv (decP (inputF x))) _ (H.ev rfl) (H.ev rfl) k17 (s36p (decP_ok _)) (by rw [pv_size pk0_ok, pv_size (decP_ok _)]) (pv_one _) fun w' hb ho kq => ?_; clear k17; have k17 := kq; replace hW1 := hW1.trans (hb _ gW1); clear hcl hrow k8; have hcl := ClAt.up hcl1 hW1; have hrow : NOwn _ (BelowTo hallA).heap.size (.slice Av (wasL c 16).length cv) (wasL c 16) := own_ups hrow1 hW1; have k8 := Block.ups k81 hW1; replace hall := hall.trans (hb _ g17); clear hb ho kq; refine kl0 H fun a H => ?_
         refine zA (zB (zC ?_))
         clear hW1 hcl1 hrow1 k81
         refine zD ?_
         refine kR 3 H rfl fun a H => ?_
         refine kV (v := .pointer (some ⟨b, o + i * 59, none⟩)) H (r_idx (j := i) (q := o + i * 59) U22 s38 (H.ev rfl) (H.ev rfl) hlt rfl) rfl fun a H => ?_
         refine kV (v := .agg (acV x vb)) H (r_row (cs := acL x vb) (H.ev rfl) (range_up hrg hall) (by kernel_rfl) (by rw [acL_len hxo]; exact s38) rfl) rfl fun a H => ?_
         refine wl_call _ _ _ (input_l _ x _ (inputF x) hxo (BRow.up hvb hall) rfl) (r_call1 cf24 (H.ev rfl)) ?_; rintro e w9 ⟨⟨v9, rfl, hv⟩, hb⟩; refine ⟨_, rfl, ?_⟩; replace hcl := ClAt.up hcl hb; replace k8 := Block.ups k8 hb; replace hrow := own_ups hrow hb; replace k17 := Block.ups k17 hb; replace hall := hall.tr hb; clear hb; refine kl H rfl fun a H => ?_
         refine wl_call _ _ _ (step_l _ _ _ c (stepC c (inputF x)) (stepO c (inputF x)) ((stepO c (inputF x)).length) hcl rfl _ (inputF x) hv (input_len hxo hxb) rfl rfl) (r_call2 cf23 (H.ev rfl) (H.ev rfl)) ?_; rintro e w9 ⟨⟨A1, q1, rfl, B1, hB1, ho1⟩, ⟨m9, hc9⟩, hon⟩; refine ⟨_, rfl, ?_⟩; replace k8 := Block.onlym k8 (by omega) hcl.mp hon; replace hrow := own_onlym hrow hBB hcl.mp hon; replace k17 := Block.onlym k17 (by omega) hcl.mp hon; clear hv; replace hall := ClAt.down hcl hall ghcl hall.size hon; clear hcl; have hcl := hc9; clear hc9 hon; clear ho1 hB1; refine kl H rfl fun a H => ?_
         refine zA (zB (zC (zD ?_)))
         refine kR 1 H rfl fun a H => ?_
         by_cases hcc4 : c.state = 2
         ·
          refine kV H (r_eq U3 (H.ev rfl) evc (dec_t (hcc4))) rfl fun a H => ?_
          refine kR 2 H rfl fun a H => ?_
          refine kG H rfl ?_; refine wl_call _ _ _ (state_l _ _ _ (stepC c (inputF x)) ((stepC c (inputF x)).state) hcl rfl) (r_call1 cf27 (H.ev rfl)) ?_; rintro e w9 ⟨rfl, hb⟩; refine ⟨_, rfl, ?_⟩; replace hcl := ClAt.up hcl hb; replace k8 := Block.ups k8 hb; replace hrow := own_ups hrow hb; replace k17 := Block.ups k17 hb; replace hall := hall.tr hb; clear hb; refine kl H rfl fun a H => ?_
          by_cases hcc5 : ((stepC c (inputF x)).state) = 3
          ·
           refine kW H rfl (r_eq U3 (H.ev rfl) evc (dec_t (hcc5))) rfl fun a H => ?_
           refine kR 1 H rfl fun a H => ?_
           refine zA (zB (zH H rfl (zD ?_)))
           refine kV (v := .pointer (some ⟨b17, 12, none⟩)) H (r_fld (q := 12) fld36_12 (H.ev rfl) rfl) rfl fun a H => ?_
           refine kV (v := .agg (barr (decP (inputF x)).sec)) H (r_row (cs := (decP (inputF x)).sec.map u8v) (H.ev rfl) (pv_sec k17 (decP_ok _)) (by kernel_rfl) (by rw [List.length_map, (decP_ok (inputF x)).2.1]; exact s33a) rfl) rfl fun a H => ?_
           refine op_store 33 (.tmp 8) (.tmp 85) b8 33 (barr (decP (inputF x)).sec) _ (H.ev rfl) (H.ev rfl) k8 (by rw [barr_size, (decP_ok (inputF x)).2.1]; exact s33a) (by rw [barr_size, barr_size, hK, (decP_ok (inputF x)).2.1]) (barr_one _) fun w' hb ho kq => ?_; replace hcl := ClAt.blk33 hcl k8 (by omega) (hb _ (Nat.le_refl _)) ho; replace hrow := own_block hrow (fun q hq => ho _ (fun e => by have := (World.ownsRow.lt hrow q hq).1; omega)); replace k17 := block_same k17 (ho _ (by omega)); replace hall := hall.trans (hb _ g8); clear k8; have k8 := kq; clear kq hb ho; refine kl0 H fun a H => ?_
           refine zA (n_block ?_)
           exact ⟨rfl, (stepC c (inputF x)), _, (decP (inputF x)).sec, false, (decP (inputF x)), H.pick [1, 5, 7, 8, 9, 10, 14, 15, 16, 17], ⟨(decP_ok (inputF x)).2.1, (fun h => (step_key h).elim (fun h2 => absurd h2.1 (by omega)) (fun h2 => h2.2.symm)), (decP_ok _), (fun h => by cases h), (fun _ u => (step_view u).elim .inl (fun h2 => absurd h2.2.1 (by omega))), hcl, hrow, k8, k17⟩, hall⟩
          ·
           refine kW H rfl (r_eq U3 (H.ev rfl) evc (dec_f (hcc5))) rfl fun a H => ?_
           refine kR 1 H rfl fun a H => ?_
           refine zA (zB (zG H rfl (zE (n_block ?_))))
           exact ⟨rfl, (stepC c (inputF x)), _, K, false, (decP (inputF x)), H.pick [1, 5, 7, 8, 9, 10, 14, 15, 16, 17], ⟨hK, (fun h => (step_key h).elim (fun h2 => (hkey h2.1).trans h2.2.symm) (fun h2 => absurd h (by omega))), (decP_ok _), (fun h => by cases h), (fun _ u => (step_view u).elim .inl (fun h2 => .inr ⟨h2.1, h2.2.1, h2.2.2.1, h2.2.2.2.1, by rw [hkey h2.2.1]; exact h2.2.2.2.2⟩)), hcl, hrow, k8, k17⟩, hall⟩
         ·
          refine kV H (r_eq U3 (H.ev rfl) evc (dec_f (hcc4))) rfl fun a H => ?_
          refine kR 5 H rfl fun a H => ?_
          refine zA (zB (zG H rfl (zE (n_block ?_))))
          exact ⟨rfl, (stepC c (inputF x)), _, K, false, (decP (inputF x)), H.pick [1, 5, 7, 8, 9, 10, 14, 15, 16, 17], ⟨hK, (fun h => (step_key h).elim (fun h2 => (hkey h2.1).trans h2.2.symm) (fun h2 => absurd h (by omega))), (decP_ok _), (fun h => by cases h), (fun _ u => (step_view u).elim .inl (fun h2 => .inr ⟨h2.1, h2.2.1, h2.2.2.1, h2.2.2.2.1, by rw [hkey h2.2.1]; exact h2.2.2.2.2⟩)), hcl, hrow, k8, k17⟩, hall⟩
    ·
     clear H hall hcl k8 hrow k17 hW1 hcl1 hrow1 k81
     rintro a w' ⟨c1, m1, K1, fresh, p, H, hVM, hall⟩
     have hK1 := hVM.len
     have hpo := hVM.ok
     refine zB (zC (zC ?_))
     cases fresh
     ·
      refine zD ?_
      refine kR 1 H rfl fun a H => ?_
      refine zA (zB ?_)
      refine wp_block ?_
      refine wp_loop (Rvb w bcl b8 b17 (BelowTo hallA).heap.size (some ⟨b, o, none⟩) cc L i c c1 m1 K1 false p Av cv) (fun a _ => 17 - (intOf (a.eval (.tmp 18))).toNat) ⟨0, H.pick [1, 5, 7, 8, 9, 10, 14, 15, 16, 17, 18], by omega, hVM, hall⟩ ?_
      clear H hall hVM
      rintro a w' ⟨j, H, hj, hVM, hall⟩
      have H1 := H
      by_cases hj6 : j < 16
      ·
       obtain ⟨y1, hy1⟩ : ∃ y, seen c1 ((j + 1 : Nat) : Int) = y := ⟨_, rfl⟩
       obtain ⟨ok, hok2⟩ : ∃ ok, (c1.vw ((j + 1 : Nat) : Int)).isSome = ok := ⟨_, rfl⟩
       obtain ⟨y0, hy0⟩ : ∃ y, seen c ((j + 1 : Nat) : Int) = y := ⟨_, rfl⟩
       cases ok
       ·
        have hyn : y1 = note0 := by
         rw [← hy1, seen]
         cases hv : c1.vw ((j + 1 : Nat) : Int) with
         | none => rfl
         | some z => rw [hv] at hok2; cases hok2
        have hy11 : y1.1 = 0 := by rw [hyn]; rfl
        refine zC (zC (zD ?_))
        refine kR 1 H rfl fun a H => ?_
        refine kV H (r_le U3 (H.ev rfl) evc (dec_t (by omega))) rfl fun a H => ?_
        refine zA (zB (zH H rfl (zE (zB (zC ?_)))))
        refine wp_block ?_
        refine zC (zD ?_)
        refine kR 2 H rfl fun a H => ?_
        refine wl_call _ _ _ (view_l _ _ _ c1 ((j + 1 : Nat) : Int) y1 false hVM.cl (by omega) hy1 hok2) (r_call2 cf35 (H.ev rfl) (H.ev rfl)) ?_; rintro e w9 ⟨rfl, hb⟩; refine ⟨_, rfl, ?_⟩; replace hVM := VM.up hVM hb; replace hall := hall.tr hb; clear hb; refine kl H rfl fun a H => ?_
        refine kR 3 H rfl fun a H => ?_
        refine op_new 49 19 (.tmp 120) (cN y1) _ z49 s49 rfl (by simp [Value.oneCell']) (fun p => (H.put 19 p rfl).ev rfl) (fun p => (H.put 19 p rfl).ev rfl) fun w19 b19 hge hb k19 => ?_; have g19 := Nat.le_trans hall.size hge; replace hVM := VM.up hVM hb; replace hall := hall.tr hb; clear hb; clear hge; refine kl H rfl fun a H => ?_
        refine kR 1 H rfl fun a H => ?_
        refine zA (zB (zC ?_))
        obtain ⟨bw, ow, hAw, hrgw⟩ := flat_some encN_len (row_holds (NOwn.row hVM.row)) (by omega) (j := j) (by rw [wasL_len]; exact hj6)
        subst hAw
        rw [show (wasL c 16)[j]'(by rw [wasL_len]; exact hj6) = y0 from by rw [← hy0]; exact Option.some.inj ((List.getElem?_eq_getElem _).symm.trans (wasL_at hj6))] at hrgw
        refine zD ?_
        refine kR 2 H rfl fun a H => ?_
        refine kV (v := .int .i64 (j : Nat)) H (r_sub (q := ((j : Nat) : Int)) U3 (H.ev rfl) evc (by omega) (by omega)) rfl fun a H => ?_
        refine kV (v := .pointer (some ⟨bw, ow + j * 4, none⟩)) H (r_idx (j := j) (q := ow + j * 4) U53 s49 (H.ev rfl) (H.ev rfl) (by rw [wasL_len]; exact hj6) rfl) rfl fun a H => ?_
        refine kV (v := .agg (cN y0)) H (r_row (cs := [.int .i64 y0.1, .int .i64 y0.2.1, .int .i64 y0.2.2.1, .int .i64 y0.2.2.2]) (H.ev rfl) hrgw (by kernel_rfl) s49 rfl) rfl fun a H => ?_
        refine op_new 49 21 (.tmp 126) (cN y0) _ z49 s49 rfl (by simp [Value.oneCell']) (fun p => (H.put 21 p rfl).ev rfl) (fun p => (H.put 21 p rfl).ev rfl) fun w21 b21 hge hb k21 => ?_; have g21 := Nat.le_trans hall.size hge; have d19_21 : b19 < b21 := Nat.lt_of_lt_of_le k19.lt hge; replace hVM := VM.up hVM hb; replace k19 := Block.ups k19 hb; replace hall := hall.tr hb; clear hb; clear hge; refine kl H rfl fun a H => ?_
        refine zA (zB (zC (zC (zD ?_))))
        refine kR 2 H rfl fun a H => ?_
        refine kV H (r_ld U3 rfl (H.ev rfl) ((Block.cell k19 0).trans rfl)) rfl fun a H => ?_
        refine kR 1 H rfl fun a H => ?_
        refine kV H (r_eq U3 (H.ev rfl) (H.ev rfl) (dec_f (by omega))) rfl fun a H => ?_
        refine kV (v := .bool false) H (r_nebool U4 (H.ev rfl) (H.ev rfl) rfl) rfl fun a H => ?_
        refine kR 2 H rfl fun a H => ?_
        refine kW H rfl (r_not (H.ev rfl) rfl) rfl fun a H => ?_
        refine kR 1 H rfl fun a H => ?_
        refine kG H rfl ?_; refine kV (v := .agg (cN y1)) H (run_load_row b19 49 _ _ (H.ev rfl) k19 U49 rfl s49) rfl fun a H => ?_
        refine kG H rfl ?_; refine kV (v := .agg (cN note0)) H (r_build #[] (.agg (cN note0)) (by simp) (fun w => by kernel_rfl)) rfl fun a H => ?_
        refine kG H rfl ?_; refine kV (v := .bool false) H (r_ne49 (x := y1) (y := note0) (H.ev rfl) (H.ev rfl) (by rw [decide_eq_true hyn]; rfl)) rfl fun a H => ?_
        refine kR 2 H rfl fun a H => ?_
        refine zA (zB (zG H rfl (zE (zB (zC (zC ?_))))))
        by_cases hyy : y1 = y0
        ·
         refine zD ?_
         refine kV (v := .agg (cN y1)) H (run_load_row b19 49 _ _ (H.ev rfl) k19 U49 rfl s49) rfl fun a H => ?_
         refine kV (v := .agg (cN y0)) H (run_load_row b21 49 _ _ (H.ev rfl) k21 U49 rfl s49) rfl fun a H => ?_
         refine kV (v := .bool true) H (r_eq49 (x := y1) (y := y0) (H.ev rfl) (H.ev rfl) (decide_eq_true hyy)) rfl fun a H => ?_
         refine zA (zB (zH H rfl (wp_exit (e_then ?_))))
         refine e_here ?_
         refine zB (zD ?_)
         refine kR 1 H rfl fun a H => ?_
         refine kV H (r_add (q := ((j + 1 + 1 : Nat) : Int)) U3 (H.ev rfl) evc (by omega) (by omega)) rfl fun a H => ?_
         refine kR 1 H rfl fun a H => ?_
         refine zA ?_
         refine zI ⟨⟨j + 1, H.pick [1, 5, 7, 8, 9, 10, 14, 15, 16, 17, 18], by omega, hVM, hall⟩, ?_⟩
         rw [H.ev (j := 18) rfl, H1.ev (j := 18) rfl]
         simp only [intOf]
         omega
        ·
         refine zD ?_
         refine kV (v := .agg (cN y1)) H (run_load_row b19 49 _ _ (H.ev rfl) k19 U49 rfl s49) rfl fun a H => ?_
         refine kV (v := .agg (cN y0)) H (run_load_row b21 49 _ _ (H.ev rfl) k21 U49 rfl s49) rfl fun a H => ?_
         refine kV (v := .bool false) H (r_eq49 (x := y1) (y := y0) (H.ev rfl) (H.ev rfl) (decide_eq_false hyy)) rfl fun a H => ?_
         refine zA (zB (zG H rfl (zE (zB (zC (zC (zD ?_)))))))
         refine kR 1 H rfl fun a H => ?_
         refine zA (zB (zG H rfl (zE (zB (zC ?_)))))
         rcases hVM.old rfl ((j + 1 : Nat) : Int) with ht | ⟨t1, t2, t3, t4, t5⟩
         · exact absurd (hy1.symm.trans (ht.trans hy0)) hyy
         rw [hy1, hy0] at t4
         have hse : sessF c = c.id := if_pos t2
         have hk17 := hVM.k17
         refine zD ?_
         refine kR 1 H rfl fun a H => ?_
         refine kV H (r_ld U3 rfl (H.ev rfl) (pv_cell hk17 (fld_at hpo (j := 0) (by omega)))) rfl fun a H => ?_
         refine kV H (r_ne U3 (H.ev rfl) evc (dec_f (by omega))) rfl fun a H => ?_
         refine kR 2 H rfl fun a H => ?_
         refine kW H rfl (r_ne U3 (H.ev rfl) evc (dec_f (by omega))) rfl fun a H => ?_
         refine kR 3 H rfl fun a H => ?_
         refine kW H rfl (r_ld U3 rfl (H.ev rfl) (pv_cell hk17 (fld_at hpo (j := 1) (by omega)))) rfl fun a H => ?_
         refine kR 1 H rfl fun a H => ?_
         refine kW H rfl (r_ne U3 (H.ev rfl) (H.ev rfl) (dec_f (by omega))) rfl fun a H => ?_
         refine kR 3 H rfl fun a H => ?_
         refine kW H rfl (r_ld U3 rfl (H.ev rfl) ((Block.cell k19 1).trans rfl)) rfl fun a H => ?_
         refine kR 1 H rfl fun a H => ?_
         refine kW H rfl (r_ld U3 rfl (H.ev rfl) ((Block.cell k21 1).trans rfl)) rfl fun a H => ?_
         refine kW H rfl (r_le U3 (H.ev rfl) (H.ev rfl) (dec_f (by omega))) rfl fun a H => ?_
         refine kR 2 H rfl fun a H => ?_
         refine kG H rfl ?_; refine kV (v := .agg (barr K1)) H (run_load_row b8 33 _ _ (H.ev rfl) hVM.k8 U33 rfl (by rw [barr_size, hK1]; exact s33a)) rfl fun a H => ?_
         refine kG H rfl ?_; refine kV (v := .agg (pv p)) H (run_load_row b17 36 _ _ (H.ev rfl) hVM.k17 U36 rfl (s36p hpo)) rfl fun a H => ?_
         refine kG H rfl ?_; refine wl_call _ _ _ (good38_l _ K1 p true hK1 hpo t5) (r_call2 cf38 (H.ev rfl) (H.ev rfl)) ?_; rintro e w9 ⟨rfl, hb⟩; refine ⟨_, rfl, ?_⟩; clear hk17; replace hVM := VM.up hVM hb; replace k19 := Block.ups k19 hb; replace k21 := Block.ups k21 hb; replace hall := hall.tr hb; clear hb; refine kl H rfl fun a H => ?_
         refine kW H rfl (r_not (H.ev rfl) rfl) rfl fun a H => ?_
         refine kR 1 H rfl fun a H => ?_
         refine zA (zB (zG H rfl (zE (n_block (zB (zD ?_))))))
         refine kR 1 H rfl fun a H => ?_
         refine kV H (r_add (q := ((j + 1 + 1 : Nat) : Int)) U3 (H.ev rfl) evc (by omega) (by omega)) rfl fun a H => ?_
         refine kR 1 H rfl fun a H => ?_
         refine zA ?_
         refine zI ⟨⟨j + 1, H.pick [1, 5, 7, 8, 9, 10, 14, 15, 16, 17, 18], by omega, hVM, hall⟩, ?_⟩
         rw [H.ev (j := 18) rfl, H1.ev (j := 18) rfl]
         simp only [intOf]
         omega
       ·
        have hy11 : y1.1 = ((j + 1 : Nat) : Int) := by
         rw [← hy1, seen]
         cases hv : c1.vw ((j + 1 : Nat) : Int) with
         | none => rw [hv] at hok2; cases hok2
         | some z => exact (hVM.cl.ok.vw _ _ hv).1
        refine zC (zC (zD ?_))
        refine kR 1 H rfl fun a H => ?_
        refine kV H (r_le U3 (H.ev rfl) evc (dec_t (by omega))) rfl fun a H => ?_
        refine zA (zB (zH H rfl (zE (zB (zC ?_)))))
        refine wp_block ?_
        refine zC (zD ?_)
        refine kR 2 H rfl fun a H => ?_
        refine wl_call _ _ _ (view_l _ _ _ c1 ((j + 1 : Nat) : Int) y1 true hVM.cl (by omega) hy1 hok2) (r_call2 cf35 (H.ev rfl) (H.ev rfl)) ?_; rintro e w9 ⟨rfl, hb⟩; refine ⟨_, rfl, ?_⟩; replace hVM := VM.up hVM hb; replace hall := hall.tr hb; clear hb; refine kl H rfl fun a H => ?_
        refine kR 3 H rfl fun a H => ?_
        refine op_new 49 19 (.tmp 120) (cN y1) _ z49 s49 rfl (by simp [Value.oneCell']) (fun p => (H.put 19 p rfl).ev rfl) (fun p => (H.put 19 p rfl).ev rfl) fun w19 b19 hge hb k19 => ?_; have g19 := Nat.le_trans hall.size hge; replace hVM := VM.up hVM hb; replace hall := hall.tr hb; clear hb; clear hge; refine kl H rfl fun a H => ?_
        refine kR 1 H rfl fun a H => ?_
        refine zA (zB (zC ?_))
        obtain ⟨bw, ow, hAw, hrgw⟩ := flat_some encN_len (row_holds (NOwn.row hVM.row)) (by omega) (j := j) (by rw [wasL_len]; exact hj6)
        subst hAw
        rw [show (wasL c 16)[j]'(by rw [wasL_len]; exact hj6) = y0 from by rw [← hy0]; exact Option.some.inj ((List.getElem?_eq_getElem _).symm.trans (wasL_at hj6))] at hrgw
        refine zD ?_
        refine kR 2 H rfl fun a H => ?_
        refine kV (v := .int .i64 (j : Nat)) H (r_sub (q := ((j : Nat) : Int)) U3 (H.ev rfl) evc (by omega) (by omega)) rfl fun a H => ?_
        refine kV (v := .pointer (some ⟨bw, ow + j * 4, none⟩)) H (r_idx (j := j) (q := ow + j * 4) U53 s49 (H.ev rfl) (H.ev rfl) (by rw [wasL_len]; exact hj6) rfl) rfl fun a H => ?_
        refine kV (v := .agg (cN y0)) H (r_row (cs := [.int .i64 y0.1, .int .i64 y0.2.1, .int .i64 y0.2.2.1, .int .i64 y0.2.2.2]) (H.ev rfl) hrgw (by kernel_rfl) s49 rfl) rfl fun a H => ?_
        refine op_new 49 21 (.tmp 126) (cN y0) _ z49 s49 rfl (by simp [Value.oneCell']) (fun p => (H.put 21 p rfl).ev rfl) (fun p => (H.put 21 p rfl).ev rfl) fun w21 b21 hge hb k21 => ?_; have g21 := Nat.le_trans hall.size hge; have d19_21 : b19 < b21 := Nat.lt_of_lt_of_le k19.lt hge; replace hVM := VM.up hVM hb; replace k19 := Block.ups k19 hb; replace hall := hall.tr hb; clear hb; clear hge; refine kl H rfl fun a H => ?_
        refine zA (zB (zC (zC (zD ?_))))
        refine kR 2 H rfl fun a H => ?_
        refine kV H (r_ld U3 rfl (H.ev rfl) ((Block.cell k19 0).trans rfl)) rfl fun a H => ?_
        refine kR 1 H rfl fun a H => ?_
        refine kV H (r_eq U3 (H.ev rfl) (H.ev rfl) (dec_t (by omega))) rfl fun a H => ?_
        refine kV (v := .bool false) H (r_nebool U4 (H.ev rfl) (H.ev rfl) rfl) rfl fun a H => ?_
        refine kR 2 H rfl fun a H => ?_
        refine kW H rfl (r_not (H.ev rfl) rfl) rfl fun a H => ?_
        refine kR 6 H rfl fun a H => ?_
        refine zA (zB (zG H rfl (zE (zB (zC (zC ?_))))))
        by_cases hyy : y1 = y0
        ·
         refine zD ?_
         refine kV (v := .agg (cN y1)) H (run_load_row b19 49 _ _ (H.ev rfl) k19 U49 rfl s49) rfl fun a H => ?_
         refine kV (v := .agg (cN y0)) H (run_load_row b21 49 _ _ (H.ev rfl) k21 U49 rfl s49) rfl fun a H => ?_
         refine kV (v := .bool true) H (r_eq49 (x := y1) (y := y0) (H.ev rfl) (H.ev rfl) (decide_eq_true hyy)) rfl fun a H => ?_
         refine zA (zB (zH H rfl (wp_exit (e_then ?_))))
         refine e_here ?_
         refine zB (zD ?_)
         refine kR 1 H rfl fun a H => ?_
         refine kV H (r_add (q := ((j + 1 + 1 : Nat) : Int)) U3 (H.ev rfl) evc (by omega) (by omega)) rfl fun a H => ?_
         refine kR 1 H rfl fun a H => ?_
         refine zA ?_
         refine zI ⟨⟨j + 1, H.pick [1, 5, 7, 8, 9, 10, 14, 15, 16, 17, 18], by omega, hVM, hall⟩, ?_⟩
         rw [H.ev (j := 18) rfl, H1.ev (j := 18) rfl]
         simp only [intOf]
         omega
        ·
         refine zD ?_
         refine kV (v := .agg (cN y1)) H (run_load_row b19 49 _ _ (H.ev rfl) k19 U49 rfl s49) rfl fun a H => ?_
         refine kV (v := .agg (cN y0)) H (run_load_row b21 49 _ _ (H.ev rfl) k21 U49 rfl s49) rfl fun a H => ?_
         refine kV (v := .bool false) H (r_eq49 (x := y1) (y := y0) (H.ev rfl) (H.ev rfl) (decide_eq_false hyy)) rfl fun a H => ?_
         refine zA (zB (zG H rfl (zE (zB (zC (zC (zD ?_)))))))
         refine kR 1 H rfl fun a H => ?_
         refine zA (zB (zG H rfl (zE (zB (zC ?_)))))
         rcases hVM.old rfl ((j + 1 : Nat) : Int) with ht | ⟨t1, t2, t3, t4, t5⟩
         · exact absurd (hy1.symm.trans (ht.trans hy0)) hyy
         rw [hy1, hy0] at t4
         have hse : sessF c = c.id := if_pos t2
         have hk17 := hVM.k17
         refine zD ?_
         refine kR 1 H rfl fun a H => ?_
         refine kV H (r_ld U3 rfl (H.ev rfl) (pv_cell hk17 (fld_at hpo (j := 0) (by omega)))) rfl fun a H => ?_
         refine kV H (r_ne U3 (H.ev rfl) evc (dec_f (by omega))) rfl fun a H => ?_
         refine kR 2 H rfl fun a H => ?_
         refine kW H rfl (r_ne U3 (H.ev rfl) evc (dec_f (by omega))) rfl fun a H => ?_
         refine kR 3 H rfl fun a H => ?_
         refine kW H rfl (r_ld U3 rfl (H.ev rfl) (pv_cell hk17 (fld_at hpo (j := 1) (by omega)))) rfl fun a H => ?_
         refine kR 1 H rfl fun a H => ?_
         refine kW H rfl (r_ne U3 (H.ev rfl) (H.ev rfl) (dec_f (by omega))) rfl fun a H => ?_
         refine kR 3 H rfl fun a H => ?_
         refine kW H rfl (r_ld U3 rfl (H.ev rfl) ((Block.cell k19 1).trans rfl)) rfl fun a H => ?_
         refine kR 1 H rfl fun a H => ?_
         refine kW H rfl (r_ld U3 rfl (H.ev rfl) ((Block.cell k21 1).trans rfl)) rfl fun a H => ?_
         refine kW H rfl (r_le U3 (H.ev rfl) (H.ev rfl) (dec_f (by omega))) rfl fun a H => ?_
         refine kR 2 H rfl fun a H => ?_
         refine kG H rfl ?_; refine kV (v := .agg (barr K1)) H (run_load_row b8 33 _ _ (H.ev rfl) hVM.k8 U33 rfl (by rw [barr_size, hK1]; exact s33a)) rfl fun a H => ?_
         refine kG H rfl ?_; refine kV (v := .agg (pv p)) H (run_load_row b17 36 _ _ (H.ev rfl) hVM.k17 U36 rfl (s36p hpo)) rfl fun a H => ?_
         refine kG H rfl ?_; refine wl_call _ _ _ (good38_l _ K1 p true hK1 hpo t5) (r_call2 cf38 (H.ev rfl) (H.ev rfl)) ?_; rintro e w9 ⟨rfl, hb⟩; refine ⟨_, rfl, ?_⟩; clear hk17; replace hVM := VM.up hVM hb; replace k19 := Block.ups k19 hb; replace k21 := Block.ups k21 hb; replace hall := hall.tr hb; clear hb; refine kl H rfl fun a H => ?_
         refine kW H rfl (r_not (H.ev rfl) rfl) rfl fun a H => ?_
         refine kR 1 H rfl fun a H => ?_
         refine zA (zB (zG H rfl (zE (n_block (zB (zD ?_))))))
         refine kR 1 H rfl fun a H => ?_
         refine kV H (r_add (q := ((j + 1 + 1 : Nat) : Int)) U3 (H.ev rfl) evc (by omega) (by omega)) rfl fun a H => ?_
         refine kR 1 H rfl fun a H => ?_
         refine zA ?_
         refine zI ⟨⟨j + 1, H.pick [1, 5, 7, 8, 9, 10, 14, 15, 16, 17, 18], by omega, hVM, hall⟩, ?_⟩
         rw [H.ev (j := 18) rfl, H1.ev (j := 18) rfl]
         simp only [intOf]
         omega
      ·
       obtain rfl : j = 16 := by omega
       refine zC (zC (zD ?_))
       refine kR 1 H rfl fun a H => ?_
       refine kV H (r_le U3 (H.ev rfl) evc (dec_f (by omega))) rfl fun a H => ?_
       refine zA (zB (zG H rfl (wp_exit (e_then (e_then ?_)))))
       refine e_here ?_
       refine zB (zC (zD ?_))
       refine kR 7 H rfl fun a H => ?_
       refine kV (v := .bool false) H (r_nebool U4 (H.ev rfl) (H.ev rfl) rfl) rfl fun a H => ?_
       refine zA (zB (zG H rfl (zE (n_block (zB (zD ?_))))))
       refine kR 1 H rfl fun a H => ?_
       refine kV H (r_add (q := ((i + 1 : Nat) : Int)) U3 (H.ev rfl) evc (by omega) (by omega)) rfl fun a H => ?_
       refine kR 1 H rfl fun a H => ?_
       refine zA ?_
       refine zI ⟨⟨i + 1, _, c1, K1, H.pick [1, 5, 7, 8, 9], by omega, hVM.len, hVM.key, hVM.cl, hVM.k8, hall⟩, ?_⟩
       rw [H.ev (j := 9) rfl, H0.ev (j := 9) rfl]
       simp only [intOf]
       omega
     ·
      obtain ⟨hnw, hos⟩ := hVM.new rfl
      refine zD ?_
      refine kR 1 H rfl fun a H => ?_
      refine zA (zB ?_)
      refine wp_block ?_
      refine wp_loop (Rvb w bcl b8 b17 (BelowTo hallA).heap.size (some ⟨b, o, none⟩) cc L i c c1 m1 K1 true p Av cv) (fun a _ => 17 - (intOf (a.eval (.tmp 18))).toNat) ⟨0, H.pick [1, 5, 7, 8, 9, 10, 14, 15, 16, 17, 18], by omega, hVM, hall⟩ ?_
      clear H hall hVM
      rintro a w' ⟨j, H, hj, hVM, hall⟩
      have H1 := H
      by_cases hj6 : j < 16
      ·
       obtain ⟨y1, hy1⟩ : ∃ y, seen c1 ((j + 1 : Nat) : Int) = y := ⟨_, rfl⟩
       obtain ⟨ok, hok2⟩ : ∃ ok, (c1.vw ((j + 1 : Nat) : Int)).isSome = ok := ⟨_, rfl⟩
       obtain ⟨y0, hy0⟩ : ∃ y, seen c ((j + 1 : Nat) : Int) = y := ⟨_, rfl⟩
       cases ok
       ·
        have hyn : y1 = note0 := by
         rw [← hy1, seen]
         cases hv : c1.vw ((j + 1 : Nat) : Int) with
         | none => rfl
         | some z => rw [hv] at hok2; cases hok2
        have hy11 : y1.1 = 0 := by rw [hyn]; rfl
        refine zC (zC (zD ?_))
        refine kR 1 H rfl fun a H => ?_
        refine kV H (r_le U3 (H.ev rfl) evc (dec_t (by omega))) rfl fun a H => ?_
        refine zA (zB (zH H rfl (zE (zB (zC ?_)))))
        refine wp_block ?_
        refine zC (zD ?_)
        refine kR 2 H rfl fun a H => ?_
        refine wl_call _ _ _ (view_l _ _ _ c1 ((j + 1 : Nat) : Int) y1 false hVM.cl (by omega) hy1 hok2) (r_call2 cf35 (H.ev rfl) (H.ev rfl)) ?_; rintro e w9 ⟨rfl, hb⟩; refine ⟨_, rfl, ?_⟩; replace hVM := VM.up hVM hb; replace hall := hall.tr hb; clear hb; refine kl H rfl fun a H => ?_
        refine kR 3 H rfl fun a H => ?_
        refine op_new 49 19 (.tmp 120) (cN y1) _ z49 s49 rfl (by simp [Value.oneCell']) (fun p => (H.put 19 p rfl).ev rfl) (fun p => (H.put 19 p rfl).ev rfl) fun w19 b19 hge hb k19 => ?_; have g19 := Nat.le_trans hall.size hge; replace hVM := VM.up hVM hb; replace hall := hall.tr hb; clear hb; clear hge; refine kl H rfl fun a H => ?_
        refine kR 1 H rfl fun a H => ?_
        refine zA (zB (zC ?_))
        obtain ⟨bw, ow, hAw, hrgw⟩ := flat_some encN_len (row_holds (NOwn.row hVM.row)) (by omega) (j := j) (by rw [wasL_len]; exact hj6)
        subst hAw
        rw [show (wasL c 16)[j]'(by rw [wasL_len]; exact hj6) = y0 from by rw [← hy0]; exact Option.some.inj ((List.getElem?_eq_getElem _).symm.trans (wasL_at hj6))] at hrgw
        refine zD ?_
        refine kR 2 H rfl fun a H => ?_
        refine kV (v := .int .i64 (j : Nat)) H (r_sub (q := ((j : Nat) : Int)) U3 (H.ev rfl) evc (by omega) (by omega)) rfl fun a H => ?_
        refine kV (v := .pointer (some ⟨bw, ow + j * 4, none⟩)) H (r_idx (j := j) (q := ow + j * 4) U53 s49 (H.ev rfl) (H.ev rfl) (by rw [wasL_len]; exact hj6) rfl) rfl fun a H => ?_
        refine kV (v := .agg (cN y0)) H (r_row (cs := [.int .i64 y0.1, .int .i64 y0.2.1, .int .i64 y0.2.2.1, .int .i64 y0.2.2.2]) (H.ev rfl) hrgw (by kernel_rfl) s49 rfl) rfl fun a H => ?_
        refine op_new 49 21 (.tmp 126) (cN y0) _ z49 s49 rfl (by simp [Value.oneCell']) (fun p => (H.put 21 p rfl).ev rfl) (fun p => (H.put 21 p rfl).ev rfl) fun w21 b21 hge hb k21 => ?_; have g21 := Nat.le_trans hall.size hge; have d19_21 : b19 < b21 := Nat.lt_of_lt_of_le k19.lt hge; replace hVM := VM.up hVM hb; replace k19 := Block.ups k19 hb; replace hall := hall.tr hb; clear hb; clear hge; refine kl H rfl fun a H => ?_
        refine zA (zB (zC (zC (zD ?_))))
        refine kR 2 H rfl fun a H => ?_
        refine kV H (r_ld U3 rfl (H.ev rfl) ((Block.cell k19 0).trans rfl)) rfl fun a H => ?_
        refine kR 1 H rfl fun a H => ?_
        refine kV H (r_eq U3 (H.ev rfl) (H.ev rfl) (dec_f (by omega))) rfl fun a H => ?_
        refine kV (v := .bool false) H (r_nebool U4 (H.ev rfl) (H.ev rfl) rfl) rfl fun a H => ?_
        refine kR 2 H rfl fun a H => ?_
        refine kW H rfl (r_not (H.ev rfl) rfl) rfl fun a H => ?_
        refine kR 1 H rfl fun a H => ?_
        refine kG H rfl ?_; refine kV (v := .agg (cN y1)) H (run_load_row b19 49 _ _ (H.ev rfl) k19 U49 rfl s49) rfl fun a H => ?_
        refine kG H rfl ?_; refine kV (v := .agg (cN note0)) H (r_build #[] (.agg (cN note0)) (by simp) (fun w => by kernel_rfl)) rfl fun a H => ?_
        refine kG H rfl ?_; refine kV (v := .bool false) H (r_ne49 (x := y1) (y := note0) (H.ev rfl) (H.ev rfl) (by rw [decide_eq_true hyn]; rfl)) rfl fun a H => ?_
        refine kR 2 H rfl fun a H => ?_
        refine zA (zB (zG H rfl (zE (zB (zC (zC ?_))))))
        by_cases hyy : y1 = y0
        ·
         refine zD ?_
         refine kV (v := .agg (cN y1)) H (run_load_row b19 49 _ _ (H.ev rfl) k19 U49 rfl s49) rfl fun a H => ?_
         refine kV (v := .agg (cN y0)) H (run_load_row b21 49 _ _ (H.ev rfl) k21 U49 rfl s49) rfl fun a H => ?_
         refine kV (v := .bool true) H (r_eq49 (x := y1) (y := y0) (H.ev rfl) (H.ev rfl) (decide_eq_true hyy)) rfl fun a H => ?_
         refine zA (zB (zH H rfl (wp_exit (e_then ?_))))
         refine e_here ?_
         refine zB (zD ?_)
         refine kR 1 H rfl fun a H => ?_
         refine kV H (r_add (q := ((j + 1 + 1 : Nat) : Int)) U3 (H.ev rfl) evc (by omega) (by omega)) rfl fun a H => ?_
         refine kR 1 H rfl fun a H => ?_
         refine zA ?_
         refine zI ⟨⟨j + 1, H.pick [1, 5, 7, 8, 9, 10, 14, 15, 16, 17, 18], by omega, hVM, hall⟩, ?_⟩
         rw [H.ev (j := 18) rfl, H1.ev (j := 18) rfl]
         simp only [intOf]
         omega
        ·
         refine zD ?_
         refine kV (v := .agg (cN y1)) H (run_load_row b19 49 _ _ (H.ev rfl) k19 U49 rfl s49) rfl fun a H => ?_
         refine kV (v := .agg (cN y0)) H (run_load_row b21 49 _ _ (H.ev rfl) k21 U49 rfl s49) rfl fun a H => ?_
         refine kV (v := .bool false) H (r_eq49 (x := y1) (y := y0) (H.ev rfl) (H.ev rfl) (decide_eq_false hyy)) rfl fun a H => ?_
         refine zA (zB (zG H rfl (zE (zB (zC (zC (zD ?_)))))))
         refine kR 1 H rfl fun a H => ?_
         refine zA (zB (zH H rfl (zC (zC (zD ?_)))))
         refine kR 1 H rfl fun a H => ?_
         refine zA (zB (zG H rfl (zE (zB (wp_exit (e_then ?_))))))
         refine e_here ?_
         refine zB (zD ?_)
         refine kR 1 H rfl fun a H => ?_
         refine kV H (r_add (q := ((j + 1 + 1 : Nat) : Int)) U3 (H.ev rfl) evc (by omega) (by omega)) rfl fun a H => ?_
         refine kR 1 H rfl fun a H => ?_
         refine zA ?_
         refine zI ⟨⟨j + 1, H.pick [1, 5, 7, 8, 9, 10, 14, 15, 16, 17, 18], by omega, hVM, hall⟩, ?_⟩
         rw [H.ev (j := 18) rfl, H1.ev (j := 18) rfl]
         simp only [intOf]
         omega
       ·
        have hy11 : y1.1 = ((j + 1 : Nat) : Int) := by
         rw [← hy1, seen]
         cases hv : c1.vw ((j + 1 : Nat) : Int) with
         | none => rw [hv] at hok2; cases hok2
         | some z => exact (hVM.cl.ok.vw _ _ hv).1
        exfalso
        rw [hnw] at hok2
        cases hok2
      ·
       obtain rfl : j = 16 := by omega
       refine zC (zC (zD ?_))
       refine kR 1 H rfl fun a H => ?_
       refine kV H (r_le U3 (H.ev rfl) evc (dec_f (by omega))) rfl fun a H => ?_
       refine zA (zB (zG H rfl (wp_exit (e_then (e_then ?_)))))
       refine e_here ?_
       refine zB (zC (zD ?_))
       refine kR 4 H rfl fun a H => ?_
       refine kG H rfl ?_; refine wl_call _ _ _ (waits_l _ _ _ c1 ((c1.os.length : Nat) : Int) hVM.cl rfl) (r_call1 cf31 (H.ev rfl)) ?_; rintro e w9 ⟨rfl, hb⟩; refine ⟨_, rfl, ?_⟩; replace hVM := VM.up hVM hb; replace hall := hall.tr hb; clear hb; refine kl H rfl fun a H => ?_
       refine kW H rfl (r_eq U3 (H.ev rfl) evc (dec_t (by omega))) rfl fun a H => ?_
       refine kR 1 H rfl fun a H => ?_
       refine kV (v := .bool false) H (r_nebool U4 (H.ev rfl) (H.ev rfl) rfl) rfl fun a H => ?_
       refine zA (zB (zG H rfl (zE (n_block (zB (zD ?_))))))
       refine kR 1 H rfl fun a H => ?_
       refine kV H (r_add (q := ((i + 1 : Nat) : Int)) U3 (H.ev rfl) evc (by omega) (by omega)) rfl fun a H => ?_
       refine kR 1 H rfl fun a H => ?_
       refine zA ?_
       refine zI ⟨⟨i + 1, _, c1, K1, H.pick [1, 5, 7, 8, 9], by omega, hVM.len, hVM.key, hVM.cl, hVM.k8, hall⟩, ?_⟩
       rw [H.ev (j := 9) rfl, H0.ev (j := 9) rfl]
       simp only [intOf]
       omega
  ·
   obtain rfl : i = L.length := by omega
   refine zC (zC (zD ?_))
   refine kR 2 H rfl fun a H => ?_
   refine kV H (r_len U22 (H.ev rfl)) rfl fun a H => ?_
   refine kV H (r_lt U3 (H.ev rfl) (H.ev rfl) (dec_f (by omega))) rfl fun a H => ?_
   refine zA (zB (zG H rfl (wp_exit (e_then (e_then ?_)))))
   refine e_here ?_
   refine zB (zC (zD ?_))
   refine kR 2 H rfl fun a H => ?_
   refine zA (zB (zF ?_))
   exact k_ret1 H rfl rfl ⟨rfl, hall⟩
set_option maxRecDepth 100000 in
theorem clientViews_lifted (os : Os) (started : os.Started) (H : Type) (enc : TypeId × Value → H) :
  ReturnsInHanded {} Tryz.checked os 4 .any (Rows.clientViewsSpec.pre6 enc Tryz.prog Tryz.f4 Rows.clientViewsRow.domain false) (Rows.clientViewsSpec.post enc Tryz.prog Tryz.f4 false true false false) := by
 refine returnsInHanded_of_change (C := Tryz.checked) own started (by kernel_rfl) Tryz.func4
  (ChangeSpec.witness6 (enc := enc) (C := Tryz.checked) false ⟨#[], #[.int .i64 0, .slice none 0 0], []⟩ 8 (by kernel_rfl) (by kernel_rfl) (by kernel_rfl) (by kernel_rfl)) ?_
 intro W base args ds gs before hval0 hW hcnd _
 have hval : ∀ (j : Nat) t v, Tryz.f4.params[j]? = some t → args[j]? = some v → Value.okWide Tryz.prog W .any base t v := hval0
 have hW' := hW
 obtain ⟨p, q, hA0, hV, rfl, hfz, hnd⟩ := hW
 have hA : DataW.TrodAll enc Tryz.prog W 0 (fun _ => true) true Tryz.f4.params.toList args.toList ds p := hA0
 rw [Tryz.params4] at hA hval
 obtain ⟨v0, vs0, d0, ds0, p0, q0, hargs, rfl, rfl, h0, r0⟩ := trodAll_cons hA
 obtain ⟨v1, vs1, d1, ds1, p1, q1, rfl, rfl, rfl, h1, r1⟩ := trodAll_cons r0
 obtain ⟨rfl, rfl, rfl⟩ := trodAll_nil r1
 obtain rfl : args = #[v0, v1] := by cases args; simp_all
 obtain ⟨rfl, rfl⟩ := trodVars_none hV
 have k1 := h1
 have lt1 : ∀ x ∈ p1, x.block < W.heap.size := by obtain ⟨m, hm⟩ := k1; exact DataW.trod_lt m _ _ _ hm
 obtain ⟨u0, rfl, rfl, rfl, wu0⟩ := open_int U3 (hval 0 3 v0 rfl rfl) h0
 obtain ⟨L1, hL1⟩ := open_acts (hval 1 22 v1 rfl rfl) h1
 clear hA0 hval0
 refine (views_all W u0 v1 L1 hL1).mono fun e W' ⟨he, bel⟩ => ?_
 subst he
 exact ⟨_, rfl, _, _, _, [], _, [], hW', trodAll_mk1 (shut_bool U4 _), (trodAll_cons_mk (shut_int U3 wu0) (trodAll_cons_mk (Below.trod laidOut (by kernel_rfl) (of_decide_eq_true (by kernel_rfl)) k1 bel lt1) trodAll_mk0)), rfl, bel.frame _, fun h => by cases h⟩
theorem clientViews_holds : Rows.ClientViewsSaid :=
 OpenClaim.holds_of_wide 4 Tryz.f4 rfl rfl rfl rfl rfl rfl rfl ⟨rfl, rfl, rfl, rfl, rfl⟩ rfl rfl rfl rfl rfl (by kernel_rfl) Tryz.func4 (by kernel_rfl)
  (of_decide_eq_true (by kernel_rfl)) (by unfold Func.isWrapper; first | (rw [if_pos (by decide +kernel)]; kernel_rfl) | (rw [if_neg (by decide +kernel)]; exact ⟨rfl, rfl⟩))
  (fun os started H enc _ => clientViews_lifted os started H enc)
#print axioms clientViews_holds
end
end Go.Proofs.YtbnmpoonkjlkjaaGreat
