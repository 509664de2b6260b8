/- Client: part ZRa of the proof. -/
import Derived.Test.YtbnmpoonkjlkjaaGreatXM
import Derived.ChangeSame
import Derived.ChangeOld
namespace Go.Proofs.YtbnmpoonkjlkjaaGreat
open Go.RowKit
set_option linter.unusedVariables false
set_option linter.unusedSimpArgs false
section
open Go.ChangeShapes Go.WideShapes Go.ChangeAt Go.Maps
theorem AkInv.more {c : Cl} {k : List B8} {i : Int} {seen : List It} {x : It} (h : AkInv c k i seen) : AkInv c k i (seen ++ [x]) :=
 ⟨h.state, h.id, h.key, fun y hy => by simp [h.pend y hy], fun u y hy => by
  obtain ⟨s, hs, hl⟩ := h.bel u y hy
  exact ⟨s, by simp [hs], hl⟩⟩
theorem note_range {w : World} {b o : Nat} {x : It} (h : w.rangeAt b o (IV (encI x))) : w.rangeAt b (o + 1) [.int .i64 x.2.1, .int .i64 x.2.2.1, .int .i64 x.2.2.2.1, .int .i64 x.2.2.2.2] := fun j v hj => by
 have := h (1 + j) v (by
  match j, hj with
  | 0, hj => exact hj
  | 1, hj => exact hj
  | 2, hj => exact hj
  | 3, hj => exact hj
  | j + 4, hj => simp at hj)
 rwa [← Nat.add_assoc] at this
theorem pt_u1 {P : Program} {l : List (Nat × Value)} {n : Nat} {L : List Oper} {Q : Exit → Act → World → Prop} {S : World → Prop} {z i : Nat} {t : PT} {a : Act} {w : World} {d : Option Tmp} {op : Op} {tt : TypeId} {ps : String} {af : Array Edge} {j : Nat} {b : Bool} {oj : Oper} {k : Tmp} (H : Kn a n l) (ho : nthO L i = some ⟨d, op, tt, ps, af, some (j, b)⟩)
  (hj : nthO L j = some oj) (hd : oj.dst = some k) (hv : lk l k = some undef) (h : wpT P L Q S z t (a.put d undef) w) : wpT P L Q S z (.fl i t) a w :=
 ⟨_, ho, by
  have hw : Region.wanted ⟨d, op, tt, ps, af, some (j, b)⟩ (yielded L.toArray a.tmps) = false := kg_un (ops := L.toArray) rfl H (by simpa using hj) hd hv
  rw [if_neg (by rw [hw]; simp)]
  exact h⟩
theorem range_onlym {w w' : World} {b g o : Nat} {cs : List Value} {m : Option Nat} {vw : Int → Option Nt} (h : w.rangeAt g o cs) (hm : MapAt w m vw) (hne : g ≠ b) (ho : Only b m w w') : w'.rangeAt g o cs := fun j v hj => by
 have h1 := h j v hj
 have h2 := World.block_lt_of_cell? w _ h1
 rw [← h1]
 unfold World.cell?
 rw [ho.block g h2 hne (fun e => by
  subst e
  have := VMap.no_cell (show VMap w g vw from hm) (o + j)
  rw [this] at h1
  cases h1)]
def decI (l : List Int) : It := (l.getD 0 0, l.getD 1 0, l.getD 2 0, l.getD 3 0, l.getD 4 0)
theorem decI_enc (l : List Int) (h : l.length = 5) : encI (decI l) = l := by
 match l, h with
 | [a, b, c, d, e], _ => rfl
theorem it65 : intTy Tryz.prog 4 65 = true := by kernel_rfl
theorem co65 : Tryz.prog.cellsOf 65 = 5 := by kernel_rfl
theorem flat_in {x : It} {e : Int} : ∀ {L : List It}, x ∈ L → e ∈ encI x → e ∈ flat encI L := fun h he => List.mem_flatMap.2 ⟨x, h, he⟩
section
variable {H : Type} {enc : TypeId × Value → H} {w : World} {base : Nat} {spare : Nat → Bool} {held : Bool}
set_option maxRecDepth 100000 in
theorem open_items {r : Reach} {b0 : Nat} {v : Value} {dd : DataW H} {p : List MemPlace} (hv : Value.okWide Tryz.prog w r b0 63 v) (h : DataW.Trod enc Tryz.prog w base spare held 63 v dd p) :
  ∃ L : List It, IRow w v L ∧ (∀ x ∈ L, i64 x.1 ∧ i64 x.2.1 ∧ i64 x.2.2.1 ∧ i64 x.2.2.2.1 ∧ i64 x.2.2.2.2) ∧ (∀ A c, v = .slice A L.length c → ∀ b o, A = some ⟨b, o, none⟩ → ∀ j : Nat, j < L.length → b < w.heap.size) := by
 obtain ⟨A, n, c, B, rfl, hB, hw, hnc, hcm, hh, hz⟩ := open_slice_ints 4 5 U63 it65 co65 (by omega) hv h
 obtain ⟨L, rfl, rfl⟩ := unflat decI decI_enc n B hB
 refine ⟨L, ⟨A, c, rfl, hnc, hcm, hz, hh⟩, fun x hx => ?_, fun A1 c1 e b o ea j hj => ?_⟩
 ·
  have hq : ∀ e ∈ encI x, i64 e := fun e he => i64_wf (hw e (flat_in hx he))
  exact ⟨hq _ (by simp [encI]), hq _ (by simp [encI]), hq _ (by simp [encI]), hq _ (by simp [encI]), hq _ (by simp [encI])⟩
 ·
  injection e with e
  subst e
  obtain ⟨b', o', e2, hrg⟩ := flat_some encI_len hh (by omega) hj
  rw [ea] at e2
  injection e2 with e2
  injection e2 with e2
  subst e2
  exact World.block_lt_of_cell? w _ (range_cell hrg 0 rfl)
end
def Rka (W : World) (bcl b0 : Nat) (A : Option Addr) (cl : Nat) (i : Int) (k : List B8) (L : List It) (a : Act) (w : World) : Prop :=
 ∃ (j : Nat) (m : Option Nat) (c : Cl) (la : Int), Kn a 168 [(0, .int .i64 (i)), (2, .slice A L.length cl), (4, .pointer (some ⟨b0, 0, none⟩)), (7, .bool true), (8, .pointer (some ⟨bcl, 0, none⟩)), (9, .int .i64 (la)), (10, .int .i64 (j : Nat))] ∧ j ≤ L.length ∧ la = c.next - 1 ∧ AkInv c k i (L.take j) ∧ ClAt w bcl m c ∧ Block w b0 33 (barr k) ∧ Below W.heap.size W w
def Rkb (W : World) (bcl : Nat) (A : Option Addr) (cl : Nat) (i : Int) (k : List B8) (L : List It) (c : Cl) (m : Option Nat) (la : Int) (a : Act) (w : World) : Prop :=
 ∃ u : Nat, Kn a 168 [(0, .int .i64 (i)), (2, .slice A L.length cl), (7, .bool true), (8, .pointer (some ⟨bcl, 0, none⟩)), (9, .int .i64 (la)), (19, .int .i64 (u : Nat))] ∧ 1 ≤ u ∧ u ≤ 17 ∧ ClAt w bcl m c ∧ Below W.heap.size W w
def Rkc (W : World) (bcl b20 u : Nat) (A : Option Addr) (cl : Nat) (i : Int) (L : List It) (c : Cl) (m : Option Nat) (la : Int) (y : Nt) (ok : Bool) (a : Act) (w : World) : Prop :=
 ∃ (j : Nat) (had : Bool), Kn a 168 [(0, .int .i64 (i)), (2, .slice A L.length cl), (7, .bool true), (8, .pointer (some ⟨bcl, 0, none⟩)), (9, .int .i64 (la)), (19, .int .i64 (u : Nat)), (20, .pointer (some ⟨b20, 0, none⟩)), (21, .bool ok), (22, .bool had), (23, .int .i64 (j : Nat))] ∧ j ≤ L.length ∧ (∀ (q : Nat) z, q < j → L[q]? = some z → z.2 = y → z.1 ≤ la → had = true) ∧ Block w b20 49 (cN y) ∧ ClAt w bcl m c ∧ Below W.heap.size W w
set_option maxRecDepth 100000 in
set_option maxHeartbeats 4000000 in
theorem acks_all (w : World) (i : Int) (v : Value) (k : List B8) (hk : k.length = 16) (L : List It) (hr : IRow w v L) (hwf : ∀ x ∈ L, i64 x.1 ∧ i64 x.2.1 ∧ i64 x.2.2.1 ∧ i64 x.2.2.2.1 ∧ i64 x.2.2.2.2) (hlow0 : ∀ A c, v = .slice A L.length c → ∀ b o, A = some ⟨b, o, none⟩ → ∀ j : Nat, j < L.length → b < w.heap.size) : Calls Tryz.prog 10 #[.int .i64 (i), .agg (barr k), v] w fun e w' => e = .returned (.bool true) ∧ Below w.heap.size w w' := by
 obtain ⟨A, cl, hvv⟩ := row_shape hr
 subst hvv
 have hall := Below.refl w.heap.size w
 refine K_enter 168 Tryz.func10 rfl rfl fun a H => ?_
 replace H := H.pick [0, 1, 2]
 refine zC (zD ?_)
 refine op_box 33 (.tmp 1) (barr k) (H.ev rfl) fun w0 b0 hge hb k0 => ?_; have g0 := Nat.le_trans hall.size hge; replace hall := hall.tr hb; clear hb; clear hge; refine kl H rfl fun a H => ?_
 refine kR 1 H rfl fun a H => ?_
 refine zA (zB (zC (zD ?_)))
 refine wl_call _ _ _ (small_any _) (r_call0 cf11) ?_; rintro e w9 ⟨rfl, hb⟩; refine ⟨_, rfl, ?_⟩; replace k0 := Block.ups k0 hb; replace hall := hall.tr hb; clear hb; refine kl H rfl fun a H => ?_
 refine kR 1 H rfl fun a H => ?_
 refine zA (zB (zC (zC (zD ?_))))
 refine kR 1 H rfl fun a H => ?_
 by_cases hcc0 : (i) < 1
 ·
  refine kV H (r_lt U3 (H.ev rfl) evc (dec_t (hcc0))) rfl fun a H => ?_
  refine kR 9 H rfl fun a H => ?_
  refine zA (zB (zH H rfl (zC (zD ?_))))
  refine kR 2 H rfl fun a H => ?_
  refine zA (zB (zF (zJ ?_)))
  exact k_ret1 H rfl rfl ⟨rfl, hall⟩
 ·
  refine kV H (r_lt U3 (H.ev rfl) evc (dec_f (hcc0))) rfl fun a H => ?_
  refine kR 2 H rfl fun a H => ?_
  by_cases hcc1 : (i) > 1073741824
  ·
   refine kW H rfl (r_gt U3 (H.ev rfl) evc (dec_t (hcc1))) rfl fun a H => ?_
   refine kR 6 H rfl fun a H => ?_
   refine zA (zB (zH H rfl (zC (zD ?_))))
   refine kR 2 H rfl fun a H => ?_
   refine zA (zB (zF (zJ ?_)))
   exact k_ret1 H rfl rfl ⟨rfl, hall⟩
  ·
   refine kW H rfl (r_gt U3 (H.ev rfl) evc (dec_f (hcc1))) rfl fun a H => ?_
   refine kR 3 H rfl fun a H => ?_
   refine kW H rfl (r_len U63 (H.ev rfl)) rfl fun a H => ?_
   by_cases hcc2 : ((L.length : Nat) : Int) > 50
   ·
    refine kW H rfl (r_gt U3 (H.ev rfl) evc (dec_t (hcc2))) rfl fun a H => ?_
    refine kR 1 H rfl fun a H => ?_
    refine zA (zB (zH H rfl (zC (zD ?_))))
    refine kR 2 H rfl fun a H => ?_
    refine zA (zB (zF (zJ ?_)))
    exact k_ret1 H rfl rfl ⟨rfl, hall⟩
   ·
    refine kW H rfl (r_gt U3 (H.ev rfl) evc (dec_f (hcc2))) rfl fun a H => ?_
    refine kR 1 H rfl fun a H => ?_
    refine zA (zB (zG H rfl (zE (zB (zC (zD ?_))))))
    refine kR 1 H rfl fun a H => ?_
    refine kV H (run_load_row b0 33 _ _ (H.ev rfl) k0 U33 rfl (by rw [barr_size, hk]; exact s33a)) rfl fun a H => ?_
    refine wl_call _ _ _ (on_any _ 3 7 i k hk (by omega) (by omega)) (r_call4 cf40 evc evc (H.ev rfl) (H.ev rfl)) ?_; rintro e w9 ⟨⟨bcl, m0, rfl, hge, hcl⟩, hb⟩; refine ⟨_, rfl, ?_⟩; rw [show clampU 3 = 3 from rfl] at hcl; have ghcl : _ ≤ bcl := Nat.le_trans hall.size hge; have dbcl_0 : b0 < bcl := Nat.lt_of_lt_of_le k0.lt hge; replace k0 := Block.ups k0 hb; replace hall := hall.tr hb; clear hb; clear hge; refine kl H rfl fun a H => ?_
    refine kR 1 H rfl fun a H => ?_
    refine zA (zB (zC (zC (zD ?_))))
    refine kR 1 H rfl fun a H => ?_
    refine kV H (r_eqpnil (H.ev rfl) rfl) rfl fun a H => ?_
    refine zA (zB (zG H rfl (zE (zB (zC ?_)))))
    have hi : 1 ≤ i ∧ i ≤ 1073741824 := by omega
    refine zD ?_
    refine kR 1 H rfl fun a H => ?_
    refine zA (zB (zC (zC (zD ?_))))
    refine kR 1 H rfl fun a H => ?_
    refine zA (zB ?_)
    refine wp_block ?_
    refine wp_loop (Rka w bcl b0 A cl i k L) (fun a _ => L.length - (intOf (a.eval (.tmp 10))).toNat) ⟨0, m0, J3 3 7 0 k i, 0, H.pick [0, 2, 4, 7, 8, 9, 10], by omega, rfl, ak_zero, hcl, k0, hall⟩ ?_
    clear H hall hcl k0
    rintro a w' ⟨j, m, c, la, H, hj, hla, hak, hcl, k0, hall⟩
    have H0 := H
    by_cases hlt : j < L.length
    ·
     obtain ⟨bx, ox, hA, hrg⟩ := flat_some encI_len (row_holds (Row.up hr hall)) (by omega) hlt
     subst hA
     obtain ⟨x, hxe⟩ : ∃ x, L[j] = x := ⟨_, rfl⟩
     rw [hxe] at hrg
     have hx : L[j]? = some x := by rw [← hxe]; exact List.getElem?_eq_getElem hlt
     clear hxe
     have hcn := hcl.ok.next
     have hpo : (noteP i x.1 x.2).ok := by
      obtain ⟨h1, h2, h3, h4, h5⟩ := hwf x (List.mem_of_getElem? hx)
      exact note_pok (i64_id (by omega)) h1 h2 h3 h4 h5
     have htk : L.take (j + 1) = L.take j ++ [x] := by rw [List.take_add_one, hx]; rfl
     have hltA : bx < bcl := Nat.lt_of_lt_of_le (hlow0 _ _ rfl bx ox rfl j hlt) ghcl
     refine zC (zC (zD ?_))
     refine kR 2 H rfl fun a H => ?_
     refine kV H (r_len U63 (H.ev rfl)) rfl fun a H => ?_
     refine kV H (r_lt U3 (H.ev rfl) (H.ev rfl) (dec_t (by omega))) rfl fun a H => ?_
     refine zA (zB (zH H rfl (zE (zB (zC ?_)))))
     refine wp_block ?_
     refine zC (zD ?_)
     refine kR 2 H rfl fun a H => ?_
     refine kV (v := .pointer (some ⟨bx, ox + j * 5, none⟩)) H (r_idx (j := j) (q := ox + j * 5) U63 s65 (H.ev rfl) (H.ev rfl) hlt rfl) rfl fun a H => ?_
     refine kV (v := .pointer (some ⟨bx, ox + j * 5 + 1, none⟩)) H (r_fld (q := ox + j * 5 + 1) fld65_1 (H.ev rfl) rfl) rfl fun a H => ?_
     refine kV (v := .agg (cN x.2)) H (r_row (cs := [.int .i64 x.2.1, .int .i64 x.2.2.1, .int .i64 x.2.2.2.1, .int .i64 x.2.2.2.2]) (H.ev rfl) (note_range hrg) (by kernel_rfl) s49 rfl) rfl fun a H => ?_
     refine op_new 49 11 (.tmp 52) (cN x.2) _ z49 s49 rfl (by simp [Value.oneCell']) (fun p => (H.put 11 p rfl).ev rfl) (fun p => (H.put 11 p rfl).ev rfl) fun w11 b11 hge hb k11 => ?_; have g11 := Nat.le_trans hall.size hge; have d0_11 : b0 < b11 := Nat.lt_of_lt_of_le k0.lt hge; have dhcl_11 : bcl < b11 := Nat.lt_of_lt_of_le hcl.lt hge; replace k0 := Block.ups k0 hb; replace hcl := ClAt.up hcl hb; replace hrg := range_up hrg hb; replace hall := hall.tr hb; clear hb; clear hge; refine kl H rfl fun a H => ?_
     refine zA (zB (zC ?_))
     have hall12 := hall
     have hS : BelowOf (BelowTo hall12) _ := Below.drew (Below.refl _ (BelowTo hall12))
     refine region_tree (BelowOf (BelowTo hall12)) 23 (.fl 0 (.fl 1 (.fl 2 (.fl 3 (.fl 4 (.fl 5 (.fl 6 (.fl 7 (.fl 8 (.fl 9 (.fl 10 (.fl 11 (.fl 12 (.fl 13 (.fl 14 (.fl 15 (.two 16 (.fl 17 (.fl 18 (.fl 19 (.one 20 (.one 21 (.fl 22 .done)))))) 20 (.one 16 (.fl 17 (.fl 18 (.fl 19 (.one 21 (.fl 22 .done))))))))))))))))))))))) (by kernel_rfl) (by kernel_rfl) rfl (by kernel_rfl) hS ?_
     refine kF (v := .agg (barr k)) H rfl rfl (fun w' hS' => run_load_row b0 33 _ _ (H.ev rfl) (Block.ups k0 hS') U33 rfl (by rw [barr_size, hk]; exact s33a)) rfl fun a H => ?_
     refine kQ 3 H rfl fun a H => ?_
     refine kF (v := .pointer (some ⟨bx, ox + j * 5, none⟩)) H rfl rfl (fun w' hS' => r_idx (j := j) (q := ox + j * 5) U63 s65 (H.ev rfl) (H.ev rfl) hlt rfl) rfl fun a H => ?_
     refine kF (v := .pointer (some ⟨bx, ox + j * 5, none⟩)) H rfl rfl (fun w' hS' => r_fld (q := ox + j * 5) fld65_0 (H.ev rfl) rfl) rfl fun a H => ?_
     refine kF (v := .int .i64 (x.1)) H rfl rfl (fun w' hS' => r_ld U3 rfl (H.ev rfl) (range_cell (range_up hrg hS') 0 rfl)) rfl fun a H => ?_
     refine kQ 1 H rfl fun a H => ?_
     refine kF H rfl rfl (fun w' hS' => r_ld U3 rfl (H.ev rfl) ((Block.cell (Block.ups k11 hS') 0).trans rfl)) rfl fun a H => ?_
     refine kQ 1 H rfl fun a H => ?_
     refine kF H rfl rfl (fun w' hS' => r_ld U3 rfl (H.ev rfl) ((Block.cell (Block.ups k11 hS') 1).trans rfl)) rfl fun a H => ?_
     refine kQ 1 H rfl fun a H => ?_
     refine kF H rfl rfl (fun w' hS' => r_ld U3 rfl (H.ev rfl) ((Block.cell (Block.ups k11 hS') 2).trans rfl)) rfl fun a H => ?_
     refine kQ 1 H rfl fun a H => ?_
     refine kF H rfl rfl (fun w' hS' => r_ld U3 rfl (H.ev rfl) ((Block.cell (Block.ups k11 hS') 3).trans rfl)) rfl fun a H => ?_
     refine kF (v := .agg (pv (noteP i x.1 x.2))) H rfl rfl (fun w' hS' => r_build #[(0, .int .i64 8), (1, .int .i64 i), (2, .int .i64 x.1), (3, .int .i64 x.2.1), (7, .int .i64 x.2.2.1), (5, .int .i64 x.2.2.2.1), (6, .int .i64 x.2.2.2.2)] (.agg (pv (noteP i x.1 x.2))) (by simp [evc, H.ev (j := 55) rfl, H.ev (j := 60) rfl, H.ev (j := 62) rfl, H.ev (j := 64) rfl, H.ev (j := 66) rfl, H.ev (j := 68) rfl]) (fun w => by kernel_rfl)) rfl fun a H => ?_
     refine pt_two (fun K hK => ?_) (fun K hK => ?_)
     ·
      refine st_a0 rfl ?_; refine wpo_call _ _ _ (rsign_any _ k (noteP i x.1 x.2) hk hpo) (r_call2 cf43 (H.ev rfl) (H.ev rfl)) ?_; rintro e w9 ⟨rfl, hb⟩; refine ⟨_, rfl, ?_⟩; replace hS := Below.trans hS (Below.mono hb (Below.size hS)); clear hb; refine hK _ _ ⟨(fun _ => hS), ?_⟩; clear hK; clear K; refine kt H rfl fun a H => ?_
      refine kQ 3 H rfl fun a H => ?_
      refine pt_one (fun K hK => ?_)
      refine st_a0 rfl ?_; refine wpo_alloc 36 (pv pk0) z36 fun w1 b12 hge hb k12 => ?_; have gz1 := Nat.le_trans (Below.size hS) hge; replace hS := Below.trans hS (Below.mono hb (Below.size hS)); clear hb hge; refine hK _ _ ⟨(fun _ => hS), ?_⟩; clear hK; clear K; refine kt H rfl fun a H => ?_
      refine pt_one (fun K hK => ?_)
      refine st_a0 rfl ?_; refine wpo_store 36 (.tmp 12) (.tmp 71) b12 36 (pv (sigP k (noteP i x.1 x.2))) _ (H.ev rfl) (H.ev rfl) k12 (s36p (show (sigP k (noteP i x.1 x.2)).ok from sgn_ok hpo)) (by rw [pv_size pk0_ok, pv_size (show (sigP k (noteP i x.1 x.2)).ok from sgn_ok hpo)]) (pv_one _) fun w' hb ho kq => ?_; clear k12; have k12 := kq; replace hS := Below.trans hS (hb _ gz1); clear hb ho kq; refine hK _ _ ⟨(fun _ => hS), ?_⟩; clear hK; clear K; skip
      refine kQ 1 H rfl fun a H => ?_
      refine pt_done (NoPanic.normal ?_)
      replace k0 := Block.ups k0 hS
      replace hcl := ClAt.up hcl hS
      replace hrg := range_up hrg hS
      replace k11 := Block.ups k11 hS
      replace hall := hall.trans (Below.mono hS hall.size)
      clear hS
      refine zB (zC (zC ?_))
      skip
      obtain ⟨so, hs0⟩ : ∃ so, signOk (noteP i x.1 x.2) = so := ⟨_, rfl⟩
      rw [hs0] at H
      cases so
      ·
       refine zD ?_
       refine kR 1 H rfl fun a H => ?_
       refine kV H (r_not (H.ev rfl) rfl) rfl fun a H => ?_
       refine zA (zB (zH H rfl (wp_exit (e_then ?_))))
       refine e_here ?_
       refine zB (zD ?_)
       refine kR 1 H rfl fun a H => ?_
       refine kV H (r_add (q := ((j + 1 : Nat) : Int)) U3 (H.ev rfl) evc (by omega) (by omega)) rfl fun a H => ?_
       refine kR 1 H rfl fun a H => ?_
       refine zA ?_
       refine zI ⟨⟨j + 1, _, c, la, H.pick [0, 2, 4, 7, 8, 9, 10], by omega, hla, by rw [htk]; exact hak.more, hcl, k0, hall⟩, ?_⟩
       rw [H.ev (j := 10) rfl, H0.ev (j := 10) rfl]
       simp only [intOf]
       omega
      ·
       rw [show sigP k (noteP i x.1 x.2) = signF k (noteP i x.1 x.2) from if_pos hs0] at k12
       obtain ⟨c1, s, hC, hak1, hO, hnx, hna, hns⟩ := ak_step hi hcl.ok hak hpo hs0
       refine zD ?_
       refine kR 1 H rfl fun a H => ?_
       refine kV H (r_not (H.ev rfl) rfl) rfl fun a H => ?_
       refine zA (zB (zG H rfl (zE (zB (zC (zD ?_))))))
       refine kV (v := .agg (pv (signF k (noteP i x.1 x.2)))) H (run_load_row b12 36 _ _ (H.ev rfl) k12 U36 rfl (s36p (signF_ok hpo))) rfl fun a H => ?_
       refine wl_call _ _ _ (renc_l _ (signF k (noteP i x.1 x.2)) (encF (signF k (noteP i x.1 x.2))) 0 (signF_ok hpo) (enc_of (right_tag hs0)) (if_pos (right_tag hs0))) (r_call1 cf39 (H.ev rfl)) ?_; rintro e w9 ⟨⟨v9, rfl, hv⟩, hb⟩; refine ⟨_, rfl, ?_⟩; replace k0 := Block.ups k0 hb; replace hcl := ClAt.up hcl hb; replace hrg := range_up hrg hb; replace k11 := Block.ups k11 hb; replace k12 := Block.ups k12 hb; replace hall := hall.tr hb; clear hb; clear k12; refine kl H rfl fun a H => ?_
       refine kR 5 H rfl fun a H => ?_
       refine zA (zB (zC (zD ?_)))
       refine kR 2 H rfl fun a H => ?_
       refine wl_call _ _ _ (step_l _ _ _ c c1 [encF (signF k (aP i (c1.next - 1) s))] 1 hcl rfl _ (encF (signF k (noteP i x.1 x.2))) hv (Nat.le_trans (encF_len _ (signF_ok hpo)) (by omega)) hO hC) (r_call2 cf23 (H.ev rfl) (H.ev rfl)) ?_; rintro e w9 ⟨⟨A0, q0, rfl, B0, hB0, ho0⟩, ⟨m9, hc9⟩, hon⟩; refine ⟨_, rfl, ?_⟩; replace k0 := Block.onlym k0 (by omega) hcl.mp hon; replace hrg := range_onlym hrg hcl.mp (by omega) hon; replace k11 := Block.onlym k11 (by omega) hcl.mp hon; clear hv; replace hall := ClAt.down hcl hall ghcl hall.size hon; clear hcl; have hcl := hc9; clear hc9 hon; obtain ⟨o0, ho9⟩ := Outs.head ho0 (by omega); subst ho9; refine kl H rfl fun a H => ?_
       refine kR 1 H rfl fun a H => ?_
       refine zA (zB (zC (zC (zD ?_))))
       refine kR 1 H rfl fun a H => ?_
       refine kV H (r_len U29 (H.ev rfl)) rfl fun a H => ?_
       refine kV H (r_ne U3 (H.ev rfl) evc (dec_f (by omega))) rfl fun a H => ?_
       refine zA (zB (zG H rfl (zE (zB (zC ?_)))))
       obtain ⟨x0_0, hx0_0, hr0_0⟩ := Outs.at ho0 (i := 0) rfl
       refine zD ?_
       refine kR 1 H rfl fun a H => ?_
       refine kV H (r_idx (j := 0) (q := 0) U29 s30 (H.ev rfl) evc (by omega) rfl) rfl fun a H => ?_
       refine kV H (r_ld U30 rfl (H.ev rfl) hx0_0) rfl fun a H => ?_
       refine wl_call _ _ _ (rdec_l _ _ (encF (signF k (aP i (c1.next - 1) s))) (signF k (aP i (c1.next - 1) s)) 0 hr0_0 (Nat.le_trans (encF_len _ (signF_ok (aP_ok (i := i) (a := c1.next - 1) (s := s) hi hna hns))) (by omega)) (dec_sign (aP_ok (i := i) (a := c1.next - 1) (s := s) hi hna hns) (aP_so (i := i) (a := c1.next - 1) (s := s) hi hna hns))) (r_call1 cf41 (H.ev rfl)) ?_; rintro e w9 ⟨rfl, hb⟩; refine ⟨_, rfl, ?_⟩; replace k0 := Block.ups k0 hb; replace hcl := ClAt.up hcl hb; replace hrg := range_up hrg hb; replace k11 := Block.ups k11 hb; replace ho0 := Outs.up ho0 hb; replace hall := hall.tr hb; clear hb; refine kl H rfl fun a H => ?_
       refine kR 3 H rfl fun a H => ?_
       refine op_new 36 17 (.tmp 91) (pv (signF k (aP i (c1.next - 1) s))) _ z36 (s36p (signF_ok (aP_ok (i := i) (a := c1.next - 1) (s := s) hi hna hns))) (by rw [pv_size pk0_ok, pv_size (signF_ok (aP_ok (i := i) (a := c1.next - 1) (s := s) hi hna hns))]) (pv_one _) (fun p => (H.put 17 p rfl).ev rfl) (fun p => (H.put 17 p rfl).ev rfl) fun w17 b17 hge hb k17 => ?_; have g17 := Nat.le_trans hall.size hge; have d0_17 : b0 < b17 := Nat.lt_of_lt_of_le k0.lt hge; have d11_17 : b11 < b17 := Nat.lt_of_lt_of_le k11.lt hge; have dhcl_17 : bcl < b17 := Nat.lt_of_lt_of_le hcl.lt hge; replace k0 := Block.ups k0 hb; replace hcl := ClAt.up hcl hb; replace hrg := range_up hrg hb; replace k11 := Block.ups k11 hb; replace ho0 := Outs.up ho0 hb; replace hall := hall.tr hb; clear hb; clear hge; refine kl H rfl fun a H => ?_
       refine kR 1 H rfl fun a H => ?_
       refine zA (zB (zC (zC (zD ?_))))
       refine kR 1 H rfl fun a H => ?_
       refine kV H (r_ne U46 (H.ev rfl) evc (dec_f (by omega))) rfl fun a H => ?_
       refine kR 2 H rfl fun a H => ?_
       refine kW H rfl (r_ld U3 rfl (H.ev rfl) (pv_cell k17 (x := 9) rfl)) rfl fun a H => ?_
       refine kW H rfl (r_ne U3 (H.ev rfl) evc (dec_f (by omega))) rfl fun a H => ?_
       refine kR 3 H rfl fun a H => ?_
       refine kW H rfl (r_ld U3 rfl (H.ev rfl) (pv_cell k17 (x := (i)) rfl)) rfl fun a H => ?_
       refine kR 1 H rfl fun a H => ?_
       refine kW H rfl (r_ne U3 (H.ev rfl) (H.ev rfl) (dec_f (by omega))) rfl fun a H => ?_
       refine kR 2 H rfl fun a H => ?_
       refine kW H rfl (run_load_row b0 33 _ _ (H.ev rfl) k0 U33 rfl (by rw [barr_size, hk]; exact s33a)) rfl fun a H => ?_
       refine kG H rfl ?_; refine kV (v := .agg (pv (signF k (aP i (c1.next - 1) s)))) H (run_load_row b17 36 _ _ (H.ev rfl) k17 U36 rfl (s36p (signF_ok (aP_ok (i := i) (a := c1.next - 1) (s := s) hi hna hns)))) rfl fun a H => ?_
       refine kG H rfl ?_; refine wl_call _ _ _ (good_l _ k (signF k (aP i (c1.next - 1) s)) true hk (signF_ok (aP_ok (i := i) (a := c1.next - 1) (s := s) hi hna hns)) (sign_good (aP_so (i := i) (a := c1.next - 1) (s := s) hi hna hns))) (r_call2 cf42 (H.ev rfl) (H.ev rfl)) ?_; rintro e w9 ⟨rfl, hb⟩; refine ⟨_, rfl, ?_⟩; replace k0 := Block.ups k0 hb; replace hcl := ClAt.up hcl hb; replace hrg := range_up hrg hb; replace k11 := Block.ups k11 hb; replace ho0 := Outs.up ho0 hb; replace k17 := Block.ups k17 hb; replace hall := hall.tr hb; clear hb; refine kl H rfl fun a H => ?_
       refine kW H rfl (r_not (H.ev rfl) rfl) rfl fun a H => ?_
       refine kR 3 H rfl fun a H => ?_
       refine kW H rfl (r_ld U3 rfl (H.ev rfl) (pv_cell k17 (x := (c1.next - 1)) rfl)) rfl fun a H => ?_
       refine kR 1 H rfl fun a H => ?_
       by_cases hcc3 : (c1.next - 1) < (la)
       ·
        refine kW H rfl (r_lt U3 (H.ev rfl) (H.ev rfl) (dec_t (hcc3))) rfl fun a H => ?_
        refine kR 8 H rfl fun a H => ?_
        refine zA (zB (zH H rfl (zC (zD ?_))))
        refine kR 1 H rfl fun a H => ?_
        refine zA (zB (zF (zJ (r_block (zJ (zJ (r_block (zJ ?_))))))))
        exfalso; omega
       ·
        refine kW H rfl (r_lt U3 (H.ev rfl) (H.ev rfl) (dec_f (hcc3))) rfl fun a H => ?_
        refine kR 3 H rfl fun a H => ?_
        refine kW H rfl (r_ld U3 rfl (H.ev rfl) (pv_cell k17 (x := (c1.next - 1)) rfl)) rfl fun a H => ?_
        refine kR 1 H rfl fun a H => ?_
        refine kW H rfl (r_add (q := (la) + 8) U3 (H.ev rfl) evc (by omega) (by omega)) rfl fun a H => ?_
        by_cases hcc4 : (c1.next - 1) > ((la) + 8)
        ·
         refine kW H rfl (r_gt U3 (H.ev rfl) (H.ev rfl) (dec_t (hcc4))) rfl fun a H => ?_
         refine kR 1 H rfl fun a H => ?_
         refine zA (zB (zH H rfl (zC (zD ?_))))
         refine kR 1 H rfl fun a H => ?_
         refine zA (zB (zF (zJ (r_block (zJ (zJ (r_block (zJ ?_))))))))
         exfalso; omega
        ·
         refine kW H rfl (r_gt U3 (H.ev rfl) (H.ev rfl) (dec_f (hcc4))) rfl fun a H => ?_
         refine kR 1 H rfl fun a H => ?_
         refine zA (zB (zG H rfl (zE (zB (zD ?_)))))
         refine kR 1 H rfl fun a H => ?_
         refine kV H (r_ld U3 rfl (H.ev rfl) (pv_cell k17 (x := (c1.next - 1)) rfl)) rfl fun a H => ?_
         refine kR 1 H rfl fun a H => ?_
         refine zA (n_block (zB (zD ?_)))
         refine kR 1 H rfl fun a H => ?_
         refine kV H (r_add (q := ((j + 1 : Nat) : Int)) U3 (H.ev rfl) evc (by omega) (by omega)) rfl fun a H => ?_
         refine kR 1 H rfl fun a H => ?_
         refine zA ?_
         refine zI ⟨⟨j + 1, _, c1, c1.next - 1, H.pick [0, 2, 4, 7, 8, 9, 10], by omega, rfl, by rw [htk]; exact hak1, hcl, k0, hall⟩, ?_⟩
         rw [H.ev (j := 10) rfl, H0.ev (j := 10) rfl]
         simp only [intOf]
         omega
     ·
      refine st_a0 rfl ?_; refine wpo_alloc 36 (pv pk0) z36 fun w1 b12 hge hb k12 => ?_; have gz1 := Nat.le_trans (Below.size hS) hge; replace hS := Below.trans hS (Below.mono hb (Below.size hS)); clear hb hge; refine hK _ _ ⟨(fun _ => hS), ?_⟩; clear hK; clear K; refine kt H rfl fun a H => ?_
      refine pt_one (fun K hK => ?_)
      refine st_a0 rfl ?_; refine wpo_call _ _ _ (rsign_any _ k (noteP i x.1 x.2) hk hpo) (r_call2 cf43 (H.ev rfl) (H.ev rfl)) ?_; rintro e w9 ⟨rfl, hb⟩; refine ⟨_, rfl, ?_⟩; replace k12 := Block.ups k12 hb; replace hS := Below.trans hS (Below.mono hb (Below.size hS)); clear hb; refine hK _ _ ⟨(fun _ => hS), ?_⟩; clear hK; clear K; refine kt H rfl fun a H => ?_
      refine kQ 3 H rfl fun a H => ?_
      refine pt_one (fun K hK => ?_)
      refine st_a0 rfl ?_; refine wpo_store 36 (.tmp 12) (.tmp 71) b12 36 (pv (sigP k (noteP i x.1 x.2))) _ (H.ev rfl) (H.ev rfl) k12 (s36p (show (sigP k (noteP i x.1 x.2)).ok from sgn_ok hpo)) (by rw [pv_size pk0_ok, pv_size (show (sigP k (noteP i x.1 x.2)).ok from sgn_ok hpo)]) (pv_one _) fun w' hb ho kq => ?_; clear k12; have k12 := kq; replace hS := Below.trans hS (hb _ gz1); clear hb ho kq; refine hK _ _ ⟨(fun _ => hS), ?_⟩; clear hK; clear K; skip
      refine kQ 1 H rfl fun a H => ?_
      refine pt_done (NoPanic.normal ?_)
      replace k0 := Block.ups k0 hS
      replace hcl := ClAt.up hcl hS
      replace hrg := range_up hrg hS
      replace k11 := Block.ups k11 hS
      replace hall := hall.trans (Below.mono hS hall.size)
      clear hS
      refine zB (zC (zC ?_))
      skip
      obtain ⟨so, hs0⟩ : ∃ so, signOk (noteP i x.1 x.2) = so := ⟨_, rfl⟩
      rw [hs0] at H
      cases so
      ·
       refine zD ?_
       refine kR 1 H rfl fun a H => ?_
       refine kV H (r_not (H.ev rfl) rfl) rfl fun a H => ?_
       refine zA (zB (zH H rfl (wp_exit (e_then ?_))))
       refine e_here ?_
       refine zB (zD ?_)
       refine kR 1 H rfl fun a H => ?_
       refine kV H (r_add (q := ((j + 1 : Nat) : Int)) U3 (H.ev rfl) evc (by omega) (by omega)) rfl fun a H => ?_
       refine kR 1 H rfl fun a H => ?_
       refine zA ?_
       refine zI ⟨⟨j + 1, _, c, la, H.pick [0, 2, 4, 7, 8, 9, 10], by omega, hla, by rw [htk]; exact hak.more, hcl, k0, hall⟩, ?_⟩
       rw [H.ev (j := 10) rfl, H0.ev (j := 10) rfl]
       simp only [intOf]
       omega
      ·
       rw [show sigP k (noteP i x.1 x.2) = signF k (noteP i x.1 x.2) from if_pos hs0] at k12
       obtain ⟨c1, s, hC, hak1, hO, hnx, hna, hns⟩ := ak_step hi hcl.ok hak hpo hs0
       refine zD ?_
       refine kR 1 H rfl fun a H => ?_
       refine kV H (r_not (H.ev rfl) rfl) rfl fun a H => ?_
       refine zA (zB (zG H rfl (zE (zB (zC (zD ?_))))))
       refine kV (v := .agg (pv (signF k (noteP i x.1 x.2)))) H (run_load_row b12 36 _ _ (H.ev rfl) k12 U36 rfl (s36p (signF_ok hpo))) rfl fun a H => ?_
       refine wl_call _ _ _ (renc_l _ (signF k (noteP i x.1 x.2)) (encF (signF k (noteP i x.1 x.2))) 0 (signF_ok hpo) (enc_of (right_tag hs0)) (if_pos (right_tag hs0))) (r_call1 cf39 (H.ev rfl)) ?_; rintro e w9 ⟨⟨v9, rfl, hv⟩, hb⟩; refine ⟨_, rfl, ?_⟩; replace k0 := Block.ups k0 hb; replace hcl := ClAt.up hcl hb; replace hrg := range_up hrg hb; replace k11 := Block.ups k11 hb; replace k12 := Block.ups k12 hb; replace hall := hall.tr hb; clear hb; clear k12; refine kl H rfl fun a H => ?_
       refine kR 5 H rfl fun a H => ?_
       refine zA (zB (zC (zD ?_)))
       refine kR 2 H rfl fun a H => ?_
       refine wl_call _ _ _ (step_l _ _ _ c c1 [encF (signF k (aP i (c1.next - 1) s))] 1 hcl rfl _ (encF (signF k (noteP i x.1 x.2))) hv (Nat.le_trans (encF_len _ (signF_ok hpo)) (by omega)) hO hC) (r_call2 cf23 (H.ev rfl) (H.ev rfl)) ?_; rintro e w9 ⟨⟨A1, q1, rfl, B1, hB1, ho1⟩, ⟨m9, hc9⟩, hon⟩; refine ⟨_, rfl, ?_⟩; replace k0 := Block.onlym k0 (by omega) hcl.mp hon; replace hrg := range_onlym hrg hcl.mp (by omega) hon; replace k11 := Block.onlym k11 (by omega) hcl.mp hon; clear hv; replace hall := ClAt.down hcl hall ghcl hall.size hon; clear hcl; have hcl := hc9; clear hc9 hon; obtain ⟨o1, ho9⟩ := Outs.head ho1 (by omega); subst ho9; refine kl H rfl fun a H => ?_
       refine kR 1 H rfl fun a H => ?_
       refine zA (zB (zC (zC (zD ?_))))
       refine kR 1 H rfl fun a H => ?_
       refine kV H (r_len U29 (H.ev rfl)) rfl fun a H => ?_
       refine kV H (r_ne U3 (H.ev rfl) evc (dec_f (by omega))) rfl fun a H => ?_
       refine zA (zB (zG H rfl (zE (zB (zC ?_)))))
       obtain ⟨x1_0, hx1_0, hr1_0⟩ := Outs.at ho1 (i := 0) rfl
       refine zD ?_
       refine kR 1 H rfl fun a H => ?_
       refine kV H (r_idx (j := 0) (q := 0) U29 s30 (H.ev rfl) evc (by omega) rfl) rfl fun a H => ?_
       refine kV H (r_ld U30 rfl (H.ev rfl) hx1_0) rfl fun a H => ?_
       refine wl_call _ _ _ (rdec_l _ _ (encF (signF k (aP i (c1.next - 1) s))) (signF k (aP i (c1.next - 1) s)) 0 hr1_0 (Nat.le_trans (encF_len _ (signF_ok (aP_ok (i := i) (a := c1.next - 1) (s := s) hi hna hns))) (by omega)) (dec_sign (aP_ok (i := i) (a := c1.next - 1) (s := s) hi hna hns) (aP_so (i := i) (a := c1.next - 1) (s := s) hi hna hns))) (r_call1 cf41 (H.ev rfl)) ?_; rintro e w9 ⟨rfl, hb⟩; refine ⟨_, rfl, ?_⟩; replace k0 := Block.ups k0 hb; replace hcl := ClAt.up hcl hb; replace hrg := range_up hrg hb; replace k11 := Block.ups k11 hb; replace ho1 := Outs.up ho1 hb; replace hall := hall.tr hb; clear hb; refine kl H rfl fun a H => ?_
       refine kR 3 H rfl fun a H => ?_
       refine op_new 36 17 (.tmp 91) (pv (signF k (aP i (c1.next - 1) s))) _ z36 (s36p (signF_ok (aP_ok (i := i) (a := c1.next - 1) (s := s) hi hna hns))) (by rw [pv_size pk0_ok, pv_size (signF_ok (aP_ok (i := i) (a := c1.next - 1) (s := s) hi hna hns))]) (pv_one _) (fun p => (H.put 17 p rfl).ev rfl) (fun p => (H.put 17 p rfl).ev rfl) fun w17 b17 hge hb k17 => ?_; have g17 := Nat.le_trans hall.size hge; have d0_17 : b0 < b17 := Nat.lt_of_lt_of_le k0.lt hge; have d11_17 : b11 < b17 := Nat.lt_of_lt_of_le k11.lt hge; have dhcl_17 : bcl < b17 := Nat.lt_of_lt_of_le hcl.lt hge; replace k0 := Block.ups k0 hb; replace hcl := ClAt.up hcl hb; replace hrg := range_up hrg hb; replace k11 := Block.ups k11 hb; replace ho1 := Outs.up ho1 hb; replace hall := hall.tr hb; clear hb; clear hge; refine kl H rfl fun a H => ?_
       refine kR 1 H rfl fun a H => ?_
       refine zA (zB (zC (zC (zD ?_))))
       refine kR 1 H rfl fun a H => ?_
       refine kV H (r_ne U46 (H.ev rfl) evc (dec_f (by omega))) rfl fun a H => ?_
       refine kR 2 H rfl fun a H => ?_
       refine kW H rfl (r_ld U3 rfl (H.ev rfl) (pv_cell k17 (x := 9) rfl)) rfl fun a H => ?_
       refine kW H rfl (r_ne U3 (H.ev rfl) evc (dec_f (by omega))) rfl fun a H => ?_
       refine kR 3 H rfl fun a H => ?_
       refine kW H rfl (r_ld U3 rfl (H.ev rfl) (pv_cell k17 (x := (i)) rfl)) rfl fun a H => ?_
       refine kR 1 H rfl fun a H => ?_
       refine kW H rfl (r_ne U3 (H.ev rfl) (H.ev rfl) (dec_f (by omega))) rfl fun a H => ?_
       refine kR 2 H rfl fun a H => ?_
       refine kW H rfl (run_load_row b0 33 _ _ (H.ev rfl) k0 U33 rfl (by rw [barr_size, hk]; exact s33a)) rfl fun a H => ?_
       refine kG H rfl ?_; refine kV (v := .agg (pv (signF k (aP i (c1.next - 1) s)))) H (run_load_row b17 36 _ _ (H.ev rfl) k17 U36 rfl (s36p (signF_ok (aP_ok (i := i) (a := c1.next - 1) (s := s) hi hna hns)))) rfl fun a H => ?_
       refine kG H rfl ?_; refine wl_call _ _ _ (good_l _ k (signF k (aP i (c1.next - 1) s)) true hk (signF_ok (aP_ok (i := i) (a := c1.next - 1) (s := s) hi hna hns)) (sign_good (aP_so (i := i) (a := c1.next - 1) (s := s) hi hna hns))) (r_call2 cf42 (H.ev rfl) (H.ev rfl)) ?_; rintro e w9 ⟨rfl, hb⟩; refine ⟨_, rfl, ?_⟩; replace k0 := Block.ups k0 hb; replace hcl := ClAt.up hcl hb; replace hrg := range_up hrg hb; replace k11 := Block.ups k11 hb; replace ho1 := Outs.up ho1 hb; replace k17 := Block.ups k17 hb; replace hall := hall.tr hb; clear hb; refine kl H rfl fun a H => ?_
       refine kW H rfl (r_not (H.ev rfl) rfl) rfl fun a H => ?_
       refine kR 3 H rfl fun a H => ?_
       refine kW H rfl (r_ld U3 rfl (H.ev rfl) (pv_cell k17 (x := (c1.next - 1)) rfl)) rfl fun a H => ?_
       refine kR 1 H rfl fun a H => ?_
       by_cases hcc5 : (c1.next - 1) < (la)
       ·
        refine kW H rfl (r_lt U3 (H.ev rfl) (H.ev rfl) (dec_t (hcc5))) rfl fun a H => ?_
        refine kR 8 H rfl fun a H => ?_
        refine zA (zB (zH H rfl (zC (zD ?_))))
        refine kR 1 H rfl fun a H => ?_
        refine zA (zB (zF (zJ (r_block (zJ (zJ (r_block (zJ ?_))))))))
        exfalso; omega
       ·
        refine kW H rfl (r_lt U3 (H.ev rfl) (H.ev rfl) (dec_f (hcc5))) rfl fun a H => ?_
        refine kR 3 H rfl fun a H => ?_
        refine kW H rfl (r_ld U3 rfl (H.ev rfl) (pv_cell k17 (x := (c1.next - 1)) rfl)) rfl fun a H => ?_
        refine kR 1 H rfl fun a H => ?_
        refine kW H rfl (r_add (q := (la) + 8) U3 (H.ev rfl) evc (by omega) (by omega)) rfl fun a H => ?_
        by_cases hcc6 : (c1.next - 1) > ((la) + 8)
        ·
         refine kW H rfl (r_gt U3 (H.ev rfl) (H.ev rfl) (dec_t (hcc6))) rfl fun a H => ?_
         refine kR 1 H rfl fun a H => ?_
         refine zA (zB (zH H rfl (zC (zD ?_))))
         refine kR 1 H rfl fun a H => ?_
         refine zA (zB (zF (zJ (r_block (zJ (zJ (r_block (zJ ?_))))))))
         exfalso; omega
        ·
         refine kW H rfl (r_gt U3 (H.ev rfl) (H.ev rfl) (dec_f (hcc6))) rfl fun a H => ?_
         refine kR 1 H rfl fun a H => ?_
         refine zA (zB (zG H rfl (zE (zB (zD ?_)))))
         refine kR 1 H rfl fun a H => ?_
         refine kV H (r_ld U3 rfl (H.ev rfl) (pv_cell k17 (x := (c1.next - 1)) rfl)) rfl fun a H => ?_
         refine kR 1 H rfl fun a H => ?_
         refine zA (n_block (zB (zD ?_)))
         refine kR 1 H rfl fun a H => ?_
         refine kV H (r_add (q := ((j + 1 : Nat) : Int)) U3 (H.ev rfl) evc (by omega) (by omega)) rfl fun a H => ?_
         refine kR 1 H rfl fun a H => ?_
         refine zA ?_
         refine zI ⟨⟨j + 1, _, c1, c1.next - 1, H.pick [0, 2, 4, 7, 8, 9, 10], by omega, rfl, by rw [htk]; exact hak1, hcl, k0, hall⟩, ?_⟩
         rw [H.ev (j := 10) rfl, H0.ev (j := 10) rfl]
         simp only [intOf]
         omega
    ·
     obtain rfl : j = L.length := by omega
     rw [List.take_length] at hak
     refine zC (zC (zD ?_))
     refine kR 2 H rfl fun a H => ?_
     refine kV H (r_len U63 (H.ev rfl)) rfl fun a H => ?_
     refine kV H (r_lt U3 (H.ev rfl) (H.ev rfl) (dec_f (by omega))) rfl fun a H => ?_
     refine zA (zB (zG H rfl (wp_exit (e_then (e_then ?_)))))
     refine e_here ?_
     refine zB (zC (zC (zD ?_)))
     refine kR 1 H rfl fun a H => ?_
     refine zA (zB ?_)
     refine wp_block ?_
     refine wp_loop (Rkb w bcl A cl i k L c m la) (fun a _ => 17 - (intOf (a.eval (.tmp 19))).toNat) ⟨1, H.pick [0, 2, 7, 8, 9, 19], by omega, by omega, hcl, hall⟩ ?_
     clear H hall hcl k0
     rintro a w' ⟨u, H, hu1, hu, hcl, hall⟩
     have H0 := H
     by_cases hu6 : u ≤ 16
     ·
      obtain ⟨y, hy⟩ : ∃ y, (c.vw ((u : Nat) : Int)).getD note0 = y := ⟨_, rfl⟩
      obtain ⟨ok, hok⟩ : ∃ ok, (c.vw ((u : Nat) : Int)).isSome = ok := ⟨_, rfl⟩
      refine zC (zC (zD ?_))
      refine kR 1 H rfl fun a H => ?_
      refine kV H (r_le U3 (H.ev rfl) evc (dec_t (by omega))) rfl fun a H => ?_
      refine zA (zB (zH H rfl (zE (zB (zC ?_)))))
      refine wp_block ?_
      refine zC (zD ?_)
      refine kR 2 H rfl fun a H => ?_
      refine wl_call _ _ _ (view_l _ _ _ c ((u : Nat) : Int) y ok hcl (by omega) hy hok) (r_call2 cf35 (H.ev rfl) (H.ev rfl)) ?_; rintro e w9 ⟨rfl, hb⟩; refine ⟨_, rfl, ?_⟩; replace hcl := ClAt.up hcl hb; replace hall := hall.tr hb; clear hb; refine kl H rfl fun a H => ?_
      refine kR 3 H rfl fun a H => ?_
      refine op_new 49 20 (.tmp 135) (cN y) _ z49 s49 rfl (by simp [Value.oneCell']) (fun p => (H.put 20 p rfl).ev rfl) (fun p => (H.put 20 p rfl).ev rfl) fun w20 b20 hge hb k20 => ?_; have g20 := Nat.le_trans hall.size hge; have dhcl_20 : bcl < b20 := Nat.lt_of_lt_of_le hcl.lt hge; replace hcl := ClAt.up hcl hb; replace hall := hall.tr hb; clear hb; clear hge; refine kl H rfl fun a H => ?_
      refine kR 1 H rfl fun a H => ?_
      refine zA (zB (zC (zD ?_)))
      refine kR 1 H rfl fun a H => ?_
      refine zA (zB (zC (zC (zD ?_))))
      refine kR 1 H rfl fun a H => ?_
      refine zA (zB ?_)
      refine wp_block ?_
      refine wp_loop (Rkc w bcl b20 u A cl i L c m la y ok) (fun a _ => L.length - (intOf (a.eval (.tmp 23))).toNat) ⟨0, false, H.pick [0, 2, 7, 8, 9, 19, 20, 21, 22, 23], by omega, (fun q z hq => by omega), k20, hcl, hall⟩ ?_
      clear H hall hcl k20
      rintro a w' ⟨j, had, H, hj, hhad, k20, hcl, hall⟩
      have H1 := H
      by_cases hlt : j < L.length
      ·
       obtain ⟨bx, ox, hA, hrg⟩ := flat_some encI_len (row_holds (Row.up hr hall)) (by omega) hlt
       subst hA
       obtain ⟨x, hxe⟩ : ∃ x, L[j] = x := ⟨_, rfl⟩
       rw [hxe] at hrg
       have hx : L[j]? = some x := by rw [← hxe]; exact List.getElem?_eq_getElem hlt
       clear hxe
       cases had
       ·
        by_cases hxy : x.2 = y
        ·
         refine zC (zC (zD ?_))
         refine kR 2 H rfl fun a H => ?_
         refine kV H (r_len U63 (H.ev rfl)) rfl fun a H => ?_
         refine kV H (r_lt U3 (H.ev rfl) (H.ev rfl) (dec_t (by omega))) rfl fun a H => ?_
         refine zA (zB (zH H rfl (zE (zB (zC ?_)))))
         refine wp_block ?_
         have hall30 := hall
         have hS : BelowOf (BelowTo hall30) _ := Below.drew (Below.refl _ (BelowTo hall30))
         refine region_tree (BelowOf (BelowTo hall30)) 20 (.fl 0 (.fl 1 (.fl 2 (.fl 3 (.fl 4 (.fl 5 (.fl 6 (.fl 7 (.fl 8 (.fl 9 (.fl 10 (.fl 11 (.fl 12 (.fl 13 (.fl 14 (.fl 15 (.fl 16 (.fl 17 (.fl 18 (.fl 19 .done)))))))))))))))))))) (by kernel_rfl) (by kernel_rfl) rfl (by kernel_rfl) hS ?_
         refine kQ 4 H rfl fun a H => ?_
         refine kF (v := .pointer (some ⟨bx, ox + j * 5, none⟩)) H rfl rfl (fun w' hS' => r_idx (j := j) (q := ox + j * 5) U63 s65 (H.ev rfl) (H.ev rfl) hlt rfl) rfl fun a H => ?_
         refine kF (v := .pointer (some ⟨bx, ox + j * 5 + 1, none⟩)) H rfl rfl (fun w' hS' => r_fld (q := ox + j * 5 + 1) fld65_1 (H.ev rfl) rfl) rfl fun a H => ?_
         refine kF (v := .agg (cN x.2)) H rfl rfl (fun w' hS' => r_row (cs := [.int .i64 x.2.1, .int .i64 x.2.2.1, .int .i64 x.2.2.2.1, .int .i64 x.2.2.2.2]) (H.ev rfl) (note_range (range_up hrg hS')) (by kernel_rfl) s49 rfl) rfl fun a H => ?_
         refine kF (v := .agg (cN y)) H rfl rfl (fun w' hS' => run_load_row b20 49 _ _ (H.ev rfl) (Block.ups k20 hS') U49 rfl s49) rfl fun a H => ?_
         refine kF (v := .bool true) H rfl rfl (fun w' hS' => r_eq49 (x := x.2) (y := y) (H.ev rfl) (H.ev rfl) (decide_eq_true hxy)) rfl fun a H => ?_
         refine kQ 3 H rfl fun a H => ?_
         refine kF (v := .pointer (some ⟨bx, ox + j * 5, none⟩)) H rfl rfl (fun w' hS' => r_idx (j := j) (q := ox + j * 5) U63 s65 (H.ev rfl) (H.ev rfl) hlt rfl) rfl fun a H => ?_
         refine kF (v := .pointer (some ⟨bx, ox + j * 5, none⟩)) H rfl rfl (fun w' hS' => r_fld (q := ox + j * 5) fld65_0 (H.ev rfl) rfl) rfl fun a H => ?_
         refine kF (v := .int .i64 (x.1)) H rfl rfl (fun w' hS' => r_ld U3 rfl (H.ev rfl) (range_cell (range_up hrg hS') 0 rfl)) rfl fun a H => ?_
         refine kQ 1 H rfl fun a H => ?_
         by_cases hcc7 : (x.1) ≤ (la)
         ·
          refine kF H rfl rfl (fun w' hS' => r_le U3 (H.ev rfl) (H.ev rfl) (dec_t (hcc7))) rfl fun a H => ?_
          refine kQ 3 H rfl fun a H => ?_
          refine pt_done (NoPanic.normal ?_)
          replace hcl := ClAt.up hcl hS
          replace k20 := Block.ups k20 hS
          replace hrg := range_up hrg hS
          replace hall := hall.trans (Below.mono hS hall.size)
          clear hS
          refine n_block (zB (zD ?_))
          refine kR 1 H rfl fun a H => ?_
          refine kV H (r_add (q := ((j + 1 : Nat) : Int)) U3 (H.ev rfl) evc (by omega) (by omega)) rfl fun a H => ?_
          refine kR 1 H rfl fun a H => ?_
          refine zA ?_
          refine zI ⟨⟨j + 1, true, H.pick [0, 2, 7, 8, 9, 19, 20, 21, 22, 23], by omega, (fun q z hq hz h1 h2 => rfl), k20, hcl, hall⟩, ?_⟩
          rw [H.ev (j := 23) rfl, H1.ev (j := 23) rfl]
          simp only [intOf]
          omega
         ·
          refine kF H rfl rfl (fun w' hS' => r_le U3 (H.ev rfl) (H.ev rfl) (dec_f (hcc7))) rfl fun a H => ?_
          refine kQ 3 H rfl fun a H => ?_
          refine pt_done (NoPanic.normal ?_)
          replace hcl := ClAt.up hcl hS
          replace k20 := Block.ups k20 hS
          replace hrg := range_up hrg hS
          replace hall := hall.trans (Below.mono hS hall.size)
          clear hS
          refine n_block (zB (zD ?_))
          refine kR 1 H rfl fun a H => ?_
          refine kV H (r_add (q := ((j + 1 : Nat) : Int)) U3 (H.ev rfl) evc (by omega) (by omega)) rfl fun a H => ?_
          refine kR 1 H rfl fun a H => ?_
          refine zA ?_
          refine zI ⟨⟨j + 1, false, H.pick [0, 2, 7, 8, 9, 19, 20, 21, 22, 23], by omega, (fun q z hq hz h1 h2 => by
           by_cases e : q = j
           ·
            subst e
            rw [hx] at hz
            obtain rfl := Option.some.inj hz
            exfalso
            first | exact hxy h1 | omega
           · exact hhad q z (by omega) hz h1 h2), k20, hcl, hall⟩, ?_⟩
          rw [H.ev (j := 23) rfl, H1.ev (j := 23) rfl]
          simp only [intOf]
          omega
        ·
         refine zC (zC (zD ?_))
         refine kR 2 H rfl fun a H => ?_
         refine kV H (r_len U63 (H.ev rfl)) rfl fun a H => ?_
         refine kV H (r_lt U3 (H.ev rfl) (H.ev rfl) (dec_t (by omega))) rfl fun a H => ?_
         refine zA (zB (zH H rfl (zE (zB (zC ?_)))))
         refine wp_block ?_
         have hall30 := hall
         have hS : BelowOf (BelowTo hall30) _ := Below.drew (Below.refl _ (BelowTo hall30))
         refine region_tree (BelowOf (BelowTo hall30)) 20 (.fl 0 (.fl 1 (.fl 2 (.fl 3 (.fl 4 (.fl 5 (.fl 6 (.fl 7 (.fl 8 (.fl 9 (.fl 10 (.fl 11 (.fl 12 (.fl 13 (.fl 14 (.fl 15 (.fl 16 (.fl 17 (.fl 18 (.fl 19 .done)))))))))))))))))))) (by kernel_rfl) (by kernel_rfl) rfl (by kernel_rfl) hS ?_
         refine kQ 4 H rfl fun a H => ?_
         refine kF (v := .pointer (some ⟨bx, ox + j * 5, none⟩)) H rfl rfl (fun w' hS' => r_idx (j := j) (q := ox + j * 5) U63 s65 (H.ev rfl) (H.ev rfl) hlt rfl) rfl fun a H => ?_
         refine kF (v := .pointer (some ⟨bx, ox + j * 5 + 1, none⟩)) H rfl rfl (fun w' hS' => r_fld (q := ox + j * 5 + 1) fld65_1 (H.ev rfl) rfl) rfl fun a H => ?_
         refine kF (v := .agg (cN x.2)) H rfl rfl (fun w' hS' => r_row (cs := [.int .i64 x.2.1, .int .i64 x.2.2.1, .int .i64 x.2.2.2.1, .int .i64 x.2.2.2.2]) (H.ev rfl) (note_range (range_up hrg hS')) (by kernel_rfl) s49 rfl) rfl fun a H => ?_
         refine kF (v := .agg (cN y)) H rfl rfl (fun w' hS' => run_load_row b20 49 _ _ (H.ev rfl) (Block.ups k20 hS') U49 rfl s49) rfl fun a H => ?_
         refine kF (v := .bool false) H rfl rfl (fun w' hS' => r_eq49 (x := x.2) (y := y) (H.ev rfl) (H.ev rfl) (decide_eq_false hxy)) rfl fun a H => ?_
         refine kQ 11 H rfl fun a H => ?_
         refine pt_done (NoPanic.normal ?_)
         replace hcl := ClAt.up hcl hS
         replace k20 := Block.ups k20 hS
         replace hrg := range_up hrg hS
         replace hall := hall.trans (Below.mono hS hall.size)
         clear hS
         refine n_block (zB (zD ?_))
         refine kR 1 H rfl fun a H => ?_
         refine kV H (r_add (q := ((j + 1 : Nat) : Int)) U3 (H.ev rfl) evc (by omega) (by omega)) rfl fun a H => ?_
         refine kR 1 H rfl fun a H => ?_
         refine zA ?_
         refine zI ⟨⟨j + 1, false, H.pick [0, 2, 7, 8, 9, 19, 20, 21, 22, 23], by omega, (fun q z hq hz h1 h2 => by
          by_cases e : q = j
          ·
           subst e
           rw [hx] at hz
           obtain rfl := Option.some.inj hz
           exfalso
           first | exact hxy h1 | omega
          · exact hhad q z (by omega) hz h1 h2), k20, hcl, hall⟩, ?_⟩
         rw [H.ev (j := 23) rfl, H1.ev (j := 23) rfl]
         simp only [intOf]
         omega
       ·
        refine zC (zC (zD ?_))
        refine kR 2 H rfl fun a H => ?_
        refine kV H (r_len U63 (H.ev rfl)) rfl fun a H => ?_
        refine kV H (r_lt U3 (H.ev rfl) (H.ev rfl) (dec_t (by omega))) rfl fun a H => ?_
        refine zA (zB (zH H rfl (zE (zB (zC ?_)))))
        refine wp_block ?_
        have hall30 := hall
        have hS : BelowOf (BelowTo hall30) _ := Below.drew (Below.refl _ (BelowTo hall30))
        refine region_tree (BelowOf (BelowTo hall30)) 20 (.fl 0 (.fl 1 (.fl 2 (.fl 3 (.fl 4 (.fl 5 (.fl 6 (.fl 7 (.fl 8 (.fl 9 (.fl 10 (.fl 11 (.fl 12 (.fl 13 (.fl 14 (.fl 15 (.fl 16 (.fl 17 (.fl 18 (.fl 19 .done)))))))))))))))))))) (by kernel_rfl) (by kernel_rfl) rfl (by kernel_rfl) hS ?_
        refine kQ 20 H rfl fun a H => ?_
        refine pt_done (NoPanic.normal ?_)
        replace hcl := ClAt.up hcl hS
        replace k20 := Block.ups k20 hS
        replace hrg := range_up hrg hS
        replace hall := hall.trans (Below.mono hS hall.size)
        clear hS
        refine n_block (zB (zD ?_))
        refine kR 1 H rfl fun a H => ?_
        refine kV H (r_add (q := ((j + 1 : Nat) : Int)) U3 (H.ev rfl) evc (by omega) (by omega)) rfl fun a H => ?_
        refine kR 1 H rfl fun a H => ?_
        refine zA ?_
        refine zI ⟨⟨j + 1, true, H.pick [0, 2, 7, 8, 9, 19, 20, 21, 22, 23], by omega, (fun q z hq hz h1 h2 => rfl), k20, hcl, hall⟩, ?_⟩
        rw [H.ev (j := 23) rfl, H1.ev (j := 23) rfl]
        simp only [intOf]
        omega
      ·
       obtain rfl : j = L.length := by omega
       cases had
       ·
        cases ok
        ·
         refine zC (zC (zD ?_))
         refine kR 2 H rfl fun a H => ?_
         refine kV H (r_len U63 (H.ev rfl)) rfl fun a H => ?_
         refine kV H (r_lt U3 (H.ev rfl) (H.ev rfl) (dec_f (by omega))) rfl fun a H => ?_
         refine zA (zB (zG H rfl (wp_exit (e_then (e_then ?_)))))
         refine e_here ?_
         refine zB (zC (zD ?_))
         refine kR 5 H rfl fun a H => ?_
         refine zA (zB (zG H rfl (zE (n_block (zB (zD ?_))))))
         refine kR 1 H rfl fun a H => ?_
         refine kV H (r_add (q := ((u + 1 : Nat) : Int)) U3 (H.ev rfl) evc (by omega) (by omega)) rfl fun a H => ?_
         refine kR 1 H rfl fun a H => ?_
         refine zA ?_
         refine zI ⟨⟨u + 1, H.pick [0, 2, 7, 8, 9, 19], by omega, by omega, hcl, hall⟩, ?_⟩
         rw [H.ev (j := 19) rfl, H0.ev (j := 19) rfl]
         simp only [intOf]
         omega
        ·
         exfalso
         cases hvv : c.vw ((u : Nat) : Int) with
         | none => rw [hvv] at hok; cases hok
         | some y1 =>
          rw [hvv] at hy
          obtain rfl : y1 = y := hy
          obtain ⟨s, hs, hsl⟩ := hak.bel _ _ hvv
          obtain ⟨q, hq⟩ := List.getElem?_of_mem hs
          have := hhad q _ (List.getElem?_eq_some_iff.1 hq).1 hq rfl (by show s ≤ la; omega)
          cases this
       ·
        cases ok
        ·
         refine zC (zC (zD ?_))
         refine kR 2 H rfl fun a H => ?_
         refine kV H (r_len U63 (H.ev rfl)) rfl fun a H => ?_
         refine kV H (r_lt U3 (H.ev rfl) (H.ev rfl) (dec_f (by omega))) rfl fun a H => ?_
         refine zA (zB (zG H rfl (wp_exit (e_then (e_then ?_)))))
         refine e_here ?_
         refine zB (zC (zD ?_))
         refine kR 5 H rfl fun a H => ?_
         refine zA (zB (zG H rfl (zE (n_block (zB (zD ?_))))))
         refine kR 1 H rfl fun a H => ?_
         refine kV H (r_add (q := ((u + 1 : Nat) : Int)) U3 (H.ev rfl) evc (by omega) (by omega)) rfl fun a H => ?_
         refine kR 1 H rfl fun a H => ?_
         refine zA ?_
         refine zI ⟨⟨u + 1, H.pick [0, 2, 7, 8, 9, 19], by omega, by omega, hcl, hall⟩, ?_⟩
         rw [H.ev (j := 19) rfl, H0.ev (j := 19) rfl]
         simp only [intOf]
         omega
        ·
         refine zC (zC (zD ?_))
         refine kR 2 H rfl fun a H => ?_
         refine kV H (r_len U63 (H.ev rfl)) rfl fun a H => ?_
         refine kV H (r_lt U3 (H.ev rfl) (H.ev rfl) (dec_f (by omega))) rfl fun a H => ?_
         refine zA (zB (zG H rfl (wp_exit (e_then (e_then ?_)))))
         refine e_here ?_
         refine zB (zC (zD ?_))
         refine kR 3 H rfl fun a H => ?_
         refine kW H rfl (r_not (H.ev rfl) rfl) rfl fun a H => ?_
         refine kR 1 H rfl fun a H => ?_
         refine zA (zB (zG H rfl (zE (n_block (zB (zD ?_))))))
         refine kR 1 H rfl fun a H => ?_
         refine kV H (r_add (q := ((u + 1 : Nat) : Int)) U3 (H.ev rfl) evc (by omega) (by omega)) rfl fun a H => ?_
         refine kR 1 H rfl fun a H => ?_
         refine zA ?_
         refine zI ⟨⟨u + 1, H.pick [0, 2, 7, 8, 9, 19], by omega, by omega, hcl, hall⟩, ?_⟩
         rw [H.ev (j := 19) rfl, H0.ev (j := 19) rfl]
         simp only [intOf]
         omega
     ·
      obtain rfl : u = 17 := by omega
      refine zC (zC (zD ?_))
      refine kR 1 H rfl fun a H => ?_
      refine kV H (r_le U3 (H.ev rfl) evc (dec_f (by omega))) rfl fun a H => ?_
      refine zA (zB (zG H rfl (wp_exit (e_then (e_then ?_)))))
      refine e_here ?_
      refine zB (zC (zD ?_))
      refine kR 2 H rfl fun a H => ?_
      refine zA (zB (zF ?_))
      exact k_ret1 H rfl rfl ⟨rfl, hall⟩
set_option maxRecDepth 100000 in
theorem clientAcks_lifted (os : Os) (started : os.Started) (H : Type) (enc : TypeId × Value → H) :
  ReturnsInHanded {} Tryz.checked os 10 .any (Rows.clientAcksSpec.pre6 enc Tryz.prog Tryz.f10 Rows.clientAcksRow.domain false) (Rows.clientAcksSpec.post enc Tryz.prog Tryz.f10 false true false false) := by
 refine returnsInHanded_of_change (C := Tryz.checked) own started (by kernel_rfl) Tryz.func10
  (ChangeSpec.witness6 (enc := enc) (C := Tryz.checked) false ⟨#[], #[.int .i64 0, .agg (barr (List.replicate 16 0)), .slice none 0 0], []⟩ 8 (by kernel_rfl) (by kernel_rfl) (by kernel_rfl) (by kernel_rfl)) ?_
 intro W base args ds gs before hval0 hW hcnd _
 have hval : ∀ (j : Nat) t v, Tryz.f10.params[j]? = some t → args[j]? = some v → Value.okWide Tryz.prog W .any base t v := hval0
 have hW' := hW
 obtain ⟨p, q, hA0, hV, rfl, hfz, hnd⟩ := hW
 have hA : DataW.TrodAll enc Tryz.prog W 0 (fun _ => true) true Tryz.f10.params.toList args.toList ds p := hA0
 rw [Tryz.params10] at hA hval
 obtain ⟨v0, vs0, d0, ds0, p0, q0, hargs, rfl, rfl, h0, r0⟩ := trodAll_cons hA
 obtain ⟨v1, vs1, d1, ds1, p1, q1, rfl, rfl, rfl, h1, r1⟩ := trodAll_cons r0
 obtain ⟨v2, vs2, d2, ds2, p2, q2, rfl, rfl, rfl, h2, r2⟩ := trodAll_cons r1
 obtain ⟨rfl, rfl, rfl⟩ := trodAll_nil r2
 obtain rfl : args = #[v0, v1, v2] := by cases args; simp_all
 obtain ⟨rfl, rfl⟩ := trodVars_none hV
 have k1 := h1
 have lt1 : ∀ x ∈ p1, x.block < W.heap.size := by obtain ⟨m, hm⟩ := k1; exact DataW.trod_lt m _ _ _ hm
 have k2 := h2
 have lt2 : ∀ x ∈ p2, x.block < W.heap.size := by obtain ⟨m, hm⟩ := k2; exact DataW.trod_lt m _ _ _ hm
 obtain ⟨u0, rfl, rfl, rfl, wu0⟩ := open_int U3 (hval 0 3 v0 rfl rfl) h0
 obtain ⟨K1, rfl, hk1⟩ := open_key (hval 1 33 v1 rfl rfl) h1
 obtain ⟨L2, hL2, hw2, hlo2⟩ := open_items (hval 2 63 v2 rfl rfl) h2
 clear hA0 hval0
 refine (acks_all W u0 v2 K1 hk1 L2 hL2 hw2 hlo2).mono fun e W' ⟨he, bel⟩ => ?_
 subst he
 exact ⟨_, rfl, _, _, _, [], _, [], hW', trodAll_mk1 (shut_bool U4 _), (trodAll_cons_mk (shut_int U3 wu0) (trodAll_cons_mk (Below.trod laidOut (by kernel_rfl) (of_decide_eq_true (by kernel_rfl)) k1 bel lt1) (trodAll_cons_mk (Below.trod laidOut (by kernel_rfl) (of_decide_eq_true (by kernel_rfl)) k2 bel lt2) trodAll_mk0))), rfl, bel.frame _, fun h => by cases h⟩
theorem clientAcks_holds : Rows.ClientAcksSaid :=
 OpenClaim.holds_of_wide 10 Tryz.f10 rfl rfl rfl rfl rfl rfl rfl ⟨rfl, rfl, rfl, rfl, rfl⟩ rfl rfl rfl rfl rfl (by kernel_rfl) Tryz.func10 (by kernel_rfl)
  (of_decide_eq_true (by kernel_rfl)) (by unfold Func.isWrapper; first | (rw [if_pos (by decide +kernel)]; kernel_rfl) | (rw [if_neg (by decide +kernel)]; exact ⟨rfl, rfl⟩))
  (fun os started H enc _ => clientAcks_lifted os started H enc)
#print axioms clientAcks_holds
end
end Go.Proofs.YtbnmpoonkjlkjaaGreat
