/- Client: part J of the proof. -/
import Derived.Test.YtbnmpoonkjlkjaaGreatXI
namespace Go.Proofs.YtbnmpoonkjlkjaaGreat
open Go.RowKit
set_option linter.unusedVariables false
set_option linter.unusedSimpArgs false
section
theorem cook1_ok {c : Cl} {p : Pkt} (h : ClOk c) (hp : p.ok) (hr : rightF p = true) (hk : p.fld 0 = 2) : ClOk (cookC1 c p) := by
 have h2 := right_slot hr (s := (99, 4, 0, 1073741824)) (by rw [hk]; decide)
 exact { h with ck := hp.2.1, epoch := h2, state := ⟨show (0 : Int) ≤ 2 by decide, show (2 : Int) ≤ 3 by decide⟩, on := fun e => absurd (show (2 : Int) = 3 from e) (by decide), off := fun e => absurd (show (2 : Int) = 0 from e) (by decide) }
theorem lkA_size {i bt sy nx : Int} {l : List B8} {v : Value} (hl : l.length = 16) : (lkA i l bt sy nx v).size = 23 := by simp [lkA, hl]
theorem lkA_one {i bt sy nx : Int} {l : List B8} {A : Option Addr} {n c : Nat} : (lkA i l bt sy nx (.slice A n c)).all (·.oneCell') = true := by simp [lkA, Value.oneCell']
theorem beatP_ok {q : Int} (h : 0 ≤ q ∧ q ≤ 1073741825) : (beatP q).ok := lit12_ok rfl rfl rfl fun x hx => by
 simp only [List.mem_cons, List.not_mem_nil, or_false] at hx
 omega
theorem ordP_ok {o : Nt} {q : Int} (h : MayP o) (hq : 0 ≤ q ∧ q ≤ 1073741826) : (ordP o q).ok := lit12_ok rfl rfl rfl fun x hx => by
 unfold MayP at h
 simp only [List.mem_cons, List.not_mem_nil, or_false] at hx
 omega
theorem row_shape {α : Type} {enc : α → List Int} {w : World} {v : Value} {L : List α} (h : Row enc w v L) : ∃ A c, v = .slice A L.length c := by
 obtain ⟨A, c, e, _⟩ := h
 exact ⟨A, c, e⟩
section
variable {d : Option Tmp} {tt : TypeId} {ps : String} {af : Array Edge} {gd : Option (Nat × Bool)} {a : Act} {w : World} {x0 x1 x4 x5 x6 x y : Operand} {t t2 : TypeId}
theorem r_link {i bt sy : Int} {k : List B8} (hk : k.length = 16) (h0 : a.eval x0 = .int .i64 i) (h1 : a.eval x1 = .agg (barr k)) (h4 : a.eval x4 = .int .i64 bt) (h5 : a.eval x5 = .int .i64 sy) (h6 : a.eval x6 = .agg #[.int .i64 1, .slice none 0 0]) :
  (execOp a.eval ⟨d, .build 72 #[(0, x0), (1, x1), (4, x4), (5, x5), (6, x6)], tt, ps, af, gd⟩).run Tryz.prog w = .ok (.value (.agg (lkA i k bt sy 1 (.slice none 0 0)))) w := by
 obtain ⟨s0, s1, s2, s3, s4, s5, s6, s7, s8, s9, s10, s11, s12, s13, s14, s15, rfl⟩ := len16 hk
 exact r_build #[(0, .int .i64 i), (1, .agg (barr [s0, s1, s2, s3, s4, s5, s6, s7, s8, s9, s10, s11, s12, s13, s14, s15])), (4, .int .i64 bt), (5, .int .i64 sy), (6, .agg #[.int .i64 1, .slice none 0 0])] _ (by simp [h0, h1, h4, h5, h6]) (fun w => by kernel_rfl)
theorem r_remi {P : Program} {m n : Int} (ht : P.underlying t = some (.int .i64)) (hx : a.eval x = .int .i64 m) (hy : a.eval y = .int .i64 n) (hm : 0 ≤ m) (hn : 0 < n) : (execOp a.eval ⟨d, .binOp .rem t x y t2, tt, ps, af, gd⟩).run P w = .ok (.value (.int .i64 (m % n))) w := by
 obtain ⟨p, rfl⟩ := Int.eq_ofNat_of_zero_le hm
 obtain ⟨q, rfl⟩ := Int.eq_ofNat_of_zero_le (Int.le_of_lt hn)
 exact r_rem ht hx hy (by omega)
end
theorem say_none {c : Cl} (h : c.os = []) : sayC c = c ∧ sayO c = [] := by
 unfold sayC sayO
 split
 · exact ⟨rfl, rfl⟩
 ·
  rename_i e
  rw [h] at e
  cases e
theorem sayC_yes {c : Cl} {o : Nt} {l : List Nt} (h : c.os = o :: l) (hn : ¬ c.now < c.say) : sayC c = { c with say := c.now + 4 } := by
 unfold sayC
 split
 ·
  rename_i e
  rw [h] at e
  cases e
 · exact if_neg hn
theorem sayO_yes {c : Cl} {o : Nt} {l : List Nt} (h : c.os = o :: l) (hn : ¬ c.now < c.say) : sayO c = sgnF c (ordP o (c.seq + 1)) := by
 unfold sayO
 split
 ·
  rename_i e
  rw [h] at e
  cases e
 ·
  rename_i e
  rw [h] at e
  injection e with e1 e2
  subst e1
  exact if_neg hn
theorem say_late {c : Cl} {o : Nt} {l : List Nt} (h : c.os = o :: l) (hn : c.now < c.say) : sayC c = c ∧ sayO c = [] := by
 unfold sayC sayO
 split
 · exact ⟨rfl, rfl⟩
 · exact ⟨if_pos hn, if_pos hn⟩
set_option maxRecDepth 100000 in
set_option maxHeartbeats 4000000 in
theorem cookied_any [Lim] (w : World) (b : Nat) (m : Option Nat) (c : Cl) (h : ClAt w b m c)(p : Pkt) (hp : p.ok) (hr : rightF p = true) (hk : p.fld 0 = 2) : Calls Tryz.prog 52 #[.pointer (some ⟨b, 0, none⟩), .agg (pv p)] w fun e w' => (∃ v, e = .returned v ∧ Outs w' w.heap.size v (cookO c p)) ∧ ClAt w' b m (cookC c p) ∧ Only b m w w' := by
 obtain ⟨hc, ⟨vi, vo, k, ⟨hri, hfi⟩, hro, hfo⟩, hmp, hmb⟩ := h
 have hc1 := hc.ck
 have hc2 := hc.key
 have hcn := hc.now
 have hcs := hc.seq
 have hcb := hc.beats
 have hco := hc.nonce
 have hall := Only.refl b m w
 refine K_enter 34 Tryz.func52 rfl rfl fun a H => ?_
 replace H := H.pick [0, 1]
 refine zC (zD ?_)
 refine op_box 36 (.tmp 1) (pv p) (H.ev rfl) fun w0 b0 hge hb k0 => ?_; have g0 := Nat.le_trans hall.size hge; have db0 : b < b0 := Nat.lt_of_lt_of_le k.lt hge; replace k := Block.ups k hb; replace hri := Row.up hri hb; replace hro := Row.up hro hb; replace hmp := MapAt.ups hmp hb; replace hall := hall.tr hb; clear hb; clear hge; refine kl H rfl fun a H => ?_
 refine kR 1 H rfl fun a H => ?_
 refine zA (zB (zC (zC ?_)))
 have hall1 := hall
 have hS : BelowOf (OnlyTo hall1) _ := Below.drew (Below.refl _ (OnlyTo hall1))
 refine region_tree (BelowOf (OnlyTo hall1)) 14 (.fl 0 (.fl 1 (.fl 2 (.fl 3 (.fl 4 (.fl 5 (.fl 6 (.fl 7 (.fl 8 (.fl 9 (.fl 10 (.fl 11 (.fl 12 (.fl 13 .done)))))))))))))) (by kernel_rfl) (by kernel_rfl) rfl (by kernel_rfl) hS ?_
 refine kQ 3 H rfl fun a H => ?_
 refine kF H rfl rfl (fun w' hS' => r_ld U3 rfl (H.ev rfl) ((show _ = some (Value.int .i64 (c.state)) from cl_state (c := c) hc1 hc2 (Block.ups k hS')))) rfl fun a H => ?_
 by_cases hcc0 : (c.state) ≠ 1
 ·
  refine kF H rfl rfl (fun w' hS' => r_ne U3 (H.ev rfl) evc (dec_t (hcc0))) rfl fun a H => ?_
  refine kQ 9 H rfl fun a H => ?_
  refine pt_done (NoPanic.normal ?_)
  replace k := Block.ups k hS
  replace hri := Row.up hri hS
  replace hro := Row.up hro hS
  replace hmp := MapAt.ups hmp hS
  replace k0 := Block.ups k0 hS
  replace hall := hall.trans (Below.mono hS hall.size)
  clear hS
  refine zB (zH H rfl (zC (zD ?_)))
  refine kR 1 H rfl fun a H => ?_
  refine zA (zB (zF (zJ ?_)))
  exact k_ret1 H rfl rfl ⟨⟨_, rfl, by rw [cookO, if_neg (by omega)]; exact outs_nil⟩, by rw [cookC, if_neg (by omega)]; exact ⟨hc, ⟨_, _, k, ⟨hri, hfi⟩, hro, hfo⟩, hmp, hmb⟩, hall⟩
 ·
  refine kF H rfl rfl (fun w' hS' => r_ne U3 (H.ev rfl) evc (dec_f (hcc0))) rfl fun a H => ?_
  refine kQ 2 H rfl fun a H => ?_
  refine kF H rfl rfl (fun w' hS' => r_ld U3 rfl (H.ev rfl) (pv_cell (Block.ups k0 hS') (fld_at hp (j := 10) (by omega)))) rfl fun a H => ?_
  refine kQ 3 H rfl fun a H => ?_
  refine kF H rfl rfl (fun w' hS' => r_ld U3 rfl (H.ev rfl) ((show _ = some (Value.int .i64 (c.nonce)) from cl_nonce (c := c) hc1 hc2 (Block.ups k hS')))) rfl fun a H => ?_
  by_cases hcc1 : (p.fld 10) ≠ (c.nonce)
  ·
   refine kF H rfl rfl (fun w' hS' => r_ne U3 (H.ev rfl) (H.ev rfl) (dec_t (hcc1))) rfl fun a H => ?_
   refine kQ 1 H rfl fun a H => ?_
   refine pt_done (NoPanic.normal ?_)
   replace k := Block.ups k hS
   replace hri := Row.up hri hS
   replace hro := Row.up hro hS
   replace hmp := MapAt.ups hmp hS
   replace k0 := Block.ups k0 hS
   replace hall := hall.trans (Below.mono hS hall.size)
   clear hS
   refine zB (zH H rfl (zC (zD ?_)))
   refine kR 1 H rfl fun a H => ?_
   refine zA (zB (zF (zJ ?_)))
   exact k_ret1 H rfl rfl ⟨⟨_, rfl, by rw [cookO, if_neg (by omega)]; exact outs_nil⟩, by rw [cookC, if_neg (by omega)]; exact ⟨hc, ⟨_, _, k, ⟨hri, hfi⟩, hro, hfo⟩, hmp, hmb⟩, hall⟩
  ·
   refine kF H rfl rfl (fun w' hS' => r_ne U3 (H.ev rfl) (H.ev rfl) (dec_f (hcc1))) rfl fun a H => ?_
   refine kQ 1 H rfl fun a H => ?_
   refine pt_done (NoPanic.normal ?_)
   replace k := Block.ups k hS
   replace hri := Row.up hri hS
   replace hro := Row.up hro hS
   replace hmp := MapAt.ups hmp hS
   replace k0 := Block.ups k0 hS
   replace hall := hall.trans (Below.mono hS hall.size)
   clear hS
   refine zB (zG H rfl (zE (zB (zC ?_))))
   have hall3 := hall
   have hS : GrownC b (OnlyTo hall3) _ := grownC_drew _ _
   refine region_tree (GrownC b (OnlyTo hall3)) 16 (.fl 0 (.fl 1 (.fl 2 (.fl 3 (.fl 4 (.fl 5 (.fl 6 (.fl 7 (.fl 8 (.one 9 (.fl 10 (.fl 11 (.one 12 (.fl 13 (.fl 14 (.one 15 .done)))))))))))))))) (by kernel_rfl) (by kernel_rfl) rfl (by kernel_rfl) hS ?_
   have hnz := cl_now (c := c) hc1 hc2 k
   have k0z := k0
   replace k := Block.ups k (Below.drew (Below.refl _ _))
   replace hri := Row.up hri (Below.drew (Below.refl _ _))
   replace hro := Row.up hro (Below.drew (Below.refl _ _))
   replace hmp := MapAt.ups hmp (Below.drew (Below.refl _ _))
   replace k0 := Block.ups k0 (Below.drew (Below.refl _ _))
   replace hall := hall.trans (Below.drew (Below.refl _ _))
   refine kQ 4 H rfl fun a H => ?_
   refine kF H rfl rfl (fun w' hS' => r_ld U3 rfl (H.ev rfl) (pv_cell (Block.grown k0z hS'.1 (by simp; omega)) (fld_at hp (j := 11) (by omega)))) rfl fun a H => ?_
   refine kQ 1 H rfl fun a H => ?_
   refine kF H rfl rfl (fun w' hS' => r_row (cs := (p.sec).map u8v) (H.ev rfl) (pv_sec (Block.grown k0z hS'.1 (by simp; omega)) hp) (by kernel_rfl) (by rw [List.length_map, hp.2.1]; exact s33a) rfl) rfl fun a H => ?_
   refine kQ 2 H rfl fun a H => ?_
   refine pt_one (fun K hK => ?_)
   refine st_a0 rfl ?_; have hno := cl_now (c := c) hc1 hc2 k; refine wpo_store1 3 (.tmp 27) (.tmp 23) b 4 76 (.int .i64 (p.fld 11)) _ (H.ev rfl) (H.ev rfl) k s3 (by rw [clA_size (c := c) hc1 hc2]; show 4 + 1 ≤ 48; omega) (by simp [Value.cells, Value.oneCell']) fun w' hb ho kq => ?_; clear k; rw [st_epoch (c := c) hc1 hc2] at kq; have k : Block _ b 76 (clA { c with epoch := (p.fld 11) } vi vo m) := kq; replace hri := Row.store hri (fx hfi) ho; replace hro := Row.store hro (fx hfo) ho; replace hmp := MapAt.store hmp hmb (hb b (Nat.le_refl _)) ho; replace k0 := block_same k0 (ho _ (by omega)); replace hall := hall.store (hb b (Nat.le_refl _)) ho; replace hS := GrownC.store hS (hb b (Nat.le_refl _)) ho ((cl_now (c := { c with epoch := (p.fld 11) }) hc1 hc2 k).trans hno.symm); clear hno; clear hb ho kq; refine hK _ _ ⟨(fun _ => hS), ?_⟩; clear hK; clear K; skip
   refine kQ 2 H rfl fun a H => ?_
   refine pt_one (fun K hK => ?_)
   refine st_a0 rfl ?_; have hno := cl_now (c := { c with epoch := (p.fld 11) }) hc1 hc2 k; refine wpo_store_mid 33 (.tmp 29) (.tmp 25) b 5 76 (barr (p.sec)) _ (H.ev rfl) (H.ev rfl) k (by rw [barr_size, hp.2.1]; exact s33a) (by rw [clA_size (c := { c with epoch := (p.fld 11) }) hc1 hc2, barr_size, hp.2.1]; omega) (barr_one _) fun w' hb ho kq => ?_; clear k; rw [st_ck (c := { c with epoch := (p.fld 11) }) hc1 hc2 hp.2.1] at kq; have hc1' := hp.2.1; clear hc1; have hc1 := hc1'; clear hc1'; have k : Block _ b 76 (clA { c with epoch := (p.fld 11), ck := p.sec } vi vo m) := kq; replace hri := Row.store hri (fx hfi) ho; replace hro := Row.store hro (fx hfo) ho; replace hmp := MapAt.store hmp hmb (hb b (Nat.le_refl _)) ho; replace k0 := block_same k0 (ho _ (by omega)); replace hall := hall.store (hb b (Nat.le_refl _)) ho; replace hS := GrownC.store hS (hb b (Nat.le_refl _)) ho ((cl_now (c := { c with epoch := (p.fld 11), ck := p.sec }) hc1 hc2 k).trans hno.symm); clear hno; clear hb ho kq; refine hK _ _ ⟨(fun _ => hS), ?_⟩; clear hK; clear K; skip
   refine kQ 2 H rfl fun a H => ?_
   refine pt_one (fun K hK => ?_)
   refine st_a0 rfl ?_; have hno := cl_now (c := { c with epoch := (p.fld 11), ck := p.sec }) hc1 hc2 k; refine wpo_store1 3 (.tmp 31) (.const (.int .i64 2)) b 1 76 (.int .i64 2) _ (H.ev rfl) evc k s3 (by rw [clA_size (c := { c with epoch := (p.fld 11), ck := p.sec }) hc1 hc2]; show 1 + 1 ≤ 48; omega) (by simp [Value.cells, Value.oneCell']) fun w' hb ho kq => ?_; clear k; rw [st_state (c := { c with epoch := (p.fld 11), ck := p.sec }) hc1 hc2] at kq; have k : Block _ b 76 (clA { c with epoch := (p.fld 11), ck := p.sec, state := 2 } vi vo m) := kq; replace hri := Row.store hri (fx hfi) ho; replace hro := Row.store hro (fx hfo) ho; replace hmp := MapAt.store hmp hmb (hb b (Nat.le_refl _)) ho; replace k0 := block_same k0 (ho _ (by omega)); replace hall := hall.store (hb b (Nat.le_refl _)) ho; replace hS := GrownC.store hS (hb b (Nat.le_refl _)) ho ((cl_now (c := { c with epoch := (p.fld 11), ck := p.sec, state := 2 }) hc1 hc2 k).trans hno.symm); clear hno; clear hb ho kq; refine hK _ _ ⟨(fun _ => hS), ?_⟩; clear hK; clear K; skip
   refine pt_done (NoPanic.normal ?_)
   clear hS hnz k0z
   refine zB (zC (zD ?_))
   refine kR 1 H rfl fun a H => ?_
   refine wl_call _ _ _ (join_any _ b m (cookC1 c p) ⟨cook1_ok hc hp hr hk, ⟨_, _, k, ⟨hri, hfi⟩, hro, hfo⟩, hmp, hmb⟩) (r_call1 cf45 (H.ev rfl)) ?_; rintro e w9 ⟨⟨v, rfl, hou⟩, hcl, hon⟩; refine ⟨_, rfl, ?_⟩; replace hou := Outs.base hou hall.size; replace hall := Only.comp hall (MNext.same _ _) hon; refine kl H rfl fun a H => ?_
   refine kR 1 H rfl fun a H => ?_
   refine zA (zB (zF ?_))
   exact k_ret1 H rfl rfl ⟨⟨_, rfl, by rw [cookO, if_pos ⟨by omega, by omega⟩]; exact hou⟩, by rw [cookC, if_pos ⟨by omega, by omega⟩]; exact hcl, hall⟩
set_option maxRecDepth 100000 in
set_option maxHeartbeats 4000000 in
theorem accepted_any [Lim] (w : World) (b : Nat) (m : Option Nat) (c : Cl) (h : ClAt w b m c)(p : Pkt) (hp : p.ok) (hr : rightF p = true) (hk : p.fld 0 = 4) : Calls Tryz.prog 53 #[.pointer (some ⟨b, 0, none⟩), .agg (pv p)] w fun e w' => (∃ v, e = .returned v ∧ Outs w' w.heap.size v ([])) ∧ ClAt w' b m (accC c p) ∧ Only b m w w' := by
 obtain ⟨hc, ⟨vi, vo, k, ⟨hri, hfi⟩, hro, hfo⟩, hmp, hmb⟩ := h
 have hc1 := hc.ck
 have hc2 := hc.key
 have hcn := hc.now
 have hcs := hc.seq
 have hcb := hc.beats
 have hco := hc.nonce
 have hall := Only.refl b m w
 refine K_enter 39 Tryz.func53 rfl rfl fun a H => ?_
 replace H := H.pick [0, 1]
 refine zC (zD ?_)
 refine op_box 36 (.tmp 1) (pv p) (H.ev rfl) fun w0 b0 hge hb k0 => ?_; have g0 := Nat.le_trans hall.size hge; have db0 : b < b0 := Nat.lt_of_lt_of_le k.lt hge; replace k := Block.ups k hb; replace hri := Row.up hri hb; replace hro := Row.up hro hb; replace hmp := MapAt.ups hmp hb; replace hall := hall.tr hb; clear hb; clear hge; refine kl H rfl fun a H => ?_
 refine kR 1 H rfl fun a H => ?_
 refine zA (zB (zC (zC ?_)))
 have hall1 := hall
 have hS : BelowOf (OnlyTo hall1) _ := Below.drew (Below.refl _ (OnlyTo hall1))
 refine region_tree (BelowOf (OnlyTo hall1)) 14 (.fl 0 (.fl 1 (.fl 2 (.fl 3 (.fl 4 (.fl 5 (.fl 6 (.fl 7 (.fl 8 (.fl 9 (.fl 10 (.fl 11 (.fl 12 (.fl 13 .done)))))))))))))) (by kernel_rfl) (by kernel_rfl) rfl (by kernel_rfl) hS ?_
 refine kQ 3 H rfl fun a H => ?_
 refine kF H rfl rfl (fun w' hS' => r_ld U3 rfl (H.ev rfl) ((show _ = some (Value.int .i64 (c.state)) from cl_state (c := c) hc1 hc2 (Block.ups k hS')))) rfl fun a H => ?_
 by_cases hcc0 : (c.state) = 2
 ·
  refine kF H rfl rfl (fun w' hS' => r_eq U3 (H.ev rfl) evc (dec_t (hcc0))) rfl fun a H => ?_
  refine kQ 2 H rfl fun a H => ?_
  refine kF H rfl rfl (fun w' hS' => r_ld U3 rfl (H.ev rfl) (pv_cell (Block.ups k0 hS') (fld_at hp (j := 10) (by omega)))) rfl fun a H => ?_
  refine kQ 3 H rfl fun a H => ?_
  refine kF H rfl rfl (fun w' hS' => r_ld U3 rfl (H.ev rfl) ((show _ = some (Value.int .i64 (c.nonce)) from cl_nonce (c := c) hc1 hc2 (Block.ups k hS')))) rfl fun a H => ?_
  by_cases hcc1 : (p.fld 10) = (c.nonce)
  ·
   refine kF H rfl rfl (fun w' hS' => r_eq U3 (H.ev rfl) (H.ev rfl) (dec_t (hcc1))) rfl fun a H => ?_
   refine kQ 1 H rfl fun a H => ?_
   refine pt_done (NoPanic.normal ?_)
   replace k := Block.ups k hS
   replace hri := Row.up hri hS
   replace hro := Row.up hro hS
   replace hmp := MapAt.ups hmp hS
   replace k0 := Block.ups k0 hS
   replace hall := hall.trans (Below.mono hS hall.size)
   clear hS
   refine zB (zH H rfl (zC (zD ?_)))
   refine kR 3 H rfl fun a H => ?_
   refine op_store1 3 (.tmp 21) (.const (.int .i64 3)) b 1 76 (.int .i64 3) _ (H.ev rfl) evc k s3 (by rw [clA_size (c := c) hc1 hc2]; show 1 + 1 ≤ 48; omega) (by simp [Value.cells, Value.oneCell']) fun w' hb ho kq => ?_; clear k; rw [st_state (c := c) hc1 hc2] at kq; have k : Block _ b 76 (clA { c with state := 3 } vi vo m) := kq; replace hri := Row.store hri (fx hfi) ho; replace hro := Row.store hro (fx hfo) ho; replace hmp := MapAt.store hmp hmb (hb b (Nat.le_refl _)) ho; replace k0 := block_same k0 (ho _ (by omega)); replace hall := hall.store (hb b (Nat.le_refl _)) ho; clear hb ho kq; refine kl0 H fun a H => ?_
   refine zA (zB ?_)
   have hall3 := hall
   have hS : BelowOf (OnlyTo hall3) _ := Below.drew (Below.refl _ (OnlyTo hall3))
   refine region_tree (BelowOf (OnlyTo hall3)) 17 (.fl 0 (.fl 1 (.fl 2 (.fl 3 (.fl 4 (.fl 5 (.fl 6 (.fl 7 (.fl 8 (.fl 9 (.fl 10 (.fl 11 (.fl 12 (.one 13 (.fl 14 (.fl 15 (.fl 16 (.one 17 .done)))))))))))))))))) (by kernel_rfl) (by kernel_rfl) rfl (by kernel_rfl) hS ?_
   refine kQ 2 H rfl fun a H => ?_
   refine kF H rfl rfl (fun w' hS' => r_ld U3 rfl (H.ev rfl) (pv_cell (Block.ups k0 hS') (fld_at hp (j := 1) (by omega)))) rfl fun a H => ?_
   refine kQ 1 H rfl fun a H => ?_
   refine kF H rfl rfl (fun w' hS' => r_row (cs := (p.sec).map u8v) (H.ev rfl) (pv_sec (Block.ups k0 hS') hp) (by kernel_rfl) (by rw [List.length_map, hp.2.1]; exact s33a) rfl) rfl fun a H => ?_
   refine kQ 3 H rfl fun a H => ?_
   refine kF H rfl rfl (fun w' hS' => r_ld U3 rfl (H.ev rfl) ((show _ = some (Value.int .i64 (c.now)) from cl_now (c := { c with state := 3 }) hc1 hc2 (Block.ups k hS')))) rfl fun a H => ?_
   refine kQ 3 H rfl fun a H => ?_
   refine kF H rfl rfl (fun w' hS' => r_ld U3 rfl (H.ev rfl) ((show _ = some (Value.int .i64 (c.now)) from cl_now (c := { c with state := 3 }) hc1 hc2 (Block.ups k hS')))) rfl fun a H => ?_
   refine pt_one (fun K hK => ?_)
   refine st_a0 rfl ?_; refine wpo_call _ _ _ (start_any _) (r_call0 cf86) ?_; rintro e w9 ⟨rfl, hb⟩; refine ⟨_, rfl, ?_⟩; replace hS := Below.trans hS (Below.mono hb (Below.size hS)); clear hb; refine hK _ _ ⟨(fun _ => hS), ?_⟩; clear hK; clear K; refine kt H rfl fun a H => ?_
   refine kF (v := .agg (lkA (p.fld 1) p.sec c.now c.now 1 (.slice none 0 0))) H rfl rfl (fun w' hS' => r_link hp.2.1 (H.ev rfl) (H.ev rfl) (H.ev rfl) (H.ev rfl) (H.ev rfl)) rfl fun a H => ?_
   refine kQ 2 H rfl fun a H => ?_
   refine pt_one (fun K hK => ?_)
   replace k := Block.ups k hS
   replace hri := Row.up hri hS
   replace hro := Row.up hro hS
   replace hmp := MapAt.ups hmp hS
   replace k0 := Block.ups k0 hS
   replace hall := hall.trans (Below.mono hS hall.size)
   refine st_a0 rfl ?_; refine wpo_store_mid 72 (.tmp 38) (.tmp 36) b 22 76 (lkA (p.fld 1) p.sec c.now c.now 1 (.slice none 0 0)) _ (H.ev rfl) (H.ev rfl) k (by rw [lkA_size hp.2.1]; exact s72) (by rw [clA_size (c := { c with state := 3 }) hc1 hc2, lkA_size hp.2.1]; omega) lkA_one fun w' hb ho kq => ?_; clear k; rw [st_link (c := { c with state := 3 }) hc1 hc2 hp.2.1] at kq; have k := kq; replace hri := Row.store hri (fx hfi) ho; replace hro := Row.store hro (fx hfo) ho; replace hmp := MapAt.store hmp hmb (hb b (Nat.le_refl _)) ho; replace k0 := block_same k0 (ho _ (by omega)); replace hall := hall.store (hb b (Nat.le_refl _)) ho; clear hb ho kq; refine hK _ _ ⟨(fun h => absurd rfl h), ?_⟩; clear hK; clear K; clear hS; skip
   refine pt_done (NoPanic.normal ?_)
   refine zB (zC (zD ?_))
   refine kR 1 H rfl fun a H => ?_
   refine zA (zB (zF ?_))
   have e : accC c p = { c with state := 3, id := p.fld 1, key := p.sec, beats := 0, seq := 0, beat := c.now, say := c.now, next := 1, items := [] } := if_pos ⟨by omega, by omega⟩
   have hok := acc_ok hc hp hr hk
   rw [e] at hok ⊢
   exact k_ret1 H rfl rfl ⟨⟨_, rfl, outs_nil⟩, ⟨hok, ⟨_, _, k, ⟨Row.nil, nil_fresh⟩, hro, hfo⟩, hmp, hmb⟩, hall⟩
  ·
   refine kF H rfl rfl (fun w' hS' => r_eq U3 (H.ev rfl) (H.ev rfl) (dec_f (hcc1))) rfl fun a H => ?_
   refine kQ 1 H rfl fun a H => ?_
   refine pt_done (NoPanic.normal ?_)
   replace k := Block.ups k hS
   replace hri := Row.up hri hS
   replace hro := Row.up hro hS
   replace hmp := MapAt.ups hmp hS
   replace k0 := Block.ups k0 hS
   replace hall := hall.trans (Below.mono hS hall.size)
   clear hS
   refine zB (zG H rfl (zE (zB (zC (zD ?_)))))
   refine kR 1 H rfl fun a H => ?_
   refine zA (zB (zF ?_))
   exact k_ret1 H rfl rfl ⟨⟨_, rfl, outs_nil⟩, by rw [accC, if_neg (by omega)]; exact ⟨hc, ⟨_, _, k, ⟨hri, hfi⟩, hro, hfo⟩, hmp, hmb⟩, hall⟩
 ·
  refine kF H rfl rfl (fun w' hS' => r_eq U3 (H.ev rfl) evc (dec_f (hcc0))) rfl fun a H => ?_
  refine kQ 9 H rfl fun a H => ?_
  refine pt_done (NoPanic.normal ?_)
  replace k := Block.ups k hS
  replace hri := Row.up hri hS
  replace hro := Row.up hro hS
  replace hmp := MapAt.ups hmp hS
  replace k0 := Block.ups k0 hS
  replace hall := hall.trans (Below.mono hS hall.size)
  clear hS
  refine zB (zG H rfl (zE (zB (zC (zD ?_)))))
  refine kR 1 H rfl fun a H => ?_
  refine zA (zB (zF ?_))
  exact k_ret1 H rfl rfl ⟨⟨_, rfl, outs_nil⟩, by rw [accC, if_neg (by omega)]; exact ⟨hc, ⟨_, _, k, ⟨hri, hfi⟩, hro, hfo⟩, hmp, hmb⟩, hall⟩
set_option maxRecDepth 100000 in
set_option maxHeartbeats 4000000 in
theorem refused_any [Lim] (w : World) (b : Nat) (m : Option Nat) (c : Cl) (h : ClAt w b m c)(p : Pkt) (hp : p.ok) (hr : rightF p = true) (hk : p.fld 0 = 12) : Calls Tryz.prog 54 #[.pointer (some ⟨b, 0, none⟩), .agg (pv p)] w fun e w' => (∃ v, e = .returned v ∧ Outs w' w.heap.size v ([])) ∧ ClAt w' b m (refC c p) ∧ Only b m w w' := by
 obtain ⟨hc, ⟨vi, vo, k, ⟨hri, hfi⟩, hro, hfo⟩, hmp, hmb⟩ := h
 have hc1 := hc.ck
 have hc2 := hc.key
 have hcn := hc.now
 have hcs := hc.seq
 have hcb := hc.beats
 have hco := hc.nonce
 have hall := Only.refl b m w
 refine K_enter 73 Tryz.func54 rfl rfl fun a H => ?_
 replace H := H.pick [0, 1]
 refine zC (zD ?_)
 refine op_box 36 (.tmp 1) (pv p) (H.ev rfl) fun w0 b0 hge hb k0 => ?_; have g0 := Nat.le_trans hall.size hge; have db0 : b < b0 := Nat.lt_of_lt_of_le k.lt hge; replace k := Block.ups k hb; replace hri := Row.up hri hb; replace hro := Row.up hro hb; replace hmp := MapAt.ups hmp hb; replace hall := hall.tr hb; clear hb; clear hge; refine kl H rfl fun a H => ?_
 refine kR 1 H rfl fun a H => ?_
 refine zA (zB (zC ?_))
 refine wp_block ?_
 refine zC ?_
 have hall2 := hall
 have hS : BelowOf (OnlyTo hall2) _ := Below.drew (Below.refl _ (OnlyTo hall2))
 refine region_tree (BelowOf (OnlyTo hall2)) 15 (.fl 0 (.fl 1 (.fl 2 (.fl 3 (.fl 4 (.fl 5 (.fl 6 (.fl 7 (.fl 8 (.fl 9 (.fl 10 (.fl 11 (.fl 12 (.fl 13 (.fl 14 .done))))))))))))))) (by kernel_rfl) (by kernel_rfl) rfl (by kernel_rfl) hS ?_
 refine kQ 3 H rfl fun a H => ?_
 refine kF H rfl rfl (fun w' hS' => r_ld U3 rfl (H.ev rfl) ((show _ = some (Value.int .i64 (c.state)) from cl_state (c := c) hc1 hc2 (Block.ups k hS')))) rfl fun a H => ?_
 by_cases hcc0 : (c.state) = 2
 ·
  refine kF H rfl rfl (fun w' hS' => r_eq U3 (H.ev rfl) evc (dec_t (hcc0))) rfl fun a H => ?_
  refine kQ 2 H rfl fun a H => ?_
  refine kF H rfl rfl (fun w' hS' => r_ld U3 rfl (H.ev rfl) (pv_cell (Block.ups k0 hS') (fld_at hp (j := 10) (by omega)))) rfl fun a H => ?_
  refine kQ 3 H rfl fun a H => ?_
  refine kF H rfl rfl (fun w' hS' => r_ld U3 rfl (H.ev rfl) ((show _ = some (Value.int .i64 (c.nonce)) from cl_nonce (c := c) hc1 hc2 (Block.ups k hS')))) rfl fun a H => ?_
  by_cases hcc1 : (p.fld 10) = (c.nonce)
  ·
   refine kF H rfl rfl (fun w' hS' => r_eq U3 (H.ev rfl) (H.ev rfl) (dec_t (hcc1))) rfl fun a H => ?_
   refine kQ 2 H rfl fun a H => ?_
   refine pt_done (NoPanic.normal ?_)
   replace k := Block.ups k hS
   replace hri := Row.up hri hS
   replace hro := Row.up hro hS
   replace hmp := MapAt.ups hmp hS
   replace k0 := Block.ups k0 hS
   replace hall := hall.trans (Below.mono hS hall.size)
   clear hS
   refine zB (zH H rfl (zD ?_))
   refine kR 4 H rfl fun a H => ?_
   refine kV H (r_ld U3 rfl (H.ev rfl) ((show _ = some (Value.int .i64 (c.now)) from cl_now (c := c) hc1 hc2 k))) rfl fun a H => ?_
   refine kV H (r_add (q := (c.now) + 4) U3 (H.ev rfl) evc (by omega) (by omega)) rfl fun a H => ?_
   refine kR 2 H rfl fun a H => ?_
   refine op_store1 3 (.tmp 27) (.tmp 25) b 21 76 (.int .i64 ((c.now) + 4)) _ (H.ev rfl) (H.ev rfl) k s3 (by rw [clA_size (c := c) hc1 hc2]; show 21 + 1 ≤ 48; omega) (by simp [Value.cells, Value.oneCell']) fun w' hb ho kq => ?_; clear k; rw [st_ask (c := c) hc1 hc2] at kq; have k : Block _ b 76 (clA { c with ask := ((c.now) + 4) } vi vo m) := kq; replace hri := Row.store hri (fx hfi) ho; replace hro := Row.store hro (fx hfo) ho; replace hmp := MapAt.store hmp hmb (hb b (Nat.le_refl _)) ho; replace k0 := block_same k0 (ho _ (by omega)); replace hall := hall.store (hb b (Nat.le_refl _)) ho; clear hb ho kq; refine kl0 H fun a H => ?_
   refine zA (n_block (zB (zC ?_)))
   have hall6 := hall
   have hS : GrownC b (OnlyTo hall6) _ := grownC_drew _ _
   refine region_tree (GrownC b (OnlyTo hall6)) 10 (.fl 0 (.fl 1 (.fl 2 (.fl 3 (.fl 4 (.fl 5 (.one 6 (.fl 7 (.fl 8 (.one 9 .done)))))))))) (by kernel_rfl) (by kernel_rfl) rfl (by kernel_rfl) hS ?_
   have hnz := cl_now (c := { c with ask := ((c.now) + 4) }) hc1 hc2 k
   have k0z := k0
   replace k := Block.ups k (Below.drew (Below.refl _ _))
   replace hri := Row.up hri (Below.drew (Below.refl _ _))
   replace hro := Row.up hro (Below.drew (Below.refl _ _))
   replace hmp := MapAt.ups hmp (Below.drew (Below.refl _ _))
   replace k0 := Block.ups k0 (Below.drew (Below.refl _ _))
   replace hall := hall.trans (Below.drew (Below.refl _ _))
   refine kQ 3 H rfl fun a H => ?_
   refine kF H rfl rfl (fun w' hS' => r_ld U3 rfl (H.ev rfl) (pv_cell (Block.grown k0z hS'.1 (by simp; omega)) (fld_at hp (j := 4) (by omega)))) rfl fun a H => ?_
   refine kQ 2 H rfl fun a H => ?_
   refine pt_one (fun K hK => ?_)
   refine st_a0 rfl ?_; have hno := cl_now (c := { c with ask := ((c.now) + 4) }) hc1 hc2 k; refine wpo_store1 3 (.tmp 70) (.const (.int .i64 1)) b 1 76 (.int .i64 1) _ (H.ev rfl) evc k s3 (by rw [clA_size (c := { c with ask := ((c.now) + 4) }) hc1 hc2]; show 1 + 1 ≤ 48; omega) (by simp [Value.cells, Value.oneCell']) fun w' hb ho kq => ?_; clear k; rw [st_state (c := { c with ask := ((c.now) + 4) }) hc1 hc2] at kq; have k : Block _ b 76 (clA { c with ask := ((c.now) + 4), state := 1 } vi vo m) := kq; replace hri := Row.store hri (fx hfi) ho; replace hro := Row.store hro (fx hfo) ho; replace hmp := MapAt.store hmp hmb (hb b (Nat.le_refl _)) ho; replace k0 := block_same k0 (ho _ (by omega)); replace hall := hall.store (hb b (Nat.le_refl _)) ho; replace hS := GrownC.store hS (hb b (Nat.le_refl _)) ho ((cl_now (c := { c with ask := ((c.now) + 4), state := 1 }) hc1 hc2 k).trans hno.symm); clear hno; clear hb ho kq; refine hK _ _ ⟨(fun _ => hS), ?_⟩; clear hK; clear K; skip
   refine kQ 2 H rfl fun a H => ?_
   refine pt_one (fun K hK => ?_)
   refine st_a0 rfl ?_; have hno := cl_now (c := { c with ask := ((c.now) + 4), state := 1 }) hc1 hc2 k; refine wpo_store1 46 (.tmp 72) (.tmp 68) b 47 76 (.int .i64 (p.fld 4)) _ (H.ev rfl) (H.ev rfl) k s46 (by rw [clA_size (c := { c with ask := ((c.now) + 4), state := 1 }) hc1 hc2]; show 47 + 1 ≤ 48; omega) (by simp [Value.cells, Value.oneCell']) fun w' hb ho kq => ?_; clear k; rw [st_code (c := { c with ask := ((c.now) + 4), state := 1 }) hc1 hc2] at kq; have k : Block _ b 76 (clA { c with ask := ((c.now) + 4), state := 1, code := (p.fld 4) } vi vo m) := kq; replace hri := Row.store hri (fx hfi) ho; replace hro := Row.store hro (fx hfo) ho; replace hmp := MapAt.store hmp hmb (hb b (Nat.le_refl _)) ho; replace k0 := block_same k0 (ho _ (by omega)); replace hall := hall.store (hb b (Nat.le_refl _)) ho; replace hS := GrownC.store hS (hb b (Nat.le_refl _)) ho ((cl_now (c := { c with ask := ((c.now) + 4), state := 1, code := (p.fld 4) }) hc1 hc2 k).trans hno.symm); clear hno; clear hb ho kq; refine hK _ _ ⟨(fun _ => hS), ?_⟩; clear hK; clear K; skip
   refine pt_done (NoPanic.normal ?_)
   clear hS hnz k0z
   refine zB (zC (zD ?_))
   refine kR 1 H rfl fun a H => ?_
   refine zA (zB (zF ?_))
   have e : refC c p = { c with ask := c.now + 4, state := 1, code := p.fld 4 } := by rw [refC, if_pos ⟨by omega, by omega⟩]
   have hok := ref_ok hc hr hk
   rw [e] at hok ⊢
   exact k_ret1 H rfl rfl ⟨⟨_, rfl, outs_nil⟩, ⟨hok, ⟨_, _, k, ⟨hri, hfi⟩, hro, hfo⟩, hmp, hmb⟩, hall⟩
  ·
   refine kF H rfl rfl (fun w' hS' => r_eq U3 (H.ev rfl) (H.ev rfl) (dec_f (hcc1))) rfl fun a H => ?_
   refine kQ 2 H rfl fun a H => ?_
   refine pt_done (NoPanic.normal ?_)
   replace k := Block.ups k hS
   replace hri := Row.up hri hS
   replace hro := Row.up hro hS
   replace hmp := MapAt.ups hmp hS
   replace k0 := Block.ups k0 hS
   replace hall := hall.trans (Below.mono hS hall.size)
   clear hS
   refine zB (zG H rfl (zC ?_))
   have hall4 := hall
   have hS : BelowOf (OnlyTo hall4) _ := Below.drew (Below.refl _ (OnlyTo hall4))
   refine region_tree (BelowOf (OnlyTo hall4)) 21 (.fl 0 (.fl 1 (.fl 2 (.fl 3 (.fl 4 (.fl 5 (.fl 6 (.fl 7 (.fl 8 (.fl 9 (.fl 10 (.fl 11 (.fl 12 (.fl 13 (.fl 14 (.fl 15 (.fl 16 (.fl 17 (.fl 18 (.fl 19 (.fl 20 .done))))))))))))))))))))) (by kernel_rfl) (by kernel_rfl) rfl (by kernel_rfl) hS ?_
   refine kQ 3 H rfl fun a H => ?_
   refine kF H rfl rfl (fun w' hS' => r_ld U3 rfl (H.ev rfl) ((show _ = some (Value.int .i64 (c.state)) from cl_state (c := c) hc1 hc2 (Block.ups k hS')))) rfl fun a H => ?_
   by_cases hcc2 : (c.state) = 3
   ·
    refine kF H rfl rfl (fun w' hS' => r_eq U3 (H.ev rfl) evc (dec_t (hcc2))) rfl fun a H => ?_
    refine kQ 2 H rfl fun a H => ?_
    refine kF H rfl rfl (fun w' hS' => r_ld U3 rfl (H.ev rfl) (pv_cell (Block.ups k0 hS') (fld_at hp (j := 10) (by omega)))) rfl fun a H => ?_
    refine kQ 3 H rfl fun a H => ?_
    refine kF H rfl rfl (fun w' hS' => r_fld (q := 22) fld72_0 (H.ev rfl) rfl) rfl fun a H => ?_
    refine kF H rfl rfl (fun w' hS' => r_ld U3 rfl (H.ev rfl) ((show _ = some (Value.int .i64 (c.id)) from cl_id (c := c) hc1 hc2 (Block.ups k hS')))) rfl fun a H => ?_
    by_cases hcc3 : (p.fld 10) = (c.id)
    ·
     refine kF H rfl rfl (fun w' hS' => r_eq U3 (H.ev rfl) (H.ev rfl) (dec_t (hcc3))) rfl fun a H => ?_
     refine kQ 3 H rfl fun a H => ?_
     refine kF H rfl rfl (fun w' hS' => r_ld U3 rfl (H.ev rfl) (pv_cell (Block.ups k0 hS') (fld_at hp (j := 4) (by omega)))) rfl fun a H => ?_
     by_cases hcc4 : (p.fld 4) = 6
     ·
      refine kF H rfl rfl (fun w' hS' => r_eq U3 (H.ev rfl) evc (dec_t (hcc4))) rfl fun a H => ?_
      refine kQ 2 H rfl fun a H => ?_
      refine pt_done (NoPanic.normal ?_)
      replace k := Block.ups k hS
      replace hri := Row.up hri hS
      replace hro := Row.up hro hS
      replace hmp := MapAt.ups hmp hS
      replace k0 := Block.ups k0 hS
      replace hall := hall.trans (Below.mono hS hall.size)
      clear hS
      refine zB (zH H rfl ?_)
      have hall5 := hall
      have hS : GrownC b (OnlyTo hall5) _ := grownC_drew _ _
      refine region_tree (GrownC b (OnlyTo hall5)) 18 (.fl 0 (.fl 1 (.fl 2 (.fl 3 (.fl 4 (.fl 8 (.fl 9 (.fl 10 (.fl 11 (.one 5 (.fl 6 (.fl 7 (.fl 12 (.fl 13 (.one 14 (.fl 15 (.fl 16 (.one 17 .done)))))))))))))))))) (by kernel_rfl) (by kernel_rfl) rfl (by kernel_rfl) hS ?_
      have hnz := cl_now (c := c) hc1 hc2 k
      have k0z := k0
      replace k := Block.ups k (Below.drew (Below.refl _ _))
      replace hri := Row.up hri (Below.drew (Below.refl _ _))
      replace hro := Row.up hro (Below.drew (Below.refl _ _))
      replace hmp := MapAt.ups hmp (Below.drew (Below.refl _ _))
      replace k0 := Block.ups k0 (Below.drew (Below.refl _ _))
      replace hall := hall.trans (Below.drew (Below.refl _ _))
      refine kQ 8 H rfl fun a H => ?_
      refine kF H rfl rfl (fun w' hS' => r_ld U3 rfl (H.ev rfl) (((hS'.2.trans hnz : _ = some (Value.int .i64 (c.now)))))) rfl fun a H => ?_
      refine pt_one (fun K hK => ?_)
      refine st_a0 rfl ?_; refine wpo_w _ _ (r_ld U3 rfl (H.ev rfl) ((show _ = some (Value.int .i64 (c.nonce)) from cl_nonce (c := c) hc1 hc2 k))) ?_; refine hK _ _ ⟨(fun _ => hS), ?_⟩; clear hK; clear K; refine kt H rfl fun a H => ?_
      refine kF H rfl rfl (fun w' hS' => r_add (q := (c.nonce) + 1) U3 (H.ev rfl) evc (by omega) (by omega)) rfl fun a H => ?_
      refine kF (v := .int .i64 ((c.nonce + 1) % 1073741825)) H rfl rfl (fun w' hS' => r_remi U3 (H.ev rfl) evc (by omega) (by omega)) rfl fun a H => ?_
      refine kQ 2 H rfl fun a H => ?_
      refine pt_one (fun K hK => ?_)
      refine st_a0 rfl ?_; have hno := cl_now (c := c) hc1 hc2 k; refine wpo_store1 3 (.tmp 62) (.tmp 56) b 3 76 (.int .i64 ((c.nonce + 1) % 1073741825)) _ (H.ev rfl) (H.ev rfl) k s3 (by rw [clA_size (c := c) hc1 hc2]; show 3 + 1 ≤ 48; omega) (by simp [Value.cells, Value.oneCell']) fun w' hb ho kq => ?_; clear k; rw [st_nonce (c := c) hc1 hc2] at kq; have k : Block _ b 76 (clA { c with nonce := ((c.nonce + 1) % 1073741825) } vi vo m) := kq; replace hri := Row.store hri (fx hfi) ho; replace hro := Row.store hro (fx hfo) ho; replace hmp := MapAt.store hmp hmb (hb b (Nat.le_refl _)) ho; replace k0 := block_same k0 (ho _ (by omega)); replace hall := hall.store (hb b (Nat.le_refl _)) ho; replace hS := GrownC.store hS (hb b (Nat.le_refl _)) ho ((cl_now (c := { c with nonce := ((c.nonce + 1) % 1073741825) }) hc1 hc2 k).trans hno.symm); clear hno; clear hb ho kq; refine hK _ _ ⟨(fun _ => hS), ?_⟩; clear hK; clear K; skip
      refine kQ 2 H rfl fun a H => ?_
      refine pt_one (fun K hK => ?_)
      refine st_a0 rfl ?_; have hno := cl_now (c := { c with nonce := ((c.nonce + 1) % 1073741825) }) hc1 hc2 k; refine wpo_store1 3 (.tmp 64) (.tmp 60) b 21 76 (.int .i64 (c.now)) _ (H.ev rfl) (H.ev rfl) k s3 (by rw [clA_size (c := { c with nonce := ((c.nonce + 1) % 1073741825) }) hc1 hc2]; show 21 + 1 ≤ 48; omega) (by simp [Value.cells, Value.oneCell']) fun w' hb ho kq => ?_; clear k; rw [st_ask (c := { c with nonce := ((c.nonce + 1) % 1073741825) }) hc1 hc2] at kq; have k : Block _ b 76 (clA { c with nonce := ((c.nonce + 1) % 1073741825), ask := (c.now) } vi vo m) := kq; replace hri := Row.store hri (fx hfi) ho; replace hro := Row.store hro (fx hfo) ho; replace hmp := MapAt.store hmp hmb (hb b (Nat.le_refl _)) ho; replace k0 := block_same k0 (ho _ (by omega)); replace hall := hall.store (hb b (Nat.le_refl _)) ho; replace hS := GrownC.store hS (hb b (Nat.le_refl _)) ho ((cl_now (c := { c with nonce := ((c.nonce + 1) % 1073741825), ask := (c.now) }) hc1 hc2 k).trans hno.symm); clear hno; clear hb ho kq; refine hK _ _ ⟨(fun _ => hS), ?_⟩; clear hK; clear K; skip
      refine pt_done (NoPanic.normal ?_)
      clear hS hnz k0z
      refine n_block (zB (zC ?_))
      have hall6 := hall
      have hS : GrownC b (OnlyTo hall6) _ := grownC_drew _ _
      refine region_tree (GrownC b (OnlyTo hall6)) 10 (.fl 0 (.fl 1 (.fl 2 (.fl 3 (.fl 4 (.fl 5 (.one 6 (.fl 7 (.fl 8 (.one 9 .done)))))))))) (by kernel_rfl) (by kernel_rfl) rfl (by kernel_rfl) hS ?_
      have hnz := cl_now (c := { c with nonce := ((c.nonce + 1) % 1073741825), ask := (c.now) }) hc1 hc2 k
      have k0z := k0
      replace k := Block.ups k (Below.drew (Below.refl _ _))
      replace hri := Row.up hri (Below.drew (Below.refl _ _))
      replace hro := Row.up hro (Below.drew (Below.refl _ _))
      replace hmp := MapAt.ups hmp (Below.drew (Below.refl _ _))
      replace k0 := Block.ups k0 (Below.drew (Below.refl _ _))
      replace hall := hall.trans (Below.drew (Below.refl _ _))
      refine kQ 3 H rfl fun a H => ?_
      refine kF H rfl rfl (fun w' hS' => r_ld U3 rfl (H.ev rfl) (pv_cell (Block.grown k0z hS'.1 (by simp; omega)) (fld_at hp (j := 4) (by omega)))) rfl fun a H => ?_
      refine kQ 2 H rfl fun a H => ?_
      refine pt_one (fun K hK => ?_)
      refine st_a0 rfl ?_; have hno := cl_now (c := { c with nonce := ((c.nonce + 1) % 1073741825), ask := (c.now) }) hc1 hc2 k; refine wpo_store1 3 (.tmp 70) (.const (.int .i64 1)) b 1 76 (.int .i64 1) _ (H.ev rfl) evc k s3 (by rw [clA_size (c := { c with nonce := ((c.nonce + 1) % 1073741825), ask := (c.now) }) hc1 hc2]; show 1 + 1 ≤ 48; omega) (by simp [Value.cells, Value.oneCell']) fun w' hb ho kq => ?_; clear k; rw [st_state (c := { c with nonce := ((c.nonce + 1) % 1073741825), ask := (c.now) }) hc1 hc2] at kq; have k : Block _ b 76 (clA { c with nonce := ((c.nonce + 1) % 1073741825), ask := (c.now), state := 1 } vi vo m) := kq; replace hri := Row.store hri (fx hfi) ho; replace hro := Row.store hro (fx hfo) ho; replace hmp := MapAt.store hmp hmb (hb b (Nat.le_refl _)) ho; replace k0 := block_same k0 (ho _ (by omega)); replace hall := hall.store (hb b (Nat.le_refl _)) ho; replace hS := GrownC.store hS (hb b (Nat.le_refl _)) ho ((cl_now (c := { c with nonce := ((c.nonce + 1) % 1073741825), ask := (c.now), state := 1 }) hc1 hc2 k).trans hno.symm); clear hno; clear hb ho kq; refine hK _ _ ⟨(fun _ => hS), ?_⟩; clear hK; clear K; skip
      refine kQ 2 H rfl fun a H => ?_
      refine pt_one (fun K hK => ?_)
      refine st_a0 rfl ?_; have hno := cl_now (c := { c with nonce := ((c.nonce + 1) % 1073741825), ask := (c.now), state := 1 }) hc1 hc2 k; refine wpo_store1 46 (.tmp 72) (.tmp 68) b 47 76 (.int .i64 (p.fld 4)) _ (H.ev rfl) (H.ev rfl) k s46 (by rw [clA_size (c := { c with nonce := ((c.nonce + 1) % 1073741825), ask := (c.now), state := 1 }) hc1 hc2]; show 47 + 1 ≤ 48; omega) (by simp [Value.cells, Value.oneCell']) fun w' hb ho kq => ?_; clear k; rw [st_code (c := { c with nonce := ((c.nonce + 1) % 1073741825), ask := (c.now), state := 1 }) hc1 hc2] at kq; have k : Block _ b 76 (clA { c with nonce := ((c.nonce + 1) % 1073741825), ask := (c.now), state := 1, code := (p.fld 4) } vi vo m) := kq; replace hri := Row.store hri (fx hfi) ho; replace hro := Row.store hro (fx hfo) ho; replace hmp := MapAt.store hmp hmb (hb b (Nat.le_refl _)) ho; replace k0 := block_same k0 (ho _ (by omega)); replace hall := hall.store (hb b (Nat.le_refl _)) ho; replace hS := GrownC.store hS (hb b (Nat.le_refl _)) ho ((cl_now (c := { c with nonce := ((c.nonce + 1) % 1073741825), ask := (c.now), state := 1, code := (p.fld 4) }) hc1 hc2 k).trans hno.symm); clear hno; clear hb ho kq; refine hK _ _ ⟨(fun _ => hS), ?_⟩; clear hK; clear K; skip
      refine pt_done (NoPanic.normal ?_)
      clear hS hnz k0z
      refine zB (zC (zD ?_))
      refine kR 1 H rfl fun a H => ?_
      refine zA (zB (zF ?_))
      have e : refC c p = { c with nonce := (c.nonce + 1) % 1073741825, ask := c.now, state := 1, code := p.fld 4 } := by rw [refC, if_neg (by omega), if_pos ⟨by omega, by omega, by omega⟩]
      have hok := ref_ok hc hr hk
      rw [e] at hok ⊢
      exact k_ret1 H rfl rfl ⟨⟨_, rfl, outs_nil⟩, ⟨hok, ⟨_, _, k, ⟨hri, hfi⟩, hro, hfo⟩, hmp, hmb⟩, hall⟩
     ·
      refine kF H rfl rfl (fun w' hS' => r_eq U3 (H.ev rfl) evc (dec_f (hcc4))) rfl fun a H => ?_
      refine kQ 2 H rfl fun a H => ?_
      refine pt_done (NoPanic.normal ?_)
      replace k := Block.ups k hS
      replace hri := Row.up hri hS
      replace hro := Row.up hro hS
      replace hmp := MapAt.ups hmp hS
      replace k0 := Block.ups k0 hS
      replace hall := hall.trans (Below.mono hS hall.size)
      clear hS
      refine zB (zG H rfl (zC (zD ?_)))
      refine kR 1 H rfl fun a H => ?_
      refine zA (zB (zF (r_block (zJ ?_))))
      have e : refC c p = c := by rw [refC, if_neg (by omega), if_neg (by omega)]
      have hok := ref_ok hc hr hk
      rw [e] at hok ⊢
      exact k_ret1 H rfl rfl ⟨⟨_, rfl, outs_nil⟩, ⟨hok, ⟨_, _, k, ⟨hri, hfi⟩, hro, hfo⟩, hmp, hmb⟩, hall⟩
    ·
     refine kF H rfl rfl (fun w' hS' => r_eq U3 (H.ev rfl) (H.ev rfl) (dec_f (hcc3))) rfl fun a H => ?_
     refine kQ 7 H rfl fun a H => ?_
     refine pt_done (NoPanic.normal ?_)
     replace k := Block.ups k hS
     replace hri := Row.up hri hS
     replace hro := Row.up hro hS
     replace hmp := MapAt.ups hmp hS
     replace k0 := Block.ups k0 hS
     replace hall := hall.trans (Below.mono hS hall.size)
     clear hS
     refine zB (zG H rfl (zC (zD ?_)))
     refine kR 1 H rfl fun a H => ?_
     refine zA (zB (zF (r_block (zJ ?_))))
     have e : refC c p = c := by rw [refC, if_neg (by omega), if_neg (by omega)]
     have hok := ref_ok hc hr hk
     rw [e] at hok ⊢
     exact k_ret1 H rfl rfl ⟨⟨_, rfl, outs_nil⟩, ⟨hok, ⟨_, _, k, ⟨hri, hfi⟩, hro, hfo⟩, hmp, hmb⟩, hall⟩
   ·
    refine kF H rfl rfl (fun w' hS' => r_eq U3 (H.ev rfl) evc (dec_f (hcc2))) rfl fun a H => ?_
    refine kQ 16 H rfl fun a H => ?_
    refine pt_done (NoPanic.normal ?_)
    replace k := Block.ups k hS
    replace hri := Row.up hri hS
    replace hro := Row.up hro hS
    replace hmp := MapAt.ups hmp hS
    replace k0 := Block.ups k0 hS
    replace hall := hall.trans (Below.mono hS hall.size)
    clear hS
    refine zB (zG H rfl (zC (zD ?_)))
    refine kR 1 H rfl fun a H => ?_
    refine zA (zB (zF (r_block (zJ ?_))))
    have e : refC c p = c := by rw [refC, if_neg (by omega), if_neg (by omega)]
    have hok := ref_ok hc hr hk
    rw [e] at hok ⊢
    exact k_ret1 H rfl rfl ⟨⟨_, rfl, outs_nil⟩, ⟨hok, ⟨_, _, k, ⟨hri, hfi⟩, hro, hfo⟩, hmp, hmb⟩, hall⟩
 ·
  refine kF H rfl rfl (fun w' hS' => r_eq U3 (H.ev rfl) evc (dec_f (hcc0))) rfl fun a H => ?_
  refine kQ 10 H rfl fun a H => ?_
  refine pt_done (NoPanic.normal ?_)
  replace k := Block.ups k hS
  replace hri := Row.up hri hS
  replace hro := Row.up hro hS
  replace hmp := MapAt.ups hmp hS
  replace k0 := Block.ups k0 hS
  replace hall := hall.trans (Below.mono hS hall.size)
  clear hS
  refine zB (zG H rfl (zC ?_))
  have hall4 := hall
  have hS : BelowOf (OnlyTo hall4) _ := Below.drew (Below.refl _ (OnlyTo hall4))
  refine region_tree (BelowOf (OnlyTo hall4)) 21 (.fl 0 (.fl 1 (.fl 2 (.fl 3 (.fl 4 (.fl 5 (.fl 6 (.fl 7 (.fl 8 (.fl 9 (.fl 10 (.fl 11 (.fl 12 (.fl 13 (.fl 14 (.fl 15 (.fl 16 (.fl 17 (.fl 18 (.fl 19 (.fl 20 .done))))))))))))))))))))) (by kernel_rfl) (by kernel_rfl) rfl (by kernel_rfl) hS ?_
  refine kQ 3 H rfl fun a H => ?_
  refine kF H rfl rfl (fun w' hS' => r_ld U3 rfl (H.ev rfl) ((show _ = some (Value.int .i64 (c.state)) from cl_state (c := c) hc1 hc2 (Block.ups k hS')))) rfl fun a H => ?_
  by_cases hcc5 : (c.state) = 3
  ·
   refine kF H rfl rfl (fun w' hS' => r_eq U3 (H.ev rfl) evc (dec_t (hcc5))) rfl fun a H => ?_
   refine kQ 2 H rfl fun a H => ?_
   refine kF H rfl rfl (fun w' hS' => r_ld U3 rfl (H.ev rfl) (pv_cell (Block.ups k0 hS') (fld_at hp (j := 10) (by omega)))) rfl fun a H => ?_
   refine kQ 3 H rfl fun a H => ?_
   refine kF H rfl rfl (fun w' hS' => r_fld (q := 22) fld72_0 (H.ev rfl) rfl) rfl fun a H => ?_
   refine kF H rfl rfl (fun w' hS' => r_ld U3 rfl (H.ev rfl) ((show _ = some (Value.int .i64 (c.id)) from cl_id (c := c) hc1 hc2 (Block.ups k hS')))) rfl fun a H => ?_
   by_cases hcc6 : (p.fld 10) = (c.id)
   ·
    refine kF H rfl rfl (fun w' hS' => r_eq U3 (H.ev rfl) (H.ev rfl) (dec_t (hcc6))) rfl fun a H => ?_
    refine kQ 3 H rfl fun a H => ?_
    refine kF H rfl rfl (fun w' hS' => r_ld U3 rfl (H.ev rfl) (pv_cell (Block.ups k0 hS') (fld_at hp (j := 4) (by omega)))) rfl fun a H => ?_
    by_cases hcc7 : (p.fld 4) = 6
    ·
     refine kF H rfl rfl (fun w' hS' => r_eq U3 (H.ev rfl) evc (dec_t (hcc7))) rfl fun a H => ?_
     refine kQ 2 H rfl fun a H => ?_
     refine pt_done (NoPanic.normal ?_)
     replace k := Block.ups k hS
     replace hri := Row.up hri hS
     replace hro := Row.up hro hS
     replace hmp := MapAt.ups hmp hS
     replace k0 := Block.ups k0 hS
     replace hall := hall.trans (Below.mono hS hall.size)
     clear hS
     refine zB (zH H rfl ?_)
     have hall5 := hall
     have hS : GrownC b (OnlyTo hall5) _ := grownC_drew _ _
     refine region_tree (GrownC b (OnlyTo hall5)) 18 (.fl 0 (.fl 1 (.fl 2 (.fl 3 (.fl 4 (.fl 8 (.fl 9 (.fl 10 (.fl 11 (.one 5 (.fl 6 (.fl 7 (.fl 12 (.fl 13 (.one 14 (.fl 15 (.fl 16 (.one 17 .done)))))))))))))))))) (by kernel_rfl) (by kernel_rfl) rfl (by kernel_rfl) hS ?_
     have hnz := cl_now (c := c) hc1 hc2 k
     have k0z := k0
     replace k := Block.ups k (Below.drew (Below.refl _ _))
     replace hri := Row.up hri (Below.drew (Below.refl _ _))
     replace hro := Row.up hro (Below.drew (Below.refl _ _))
     replace hmp := MapAt.ups hmp (Below.drew (Below.refl _ _))
     replace k0 := Block.ups k0 (Below.drew (Below.refl _ _))
     replace hall := hall.trans (Below.drew (Below.refl _ _))
     refine kQ 8 H rfl fun a H => ?_
     refine kF H rfl rfl (fun w' hS' => r_ld U3 rfl (H.ev rfl) (((hS'.2.trans hnz : _ = some (Value.int .i64 (c.now)))))) rfl fun a H => ?_
     refine pt_one (fun K hK => ?_)
     refine st_a0 rfl ?_; refine wpo_w _ _ (r_ld U3 rfl (H.ev rfl) ((show _ = some (Value.int .i64 (c.nonce)) from cl_nonce (c := c) hc1 hc2 k))) ?_; refine hK _ _ ⟨(fun _ => hS), ?_⟩; clear hK; clear K; refine kt H rfl fun a H => ?_
     refine kF H rfl rfl (fun w' hS' => r_add (q := (c.nonce) + 1) U3 (H.ev rfl) evc (by omega) (by omega)) rfl fun a H => ?_
     refine kF (v := .int .i64 ((c.nonce + 1) % 1073741825)) H rfl rfl (fun w' hS' => r_remi U3 (H.ev rfl) evc (by omega) (by omega)) rfl fun a H => ?_
     refine kQ 2 H rfl fun a H => ?_
     refine pt_one (fun K hK => ?_)
     refine st_a0 rfl ?_; have hno := cl_now (c := c) hc1 hc2 k; refine wpo_store1 3 (.tmp 62) (.tmp 56) b 3 76 (.int .i64 ((c.nonce + 1) % 1073741825)) _ (H.ev rfl) (H.ev rfl) k s3 (by rw [clA_size (c := c) hc1 hc2]; show 3 + 1 ≤ 48; omega) (by simp [Value.cells, Value.oneCell']) fun w' hb ho kq => ?_; clear k; rw [st_nonce (c := c) hc1 hc2] at kq; have k : Block _ b 76 (clA { c with nonce := ((c.nonce + 1) % 1073741825) } vi vo m) := kq; replace hri := Row.store hri (fx hfi) ho; replace hro := Row.store hro (fx hfo) ho; replace hmp := MapAt.store hmp hmb (hb b (Nat.le_refl _)) ho; replace k0 := block_same k0 (ho _ (by omega)); replace hall := hall.store (hb b (Nat.le_refl _)) ho; replace hS := GrownC.store hS (hb b (Nat.le_refl _)) ho ((cl_now (c := { c with nonce := ((c.nonce + 1) % 1073741825) }) hc1 hc2 k).trans hno.symm); clear hno; clear hb ho kq; refine hK _ _ ⟨(fun _ => hS), ?_⟩; clear hK; clear K; skip
     refine kQ 2 H rfl fun a H => ?_
     refine pt_one (fun K hK => ?_)
     refine st_a0 rfl ?_; have hno := cl_now (c := { c with nonce := ((c.nonce + 1) % 1073741825) }) hc1 hc2 k; refine wpo_store1 3 (.tmp 64) (.tmp 60) b 21 76 (.int .i64 (c.now)) _ (H.ev rfl) (H.ev rfl) k s3 (by rw [clA_size (c := { c with nonce := ((c.nonce + 1) % 1073741825) }) hc1 hc2]; show 21 + 1 ≤ 48; omega) (by simp [Value.cells, Value.oneCell']) fun w' hb ho kq => ?_; clear k; rw [st_ask (c := { c with nonce := ((c.nonce + 1) % 1073741825) }) hc1 hc2] at kq; have k : Block _ b 76 (clA { c with nonce := ((c.nonce + 1) % 1073741825), ask := (c.now) } vi vo m) := kq; replace hri := Row.store hri (fx hfi) ho; replace hro := Row.store hro (fx hfo) ho; replace hmp := MapAt.store hmp hmb (hb b (Nat.le_refl _)) ho; replace k0 := block_same k0 (ho _ (by omega)); replace hall := hall.store (hb b (Nat.le_refl _)) ho; replace hS := GrownC.store hS (hb b (Nat.le_refl _)) ho ((cl_now (c := { c with nonce := ((c.nonce + 1) % 1073741825), ask := (c.now) }) hc1 hc2 k).trans hno.symm); clear hno; clear hb ho kq; refine hK _ _ ⟨(fun _ => hS), ?_⟩; clear hK; clear K; skip
     refine pt_done (NoPanic.normal ?_)
     clear hS hnz k0z
     refine n_block (zB (zC ?_))
     have hall6 := hall
     have hS : GrownC b (OnlyTo hall6) _ := grownC_drew _ _
     refine region_tree (GrownC b (OnlyTo hall6)) 10 (.fl 0 (.fl 1 (.fl 2 (.fl 3 (.fl 4 (.fl 5 (.one 6 (.fl 7 (.fl 8 (.one 9 .done)))))))))) (by kernel_rfl) (by kernel_rfl) rfl (by kernel_rfl) hS ?_
     have hnz := cl_now (c := { c with nonce := ((c.nonce + 1) % 1073741825), ask := (c.now) }) hc1 hc2 k
     have k0z := k0
     replace k := Block.ups k (Below.drew (Below.refl _ _))
     replace hri := Row.up hri (Below.drew (Below.refl _ _))
     replace hro := Row.up hro (Below.drew (Below.refl _ _))
     replace hmp := MapAt.ups hmp (Below.drew (Below.refl _ _))
     replace k0 := Block.ups k0 (Below.drew (Below.refl _ _))
     replace hall := hall.trans (Below.drew (Below.refl _ _))
     refine kQ 3 H rfl fun a H => ?_
     refine kF H rfl rfl (fun w' hS' => r_ld U3 rfl (H.ev rfl) (pv_cell (Block.grown k0z hS'.1 (by simp; omega)) (fld_at hp (j := 4) (by omega)))) rfl fun a H => ?_
     refine kQ 2 H rfl fun a H => ?_
     refine pt_one (fun K hK => ?_)
     refine st_a0 rfl ?_; have hno := cl_now (c := { c with nonce := ((c.nonce + 1) % 1073741825), ask := (c.now) }) hc1 hc2 k; refine wpo_store1 3 (.tmp 70) (.const (.int .i64 1)) b 1 76 (.int .i64 1) _ (H.ev rfl) evc k s3 (by rw [clA_size (c := { c with nonce := ((c.nonce + 1) % 1073741825), ask := (c.now) }) hc1 hc2]; show 1 + 1 ≤ 48; omega) (by simp [Value.cells, Value.oneCell']) fun w' hb ho kq => ?_; clear k; rw [st_state (c := { c with nonce := ((c.nonce + 1) % 1073741825), ask := (c.now) }) hc1 hc2] at kq; have k : Block _ b 76 (clA { c with nonce := ((c.nonce + 1) % 1073741825), ask := (c.now), state := 1 } vi vo m) := kq; replace hri := Row.store hri (fx hfi) ho; replace hro := Row.store hro (fx hfo) ho; replace hmp := MapAt.store hmp hmb (hb b (Nat.le_refl _)) ho; replace k0 := block_same k0 (ho _ (by omega)); replace hall := hall.store (hb b (Nat.le_refl _)) ho; replace hS := GrownC.store hS (hb b (Nat.le_refl _)) ho ((cl_now (c := { c with nonce := ((c.nonce + 1) % 1073741825), ask := (c.now), state := 1 }) hc1 hc2 k).trans hno.symm); clear hno; clear hb ho kq; refine hK _ _ ⟨(fun _ => hS), ?_⟩; clear hK; clear K; skip
     refine kQ 2 H rfl fun a H => ?_
     refine pt_one (fun K hK => ?_)
     refine st_a0 rfl ?_; have hno := cl_now (c := { c with nonce := ((c.nonce + 1) % 1073741825), ask := (c.now), state := 1 }) hc1 hc2 k; refine wpo_store1 46 (.tmp 72) (.tmp 68) b 47 76 (.int .i64 (p.fld 4)) _ (H.ev rfl) (H.ev rfl) k s46 (by rw [clA_size (c := { c with nonce := ((c.nonce + 1) % 1073741825), ask := (c.now), state := 1 }) hc1 hc2]; show 47 + 1 ≤ 48; omega) (by simp [Value.cells, Value.oneCell']) fun w' hb ho kq => ?_; clear k; rw [st_code (c := { c with nonce := ((c.nonce + 1) % 1073741825), ask := (c.now), state := 1 }) hc1 hc2] at kq; have k : Block _ b 76 (clA { c with nonce := ((c.nonce + 1) % 1073741825), ask := (c.now), state := 1, code := (p.fld 4) } vi vo m) := kq; replace hri := Row.store hri (fx hfi) ho; replace hro := Row.store hro (fx hfo) ho; replace hmp := MapAt.store hmp hmb (hb b (Nat.le_refl _)) ho; replace k0 := block_same k0 (ho _ (by omega)); replace hall := hall.store (hb b (Nat.le_refl _)) ho; replace hS := GrownC.store hS (hb b (Nat.le_refl _)) ho ((cl_now (c := { c with nonce := ((c.nonce + 1) % 1073741825), ask := (c.now), state := 1, code := (p.fld 4) }) hc1 hc2 k).trans hno.symm); clear hno; clear hb ho kq; refine hK _ _ ⟨(fun _ => hS), ?_⟩; clear hK; clear K; skip
     refine pt_done (NoPanic.normal ?_)
     clear hS hnz k0z
     refine zB (zC (zD ?_))
     refine kR 1 H rfl fun a H => ?_
     refine zA (zB (zF ?_))
     have e : refC c p = { c with nonce := (c.nonce + 1) % 1073741825, ask := c.now, state := 1, code := p.fld 4 } := by rw [refC, if_neg (by omega), if_pos ⟨by omega, by omega, by omega⟩]
     have hok := ref_ok hc hr hk
     rw [e] at hok ⊢
     exact k_ret1 H rfl rfl ⟨⟨_, rfl, outs_nil⟩, ⟨hok, ⟨_, _, k, ⟨hri, hfi⟩, hro, hfo⟩, hmp, hmb⟩, hall⟩
    ·
     refine kF H rfl rfl (fun w' hS' => r_eq U3 (H.ev rfl) evc (dec_f (hcc7))) rfl fun a H => ?_
     refine kQ 2 H rfl fun a H => ?_
     refine pt_done (NoPanic.normal ?_)
     replace k := Block.ups k hS
     replace hri := Row.up hri hS
     replace hro := Row.up hro hS
     replace hmp := MapAt.ups hmp hS
     replace k0 := Block.ups k0 hS
     replace hall := hall.trans (Below.mono hS hall.size)
     clear hS
     refine zB (zG H rfl (zC (zD ?_)))
     refine kR 1 H rfl fun a H => ?_
     refine zA (zB (zF (r_block (zJ ?_))))
     have e : refC c p = c := by rw [refC, if_neg (by omega), if_neg (by omega)]
     have hok := ref_ok hc hr hk
     rw [e] at hok ⊢
     exact k_ret1 H rfl rfl ⟨⟨_, rfl, outs_nil⟩, ⟨hok, ⟨_, _, k, ⟨hri, hfi⟩, hro, hfo⟩, hmp, hmb⟩, hall⟩
   ·
    refine kF H rfl rfl (fun w' hS' => r_eq U3 (H.ev rfl) (H.ev rfl) (dec_f (hcc6))) rfl fun a H => ?_
    refine kQ 7 H rfl fun a H => ?_
    refine pt_done (NoPanic.normal ?_)
    replace k := Block.ups k hS
    replace hri := Row.up hri hS
    replace hro := Row.up hro hS
    replace hmp := MapAt.ups hmp hS
    replace k0 := Block.ups k0 hS
    replace hall := hall.trans (Below.mono hS hall.size)
    clear hS
    refine zB (zG H rfl (zC (zD ?_)))
    refine kR 1 H rfl fun a H => ?_
    refine zA (zB (zF (r_block (zJ ?_))))
    have e : refC c p = c := by rw [refC, if_neg (by omega), if_neg (by omega)]
    have hok := ref_ok hc hr hk
    rw [e] at hok ⊢
    exact k_ret1 H rfl rfl ⟨⟨_, rfl, outs_nil⟩, ⟨hok, ⟨_, _, k, ⟨hri, hfi⟩, hro, hfo⟩, hmp, hmb⟩, hall⟩
  ·
   refine kF H rfl rfl (fun w' hS' => r_eq U3 (H.ev rfl) evc (dec_f (hcc5))) rfl fun a H => ?_
   refine kQ 16 H rfl fun a H => ?_
   refine pt_done (NoPanic.normal ?_)
   replace k := Block.ups k hS
   replace hri := Row.up hri hS
   replace hro := Row.up hro hS
   replace hmp := MapAt.ups hmp hS
   replace k0 := Block.ups k0 hS
   replace hall := hall.trans (Below.mono hS hall.size)
   clear hS
   refine zB (zG H rfl (zC (zD ?_)))
   refine kR 1 H rfl fun a H => ?_
   refine zA (zB (zF (r_block (zJ ?_))))
   have e : refC c p = c := by rw [refC, if_neg (by omega), if_neg (by omega)]
   have hok := ref_ok hc hr hk
   rw [e] at hok ⊢
   exact k_ret1 H rfl rfl ⟨⟨_, rfl, outs_nil⟩, ⟨hok, ⟨_, _, k, ⟨hri, hfi⟩, hro, hfo⟩, hmp, hmb⟩, hall⟩
set_option maxRecDepth 100000 in
set_option maxHeartbeats 4000000 in
theorem beatB_any (w : World) (b : Nat) (m : Option Nat) (c : Cl) (vi vo : Value) (hc : ClOk c) (k : Block w b 76 (clA c vi vo m)) : Calls Tryz.prog 46 #[.pointer (some ⟨b, 0, none⟩)] w fun e w' => (∃ v, e = .returned v ∧ Outs w' w.heap.size v (beatO c)) ∧ Block w' b 76 (clA (beatC c) vi vo m) ∧ Only b none w w' := by
 have hc1 := hc.ck
 have hc2 := hc.key
 have hcn := hc.now
 have hcs := hc.seq
 have hcb := hc.beats
 have hco := hc.nonce
 have hall := Only.refl b none w
 refine K_enter 40 Tryz.func46 rfl rfl fun a H => ?_
 replace H := H.pick [0]
 refine zC (zD ?_)
 refine kR 1 H rfl fun a H => ?_
 refine zA (zB (zC (zD ?_)))
 refine kR 4 H rfl fun a H => ?_
 refine zA (zB (zC (zC ?_)))
 by_cases hbt : c.beat ≤ c.now
 ·
  have hall2 := hall
  have hS : BelowOf (OnlyTo hall2) _ := Below.drew (Below.refl _ (OnlyTo hall2))
  refine region_tree (BelowOf (OnlyTo hall2)) 9 (.fl 0 (.fl 1 (.fl 2 (.fl 3 (.fl 4 (.fl 5 (.fl 6 (.one 7 (.fl 8 .done))))))))) (by kernel_rfl) (by kernel_rfl) rfl (by kernel_rfl) hS ?_
  refine kQ 6 H rfl fun a H => ?_
  refine kF H rfl rfl (fun w' hS' => r_ld U3 rfl (H.ev rfl) ((show _ = some (Value.int .i64 (c.now)) from cl_now (c := c) hc1 hc2 (Block.ups k hS')))) rfl fun a H => ?_
  refine pt_one (fun K hK => ?_)
  refine st_a0 rfl ?_; refine wpo_call _ _ _ (time_any _ b m c c.now vi vo hc (Block.ups k hS)) (r_call2 cf82 (H.ev rfl) (H.ev rfl)) ?_; rintro e w9 ⟨rfl, hb⟩; refine ⟨_, rfl, ?_⟩; rw [decide_eq_true hbt]; replace hS := Below.trans hS (Below.mono hb (Below.size hS)); clear hb; refine hK _ _ ⟨(fun _ => hS), ?_⟩; clear hK; clear K; refine kt H rfl fun a H => ?_
  refine kF H rfl rfl (fun w' hS' => r_not (H.ev rfl) rfl) rfl fun a H => ?_
  refine pt_done (NoPanic.normal ?_)
  replace k := Block.ups k hS
  replace hall := hall.trans (Below.mono hS hall.size)
  clear hS
  refine zB (zG H rfl (zE (zB (zC ?_))))
  have hall4 := hall
  have hS : GrownC b (OnlyTo hall4) _ := grownC_drew _ _
  refine region_tree (GrownC b (OnlyTo hall4)) 19 (.fl 0 (.fl 1 (.fl 2 (.fl 3 (.fl 4 (.fl 8 (.fl 9 (.fl 10 (.fl 11 (.fl 12 (.one 5 (.fl 6 (.fl 7 (.fl 13 (.fl 14 (.one 15 (.fl 16 (.fl 17 (.one 18 .done))))))))))))))))))) (by kernel_rfl) (by kernel_rfl) rfl (by kernel_rfl) hS ?_
  have hnz := cl_now (c := c) hc1 hc2 k
  replace k := Block.ups k (Below.drew (Below.refl _ _))
  replace hall := hall.trans (Below.drew (Below.refl _ _))
  refine kQ 4 H rfl fun a H => ?_
  refine kF H rfl rfl (fun w' hS' => r_fld (q := 22 + 17) fld72_2 (H.ev rfl) rfl) rfl fun a H => ?_
  refine kQ 3 H rfl fun a H => ?_
  refine kF H rfl rfl (fun w' hS' => r_ld U3 rfl (H.ev rfl) (((hS'.2.trans hnz : _ = some (Value.int .i64 (c.now)))))) rfl fun a H => ?_
  refine kF H rfl rfl (fun w' hS' => r_add (q := (c.now) + 4) U3 (H.ev rfl) evc (by omega) (by omega)) rfl fun a H => ?_
  refine pt_one (fun K hK => ?_)
  refine st_a0 rfl ?_; refine wpo_w _ _ (r_ld U3 rfl (H.ev rfl) ((show _ = some (Value.int .i64 (c.beats)) from cl_beats (c := c) hc1 hc2 k))) ?_; refine hK _ _ ⟨(fun _ => hS), ?_⟩; clear hK; clear K; refine kt H rfl fun a H => ?_
  refine kF H rfl rfl (fun w' hS' => r_add (q := (c.beats) + 1) U3 (H.ev rfl) evc (by omega) (by omega)) rfl fun a H => ?_
  refine kF H rfl rfl (fun w' hS' => r_min (q := (if 1073741825 < ((c.beats) + 1) then 1073741825 else ((c.beats) + 1))) (H.ev rfl) evc rfl) rfl fun a H => ?_
  refine kQ 1 H rfl fun a H => ?_
  refine kF H rfl rfl (fun w' hS' => r_fld (q := 22 + 17) fld72_2 (H.ev rfl) rfl) rfl fun a H => ?_
  refine pt_one (fun K hK => ?_)
  refine st_a0 rfl ?_; have hno := cl_now (c := c) hc1 hc2 k; refine wpo_store1 3 (.tmp 30) (.tmp 23) b 39 76 (.int .i64 (if 1073741825 < ((c.beats) + 1) then 1073741825 else ((c.beats) + 1))) _ (H.ev rfl) (H.ev rfl) k s3 (by rw [clA_size (c := c) hc1 hc2]; show 39 + 1 ≤ 48; omega) (by simp [Value.cells, Value.oneCell']) fun w' hb ho kq => ?_; clear k; rw [st_beats (c := c) hc1 hc2] at kq; have k : Block _ b 76 (clA { c with beats := (if 1073741825 < ((c.beats) + 1) then 1073741825 else ((c.beats) + 1)) } vi vo m) := kq; replace hall := hall.store (hb b (Nat.le_refl _)) ho; replace hS := GrownC.store hS (hb b (Nat.le_refl _)) ho ((cl_now (c := { c with beats := (if 1073741825 < ((c.beats) + 1) then 1073741825 else ((c.beats) + 1)) }) hc1 hc2 k).trans hno.symm); clear hno; clear hb ho kq; refine hK _ _ ⟨(fun _ => hS), ?_⟩; clear hK; clear K; skip
  refine kQ 1 H rfl fun a H => ?_
  refine kF H rfl rfl (fun w' hS' => r_fld (q := 22 + 19) fld72_4 (H.ev rfl) rfl) rfl fun a H => ?_
  refine pt_one (fun K hK => ?_)
  refine st_a0 rfl ?_; have hno := cl_now (c := { c with beats := (if 1073741825 < ((c.beats) + 1) then 1073741825 else ((c.beats) + 1)) }) hc1 hc2 k; refine wpo_store1 3 (.tmp 32) (.tmp 28) b 41 76 (.int .i64 ((c.now) + 4)) _ (H.ev rfl) (H.ev rfl) k s3 (by rw [clA_size (c := { c with beats := (if 1073741825 < ((c.beats) + 1) then 1073741825 else ((c.beats) + 1)) }) hc1 hc2]; show 41 + 1 ≤ 48; omega) (by simp [Value.cells, Value.oneCell']) fun w' hb ho kq => ?_; clear k; rw [st_beat (c := { c with beats := (if 1073741825 < ((c.beats) + 1) then 1073741825 else ((c.beats) + 1)) }) hc1 hc2] at kq; have k : Block _ b 76 (clA { c with beats := (if 1073741825 < ((c.beats) + 1) then 1073741825 else ((c.beats) + 1)), beat := ((c.now) + 4) } vi vo m) := kq; replace hall := hall.store (hb b (Nat.le_refl _)) ho; replace hS := GrownC.store hS (hb b (Nat.le_refl _)) ho ((cl_now (c := { c with beats := (if 1073741825 < ((c.beats) + 1) then 1073741825 else ((c.beats) + 1)), beat := ((c.now) + 4) }) hc1 hc2 k).trans hno.symm); clear hno; clear hb ho kq; refine hK _ _ ⟨(fun _ => hS), ?_⟩; clear hK; clear K; skip
  refine pt_done (NoPanic.normal ?_)
  clear hS hnz
  refine zB (zC ?_)
  have hbo : ClOk { c with beats := (if 1073741825 < ((c.beats) + 1) then 1073741825 else ((c.beats) + 1)), beat := ((c.now) + 4) } := by have := beat_ok hc; rwa [beatC, if_neg (by omega)] at this
  have hbb := hbo.beats
  refine zD ?_
  refine kR 3 H rfl fun a H => ?_
  refine kV H (r_fld (q := 22 + 17) fld72_2 (H.ev rfl) rfl) rfl fun a H => ?_
  refine kV H (r_ld U3 rfl (H.ev rfl) ((show _ = some (Value.int .i64 ((if 1073741825 < ((c.beats) + 1) then 1073741825 else ((c.beats) + 1)))) from cl_beats (c := { c with beats := (if 1073741825 < ((c.beats) + 1) then 1073741825 else ((c.beats) + 1)), beat := ((c.now) + 4) }) hc1 hc2 k))) rfl fun a H => ?_
  refine kV (v := .agg (pv (beatP (if 1073741825 < ((c.beats) + 1) then 1073741825 else ((c.beats) + 1))))) H (r_build #[(0, .int .i64 5), (2, .int .i64 ((if 1073741825 < ((c.beats) + 1) then 1073741825 else ((c.beats) + 1))))] (.agg (pv (beatP (if 1073741825 < ((c.beats) + 1) then 1073741825 else ((c.beats) + 1))))) (by simp [evc, H.ev (j := 37) rfl]) (fun w => by kernel_rfl)) rfl fun a H => ?_
  refine wl_call _ _ _ (signedB_any _ b m { c with beats := (if 1073741825 < ((c.beats) + 1) then 1073741825 else ((c.beats) + 1)), beat := ((c.now) + 4) } (beatP (if 1073741825 < ((c.beats) + 1) then 1073741825 else ((c.beats) + 1))) vi vo hbo k (beatP_ok hbb)) (r_call2 cf83 (H.ev rfl) (H.ev rfl)) ?_; rintro e w9 ⟨⟨v, rfl, hou⟩, hb⟩; refine ⟨_, rfl, ?_⟩; replace hou := Outs.base hou hall.size; replace k := Block.ups k hb; replace hall := hall.tr hb; clear hb; refine kl H rfl fun a H => ?_
  refine kR 1 H rfl fun a H => ?_
  refine zA (zB (zF ?_))
  exact k_ret1 H rfl rfl ⟨⟨_, rfl, by rw [beatO, if_neg (by omega)]; exact hou⟩, by rw [beatC, if_neg (by omega)]; exact k, hall⟩
 ·
  have hall2 := hall
  have hS : BelowOf (OnlyTo hall2) _ := Below.drew (Below.refl _ (OnlyTo hall2))
  refine region_tree (BelowOf (OnlyTo hall2)) 9 (.fl 0 (.fl 1 (.fl 2 (.fl 3 (.fl 4 (.fl 5 (.fl 6 (.one 7 (.fl 8 .done))))))))) (by kernel_rfl) (by kernel_rfl) rfl (by kernel_rfl) hS ?_
  refine kQ 6 H rfl fun a H => ?_
  refine kF H rfl rfl (fun w' hS' => r_ld U3 rfl (H.ev rfl) ((show _ = some (Value.int .i64 (c.now)) from cl_now (c := c) hc1 hc2 (Block.ups k hS')))) rfl fun a H => ?_
  refine pt_one (fun K hK => ?_)
  refine st_a0 rfl ?_; refine wpo_call _ _ _ (time_any _ b m c c.now vi vo hc (Block.ups k hS)) (r_call2 cf82 (H.ev rfl) (H.ev rfl)) ?_; rintro e w9 ⟨rfl, hb⟩; refine ⟨_, rfl, ?_⟩; rw [decide_eq_false hbt]; replace hS := Below.trans hS (Below.mono hb (Below.size hS)); clear hb; refine hK _ _ ⟨(fun _ => hS), ?_⟩; clear hK; clear K; refine kt H rfl fun a H => ?_
  refine kF H rfl rfl (fun w' hS' => r_not (H.ev rfl) rfl) rfl fun a H => ?_
  refine pt_done (NoPanic.normal ?_)
  replace k := Block.ups k hS
  replace hall := hall.trans (Below.mono hS hall.size)
  clear hS
  refine zB (zH H rfl (zC (zD ?_)))
  refine kR 1 H rfl fun a H => ?_
  refine zA (zB (zF (zJ ?_)))
  exact k_ret1 H rfl rfl ⟨⟨_, rfl, by rw [beatO, if_pos (by omega)]; exact outs_nil⟩, by rw [beatC, if_pos (by omega)]; exact k, hall⟩
set_option maxRecDepth 100000 in
set_option maxHeartbeats 4000000 in
theorem sayB_any [Lim] (w : World) (b : Nat) (m : Option Nat) (c : Cl) (vi vo : Value) (hc : ClOk c) (k : Block w b 76 (clA c vi vo m)) (hro : ORow w vo c.os) (hfo : Fresh (Lim.lim b) vo) : Calls Tryz.prog 47 #[.pointer (some ⟨b, 0, none⟩)] w fun e w' => (∃ v, e = .returned v ∧ Outs w' w.heap.size v (sayO c)) ∧ Block w' b 76 (clA (sayC c) vi vo m) ∧ Only b none w w' := by
 have hc1 := hc.ck
 have hc2 := hc.key
 have hcn := hc.now
 have hcs := hc.seq
 have hcb := hc.beats
 have hco := hc.nonce
 have hall := Only.refl b none w
 obtain ⟨Ao, co, hvo⟩ := row_shape hro
 subst hvo
 refine K_enter 55 Tryz.func47 rfl rfl fun a H => ?_
 replace H := H.pick [0]
 refine zC (zD ?_)
 refine kR 1 H rfl fun a H => ?_
 refine zA (zB (zC (zD ?_)))
 refine kR 4 H rfl fun a H => ?_
 refine zA (zB (zC (zC ?_)))
 by_cases hL : c.os.length = 0
 ·
  have hs0 : sayC c = c ∧ sayO c = [] := say_none (List.eq_nil_of_length_eq_zero hL)
  have hall2 := hall
  have hS : BelowOf (OnlyTo hall2) _ := Below.drew (Below.refl _ (OnlyTo hall2))
  refine region_tree (BelowOf (OnlyTo hall2)) 17 (.fl 0 (.fl 1 (.fl 2 (.fl 3 (.fl 4 (.fl 5 (.fl 6 (.fl 7 (.fl 8 (.fl 9 (.fl 10 (.fl 11 (.fl 12 (.fl 13 (.one 14 (.fl 15 (.fl 16 .done))))))))))))))))) (by kernel_rfl) (by kernel_rfl) rfl (by kernel_rfl) hS ?_
  refine kQ 3 H rfl fun a H => ?_
  refine kF H rfl rfl (fun w' hS' => r_ld U73 rfl (H.ev rfl) ((show _ = some (.slice Ao c.os.length co : Value) from cl_os (c := c) hc1 hc2 (Block.ups k hS')))) rfl fun a H => ?_
  refine kF H rfl rfl (fun w' hS' => r_len U73 (H.ev rfl)) rfl fun a H => ?_
  refine kF H rfl rfl (fun w' hS' => r_eq U3 (H.ev rfl) evc (dec_t (by omega))) rfl fun a H => ?_
  refine kQ 8 H rfl fun a H => ?_
  refine pt_one (fun K hK => ?_)
  refine st_n1 rfl rfl rfl (H.ev rfl) ?_; refine hK _ _ ⟨(fun _ => hS), ?_⟩; clear hK; clear K; refine kt H rfl fun a H => ?_
  refine kQ 2 H rfl fun a H => ?_
  refine pt_done (NoPanic.normal ?_)
  replace k := Block.ups k hS
  replace hro := Row.up hro hS
  replace hall := hall.trans (Below.mono hS hall.size)
  clear hS
  refine zB (zH H rfl (zC (zD ?_)))
  refine kR 1 H rfl fun a H => ?_
  refine zA (zB (zF (zJ ?_)))
  exact k_ret1 H rfl rfl ⟨⟨_, rfl, by rw [hs0.2]; exact outs_nil⟩, by rw [hs0.1]; exact k, hall⟩
 ·
  obtain ⟨o, l, hos⟩ : ∃ o l, c.os = o :: l := by
   cases he : c.os with
   | nil => exact absurd (by rw [he]; rfl) hL
   | cons o l => exact ⟨o, l, rfl⟩
  have HOS := Lib.hid hos
  clear hos
  by_cases hbt : c.say ≤ c.now
  ·
   have hall2 := hall
   have hS : BelowOf (OnlyTo hall2) _ := Below.drew (Below.refl _ (OnlyTo hall2))
   refine region_tree (BelowOf (OnlyTo hall2)) 17 (.fl 0 (.fl 1 (.fl 2 (.fl 3 (.fl 4 (.fl 5 (.fl 6 (.fl 7 (.fl 8 (.fl 9 (.fl 10 (.fl 11 (.fl 12 (.fl 13 (.one 14 (.fl 15 (.fl 16 .done))))))))))))))))) (by kernel_rfl) (by kernel_rfl) rfl (by kernel_rfl) hS ?_
   refine kQ 3 H rfl fun a H => ?_
   refine kF H rfl rfl (fun w' hS' => r_ld U73 rfl (H.ev rfl) ((show _ = some (.slice Ao c.os.length co : Value) from cl_os (c := c) hc1 hc2 (Block.ups k hS')))) rfl fun a H => ?_
   refine kF H rfl rfl (fun w' hS' => r_len U73 (H.ev rfl)) rfl fun a H => ?_
   refine kF H rfl rfl (fun w' hS' => r_eq U3 (H.ev rfl) evc (dec_f (by omega))) rfl fun a H => ?_
   refine kQ 7 H rfl fun a H => ?_
   refine kF H rfl rfl (fun w' hS' => r_ld U3 rfl (H.ev rfl) ((show _ = some (Value.int .i64 (c.now)) from cl_now (c := c) hc1 hc2 (Block.ups k hS')))) rfl fun a H => ?_
   refine pt_one (fun K hK => ?_)
   refine st_a1 rfl rfl rfl (H.ev rfl) ?_; refine wpo_call _ _ _ (ordr_any _ b m c c.now vi _ hc (Block.ups k hS)) (r_call2 cf84 (H.ev rfl) (H.ev rfl)) ?_; rintro e w9 ⟨rfl, hb⟩; refine ⟨_, rfl, ?_⟩; rw [decide_eq_true hbt]; replace hS := Below.trans hS (Below.mono hb (Below.size hS)); clear hb; refine hK _ _ ⟨(fun _ => hS), ?_⟩; clear hK; clear K; refine kt H rfl fun a H => ?_
   refine kF H rfl rfl (fun w' hS' => r_not (H.ev rfl) rfl) rfl fun a H => ?_
   refine kQ 1 H rfl fun a H => ?_
   refine pt_done (NoPanic.normal ?_)
   replace k := Block.ups k hS
   replace hro := Row.up hro hS
   replace hall := hall.trans (Below.mono hS hall.size)
   clear hS
   refine zB (zG H rfl (zE (zB (zC ?_))))
   obtain ⟨bo, oo, hA, hr⟩ := flat_some encN_len (row_holds hro) (by omega) (j := 0) (by omega)
   subst hA
   have hbo := (fx hfo) _ _ _ rfl bo oo rfl
   rw [show c.os[0] = o by simp [HOS.out]] at hr
   refine zD ?_
   refine kR 3 H rfl fun a H => ?_
   refine kV H (r_ld U73 rfl (H.ev rfl) ((show _ = some (.slice (some ⟨bo, oo, none⟩) c.os.length co : Value) from cl_os (c := c) hc1 hc2 k))) rfl fun a H => ?_
   refine kV (v := .pointer (some ⟨bo, oo + 0 * 4, none⟩)) H (r_idx (j := 0) (q := oo + 0 * 4) U73 s32 (H.ev rfl) evc (by omega) rfl) rfl fun a H => ?_
   refine kV H (r_row (cs := [.int .i64 o.1, .int .i64 o.2.1, .int .i64 o.2.2.1, .int .i64 o.2.2.2]) (H.ev rfl) (hr) (by kernel_rfl) s32 rfl) rfl fun a H => ?_
   refine op_new 32 4 (.tmp 30) #[.int .i64 o.1, .int .i64 o.2.1, .int .i64 o.2.2.1, .int .i64 o.2.2.2] _ z32 s32 rfl (ints_one [o.1, o.2.1, o.2.2.1, o.2.2.2]) (fun p => (H.put 4 p rfl).ev rfl) (fun p => (H.put 4 p rfl).ev rfl) fun w0 b0 hge hb k0 => ?_; have g0 := Nat.le_trans hall.size hge; have db0 : b < b0 := Nat.lt_of_lt_of_le k.lt hge; replace k := Block.ups k hb; replace hro := Row.up hro hb; replace hall := hall.tr hb; clear hb; clear hge; refine kl H rfl fun a H => ?_
   refine zA (zB (zC (zD ?_)))
   refine kR 4 H rfl fun a H => ?_
   refine kV H (r_ld U3 rfl (H.ev rfl) ((show _ = some (Value.int .i64 (c.now)) from cl_now (c := c) hc1 hc2 k))) rfl fun a H => ?_
   refine kV H (r_add (q := (c.now) + 4) U3 (H.ev rfl) evc (by omega) (by omega)) rfl fun a H => ?_
   refine kR 1 H rfl fun a H => ?_
   refine kV H (r_fld (q := 22 + 20) fld72_5 (H.ev rfl) rfl) rfl fun a H => ?_
   refine op_store1 3 (.tmp 38) (.tmp 36) b 42 76 (.int .i64 ((c.now) + 4)) _ (H.ev rfl) (H.ev rfl) k s3 (by rw [clA_size (c := c) hc1 hc2]; show 42 + 1 ≤ 48; omega) (by simp [Value.cells, Value.oneCell']) fun w' hb ho kq => ?_; clear k; rw [st_say (c := c) hc1 hc2] at kq; have k : Block _ b 76 (clA { c with say := ((c.now) + 4) } vi (.slice (some ⟨bo, oo, none⟩) c.os.length co) m) := kq; replace hro := Row.store hro (fx hfo) ho; replace k0 := block_same k0 (ho _ (by omega)); replace hall := hall.store (hb b (Nat.le_refl _)) ho; clear hb ho kq; refine kl0 H fun a H => ?_
   refine zA (zB (zC ?_))
   have hbo2 : ClOk { c with say := ((c.now) + 4) } := { hc with say := ⟨(by show 0 ≤ c.now + 4; omega), (by show c.now + 4 ≤ 1099511627780; omega)⟩ }
   have hall6 := hall
   have hS : BelowOf (OnlyTo hall6) _ := Below.drew (Below.refl _ (OnlyTo hall6))
   refine region_tree (BelowOf (OnlyTo hall6)) 17 (.fl 0 (.fl 1 (.fl 2 (.fl 3 (.fl 4 (.fl 5 (.fl 6 (.fl 7 (.fl 8 (.fl 9 (.fl 10 (.fl 11 (.fl 12 (.fl 13 (.fl 14 (.one 15 (.fl 16 .done))))))))))))))))) (by kernel_rfl) (by kernel_rfl) rfl (by kernel_rfl) hS ?_
   refine kQ 2 H rfl fun a H => ?_
   refine kF H rfl rfl (fun w' hS' => r_ld U3 rfl (H.ev rfl) ((Block.cell (Block.ups k0 hS') 0).trans rfl)) rfl fun a H => ?_
   refine kQ 2 H rfl fun a H => ?_
   refine kF H rfl rfl (fun w' hS' => r_fld (q := 22 + 18) fld72_3 (H.ev rfl) rfl) rfl fun a H => ?_
   refine kF H rfl rfl (fun w' hS' => r_ld U3 rfl (H.ev rfl) ((show _ = some (Value.int .i64 (c.seq)) from cl_seq (c := { c with say := ((c.now) + 4) }) hc1 hc2 (Block.ups k hS')))) rfl fun a H => ?_
   refine kF H rfl rfl (fun w' hS' => r_add (q := (c.seq) + 1) U3 (H.ev rfl) evc (by omega) (by omega)) rfl fun a H => ?_
   refine kQ 1 H rfl fun a H => ?_
   refine kF H rfl rfl (fun w' hS' => r_ld U3 rfl (H.ev rfl) ((Block.cell (Block.ups k0 hS') 1).trans rfl)) rfl fun a H => ?_
   refine kQ 1 H rfl fun a H => ?_
   refine kF H rfl rfl (fun w' hS' => r_ld U3 rfl (H.ev rfl) ((Block.cell (Block.ups k0 hS') 2).trans rfl)) rfl fun a H => ?_
   refine kQ 1 H rfl fun a H => ?_
   refine kF H rfl rfl (fun w' hS' => r_ld U3 rfl (H.ev rfl) ((Block.cell (Block.ups k0 hS') 3).trans rfl)) rfl fun a H => ?_
   refine kF (v := .agg (pv (ordP o (c.seq + 1)))) H rfl rfl (fun w' hS' => r_build #[(0, .int .i64 o.1), (2, .int .i64 (c.seq + 1)), (5, .int .i64 o.2.1), (4, .int .i64 o.2.2.1), (3, .int .i64 o.2.2.2)] (.agg (pv (ordP o (c.seq + 1)))) (by simp [H.ev (j := 41) rfl, H.ev (j := 46) rfl, H.ev (j := 48) rfl, H.ev (j := 50) rfl, H.ev (j := 52) rfl]) (fun w => by kernel_rfl)) rfl fun a H => ?_
   refine pt_one (fun K hK => ?_)
   refine st_a0 rfl ?_; refine wpo_call _ _ _ (signedB_any _ b m { c with say := ((c.now) + 4) } (ordP o (c.seq + 1)) vi _ hbo2 (Block.ups k hS) (ordP_ok (hc.may o (by rw [HOS.out]; simp)) (by omega))) (r_call2 cf83 (H.ev rfl) (H.ev rfl)) ?_; rintro e w9 ⟨⟨v, rfl, hou⟩, hb⟩; refine ⟨_, rfl, ?_⟩; replace hou := Outs.base hou (Nat.le_trans hall.size (Below.size hS)); replace hS := Below.trans hS (Below.mono hb (Below.size hS)); clear hb; refine hK _ _ ⟨(fun _ => hS), ?_⟩; clear hK; clear K; refine kt H rfl fun a H => ?_
   refine kQ 1 H rfl fun a H => ?_
   refine pt_done (NoPanic.normal ?_)
   replace k := Block.ups k hS
   replace hro := Row.up hro hS
   replace k0 := Block.ups k0 hS
   replace hall := hall.trans (Below.mono hS hall.size)
   clear hS
   refine zB (zF ?_)
   exact k_ret1 H rfl rfl ⟨⟨_, rfl, by rw [sayO_yes HOS.out (by omega)]; exact hou⟩, by rw [sayC_yes HOS.out (by omega)]; exact k, hall⟩
  ·
   have hs0 : sayC c = c ∧ sayO c = [] := say_late HOS.out (by omega)
   have hall2 := hall
   have hS : BelowOf (OnlyTo hall2) _ := Below.drew (Below.refl _ (OnlyTo hall2))
   refine region_tree (BelowOf (OnlyTo hall2)) 17 (.fl 0 (.fl 1 (.fl 2 (.fl 3 (.fl 4 (.fl 5 (.fl 6 (.fl 7 (.fl 8 (.fl 9 (.fl 10 (.fl 11 (.fl 12 (.fl 13 (.one 14 (.fl 15 (.fl 16 .done))))))))))))))))) (by kernel_rfl) (by kernel_rfl) rfl (by kernel_rfl) hS ?_
   refine kQ 3 H rfl fun a H => ?_
   refine kF H rfl rfl (fun w' hS' => r_ld U73 rfl (H.ev rfl) ((show _ = some (.slice Ao c.os.length co : Value) from cl_os (c := c) hc1 hc2 (Block.ups k hS')))) rfl fun a H => ?_
   refine kF H rfl rfl (fun w' hS' => r_len U73 (H.ev rfl)) rfl fun a H => ?_
   refine kF H rfl rfl (fun w' hS' => r_eq U3 (H.ev rfl) evc (dec_f (by omega))) rfl fun a H => ?_
   refine kQ 7 H rfl fun a H => ?_
   refine kF H rfl rfl (fun w' hS' => r_ld U3 rfl (H.ev rfl) ((show _ = some (Value.int .i64 (c.now)) from cl_now (c := c) hc1 hc2 (Block.ups k hS')))) rfl fun a H => ?_
   refine pt_one (fun K hK => ?_)
   refine st_a1 rfl rfl rfl (H.ev rfl) ?_; refine wpo_call _ _ _ (ordr_any _ b m c c.now vi _ hc (Block.ups k hS)) (r_call2 cf84 (H.ev rfl) (H.ev rfl)) ?_; rintro e w9 ⟨rfl, hb⟩; refine ⟨_, rfl, ?_⟩; rw [decide_eq_false hbt]; replace hS := Below.trans hS (Below.mono hb (Below.size hS)); clear hb; refine hK _ _ ⟨(fun _ => hS), ?_⟩; clear hK; clear K; refine kt H rfl fun a H => ?_
   refine kF H rfl rfl (fun w' hS' => r_not (H.ev rfl) rfl) rfl fun a H => ?_
   refine kQ 1 H rfl fun a H => ?_
   refine pt_done (NoPanic.normal ?_)
   replace k := Block.ups k hS
   replace hro := Row.up hro hS
   replace hall := hall.trans (Below.mono hS hall.size)
   clear hS
   refine zB (zH H rfl (zC (zD ?_)))
   refine kR 1 H rfl fun a H => ?_
   refine zA (zB (zF (zJ ?_)))
   exact k_ret1 H rfl rfl ⟨⟨_, rfl, by rw [hs0.2]; exact outs_nil⟩, by rw [hs0.1]; exact k, hall⟩
end
theorem hh32 : Tryz.prog.stoodInHeld 32 = false := by kernel_rfl
theorem g32 : Tryz.prog.eqGuardType Tryz.prog.depth 32 = false := by kernel_rfl
theorem eq32 (x y : Nt) (w : World) : (Op.equalIn 10000 32 (.agg #[.int .i64 x.1, .int .i64 x.2.1, .int .i64 x.2.2.1, .int .i64 x.2.2.2]) (.agg #[.int .i64 y.1, .int .i64 y.2.1, .int .i64 y.2.2.1, .int .i64 y.2.2.2])).run Tryz.prog w = .ok (decide (x = y)) w := by
 have h0 := hh32
 have u32 := U32
 have u3 := U3
 obtain ⟨a1, a2, a3, a4⟩ := x
 obtain ⟨b1, b2, b3, b4⟩ := y
 go_simp
 by_cases e0 : a1 = b1 <;> by_cases e1 : a2 = b2 <;> by_cases e2 : a3 = b3 <;> by_cases e3 : a4 = b4 <;> simp [e0, e1, e2, e3]
theorem r_eq32 {a : Act} {w : World} {d : Option Tmp} {tt t2 : TypeId} {ps : String} {af : Array Edge} {gd : Option (Nat × Bool)} {p q : Operand} {x y : Nt} (hx : a.eval p = .agg (cN x)) (hy : a.eval q = .agg (cN y)) :
  (execOp a.eval ⟨d, .binOp .eql 32 p q t2, tt, ps, af, gd⟩).run Tryz.prog w = .ok (.value (.bool (decide (x = y)))) w := by
 have hg := g32
 have heq := fun w => eq32 x y w
 unfold execOp
 simp only [hx, hy]
 go_simp
theorem GrownOf.store {b : Nat} {W w w' : World} (h : GrownOf b W w) (hb : Below b w w') (ho : ∀ g, g ≠ b → w'.heap[g]? = w.heap[g]?) : GrownOf b W w' :=
 ⟨hb.os.trans h.os, hb.tape.trans h.tape, hb.output.trans h.output, Nat.le_trans h.size hb.size, fun k hk hne => (ho k (fun e => hne (by rw [e]))).trans (h.block k hk hne)⟩
theorem may6 {o : Nt} (h : o.1 = 6) : decide ((o.1, (if 3 < (if 1 > o.2.1 then 1 else o.2.1) then 3 else (if 1 > o.2.1 then 1 else o.2.1)), (0 : Int), (0 : Int)) = o) = decide (MayP o) := by
 obtain ⟨a, b, c, d⟩ := o
 simp only at h ⊢
 apply decide_eq_decide.2
 unfold MayP
 simp only [Prod.mk.injEq, true_and]
 split <;> split <;> constructor <;> intro hh <;> omega
theorem may7 {o : Nt} (h : o.1 = 7) : decide ((o.1, (0 : Int), (if 7 < (if 1 > o.2.2.1 then 1 else o.2.2.1) then 7 else (if 1 > o.2.2.1 then 1 else o.2.2.1)), (if 16 < (if 1 > o.2.2.2 then 1 else o.2.2.2) then 16 else (if 1 > o.2.2.2 then 1 else o.2.2.2))) = o) = decide (MayP o) := by
 obtain ⟨a, b, c, d⟩ := o
 simp only at h ⊢
 apply decide_eq_decide.2
 unfold MayP
 simp only [Prod.mk.injEq, true_and]
 split <;> split <;> split <;> split <;> constructor <;> intro hh <;> omega
theorem may10 {o : Nt} (h : o.1 = 10) : decide ((o.1, (0 : Int), (0 : Int), (0 : Int)) = o) = decide (MayP o) := by
 obtain ⟨a, b, c, d⟩ := o
 simp only at h ⊢
 apply decide_eq_decide.2
 unfold MayP
 simp only [Prod.mk.injEq, true_and]
 constructor <;> intro hh <;> omega
theorem slice3_os {w : World} {A : Option Addr} {n c : Nat} (h : n ≤ c) : (Instr.slice 73 (.slice A n c) none (some (.int .i64 (n : Nat))) (some (.int .i64 (n : Nat)))).run Tryz.prog w = .ok (.slice A n n) w := by
 have hs := s32
 have hz := slAt_zero (A := A) (c := n) (size := 4)
 unfold slAt at hz
 cases hq : Tryz.prog.info? 32 with
 | none => simp [hq] at hs
 | some i =>
  have hsz : i.size = 4 := by simpa [hq] using hs
  simp [Instr.slice, Instr.sliceBounds, Instr.sliceBound, run_underlying U73, sizeOf, typeInfo, program, hq, hsz, asIntOf, h, Sem.run, Sem.run_bind, Sem.run_pure, Result.andThen_ok]
  simpa using hz
theorem os_nil {w : World} {A : Option Addr} {c : Nat} {L : List Nt} (h : ORow w (.slice A L.length c) L) (e : A = none) : L.length = 0 ∧ L.length = 0 := by
 obtain ⟨A', c', e1, h1, h2, h3, _⟩ := h
 injection e1 with e1 e2 e3
 subst e1 e3
 have := h3 e
 omega
theorem own_shape {α : Type} {enc : α → List Int} {e : TypeId} {size : Nat} {w : World} {B : Nat} {v : Value} {L : List α} (h : ROwn enc e size w B v L) : ∃ A c, v = .slice A L.length c := own_sliceB h
theorem clA_one {c : Cl} {A A2 : Option Addr} {n k n2 k2 : Nat} {m : Option Nat} (h1 : c.ck.length = 16) (h2 : c.key.length = 16) : (clA c (.slice A n k) (.slice A2 n2 k2) m).all (·.oneCell') = true := by
 simp [clA, Value.oneCell']
theorem MapAt.clear {w : World} {m : Option Nat} {vw : Int → Option Nt} (h : MapAt w m vw) (ty : TypeId) : ∃ w', (Builtin.clear_ #[74] ty #[.map m]).run Tryz.prog w = .ok (.tuple #[]) w' ∧ w.grownBy w' m := by
 cases m with
 | some q => exact VMap.clear h ty
 | none =>
  refine ⟨w, ?_, ⟨rfl, rfl, rfl, Nat.le_refl _, fun _ _ _ => rfl⟩⟩
  simp [Builtin.clear_, run_underlying U74, Result.andThen]
theorem only_map {b : Nat} {m : Option Nat} {w w' : World} (h : w.grownBy w' m) : Only b m w w' := ⟨h.os, h.tape, h.output, h.size, fun k hk _ hn => h.block k hk hn⟩
def sessF (c : Cl) : Int := if c.state = 3 then c.id else 0
set_option maxRecDepth 100000 in
set_option maxHeartbeats 4000000 in
theorem may_any (w : World) (o : Nt) : Calls Tryz.prog 50 #[.agg (cN o)] w fun e w' => e = .returned (.bool (decide (MayP o))) ∧ Below w.heap.size w w' := by
 have hall := Below.refl w.heap.size w
 refine K_enter 33 Tryz.func50 rfl rfl fun a H => ?_
 replace H := H.pick [0]
 refine zC (zD ?_)
 refine op_box 32 _ #[.int .i64 o.1, .int .i64 o.2.1, .int .i64 o.2.2.1, .int .i64 o.2.2.2] (H.ev rfl) fun w0 b0 hge hb k0 => ?_; have g0 := Nat.le_trans hall.size hge; replace hall := hall.tr hb; clear hb; clear hge; refine kl H rfl fun a H => ?_
 refine kR 1 H rfl fun a H => ?_
 refine zA (zB (zC (zD ?_)))
 refine kR 1 H rfl fun a H => ?_
 refine kV H (r_ld U3 rfl (H.ev rfl) ((Block.cell k0 0).trans rfl)) rfl fun a H => ?_
 refine kV H (r_build #[(0, .int .i64 o.1)] (.agg #[.int .i64 o.1, .int .i64 0, .int .i64 0, .int .i64 0]) (by simp [evc, H.ev (j := 5) rfl]) (fun w => by kernel_rfl)) rfl fun a H => ?_
 refine op_new 32 3 (.tmp 6) #[.int .i64 o.1, .int .i64 0, .int .i64 0, .int .i64 0] _ z32 s32 rfl (ints_one [o.1, 0, 0, 0]) (fun p => (H.put 3 p rfl).ev rfl) (fun p => (H.put 3 p rfl).ev rfl) fun w1 b1 hge hb k1 => ?_; have g1 := Nat.le_trans hall.size hge; have d0_1 : b0 < b1 := Nat.lt_of_lt_of_le k0.lt hge; replace k0 := Block.ups k0 hb; replace hall := hall.tr hb; clear hb; clear hge; refine kl H rfl fun a H => ?_
 refine zA (zB (zC (zC (zD ?_))))
 refine kR 1 H rfl fun a H => ?_
 refine kV H (r_ld U3 rfl (H.ev rfl) ((Block.cell k0 0).trans rfl)) rfl fun a H => ?_
 refine zA (zB ?_)
 refine wp_block ?_
 refine zC (zD ?_)
 by_cases hcc0 : o.1 = 6
 ·
  refine kV H (r_eq U3 (H.ev rfl) evc (dec_t (hcc0))) rfl fun a H => ?_
  refine kR 1 H rfl fun a H => ?_
  refine zA (zB (zH H rfl (zD ?_)))
  refine kR 1 H rfl fun a H => ?_
  refine kV H (r_ld U3 rfl (H.ev rfl) ((Block.cell k0 1).trans rfl)) rfl fun a H => ?_
  refine kV H (r_max (q := (if 1 > o.2.1 then 1 else o.2.1)) (H.ev rfl) evc rfl) rfl fun a H => ?_
  refine kV H (r_min (q := (if 3 < (if 1 > o.2.1 then 1 else o.2.1) then 3 else (if 1 > o.2.1 then 1 else o.2.1))) (H.ev rfl) evc rfl) rfl fun a H => ?_
  refine kR 1 H rfl fun a H => ?_
  refine op_store1 3 (.tmp 15) (.tmp 14) b1 1 32 (.int .i64 (if 3 < (if 1 > o.2.1 then 1 else o.2.1) then 3 else (if 1 > o.2.1 then 1 else o.2.1))) _ (H.ev rfl) (H.ev rfl) k1 s3 (by simp [Value.cells]) (ints_one [(if 3 < (if 1 > o.2.1 then 1 else o.2.1) then 3 else (if 1 > o.2.1 then 1 else o.2.1))]) fun w' hb ho kq => ?_; clear k1; have k1 : Block _ b1 32 #[.int .i64 o.1, .int .i64 (if 3 < (if 1 > o.2.1 then 1 else o.2.1) then 3 else (if 1 > o.2.1 then 1 else o.2.1)), .int .i64 0, .int .i64 0] := kq; clear kq; replace k0 := block_same k0 (ho _ (by omega)); replace hall := hall.trans (hb _ g1); clear hb ho; refine kl0 H fun a H => ?_
  refine zA (n_block (zB (zC ?_)))
  obtain ⟨x, hx⟩ : ∃ x : Nt, (o.1, (if 3 < (if 1 > o.2.1 then 1 else o.2.1) then 3 else (if 1 > o.2.1 then 1 else o.2.1)), 0, 0) = x := ⟨_, rfl⟩
  refine zD ?_
  refine kV (v := .agg (cN x)) H (by rw [← hx]; exact r_row (cs := [.int .i64 o.1, .int .i64 (if 3 < (if 1 > o.2.1 then 1 else o.2.1) then 3 else (if 1 > o.2.1 then 1 else o.2.1)), .int .i64 0, .int .i64 0]) (H.ev rfl) (block_range k1) (by kernel_rfl) s32 rfl) rfl fun a H => ?_
  refine kV H (r_row (cs := [.int .i64 o.1, .int .i64 o.2.1, .int .i64 o.2.2.1, .int .i64 o.2.2.2]) (H.ev rfl) (block_range k0) (by kernel_rfl) s32 rfl) rfl fun a H => ?_
  refine kV (v := .bool (decide (x = o))) H (r_eq32 (H.ev rfl) (H.ev rfl)) rfl fun a H => ?_
  refine kR 1 H rfl fun a H => ?_
  refine zA (zB (zF ?_))
  exact k_ret1 H rfl rfl ⟨by rw [← hx]; exact congrArg (fun q => Ending.returned (.bool q)) (may6 (by omega)), hall⟩
 ·
  refine kV H (r_eq U3 (H.ev rfl) evc (dec_f (hcc0))) rfl fun a H => ?_
  refine kR 1 H rfl fun a H => ?_
  refine zA (zB (zG H rfl (zC (zD ?_))))
  by_cases hcc1 : o.1 = 7
  ·
   refine kV H (r_eq U3 (H.ev rfl) evc (dec_t (hcc1))) rfl fun a H => ?_
   refine kR 1 H rfl fun a H => ?_
   refine zA (zB (zH H rfl ?_))
   have hall7 := hall
   have hS : GrownOf b1 (BelowTo hall7) _ := grown_drew _ _
   refine region_tree (GrownOf b1 (BelowTo hall7)) 12 (.fl 0 (.fl 1 (.fl 2 (.fl 3 (.fl 4 (.fl 5 (.fl 6 (.fl 7 (.fl 8 (.one 9 (.fl 10 (.one 11 .done)))))))))))) (by kernel_rfl) (by kernel_rfl) rfl (by kernel_rfl) hS ?_
   replace k1 := Block.ups k1 (Below.drew (Below.refl _ _))
   refine kQ 1 H rfl fun a H => ?_
   refine kF H rfl rfl (fun w' hS' => r_ld U3 rfl (H.ev rfl) ((Block.cell (Block.grown k0 hS' (by simp; omega)) 2).trans rfl)) rfl fun a H => ?_
   refine kF H rfl rfl (fun w' hS' => r_max (q := (if 1 > o.2.2.1 then 1 else o.2.2.1)) (H.ev rfl) evc rfl) rfl fun a H => ?_
   refine kF H rfl rfl (fun w' hS' => r_min (q := (if 7 < (if 1 > o.2.2.1 then 1 else o.2.2.1) then 7 else (if 1 > o.2.2.1 then 1 else o.2.2.1))) (H.ev rfl) evc rfl) rfl fun a H => ?_
   refine kQ 1 H rfl fun a H => ?_
   refine kF H rfl rfl (fun w' hS' => r_ld U3 rfl (H.ev rfl) ((Block.cell (Block.grown k0 hS' (by simp; omega)) 3).trans rfl)) rfl fun a H => ?_
   refine kF H rfl rfl (fun w' hS' => r_max (q := (if 1 > o.2.2.2 then 1 else o.2.2.2)) (H.ev rfl) evc rfl) rfl fun a H => ?_
   refine kF H rfl rfl (fun w' hS' => r_min (q := (if 16 < (if 1 > o.2.2.2 then 1 else o.2.2.2) then 16 else (if 1 > o.2.2.2 then 1 else o.2.2.2))) (H.ev rfl) evc rfl) rfl fun a H => ?_
   refine kQ 1 H rfl fun a H => ?_
   refine pt_one (fun K hK => ?_)
   refine st_a0 rfl ?_; refine wpo_store1 3 (.tmp 26) (.tmp 21) b1 2 32 (.int .i64 (if 7 < (if 1 > o.2.2.1 then 1 else o.2.2.1) then 7 else (if 1 > o.2.2.1 then 1 else o.2.2.1))) _ (H.ev rfl) (H.ev rfl) k1 s3 (by simp [Value.cells]) (by simp [Value.cells, Value.oneCell']) fun w' hb ho kq => ?_; clear k1; have k1 : Block _ b1 32 #[.int .i64 o.1, .int .i64 0, .int .i64 (if 7 < (if 1 > o.2.2.1 then 1 else o.2.2.1) then 7 else (if 1 > o.2.2.1 then 1 else o.2.2.1)), .int .i64 0] := kq; replace hS := GrownOf.store hS (hb _ (Nat.le_refl _)) ho; clear hb ho kq; refine hK _ _ ⟨(fun _ => hS), ?_⟩; clear hK; clear K; skip
   refine kQ 1 H rfl fun a H => ?_
   refine pt_one (fun K hK => ?_)
   refine st_a0 rfl ?_; refine wpo_store1 3 (.tmp 27) (.tmp 25) b1 3 32 (.int .i64 (if 16 < (if 1 > o.2.2.2 then 1 else o.2.2.2) then 16 else (if 1 > o.2.2.2 then 1 else o.2.2.2))) _ (H.ev rfl) (H.ev rfl) k1 s3 (by simp [Value.cells]) (by simp [Value.cells, Value.oneCell']) fun w' hb ho kq => ?_; clear k1; have k1 : Block _ b1 32 #[.int .i64 o.1, .int .i64 0, .int .i64 (if 7 < (if 1 > o.2.2.1 then 1 else o.2.2.1) then 7 else (if 1 > o.2.2.1 then 1 else o.2.2.1)), .int .i64 (if 16 < (if 1 > o.2.2.2 then 1 else o.2.2.2) then 16 else (if 1 > o.2.2.2 then 1 else o.2.2.2))] := kq; replace hS := GrownOf.store hS (hb _ (Nat.le_refl _)) ho; clear hb ho kq; refine hK _ _ ⟨(fun _ => hS), ?_⟩; clear hK; clear K; skip
   refine pt_done (NoPanic.normal ?_)
   replace k0 := Block.grown k0 hS (by simp; omega)
   replace hall := grown_down hall hS g1
   clear hS
   refine n_block (zB (zC ?_))
   obtain ⟨x, hx⟩ : ∃ x : Nt, (o.1, 0, (if 7 < (if 1 > o.2.2.1 then 1 else o.2.2.1) then 7 else (if 1 > o.2.2.1 then 1 else o.2.2.1)), (if 16 < (if 1 > o.2.2.2 then 1 else o.2.2.2) then 16 else (if 1 > o.2.2.2 then 1 else o.2.2.2))) = x := ⟨_, rfl⟩
   refine zD ?_
   refine kV (v := .agg (cN x)) H (by rw [← hx]; exact r_row (cs := [.int .i64 o.1, .int .i64 0, .int .i64 (if 7 < (if 1 > o.2.2.1 then 1 else o.2.2.1) then 7 else (if 1 > o.2.2.1 then 1 else o.2.2.1)), .int .i64 (if 16 < (if 1 > o.2.2.2 then 1 else o.2.2.2) then 16 else (if 1 > o.2.2.2 then 1 else o.2.2.2))]) (H.ev rfl) (block_range k1) (by kernel_rfl) s32 rfl) rfl fun a H => ?_
   refine kV H (r_row (cs := [.int .i64 o.1, .int .i64 o.2.1, .int .i64 o.2.2.1, .int .i64 o.2.2.2]) (H.ev rfl) (block_range k0) (by kernel_rfl) s32 rfl) rfl fun a H => ?_
   refine kV (v := .bool (decide (x = o))) H (r_eq32 (H.ev rfl) (H.ev rfl)) rfl fun a H => ?_
   refine kR 1 H rfl fun a H => ?_
   refine zA (zB (zF ?_))
   exact k_ret1 H rfl rfl ⟨by rw [← hx]; exact congrArg (fun q => Ending.returned (.bool q)) (may7 (by omega)), hall⟩
  ·
   refine kV H (r_eq U3 (H.ev rfl) evc (dec_f (hcc1))) rfl fun a H => ?_
   refine kR 1 H rfl fun a H => ?_
   refine zA (zB (zG H rfl (zC (zD ?_))))
   by_cases hcc2 : o.1 = 10
   ·
    refine kV H (r_eq U3 (H.ev rfl) evc (dec_t (hcc2))) rfl fun a H => ?_
    refine kR 1 H rfl fun a H => ?_
    refine zA (zB (zH H rfl (zE (n_block (zB (zC ?_))))))
    obtain ⟨x, hx⟩ : ∃ x : Nt, (o.1, 0, 0, 0) = x := ⟨_, rfl⟩
    refine zD ?_
    refine kV (v := .agg (cN x)) H (by rw [← hx]; exact r_row (cs := [.int .i64 o.1, .int .i64 0, .int .i64 0, .int .i64 0]) (H.ev rfl) (block_range k1) (by kernel_rfl) s32 rfl) rfl fun a H => ?_
    refine kV H (r_row (cs := [.int .i64 o.1, .int .i64 o.2.1, .int .i64 o.2.2.1, .int .i64 o.2.2.2]) (H.ev rfl) (block_range k0) (by kernel_rfl) s32 rfl) rfl fun a H => ?_
    refine kV (v := .bool (decide (x = o))) H (r_eq32 (H.ev rfl) (H.ev rfl)) rfl fun a H => ?_
    refine kR 1 H rfl fun a H => ?_
    refine zA (zB (zF ?_))
    exact k_ret1 H rfl rfl ⟨by rw [← hx]; exact congrArg (fun q => Ending.returned (.bool q)) (may10 (by omega)), hall⟩
   ·
    refine kV H (r_eq U3 (H.ev rfl) evc (dec_f (hcc2))) rfl fun a H => ?_
    refine kR 1 H rfl fun a H => ?_
    refine zA (zB (zG H rfl (zC (zD ?_))))
    refine kR 1 H rfl fun a H => ?_
    refine zA (zB (zF (r_block (zJ ?_))))
    exact k_ret1 H rfl rfl ⟨by rw [decide_eq_false (show ¬ MayP o by unfold MayP; omega)], hall⟩
set_option maxRecDepth 100000 in
set_option maxHeartbeats 4000000 in
theorem order_any [Lim] (w : World) (b : Nat) (m : Option Nat) (c : Cl) (h : ClAt w b m c) (o : Nt) (hX : Lim.lim b ≤ w.heap.size) : Calls Tryz.prog 21 #[.pointer (some ⟨b, 0, none⟩), .agg (cN o)] w fun e w' => e = .returned (.bool (decide (¬ orderNo c o))) ∧ ClAt w' b m (orderF c o) ∧ Only b m w w' := by
 obtain ⟨hc, ⟨vi, vo, k, ⟨hri, hfi⟩, hro, hfo⟩, hmp, hmb⟩ := h
 have hc1 := hc.ck
 have hc2 := hc.key
 have hcn := hc.now
 have hcs := hc.seq
 have hcb := hc.beats
 have hco := hc.nonce
 have hall := Only.refl b m w
 obtain ⟨Ao, co, hvo⟩ := row_shape hro
 subst hvo
 have hco := hro.slice_le
 have hol := hc.os
 refine K_enter 42 Tryz.func21 rfl rfl fun a H => ?_
 replace H := H.pick [0, 1]
 refine zC (zD ?_)
 refine op_box 32 _ #[.int .i64 o.1, .int .i64 o.2.1, .int .i64 o.2.2.1, .int .i64 o.2.2.2] (H.ev rfl) fun w0 b0 hge hb k0 => ?_; have g0 := Nat.le_trans hall.size hge; have db0 : b < b0 := Nat.lt_of_lt_of_le k.lt hge; replace k := Block.ups k hb; replace hri := Row.up hri hb; replace hro := Row.up hro hb; replace hmp := MapAt.ups hmp hb; replace hall := hall.tr hb; clear hb; clear hge; refine kl H rfl fun a H => ?_
 refine kR 1 H rfl fun a H => ?_
 refine zA (zB (zC (zC ?_)))
 by_cases hmy : MayP o
 ·
  refine zD ?_
  refine kR 3 H rfl fun a H => ?_
  refine kV H (r_ld U3 rfl (H.ev rfl) ((show _ = some (Value.int .i64 (c.state)) from cl_state (c := c) hc1 hc2 k))) rfl fun a H => ?_
  by_cases hcc0 : (c.state) = 0
  ·
   refine kV H (r_eq U3 (H.ev rfl) evc (dec_t (hcc0))) rfl fun a H => ?_
   refine kR 13 H rfl fun a H => ?_
   refine zA (zB (zH H rfl (zC (zD ?_))))
   refine kR 1 H rfl fun a H => ?_
   refine zA (zB (zF (zJ ?_)))
   have hno : orderNo c o := by unfold orderNo; first | exact .inl (by omega) | exact .inr (.inl hmy) | exact .inr (.inr (by omega))
   have e : orderF c o = c := if_pos hno
   rw [e]
   exact k_ret1 H rfl rfl ⟨by rw [decide_eq_false (show ¬ ¬ orderNo c o from fun h => h hno)], ⟨hc, ⟨_, _, k, ⟨hri, hfi⟩, hro, hfo⟩, hmp, hmb⟩, hall⟩
  ·
   refine kV H (r_eq U3 (H.ev rfl) evc (dec_f (hcc0))) rfl fun a H => ?_
   refine kR 1 H rfl fun a H => ?_
   refine kW H rfl (r_row (cs := [.int .i64 o.1, .int .i64 o.2.1, .int .i64 o.2.2.1, .int .i64 o.2.2.2]) (H.ev rfl) (block_range k0) (by kernel_rfl) s32 rfl) rfl fun a H => ?_
   refine kG H rfl ?_; refine wl_call _ _ _ (may_any _ o) (r_call1 cf50 (H.ev rfl)) ?_; rintro e w9 ⟨rfl, hb⟩; refine ⟨_, rfl, ?_⟩; rw [decide_eq_true hmy]; replace k := Block.ups k hb; replace hri := Row.up hri hb; replace hro := Row.up hro hb; replace hmp := MapAt.ups hmp hb; replace k0 := Block.ups k0 hb; replace hall := hall.tr hb; clear hb; refine kl H rfl fun a H => ?_
   refine kW H rfl (r_not (H.ev rfl) rfl) rfl fun a H => ?_
   refine kR 5 H rfl fun a H => ?_
   refine kW H rfl (r_ld U73 rfl (H.ev rfl) ((show _ = some (.slice Ao c.os.length co : Value) from cl_os (c := c) hc1 hc2 k))) rfl fun a H => ?_
   refine kW H rfl (r_len U73 (H.ev rfl)) rfl fun a H => ?_
   by_cases hcc1 : ((c.os.length : Nat) : Int) ≥ 8
   ·
    refine kW H rfl (r_ge U3 (H.ev rfl) evc (dec_t (hcc1))) rfl fun a H => ?_
    refine kR 1 H rfl fun a H => ?_
    refine zA (zB (zH H rfl (zC (zD ?_))))
    refine kR 1 H rfl fun a H => ?_
    refine zA (zB (zF (zJ ?_)))
    have hno : orderNo c o := by unfold orderNo; first | exact .inl (by omega) | exact .inr (.inl hmy) | exact .inr (.inr (by omega))
    have e : orderF c o = c := if_pos hno
    rw [e]
    exact k_ret1 H rfl rfl ⟨by rw [decide_eq_false (show ¬ ¬ orderNo c o from fun h => h hno)], ⟨hc, ⟨_, _, k, ⟨hri, hfi⟩, hro, hfo⟩, hmp, hmb⟩, hall⟩
   ·
    refine kW H rfl (r_ge U3 (H.ev rfl) evc (dec_f (hcc1))) rfl fun a H => ?_
    refine kR 1 H rfl fun a H => ?_
    refine zA (zB (zG H rfl (zE (zB (zC (zD ?_))))))
    refine kR 3 H rfl fun a H => ?_
    refine kV H (r_ld U73 rfl (H.ev rfl) ((show _ = some (.slice Ao c.os.length co : Value) from cl_os (c := c) hc1 hc2 k))) rfl fun a H => ?_
    refine kV H (r_len U73 (H.ev rfl)) rfl fun a H => ?_
    refine kR 1 H rfl fun a H => ?_
    refine zA (zB (zC ?_))
    have hall4 := hall
    have hS : BelowOf (OnlyTo hall4) _ := Below.drew (Below.refl _ (OnlyTo hall4))
    refine region_tree (BelowOf (OnlyTo hall4)) 13 (.fl 0 (.fl 1 (.fl 2 (.fl 3 (.fl 4 (.fl 5 (.fl 6 (.fl 7 (.fl 8 (.one 9 (.one 10 (.fl 11 (.fl 12 (.one 13 .done)))))))))))))) (by kernel_rfl) (by kernel_rfl) rfl (by kernel_rfl) hS ?_
    refine kQ 4 H rfl fun a H => ?_
    refine kF H rfl rfl (fun w' hS' => r_ld U73 rfl (H.ev rfl) ((show _ = some (.slice Ao c.os.length co : Value) from cl_os (c := c) hc1 hc2 (Block.ups k hS')))) rfl fun a H => ?_
    refine kQ 2 H rfl fun a H => ?_
    refine kF (v := .slice Ao c.os.length c.os.length) H rfl rfl (fun w' hS' => run_op_slice U73 (.slice Ao c.os.length co) none (some (.int .i64 (c.os.length : Nat))) (some (.int .i64 (c.os.length : Nat))) (H.ev rfl) rfl (congrArg some (H.ev rfl)) (congrArg some (H.ev rfl)) (slice3_os hco)) rfl fun a H => ?_
    refine kF H rfl rfl (fun w' hS' => r_row (cs := [.int .i64 o.1, .int .i64 o.2.1, .int .i64 o.2.2.1, .int .i64 o.2.2.2]) (H.ev rfl) (block_range (Block.ups k0 hS')) (by kernel_rfl) s32 rfl) rfl fun a H => ?_
    refine pt_one (fun K hK => ?_)
    refine st_a0 rfl ?_; refine wpo_litv 73 1 #[(0, .agg #[.int .i64 o.1, .int .i64 o.2.1, .int .i64 o.2.2.1, .int .i64 o.2.2.2])] 32 #[.int .i64 o.1, .int .i64 o.2.1, .int .i64 o.2.2.1, .int .i64 o.2.2.2] (by simp [H.ev (j := 37) rfl]) (fun w => by kernel_rfl) fun wl bl hge hb kl => ?_; replace hS := Below.trans hS (Below.mono hb (Below.size hS)); clear hb hge; refine hK _ _ ⟨(fun _ => hS), ?_⟩; clear hK; clear K; refine kt H rfl fun a H => ?_
    refine pt_one (fun K hK => ?_)
    refine st_a0 rfl ?_; refine wpo_append_grow 73 32 (.tmp 36) (.tmp 38) (.agg #[.int .i64 0, .int .i64 0, .int .i64 0, .int .i64 0]) 4 32 Ao c.os.length c.os.length (FV encN c.os) bl 1 (FV encN [o]) (H.ev rfl) (H.ev rfl) U73 i32o rfl (by omega) (FV_len encN_len _) ((row_holds hro).up hS) (fun e => os_nil hro e) (by rw [FV_len encN_len]; rfl) (holds_block kl rfl) (FV_one _ _) (by omega) (by unfold maxLen; omega) (by omega) fun v2 w9 hown hb => ?_; have hown2 : ROwn encN 32 4 w9 _ v2 (c.os ++ [o]) := app_own hown; clear hown; have hb9 := Nat.le_trans (Nat.le_trans hX (show w.heap.size ≤ (OnlyTo hall4).heap.size from hall4.size)) (Below.size hS); replace hown2 := own_base hown2 hb9; replace hS := Below.trans hS (Below.mono hb (Below.size hS)); clear hb kl; obtain ⟨A2, c2, hv2⟩ := own_shape hown2; subst hv2; refine hK _ _ ⟨(fun _ => hS), ?_⟩; clear hK; clear K; refine kt H rfl fun a H => ?_
    refine kQ 2 H rfl fun a H => ?_
    refine pt_one (fun K hK => ?_)
    replace k := Block.ups k hS
    replace hri := Row.up hri hS
    replace hro := Row.up hro hS
    replace hmp := MapAt.ups hmp hS
    replace k0 := Block.ups k0 hS
    replace hall := hall.trans (Below.mono hS hall.size)
    refine st_a0 rfl ?_; refine wpo_store1 73 (.tmp 41) (.tmp 39) b 45 76 (.slice A2 (c.os ++ [o]).length c2) _ (H.ev rfl) (H.ev rfl) k s73 (by rw [clA_size hc1 hc2]; show 45 + 1 ≤ 48; omega) (by simp [Value.cells, Value.oneCell']) fun w' hb ho kq => ?_; clear k; rw [st_os hc1 hc2] at kq; have k := kq; have hfo2 : Fresh (Lim.lim b) (.slice A2 (c.os ++ [o]).length c2) := own_fresh hown2 (Nat.le_refl _); have hro2 : ORow _ (.slice A2 (c.os ++ [o]).length c2) (c.os ++ [o]) := Row.store (ROwn.row hown2 encN_len (by omega)) (fx hfo2) ho; clear hro hown2; replace hri := Row.store hri (fx hfi) ho; replace hmp := MapAt.store hmp hmb (hb b (Nat.le_refl _)) ho; replace k0 := block_same k0 (ho _ (by omega)); replace hall := hall.store (hb b (Nat.le_refl _)) ho; clear hb ho kq; refine hK _ _ ⟨(fun h => absurd rfl h), ?_⟩; clear hK; clear K; clear hS; skip
    refine pt_done (NoPanic.normal ?_)
    refine zB (zC (zD ?_))
    refine kR 1 H rfl fun a H => ?_
    refine zA (zB (zF ?_))
    have e : orderF c o = { c with os := c.os ++ [o] } := if_neg (fun h => by unfold orderNo at h; rcases h with h | h | h <;> first | omega | exact h hmy)
    have hok := order_ok hc o
    rw [e] at hok ⊢
    exact k_ret1 H rfl rfl ⟨by rw [decide_eq_true (show ¬ orderNo c o from fun h => by unfold orderNo at h; rcases h with h | h | h <;> first | omega | exact h hmy)], ⟨hok, ⟨_, _, k, ⟨hri, hfi⟩, hro2, hfo2⟩, hmp, hmb⟩, hall⟩
 ·
  refine zD ?_
  refine kR 3 H rfl fun a H => ?_
  refine kV H (r_ld U3 rfl (H.ev rfl) ((show _ = some (Value.int .i64 (c.state)) from cl_state (c := c) hc1 hc2 k))) rfl fun a H => ?_
  by_cases hcc2 : (c.state) = 0
  ·
   refine kV H (r_eq U3 (H.ev rfl) evc (dec_t (hcc2))) rfl fun a H => ?_
   refine kR 13 H rfl fun a H => ?_
   refine zA (zB (zH H rfl (zC (zD ?_))))
   refine kR 1 H rfl fun a H => ?_
   refine zA (zB (zF (zJ ?_)))
   have hno : orderNo c o := by unfold orderNo; first | exact .inl (by omega) | exact .inr (.inl hmy) | exact .inr (.inr (by omega))
   have e : orderF c o = c := if_pos hno
   rw [e]
   exact k_ret1 H rfl rfl ⟨by rw [decide_eq_false (show ¬ ¬ orderNo c o from fun h => h hno)], ⟨hc, ⟨_, _, k, ⟨hri, hfi⟩, hro, hfo⟩, hmp, hmb⟩, hall⟩
  ·
   refine kV H (r_eq U3 (H.ev rfl) evc (dec_f (hcc2))) rfl fun a H => ?_
   refine kR 1 H rfl fun a H => ?_
   refine kW H rfl (r_row (cs := [.int .i64 o.1, .int .i64 o.2.1, .int .i64 o.2.2.1, .int .i64 o.2.2.2]) (H.ev rfl) (block_range k0) (by kernel_rfl) s32 rfl) rfl fun a H => ?_
   refine kG H rfl ?_; refine wl_call _ _ _ (may_any _ o) (r_call1 cf50 (H.ev rfl)) ?_; rintro e w9 ⟨rfl, hb⟩; refine ⟨_, rfl, ?_⟩; rw [decide_eq_false hmy]; replace k := Block.ups k hb; replace hri := Row.up hri hb; replace hro := Row.up hro hb; replace hmp := MapAt.ups hmp hb; replace k0 := Block.ups k0 hb; replace hall := hall.tr hb; clear hb; refine kl H rfl fun a H => ?_
   refine kW H rfl (r_not (H.ev rfl) rfl) rfl fun a H => ?_
   refine kR 9 H rfl fun a H => ?_
   refine zA (zB (zH H rfl (zC (zD ?_))))
   refine kR 1 H rfl fun a H => ?_
   refine zA (zB (zF (zJ ?_)))
   have hno : orderNo c o := by unfold orderNo; first | exact .inl (by omega) | exact .inr (.inl hmy) | exact .inr (.inr (by omega))
   have e : orderF c o = c := if_pos hno
   rw [e]
   exact k_ret1 H rfl rfl ⟨by rw [decide_eq_false (show ¬ ¬ orderNo c o from fun h => h hno)], ⟨hc, ⟨_, _, k, ⟨hri, hfi⟩, hro, hfo⟩, hmp, hmb⟩, hall⟩
set_option maxRecDepth 100000 in
set_option maxHeartbeats 4000000 in
theorem new_any (w : World) (u : Int) : Calls Tryz.prog 13 #[.int .i64 (u)] w fun e w' => (∃ b, e = .returned (.pointer (some ⟨b, 0, none⟩)) ∧ w.heap.size ≤ b ∧ ∀ I : Lim, @ClAt I w' b none (clZ (clampU u))) ∧ Below w.heap.size w w' := by
 have hall := Below.refl w.heap.size w
 refine K_enter 8 Tryz.func13 rfl rfl fun a H => ?_
 replace H := H.pick [0]
 refine zC (zD ?_)
 refine kR 1 H rfl fun a H => ?_
 refine zA (zB (zC (zD ?_)))
 refine kR 1 H rfl fun a H => ?_
 refine kV H (r_max (q := (if 1 > (u) then 1 else (u))) (H.ev rfl) evc rfl) rfl fun a H => ?_
 refine kV H (r_min (q := (if 16 < (if 1 > (u) then 1 else (u)) then 16 else (if 1 > (u) then 1 else (u)))) (H.ev rfl) evc rfl) rfl fun a H => ?_
 refine wl_v (.agg (clA (clZ (clampU u)) (.slice none 0 0) (.slice none 0 0) none)) (r_build #[(0, .int .i64 (clampU u))] (.agg (clA (clZ (clampU u)) (.slice none 0 0) (.slice none 0 0) none)) (by simp [H.ev (j := 5) rfl, clampU]) (fun w => by kernel_rfl)) ?_; refine kl H rfl fun a H => ?_
 refine op_box 76 (.tmp 6) (clA (clZ (clampU u)) (.slice none 0 0) (.slice none 0 0) none) (H.ev rfl) fun w0 b0 hge hb k0 => ?_; replace hall := hall.trans hb; clear hb; refine kl H rfl fun a H => ?_
 refine kR 1 H rfl fun a H => ?_
 refine zA (zB (zF ?_))
 exact k_ret1 H rfl rfl ⟨⟨_, rfl, hge, fun I => ⟨clZ_ok (clampU_in u), ⟨_, _, k0, ⟨Row.nil, nil_fresh⟩, Row.nil, nil_fresh⟩, (fun u => rfl), fun q e => by cases e⟩⟩, hall⟩
set_option maxRecDepth 100000 in
set_option maxHeartbeats 4000000 in
theorem crash_any [Lim] (w : World) (b : Nat) (m : Option Nat) (c : Cl) (h : ClAt w b m c) : Calls Tryz.prog 19 #[.pointer (some ⟨b, 0, none⟩)] w fun e w' => e = .returned (.tuple #[]) ∧ ClAt w' b none (crashF c) ∧ Only b m w w' := by
 obtain ⟨hc, ⟨vi, vo, k, ⟨hri, hfi⟩, hro, hfo⟩, hmp, hmb⟩ := h
 have hc1 := hc.ck
 have hc2 := hc.key
 have hcn := hc.now
 have hcs := hc.seq
 have hcb := hc.beats
 have hco := hc.nonce
 have hall := Only.refl b m w
 refine K_enter 13 Tryz.func19 rfl rfl fun a H => ?_
 replace H := H.pick [0]
 refine zC ?_
 obtain ⟨w1, hclr, hg1⟩ := hmp.clear 0
 refine zD ?_
 refine kR 3 H rfl fun a H => ?_
 refine kV H (r_ld U74 rfl (H.ev rfl) ((show _ = some (Value.map m) from cl_views (c := c) hc1 hc2 k))) rfl fun a H => ?_
 refine wl_w (.tuple #[]) w1 (run_b1 (.map m) (H.ev rfl) (fun cs => b_clear hclr cs)) ?_; replace k := Block.grown k hg1 (by cases m with | none => simp | some q => have := hmb q rfl; simp; omega); clear hmp hri hro; replace hall := only_map (b := b) hg1; refine kl0 H fun a H => ?_
 refine zA (zB (zD ?_))
 refine kR 4 H rfl fun a H => ?_
 refine kV H (r_ld U3 rfl (H.ev rfl) ((show _ = some (Value.int .i64 (c.user)) from cl_user (c := c) hc1 hc2 k))) rfl fun a H => ?_
 refine wl_v (.agg (clA (clZ c.user) (.slice none 0 0) (.slice none 0 0) none)) (r_build #[(0, .int .i64 (c.user))] (.agg (clA (clZ c.user) (.slice none 0 0) (.slice none 0 0) none)) (by simp [H.ev (j := 10) rfl]) (fun w => by kernel_rfl)) ?_; refine kl H rfl fun a H => ?_
 refine kR 1 H rfl fun a H => ?_
 refine op_store 76 (.tmp 12) (.tmp 11) b 76 (clA (clZ c.user) (.slice none 0 0) (.slice none 0 0) none) _ (H.ev rfl) (H.ev rfl) k (s76c rfl rfl) (by rw [clA_size hc1 hc2, clA_size (c := clZ c.user) rfl rfl]) (clA_one rfl rfl) fun w' hb ho kq => ?_; clear k; have k := kq; replace hall := hall.store (hb b (Nat.le_refl _)) ho; clear hb ho kq; refine kl0 H fun a H => ?_
 refine zA ?_
 exact k_end0 H rfl ⟨rfl, ⟨crash_ok hc, ⟨_, _, k, ⟨Row.nil, nil_fresh⟩, Row.nil, nil_fresh⟩, (fun u => rfl), fun q e => by cases e⟩, hall⟩
set_option maxRecDepth 100000 in
set_option maxHeartbeats 4000000 in
theorem startc_any [Lim] (w : World) (b : Nat) (m : Option Nat) (c : Cl) (h : ClAt w b m c) (n : Int) : Calls Tryz.prog 17 #[.pointer (some ⟨b, 0, none⟩), .int .i64 (n)] w fun e w' => e = .returned (.bool (startB n)) ∧ (∃ m', ClAt w' b m' (startF c n) ∧ MNext w m m') ∧ Only b m w w' := by
 obtain ⟨hc, ⟨vi, vo, k, ⟨hri, hfi⟩, hro, hfo⟩, hmp, hmb⟩ := h
 have hc1 := hc.ck
 have hc2 := hc.key
 have hcn := hc.now
 have hcs := hc.seq
 have hcb := hc.beats
 have hco := hc.nonce
 have hall := Only.refl b m w
 refine K_enter 20 Tryz.func17 rfl rfl fun a H => ?_
 replace H := H.pick [0, 1]
 refine zC (zD ?_)
 refine kR 1 H rfl fun a H => ?_
 refine zA (zB (zC (zC (zD ?_))))
 refine kR 1 H rfl fun a H => ?_
 by_cases hcc0 : (n) < 0
 ·
  refine kV H (r_lt U3 (H.ev rfl) evc (dec_t (hcc0))) rfl fun a H => ?_
  refine kR 4 H rfl fun a H => ?_
  refine zA (zB (zH H rfl (zC (zD ?_))))
  refine kR 1 H rfl fun a H => ?_
  refine zA (zB (zF (zJ ?_)))
  rw [show startF c n = c from if_pos (by omega), show startB n = false from decide_eq_false (by omega)]
  exact k_ret1 H rfl rfl ⟨rfl, ⟨m, ⟨hc, ⟨_, _, k, ⟨hri, hfi⟩, hro, hfo⟩, hmp, hmb⟩, .inl rfl⟩, hall⟩
 ·
  refine kV H (r_lt U3 (H.ev rfl) evc (dec_f (hcc0))) rfl fun a H => ?_
  refine kR 2 H rfl fun a H => ?_
  by_cases hcc1 : (n) > 1073741824
  ·
   refine kW H rfl (r_gt U3 (H.ev rfl) evc (dec_t (hcc1))) rfl fun a H => ?_
   refine kR 1 H rfl fun a H => ?_
   refine zA (zB (zH H rfl (zC (zD ?_))))
   refine kR 1 H rfl fun a H => ?_
   refine zA (zB (zF (zJ ?_)))
   rw [show startF c n = c from if_pos (by omega), show startB n = false from decide_eq_false (by omega)]
   exact k_ret1 H rfl rfl ⟨rfl, ⟨m, ⟨hc, ⟨_, _, k, ⟨hri, hfi⟩, hro, hfo⟩, hmp, hmb⟩, .inl rfl⟩, hall⟩
  ·
   refine kW H rfl (r_gt U3 (H.ev rfl) evc (dec_f (hcc1))) rfl fun a H => ?_
   refine kR 1 H rfl fun a H => ?_
   refine zA (zB (zG H rfl (zE (zB (zC (zD ?_))))))
   refine kR 1 H rfl fun a H => ?_
   refine wl_call _ _ _ (crash_any _ b m c ⟨hc, ⟨_, _, k, ⟨hri, hfi⟩, hro, hfo⟩, hmp, hmb⟩) (r_call1 cf19 (H.ev rfl)) ?_; rintro e w9 ⟨rfl, hcl, hon⟩; refine ⟨_, rfl, ?_⟩; clear k hri hfi hro hfo hmp hmb; replace hall := hon; clear hon; obtain ⟨hc', ⟨vi', vo', k, ⟨hri, hfi⟩, hro, hfo⟩, hmp, hmb⟩ := hcl; have hc1' := hc'.ck; have hc2' := hc'.key; clear hc1 hc2; have hc1 := hc1'; have hc2 := hc2'; clear hc1' hc2'; refine kl H rfl fun a H => ?_
   refine zA (zB (zC (zD ?_)))
   refine kR 5 H rfl fun a H => ?_
   refine op_store1 3 (.tmp 17) (.tmp 15) b 3 76 (.int .i64 (n)) _ (H.ev rfl) (H.ev rfl) k s3 (by rw [clA_size (c := (crashF c)) hc1 hc2]; show 3 + 1 ≤ 48; omega) (by simp [Value.cells, Value.oneCell']) fun w' hb ho kq => ?_; clear k; rw [st_nonce (c := (crashF c)) hc1 hc2] at kq; have k : Block _ b 76 (clA { (crashF c) with nonce := (n) } (vi') (vo') none) := kq; replace hri := Row.store hri (fx hfi) ho; replace hro := Row.store hro (fx hfo) ho; replace hmp := MapAt.store hmp hmb (hb b (Nat.le_refl _)) ho; replace hall := hall.store (hb b (Nat.le_refl _)) ho; clear hb ho kq; refine kl0 H fun a H => ?_
   refine kR 2 H rfl fun a H => ?_
   refine op_store1 3 (.tmp 19) (.const (.int .i64 1)) b 1 76 (.int .i64 1) _ (H.ev rfl) evc k s3 (by rw [clA_size (c := { (crashF c) with nonce := (n) }) hc1 hc2]; show 1 + 1 ≤ 48; omega) (by simp [Value.cells, Value.oneCell']) fun w' hb ho kq => ?_; clear k; rw [st_state (c := { (crashF c) with nonce := (n) }) hc1 hc2] at kq; have k : Block _ b 76 (clA { (crashF c) with nonce := (n), state := 1 } (vi') (vo') none) := kq; replace hri := Row.store hri (fx hfi) ho; replace hro := Row.store hro (fx hfo) ho; replace hmp := MapAt.store hmp hmb (hb b (Nat.le_refl _)) ho; replace hall := hall.store (hb b (Nat.le_refl _)) ho; clear hb ho kq; refine kl0 H fun a H => ?_
   refine zA (zB (zC (zD ?_)))
   refine kR 1 H rfl fun a H => ?_
   refine zA (zB (zF ?_))
   have e : startF c n = { clZ c.user with nonce := n, state := 1 } := if_neg (by omega)
   have hok := start_ok hc n
   rw [e] at hok ⊢
   rw [show startB n = true from decide_eq_true (by omega)]
   exact k_ret1 H rfl rfl ⟨rfl, ⟨none, ⟨hok, ⟨_, _, k, ⟨hri, hfi⟩, hro, hfo⟩, hmp, hmb⟩, .inr (.inl rfl)⟩, hall⟩
theorem state_any [Lim] (w : World) (b : Nat) (m : Option Nat) (c : Cl) (h : ClAt w b m c) : Calls Tryz.prog 27 #[.pointer (some ⟨b, 0, none⟩)] w fun e w' => e = .returned (.int .i64 (c.state)) ∧ Below w.heap.size w w' := by
 obtain ⟨hc, ⟨vi, vo, k, ⟨hri, hfi⟩, hro, hfo⟩, hmp, hmb⟩ := h
 have hc1 := hc.ck
 have hc2 := hc.key
 have hcn := hc.now
 have hcs := hc.seq
 have hcb := hc.beats
 have hco := hc.nonce
 have hall := Only.refl b m w
 clear hall
 have hall := Below.refl w.heap.size w
 refine K_enter 7 Tryz.func27 rfl rfl fun a H => ?_
 replace H := H.pick [0]
 refine zC (zD ?_)
 refine kR 1 H rfl fun a H => ?_
 refine zA (zB (zC (zD ?_)))
 refine kR 3 H rfl fun a H => ?_
 refine kV H (r_ld U3 rfl (H.ev rfl) ((show _ = some (Value.int .i64 (c.state)) from cl_state (c := c) hc1 hc2 k))) rfl fun a H => ?_
 refine kR 1 H rfl fun a H => ?_
 refine zA (zB (zF ?_))
 exact k_ret1 H rfl rfl ⟨rfl, hall⟩
theorem session_any [Lim] (w : World) (b : Nat) (m : Option Nat) (c : Cl) (h : ClAt w b m c) : Calls Tryz.prog 29 #[.pointer (some ⟨b, 0, none⟩)] w fun e w' => e = .returned (.int .i64 (sessF c)) ∧ Below w.heap.size w w' := by
 obtain ⟨hc, ⟨vi, vo, k, ⟨hri, hfi⟩, hro, hfo⟩, hmp, hmb⟩ := h
 have hc1 := hc.ck
 have hc2 := hc.key
 have hcn := hc.now
 have hcs := hc.seq
 have hcb := hc.beats
 have hco := hc.nonce
 have hall := Only.refl b m w
 clear hall
 have hall := Below.refl w.heap.size w
 refine K_enter 13 Tryz.func29 rfl rfl fun a H => ?_
 replace H := H.pick [0]
 refine zC (zD ?_)
 refine kR 1 H rfl fun a H => ?_
 refine zA (zB (zC (zC (zD ?_))))
 refine kR 3 H rfl fun a H => ?_
 refine kV H (r_ld U3 rfl (H.ev rfl) ((show _ = some (Value.int .i64 (c.state)) from cl_state (c := c) hc1 hc2 k))) rfl fun a H => ?_
 by_cases hcc0 : (c.state) ≠ 3
 ·
  refine kV H (r_ne U3 (H.ev rfl) evc (dec_t (hcc0))) rfl fun a H => ?_
  refine zA (zB (zH H rfl (zC (zD ?_))))
  refine kR 1 H rfl fun a H => ?_
  refine zA (zB (zF (zJ ?_)))
  exact k_ret1 H rfl rfl ⟨by rw [sessF, if_neg (by omega)], hall⟩
 ·
  refine kV H (r_ne U3 (H.ev rfl) evc (dec_f (hcc0))) rfl fun a H => ?_
  refine zA (zB (zG H rfl (zE (zB (zC (zD ?_))))))
  refine kR 3 H rfl fun a H => ?_
  refine kV H (r_fld (q := 22) fld72_0 (H.ev rfl) rfl) rfl fun a H => ?_
  refine kV H (r_ld U3 rfl (H.ev rfl) ((show _ = some (Value.int .i64 (c.id)) from cl_id (c := c) hc1 hc2 k))) rfl fun a H => ?_
  refine kR 1 H rfl fun a H => ?_
  refine zA (zB (zF ?_))
  exact k_ret1 H rfl rfl ⟨by rw [sessF, if_pos (by omega)], hall⟩
theorem waits_any [Lim] (w : World) (b : Nat) (m : Option Nat) (c : Cl) (h : ClAt w b m c) : Calls Tryz.prog 31 #[.pointer (some ⟨b, 0, none⟩)] w fun e w' => e = .returned (.int .i64 (((c.os.length : Nat) : Int))) ∧ Below w.heap.size w w' := by
 obtain ⟨hc, ⟨vi, vo, k, ⟨hri, hfi⟩, hro, hfo⟩, hmp, hmb⟩ := h
 have hc1 := hc.ck
 have hc2 := hc.key
 have hcn := hc.now
 have hcs := hc.seq
 have hcb := hc.beats
 have hco := hc.nonce
 have hall := Only.refl b m w
 obtain ⟨Ao, co, hvo⟩ := row_shape hro
 subst hvo
 clear hall
 have hall := Below.refl w.heap.size w
 refine K_enter 8 Tryz.func31 rfl rfl fun a H => ?_
 replace H := H.pick [0]
 refine zC (zD ?_)
 refine kR 1 H rfl fun a H => ?_
 refine zA (zB (zC (zD ?_)))
 refine kR 3 H rfl fun a H => ?_
 refine kV H (r_ld U73 rfl (H.ev rfl) ((show _ = some (.slice Ao c.os.length co : Value) from cl_os (c := c) hc1 hc2 k))) rfl fun a H => ?_
 refine kV H (r_len U73 (H.ev rfl)) rfl fun a H => ?_
 refine kR 1 H rfl fun a H => ?_
 refine zA (zB (zF ?_))
 exact k_ret1 H rfl rfl ⟨rfl, hall⟩
theorem last_any [Lim] (w : World) (b : Nat) (m : Option Nat) (c : Cl) (h : ClAt w b m c) : Calls Tryz.prog 33 #[.pointer (some ⟨b, 0, none⟩)] w fun e w' => e = .returned (.int .i64 (c.code)) ∧ Below w.heap.size w w' := by
 obtain ⟨hc, ⟨vi, vo, k, ⟨hri, hfi⟩, hro, hfo⟩, hmp, hmb⟩ := h
 have hc1 := hc.ck
 have hc2 := hc.key
 have hcn := hc.now
 have hcs := hc.seq
 have hcb := hc.beats
 have hco := hc.nonce
 have hall := Only.refl b m w
 clear hall
 have hall := Below.refl w.heap.size w
 refine K_enter 7 Tryz.func33 rfl rfl fun a H => ?_
 replace H := H.pick [0]
 refine zC (zD ?_)
 refine kR 1 H rfl fun a H => ?_
 refine zA (zB (zC (zD ?_)))
 refine kR 3 H rfl fun a H => ?_
 refine kV H (r_ld U46 rfl (H.ev rfl) ((show _ = some (Value.int .i64 (c.code)) from cl_code (c := c) hc1 hc2 k))) rfl fun a H => ?_
 refine kR 1 H rfl fun a H => ?_
 refine zA (zB (zF ?_))
 exact k_ret1 H rfl rfl ⟨rfl, hall⟩
set_option maxRecDepth 100000 in
set_option maxHeartbeats 4000000 in
theorem view_any [Lim] (w : World) (b : Nat) (m : Option Nat) (c : Cl) (h : ClAt w b m c) (u : Int) (hwf : (Lit.int .i64 u).wf = true) : Calls Tryz.prog 35 #[.pointer (some ⟨b, 0, none⟩), .int .i64 (u)] w fun e w' => e = .returned (.tuple #[.agg (cN ((c.vw u).getD note0)), .bool (c.vw u).isSome]) ∧ Below w.heap.size w w' := by
 obtain ⟨hc, ⟨vi, vo, k, ⟨hri, hfi⟩, hro, hfo⟩, hmp, hmb⟩ := h
 have hc1 := hc.ck
 have hc2 := hc.key
 have hcn := hc.now
 have hcs := hc.seq
 have hcb := hc.beats
 have hco := hc.nonce
 have hall := Only.refl b m w
 clear hall
 have hall := Below.refl w.heap.size w
 refine K_enter 19 Tryz.func35 rfl rfl fun a H => ?_
 replace H := H.pick [0, 1]
 refine zC (zD ?_)
 refine op_alloc 49 (cN note0) z49 fun w0 b0 hge hb k0 => ?_; have g0 := Nat.le_trans hall.size hge; have db0 : b < b0 := Nat.lt_of_lt_of_le k.lt hge; replace k := Block.ups k hb; replace hmp := MapAt.ups hmp hb; replace hall := hall.tr hb; clear hb hge; refine kl H rfl fun a H => ?_
 refine kR 1 H rfl fun a H => ?_
 refine zA (zB (zC (zD ?_)))
 refine kR 3 H rfl fun a H => ?_
 refine kV H (r_ld U74 rfl (H.ev rfl) ((show _ = some (Value.map m) from cl_views (c := c) hc1 hc2 k))) rfl fun a H => ?_
 refine kR 1 H rfl fun a H => ?_
 refine kV H (r_look (vw := c.vw) (u := (u)) hmp hwf (H.ev rfl) (H.ev rfl)) rfl fun a H => ?_
 refine kR 3 H rfl fun a H => ?_
 refine op_alloc 49 (cN note0) z49 fun w1 b1 hge hb k1 => ?_; have g1 := Nat.le_trans hall.size hge; have d0_1 : b0 < b1 := Nat.lt_of_lt_of_le k0.lt hge; replace k := Block.ups k hb; replace k0 := Block.ups k0 hb; replace hall := hall.tr hb; clear hb hge; refine kl H rfl fun a H => ?_
 refine op_store 49 (.tmp 6) (.tmp 15) b1 49 (cN ((c.vw u).getD note0)) _ (H.ev rfl) (H.ev rfl) k1 s49 rfl (by simp [Value.oneCell']) fun w' hb ho kq => ?_; clear k1; have k1 := kq; replace k0 := block_same k0 (ho _ (by omega)); replace hall := hall.trans (hb _ g1); clear hb ho kq; refine kl0 H fun a H => ?_
 refine kR 1 H rfl fun a H => ?_
 refine zA (zB (zC (zD ?_)))
 refine kV (v := .agg (cN ((c.vw u).getD note0))) H (run_load_row b1 49 _ _ (H.ev rfl) k1 U49 rfl s49) rfl fun a H => ?_
 refine kR 1 H rfl fun a H => ?_
 refine op_store 49 (.tmp 4) (.tmp 17) b0 49 (cN ((c.vw u).getD note0)) _ (H.ev rfl) (H.ev rfl) k0 s49 rfl (by simp [Value.oneCell']) fun w' hb ho kq => ?_; clear k0; have k0 := kq; replace hall := hall.trans (hb _ g0); clear hb ho kq; refine kl0 H fun a H => ?_
 refine kR 1 H rfl fun a H => ?_
 refine zA (zB (zF ?_))
 exact k_ret_cell2 H rfl rfl rfl k0 U49 rfl s49 ⟨rfl, hall⟩
end Go.Proofs.YtbnmpoonkjlkjaaGreat
