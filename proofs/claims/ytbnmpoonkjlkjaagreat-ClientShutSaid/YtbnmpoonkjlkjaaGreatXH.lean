/- Client: part H of the proof. -/
import Derived.Test.YtbnmpoonkjlkjaaGreatXG
import Derived.WalkSpells
namespace Go.Proofs.YtbnmpoonkjlkjaaGreat
open Go.RowKit
set_option linter.unusedVariables false
set_option linter.unusedSimpArgs false
/-- notes: user, version, status, count; items: their number, their note -/
abbrev Nt := Int × Int × Int × Int
abbrev It := Int × Nt
abbrev encN (x : Nt) : List Int := [x.1, x.2.1, x.2.2.1, x.2.2.2]
abbrev encI (x : It) : List Int := [x.1, x.2.1, x.2.2.1, x.2.2.2.1, x.2.2.2.2]
theorem encN_len (x : Nt) : (encN x).length = 4 := rfl
theorem encI_len (x : It) : (encI x).length = 5 := rfl
abbrev IRow (w : World) (v : Value) (L : List It) : Prop := Row encI w v L
abbrev NRow (w : World) (v : Value) (L : List Nt) : Prop := Row encN w v L
abbrev IOwn (w : World) (base : Nat) (v : Value) (L : List It) : Prop := ROwn encI 65 5 w base v L
abbrev NOwn (w : World) (base : Nat) (v : Value) (L : List Nt) : Prop := ROwn encN 49 4 w base v L
theorem IOwn.row {w : World} {base : Nat} {v : Value} {L : List It} (h : IOwn w base v L) : IRow w v L := ROwn.row h encI_len (by omega)
theorem NOwn.row {w : World} {base : Nat} {v : Value} {L : List Nt} (h : NOwn w base v L) : NRow w v L := ROwn.row h encN_len (by omega)
abbrev cN (x : Nt) : Array Value := #[.int .i64 x.1, .int .i64 x.2.1, .int .i64 x.2.2.1, .int .i64 x.2.2.2]
theorem s63 : (Tryz.prog.info? 63).map (·.size) = some 1 := by kernel_rfl
theorem s70 : (Tryz.prog.info? 70).map (·.size) = some 2 := by kernel_rfl
theorem s49 : (Tryz.prog.info? 49).map (·.size) = some 4 := by kernel_rfl
theorem s65 : (Tryz.prog.info? 65).map (·.size) = some 5 := by kernel_rfl
theorem z70 : (Tryz.prog.info? 70).map (·.zero) = some (some (.agg #[.int .i64 0, .slice none 0 0])) := by kernel_rfl
theorem z49 : (Tryz.prog.info? 49).map (·.zero) = some (some (.agg #[.int .i64 0, .int .i64 0, .int .i64 0, .int .i64 0])) := by kernel_rfl
theorem z65 : (Tryz.prog.info? 65).map (·.zero) = some (some (.agg #[.int .i64 0, .int .i64 0, .int .i64 0, .int .i64 0, .int .i64 0])) := by kernel_rfl
theorem i65 : (Tryz.prog.info? 65).map (fun i => (i.zero, i.size, i.bytes)) = some (some (.agg #[.int .i64 0, .int .i64 0, .int .i64 0, .int .i64 0, .int .i64 0]), 5, 40) := by kernel_rfl
theorem i49 : (Tryz.prog.info? 49).map (fun i => (i.zero, i.size, i.bytes)) = some (some (.agg #[.int .i64 0, .int .i64 0, .int .i64 0, .int .i64 0]), 4, 32) := by kernel_rfl
theorem fld70_0 : fldAt Tryz.prog 70 0 0 := fun b o w => by go_simp
theorem fld70_1 : fldAt Tryz.prog 70 1 1 := fun b o w => by go_simp
theorem fld65_0 : fldAt Tryz.prog 65 0 0 := fun b o w => by go_simp
theorem fld65_1 : fldAt Tryz.prog 65 1 1 := fun b o w => by go_simp
theorem fld49_0 : fldAt Tryz.prog 49 0 0 := fun b o w => by go_simp
theorem fld49_1 : fldAt Tryz.prog 49 1 1 := fun b o w => by go_simp
theorem q_r_eqnil {P : Program} {a : Act} {w : World} {d : Option Tmp} {tt : TypeId} {ps : String} {af : Array Edge} {gd : Option (Nat × Bool)} {t e t2 : TypeId} {x : Operand} {A : Option Addr} {n c : Nat} (ht : P.underlying t = some (.slice e)) (hx : a.eval x = .slice A n c) {b : Bool} (hb : A.isNone = b) :
  (execOp a.eval ⟨d, .binOp .eql t x (.const (.slice none 0 0)) t2, tt, ps, af, gd⟩).run P w = .ok (.value (.bool b)) w := by
 subst hb
 have h := Lib.run_eql_slice_nil (P := P) w t e A n c 0 0 ht
 unfold execOp
 simp only [hx]
 go_simp
theorem q_clone_any (w : World) (v : Value) (L : List It) (h : IRow w v L) (hn : L.length ≤ 100000) :
  Calls Tryz.prog 114 #[v] w fun e w' => (∃ v', e = .returned v' ∧ IOwn w' w.heap.size v' L) ∧ Below w.heap.size w w' := by
 obtain ⟨A, c, rfl, hc, hm, hA, hh⟩ := h
 cases A with
 | none =>
  obtain rfl := hA rfl
  obtain rfl : L = [] := List.eq_nil_of_length_eq_zero (by omega)
  refine K_enter 8 Tryz.func114 rfl rfl fun a H => ?_
  replace H := H.pick [0]
  refine zC (zD ?_)
  refine kR 1 H rfl fun a H => ?_
  refine zA (zB (zC (zC (zD ?_))))
  refine kR 1 H rfl fun a H => ?_
  refine kV (v := .bool true) H (q_r_eqnil U63 (H.ev rfl) rfl) rfl fun a H => ?_
  refine zA (zB (zH H rfl (zC (zD ?_))))
  refine kR 1 H rfl fun a H => ?_
  refine zA (zB (zF (zJ ?_)))
  exact k_ret1 H rfl rfl ⟨⟨_, rfl, ROwn.nil⟩, Below.refl _ _⟩
 | some ad =>
  refine K_enter 8 Tryz.func114 rfl rfl fun a H => ?_
  replace H := H.pick [0]
  refine zC (zD ?_)
  refine kR 1 H rfl fun a H => ?_
  refine zA (zB (zC (zC (zD ?_))))
  refine kR 1 H rfl fun a H => ?_
  refine kV (v := .bool false) H (q_r_eqnil U63 (H.ev rfl) rfl) rfl fun a H => ?_
  refine zA (zB (zG H rfl (zE (zB (zC (zD ?_))))))
  refine op_litv 63 0 #[] 65 #[] (by simp) (fun w => by kernel_rfl) fun w1 bl hge hb kk => ?_; have hn0 := own_empty (size := 5) kk hge; clear hge kk; refine kl H rfl fun a H => ?_
  refine kR 1 H rfl fun a H => ?_
  refine op_append 63 65 (.tmp 5) (.tmp 6) _ (.agg #[.int .i64 0, .int .i64 0, .int .i64 0, .int .i64 0, .int .i64 0]) 5 40 _ 0 [] (some ad) L.length c (FV encI L) (H.ev rfl) (H.ev rfl) U63 i65 rfl (by omega) hn0 (by rw [FV_len encI_len]) (hh.up hb) (FV_one _ _) (by unfold maxLen; omega) (by omega) hb.size fun v9 w9 hown2 _ _ hb2 => ?_; have hown : IOwn _ _ v9 L := own_cast encI_len (by omega) hown2 rfl; have hb := hb.trans hb2; clear hb2 hown2 hn0; refine kl H rfl fun a H => ?_
  refine kR 1 H rfl fun a H => ?_
  refine zA (zB (zF ?_))
  exact k_ret1 H rfl rfl ⟨⟨_, rfl, hown⟩, hb⟩
theorem c22_any (bc : Nat) (x y : It) (w : World) (hc : w.rangeAt bc 0 (IV (encI x))) :
  Calls Tryz.prog 115 #[.agg #[.int .i64 y.1, .int .i64 y.2.1, .int .i64 y.2.2.1, .int .i64 y.2.2.2.1, .int .i64 y.2.2.2.2], .pointer (some ⟨bc, 0, none⟩)] w fun e w' => e = .returned (.bool (decide (y.1 = x.1))) ∧ Below w.heap.size w w' := by
 have hall := Below.refl w.heap.size w
 refine K_enter 9 Tryz.func115 rfl rfl fun a H => ?_
 replace H := H.pick [0, 1]
 refine zC (zD ?_)
 refine op_box 65 _ #[.int .i64 y.1, .int .i64 y.2.1, .int .i64 y.2.2.1, .int .i64 y.2.2.2.1, .int .i64 y.2.2.2.2] (H.ev rfl) fun w0 b0 hge hb k0 => ?_; have g0 := Nat.le_trans hall.size hge; replace hc := range_ups hc hb; replace hall := hall.tr hb; clear hb; clear hge; refine kl H rfl fun a H => ?_
 refine kR 1 H rfl fun a H => ?_
 refine zA (zB (zC (zD ?_)))
 refine kR 1 H rfl fun a H => ?_
 refine kV H (r_ld U3 rfl (H.ev rfl) ((Block.cell k0 0).trans rfl)) rfl fun a H => ?_
 refine kR 1 H rfl fun a H => ?_
 refine kV H (r_ld U3 rfl (H.ev rfl) (range_cell hc 0 rfl)) rfl fun a H => ?_
 by_cases hcc0 : y.1 = x.1
 ·
  refine kV H (r_eq U3 (H.ev rfl) (H.ev rfl) (dec_t (hcc0))) rfl fun a H => ?_
  refine kR 1 H rfl fun a H => ?_
  refine zA (zB (zF ?_))
  exact k_ret1 H rfl rfl ⟨by rw [show decide (y.1 = x.1) = true from dec_t (by omega)], hall⟩
 ·
  refine kV H (r_eq U3 (H.ev rfl) (H.ev rfl) (dec_f (hcc0))) rfl fun a H => ?_
  refine kR 1 H rfl fun a H => ?_
  refine zA (zB (zF ?_))
  exact k_ret1 H rfl rfl ⟨by rw [show decide (y.1 = x.1) = false from dec_f (by omega)], hall⟩
theorem cmp_any (x y : It) (w : World) (hx : 0 ≤ x.1 ∧ x.1 ≤ 2147483648) (hy : 0 ≤ y.1 ∧ y.1 ≤ 2147483648) :
  Calls Tryz.prog 119 #[.agg #[.int .i64 x.1, .int .i64 x.2.1, .int .i64 x.2.2.1, .int .i64 x.2.2.2.1, .int .i64 x.2.2.2.2], .agg #[.int .i64 y.1, .int .i64 y.2.1, .int .i64 y.2.2.1, .int .i64 y.2.2.2.1, .int .i64 y.2.2.2.2]] w fun e w' => e = .returned (.int .i64 (x.1 - y.1)) ∧ Below w.heap.size w w' := by
 have hall := Below.refl w.heap.size w
 refine K_enter 10 Tryz.func119 rfl rfl fun a H => ?_
 replace H := H.pick [0, 1]
 refine zC (zD ?_)
 refine op_box 65 _ #[.int .i64 x.1, .int .i64 x.2.1, .int .i64 x.2.2.1, .int .i64 x.2.2.2.1, .int .i64 x.2.2.2.2] (H.ev rfl) fun w0 b0 hge hb k0 => ?_; have g0 := Nat.le_trans hall.size hge; replace hall := hall.tr hb; clear hb; clear hge; refine kl H rfl fun a H => ?_
 refine op_box 65 _ #[.int .i64 y.1, .int .i64 y.2.1, .int .i64 y.2.2.1, .int .i64 y.2.2.2.1, .int .i64 y.2.2.2.2] (H.ev rfl) fun w1 b1 hge hb k1 => ?_; have g1 := Nat.le_trans hall.size hge; replace k0 := Block.ups k0 hb; replace hall := hall.tr hb; clear hb; clear hge; refine kl H rfl fun a H => ?_
 refine kR 1 H rfl fun a H => ?_
 refine zA (zB (zC (zD ?_)))
 refine kR 1 H rfl fun a H => ?_
 refine kV H (r_ld U3 rfl (H.ev rfl) ((Block.cell k0 0).trans rfl)) rfl fun a H => ?_
 refine kR 1 H rfl fun a H => ?_
 refine kV H (r_ld U3 rfl (H.ev rfl) ((Block.cell k1 0).trans rfl)) rfl fun a H => ?_
 refine kV H (r_sub (q := x.1 - y.1) U3 (H.ev rfl) (H.ev rfl) (by omega) (by omega)) rfl fun a H => ?_
 refine kR 1 H rfl fun a H => ?_
 refine zA (zB (zF ?_))
 exact k_ret1 H rfl rfl ⟨rfl, hall⟩
/-- is there an item of the number q? -/
def hasQ (L : List It) (q : Int) : Bool := L.any fun y => decide (y.1 = q)
def NoSeq (L : List It) (q : Int) (k : Nat) : Prop := ∀ j : Nat, j < k → ∀ y, L[j]? = some y → ¬ y.1 = q
theorem noseq_next {L : List It} {q : Int} {k : Nat} {y : It} (h : NoSeq L q k) (hy : L[k]? = some y) (hn : ¬ y.1 = q) : NoSeq L q (k + 1) := by
 intro j hj u hu
 by_cases e : j = k
 ·
  subst e
  rw [hy] at hu
  injection hu with hu
  rw [← hu]; exact hn
 · exact h j (by omega) u hu
theorem hasq_here {L : List It} {q : Int} {k : Nat} {y : It} (hy : L[k]? = some y) (he : y.1 = q) : (0 ≤ (k : Int)) = (hasQ L q = true) := by
 have : hasQ L q = true := by
  unfold hasQ
  rw [List.any_eq_true]
  exact ⟨y, List.mem_of_getElem? hy, by simp [he]⟩
 rw [this]
 simp
theorem hasq_none {L : List It} {q : Int} (h : NoSeq L q L.length) : (0 ≤ (-1 : Int)) = (hasQ L q = true) := by
 have : hasQ L q = false := by
  unfold hasQ
  rw [List.any_eq_false]
  intro y hy
  obtain ⟨j, hj, rfl⟩ := List.mem_iff_getElem.1 hy
  simpa using h j hj _ (List.getElem?_eq_getElem hj)
 rw [this]
 simp
def IxI (W : World) (A : Option Addr) (c : Nat) (L : List It) (x : It) (bc : Nat) (a : Act) (w : World) : Prop :=
 ∃ k : Nat, Kn a 19 [(0, .slice A L.length c), (1, .func (.func 115) #[] #[.pointer (some ⟨bc, 0, none⟩)]), (6, .slice A L.length c), (7, .int .i64 (L.length : Nat)), (8, .int .i64 (k : Nat))] ∧ k ≤ L.length ∧ NoSeq L x.1 k ∧ w.rangeAt bc 0 (IV (encI x)) ∧ Below W.heap.size W w
theorem index_any (w : World) (v : Value) (L : List It) (x : It) (bc : Nat) (h : IRow w v L) (hn : L.length ≤ 9223372036854775807) (hc : w.rangeAt bc 0 (IV (encI x))) :
  Calls Tryz.prog 127 #[v, .func (.func 115) #[] #[.pointer (some ⟨bc, 0, none⟩)]] w fun e w' => (∃ k : Int, e = .returned (.int .i64 k) ∧ (0 ≤ k) = (hasQ L x.1 = true)) ∧ Below w.heap.size w w' := by
 obtain ⟨A, c, rfl, h1, h2, h3, hh⟩ := h
 replace hh := Lib.hid hh
 have hall := Below.refl w.heap.size w
 refine K_enter 19 Tryz.func127 rfl rfl fun a H => ?_
 replace H := H.pick [0, 1]
 refine zC (zD ?_)
 refine kR 1 H rfl fun a H => ?_
 refine zA (zB (zC (zC (zD ?_))))
 refine kR 1 H rfl fun a H => ?_
 refine kV H (r_len U63 (H.ev rfl)) rfl fun a H => ?_
 refine kR 1 H rfl fun a H => ?_
 refine zA (zB ?_)
 refine wp_block ?_
 refine wp_loop (IxI w A c L x bc) (fun a _ => L.length - (intOf (a.eval (.tmp 8))).toNat) ⟨0, H.pick [0, 1, 6, 7, 8], by omega, fun j hj => by omega, hc, hall⟩ ?_
 clear H hall hc
 rintro a w' ⟨k, H, hk, hno, hc, hall⟩
 have H0 := H
 by_cases hlt : k < L.length
 ·
  obtain ⟨b, o, hA, hr⟩ := flat_some encI_len hh.out (by omega) hlt
  subst hA
  have hy : L[k]? = some L[k] := List.getElem?_eq_getElem hlt
  have HY := Lib.hid hy
  have HRG := Lib.hid hr
  generalize L[k] = y at *
  clear hy hr
  by_cases he : y.1 = x.1
  ·
   refine zC (zD ?_)
   refine kV H (r_lt U3 (H.ev rfl) (H.ev rfl) (dec_t (by omega))) rfl fun a H => ?_
   refine zA (zB (zC (zH H rfl (zE (zB (zC ?_))))))
   refine wp_block ?_
   refine zC (zD ?_)
   refine kR 2 H rfl fun a H => ?_
   refine zA (zB (zC (zD ?_)))
   refine kR 3 H rfl fun a H => ?_
   refine kV H (r_idx (j := k) (q := o + k * 5) U63 s65 (H.ev rfl) (H.ev rfl) (by omega) rfl) rfl fun a H => ?_
   refine kV H (r_row (cs := [.int .i64 y.1, .int .i64 y.2.1, .int .i64 y.2.2.1, .int .i64 y.2.2.2.1, .int .i64 y.2.2.2.2]) (H.ev rfl) (range_ups HRG.out hall) (by kernel_rfl) s65 rfl) rfl fun a H => ?_
   refine wl_call 115 _ _ (c22_any bc x y _ hc) (r_callc cf115 (H.ev rfl) (H.ev rfl)) ?_; rintro e w9 ⟨rfl, hb⟩; refine ⟨_, rfl, ?_⟩; rw [decide_eq_true he]; replace hc := range_ups hc hb; replace hall := hall.tr hb; clear hb; refine kl H rfl fun a H => ?_
   refine zA (zB (zH H rfl (zC (zD ?_))))
   refine kR 2 H rfl fun a H => ?_
   refine zA (zB (zF (r_block (zJ (zJ (r_block (zJ ?_)))))))
   exact k_ret1 H rfl rfl ⟨⟨_, rfl, hasq_here HY.out he⟩, hall⟩
  ·
   refine zC (zD ?_)
   refine kV H (r_lt U3 (H.ev rfl) (H.ev rfl) (dec_t (by omega))) rfl fun a H => ?_
   refine zA (zB (zC (zH H rfl (zE (zB (zC ?_))))))
   refine wp_block ?_
   refine zC (zD ?_)
   refine kR 2 H rfl fun a H => ?_
   refine zA (zB (zC (zD ?_)))
   refine kR 3 H rfl fun a H => ?_
   refine kV H (r_idx (j := k) (q := o + k * 5) U63 s65 (H.ev rfl) (H.ev rfl) (by omega) rfl) rfl fun a H => ?_
   refine kV H (r_row (cs := [.int .i64 y.1, .int .i64 y.2.1, .int .i64 y.2.2.1, .int .i64 y.2.2.2.1, .int .i64 y.2.2.2.2]) (H.ev rfl) (range_ups HRG.out hall) (by kernel_rfl) s65 rfl) rfl fun a H => ?_
   refine wl_call 115 _ _ (c22_any bc x y _ hc) (r_callc cf115 (H.ev rfl) (H.ev rfl)) ?_; rintro e w9 ⟨rfl, hb⟩; refine ⟨_, rfl, ?_⟩; rw [decide_eq_false he]; replace hc := range_ups hc hb; replace hall := hall.tr hb; clear hb; refine kl H rfl fun a H => ?_
   refine zA (zB (zG H rfl (zE (n_block (zB (zD ?_))))))
   refine kV H (r_add (q := ((k + 1 : Nat) : Int)) U3 (H.ev rfl) evc (by omega) (by omega)) rfl fun a H => ?_
   refine kR 1 H rfl fun a H => ?_
   refine zA ?_
   refine zI ⟨⟨k + 1, H.pick [0, 1, 6, 7, 8], by omega, noseq_next hno HY.out he, hc, hall⟩, ?_⟩
   rw [H.ev (j := 8) rfl, H0.ev (j := 8) rfl]
   simp only [intOf]
   omega
 ·
  obtain rfl : k = L.length := by omega
  refine zC (zD ?_)
  refine kV H (r_lt U3 (H.ev rfl) (H.ev rfl) (dec_f (by omega))) rfl fun a H => ?_
  refine zA (zB (zC (zG H rfl (wp_exit (e_then (e_then ?_))))))
  refine e_here ?_
  refine zB (zC (zD ?_))
  refine kR 1 H rfl fun a H => ?_
  refine zA (zB (zF ?_))
  exact k_ret1 H rfl rfl ⟨⟨_, rfl, hasq_none hno⟩, hall⟩
theorem contains_any (w : World) (v : Value) (L : List It) (x : It) (bc : Nat) (h : IRow w v L) (hn : L.length ≤ 9223372036854775807) (hc : w.rangeAt bc 0 (IV (encI x))) :
  Calls Tryz.prog 117 #[v, .func (.func 115) #[] #[.pointer (some ⟨bc, 0, none⟩)]] w fun e w' => e = .returned (.bool (hasQ L x.1)) ∧ Below w.heap.size w w' := by
 have hall := Below.refl w.heap.size w
 refine K_enter 9 Tryz.func117 rfl rfl fun a H => ?_
 replace H := H.pick [0, 1]
 refine zC (zD ?_)
 refine kR 1 H rfl fun a H => ?_
 refine zA (zB (zC (zD ?_)))
 refine kR 2 H rfl fun a H => ?_
 refine wl_call _ _ _ (index_any _ _ L x bc h hn hc) (r_call2 cf127 (H.ev rfl) (H.ev rfl)) ?_; rintro e w9 ⟨⟨k, rfl, hk⟩, hb⟩; refine ⟨_, rfl, ?_⟩; replace hall := hall.tr hb; clear hb; refine kl H rfl fun a H => ?_
 by_cases hcc0 : k ≥ 0
 ·
  refine kV H (r_ge U3 (H.ev rfl) evc (dec_t (hcc0))) rfl fun a H => ?_
  refine kR 1 H rfl fun a H => ?_
  refine zA (zB (zF ?_))
  have he : hasQ L x.1 = true := by rw [← hk]; omega
  exact k_ret1 H rfl rfl ⟨by rw [he], hall⟩
 ·
  refine kV H (r_ge U3 (H.ev rfl) evc (dec_f (hcc0))) rfl fun a H => ?_
  refine kR 1 H rfl fun a H => ?_
  refine zA (zB (zF ?_))
  have he : hasQ L x.1 = false := by cases hq : hasQ L x.1 with | false => rfl | true => rw [hq] at hk; have := hk.symm.mp rfl; omega
  exact k_ret1 H rfl rfl ⟨by rw [he], hall⟩
section
section
variable {P : Program} {d : Option Tmp} {tt : TypeId} {ps : String} {af : Array Edge} {gd : Option (Nat × Bool)} {a : Act} {w : World}
theorem r_callf2 {f : FuncId} (hf : entF P f) {g x y : Operand} {vx vy : Value} {ats : Array TypeId} (hg : a.eval g = .func (.func f) #[] #[]) (hx : a.eval x = vx) (hy : a.eval y = vy) :
  (execOp a.eval ⟨d, .call { callee := .value g, args := #[x, y], argTypes := ats }, tt, ps, af, gd⟩).run P w = .ok (.enter f #[vx, vy]) w := by
 unfold execOp
 simp [resolve, invoke, hx, hy, hg, Deferred.ofValue, hf _ w]
theorem k_ret0 {n : Nat} {l : List (Nat × Value)} {fn : Func} {R : Ending → World → Prop} (H : Kn a n l) (hf : fn.results = #[]) (h : R (.returned (.tuple #[])) w) : bodyPost P fn R .ret a w :=
 ⟨H.defers, .tuple #[], by simp [results, hf], h⟩
theorem q_k_end0 {n : Nat} {l : List (Nat × Value)} {fn : Func} {R : Ending → World → Prop} (H : Kn a n l) (hf : fn.results = #[]) (h : R (.returned (.tuple #[])) w) : bodyPost P fn R .normal a w :=
 ⟨H.defers, .tuple #[], by simp [results, hf], h⟩
end
theorem setL_list : ∀ (vs : List Value) (C : Array Value) (o : Nat), o + vs.length ≤ C.size → (setL C o vs).toList = C.toList.take o ++ vs ++ C.toList.drop (o + vs.length)
 | [], C, o, _ => by simp [setL]
 | v :: vs, C, o, h => by
  simp only [List.length_cons] at h
  rw [setL, setL_list vs _ _ (by simp; omega), Array.toList_setIfInBounds]
  have e1 : (C.toList.set o v).take (o + 1) = C.toList.take o ++ [v] := by
   rw [List.take_set, List.take_succ_eq_append_getElem (by simp; omega), List.set_append_right _ _ (by simp; omega)]
   have : o - (C.toList.take o).length = 0 := by simp; omega
   rw [this]; rfl
  have e2 : (C.toList.set o v).drop (o + 1 + vs.length) = C.toList.drop (o + (vs.length + 1)) := by
   rw [List.drop_set_of_lt (by omega)]
   congr 1; omega
  rw [e1, e2]
  simp
theorem setL_size : ∀ (vs : List Value) (C : Array Value) (o : Nat), (setL C o vs).size = C.size
 | [], _, _ => rfl
 | v :: vs, C, o => by rw [setL, setL_size vs]; simp
section
variable {α : Type} {enc : α → List Int} {k : Nat} (hk : ∀ x, (enc x).length = k) {w w' : World} {base g n c i : Nat} {e : TypeId} {M : List α}
include hk
theorem own_range {y : α} {j : Nat} (h : ROwn enc e k w base (.slice (some ⟨g, 0, none⟩) n c) M) (hy : M[j]? = some y) : w.rangeAt g (0 + j * k) (IV (enc y)) := by
 obtain ⟨hj, rfl⟩ := List.getElem?_eq_some_iff.1 hy
 obtain ⟨A, c', e1, hh, _, _⟩ := own_slice h
 injection e1 with e1 e2 e3
 subst e1
 exact flat_range hk hh rfl hj
theorem own_seti (h : ROwn enc e k w base (.slice (some ⟨g, 0, none⟩) n c) M) (hi : i < M.length) : base ≤ g ∧ ∃ cur, Block w g e cur ∧ 0 + i * k + k ≤ cur.size ∧ ∀ y w', Block w' g e (setL cur (0 + i * k) (IV (enc y))) → ROwn enc e k w' base (.slice (some ⟨g, 0, none⟩) n c) (M.set i y) := by
 obtain ⟨h0, ⟨e1, h1⟩ | ⟨g', cap, cur, e1, hbg, hg, hc, hcm, hcs, htk⟩⟩ := h
 · cases e1
 ·
  injection e1 with e1 e2 e3
  injection e1 with e1
  injection e1 with e1
  subst e1 e2 e3
  have hle : i * k + k ≤ cur.size := by
   rw [hcs]
   have : (i + 1) * k ≤ c * k := Nat.mul_le_mul_right _ (by omega)
   rw [Nat.add_mul] at this
   omega
  refine ⟨hbg, cur, hg, by omega, fun y w' hb => ?_⟩
  unfold ROwn
  rw [List.length_set]
  refine ⟨by rw [FV_len hk, List.length_set], .inr ⟨g, c, _, rfl, hbg, hb, hc, hcm, by rw [setL_size]; exact hcs, ?_⟩⟩
  have hl : (IV (enc y)).length = k := by simp [IV, hk]
  have hle2 : i * k + k ≤ M.length * k := by
   have : (i + 1) * k ≤ M.length * k := Nat.mul_le_mul_right _ (by omega)
   rw [Nat.add_mul] at this
   omega
  rw [setL_list _ _ _ (by rw [hl]; omega), hl, Nat.zero_add, List.set_eq_take_append_cons_drop, if_pos hi, FV_append, FV_take hk, ← htk, List.take_append, List.take_append]
  have a1 : (cur.toList.take (i * k)).length = i * k := by simp; omega
  rw [List.take_of_length_le (by rw [a1]; omega), List.take_take, Nat.min_eq_left (by omega)]
  simp only [List.length_append, a1, hl]
  have a2 : FV enc (y :: M.drop (i + 1)) = IV (enc y) ++ FV enc (M.drop (i + 1)) := by simp [FV, IV, flat_cons]
  rw [a2, FV_drop hk, ← htk, List.append_assoc, List.take_of_length_le (l := IV (enc y)) (by rw [hl]; omega)]
  congr 2
  rw [List.drop_take, Nat.add_mul, Nat.one_mul]
end
def insI (S : List It) (x : It) : List It := S.filter (fun y => decide (¬ x.1 < y.1)) ++ x :: S.filter (fun y => decide (x.1 < y.1))
theorem sorted_at {S : List It} (hS : S.Pairwise (fun a b => a.1 < b.1)) {i j : Nat} {y z : It} (hy : S[i]? = some y) (hz : S[j]? = some z) (h : i < j) : y.1 < z.1 := by
 obtain ⟨h1, rfl⟩ := List.getElem?_eq_some_iff.1 hy
 obtain ⟨h2, rfl⟩ := List.getElem?_eq_some_iff.1 hz
 exact List.pairwise_iff_getElem.1 hS i j h1 h2 h
theorem filter_take {α : Type} {p : α → Bool} : ∀ {L : List α} {k : Nat}, (∀ j y, j < k → L[j]? = some y → p y = true) → (∀ j y, k ≤ j → L[j]? = some y → p y = false) → L.filter p = L.take k
 | [], _, _, _ => by simp
 | x :: L, 0, _, h2 => by
  rw [List.take_zero, List.filter_eq_nil_iff]
  intro y hy
  obtain ⟨j, hj, rfl⟩ := List.mem_iff_getElem.1 hy
  rw [h2 j _ (by omega) (List.getElem?_eq_getElem hj)]
  simp
 | x :: L, k + 1, h1, h2 => by
  rw [List.take_succ_cons, List.filter_cons, h1 0 x (by omega) rfl, if_pos rfl, filter_take (k := k) (fun j y hj hy => h1 (j + 1) y (by omega) (by simpa using hy)) (fun j y hj hy => h2 (j + 1) y (by omega) (by simpa using hy))]
theorem filter_drop {α : Type} {p : α → Bool} : ∀ {L : List α} {k : Nat}, (∀ j y, j < k → L[j]? = some y → p y = false) → (∀ j y, k ≤ j → L[j]? = some y → p y = true) → L.filter p = L.drop k
 | [], _, _, _ => by simp
 | x :: L, 0, _, h2 => by
  rw [List.drop_zero, List.filter_eq_self]
  intro y hy
  obtain ⟨j, hj, rfl⟩ := List.mem_iff_getElem.1 hy
  exact h2 j _ (by omega) (List.getElem?_eq_getElem hj)
 | x :: L, k + 1, h1, h2 => by
  rw [List.drop_succ_cons, List.filter_cons, h1 0 x (by omega) rfl, if_neg (by simp), filter_drop (k := k) (fun j y hj hy => h1 (j + 1) y (by omega) (by simpa using hy)) (fun j y hj hy => h2 (j + 1) y (by omega) (by simpa using hy))]
theorem drop_mem {S : List It} {j i : Nat} {y : It} (hy : S[i]? = some y) (h : j ≤ i) : y ∈ S.drop j := by
 have : (S.drop j)[i - j]? = some y := by rw [List.getElem?_drop]; rwa [show j + (i - j) = i by omega]
 exact List.mem_of_getElem? this
theorem ins_at {S : List It} {x : It} {j : Nat} (hS : S.Pairwise (fun a b => a.1 < b.1)) (hj : j ≤ S.length) (h1 : ∀ y ∈ S.drop j, x.1 < y.1) (h2 : j = 0 ∨ ∃ p y, j = p + 1 ∧ S[p]? = some y ∧ ¬ x.1 < y.1) : S.take j ++ x :: S.drop j = insI S x := by
 have hlo : ∀ i y, i < j → S[i]? = some y → ¬ x.1 < y.1 := by
  intro i y hi hy
  rcases h2 with rfl | ⟨p, z, rfl, hz, hn⟩
  · omega
  ·
   by_cases e : i = p
   ·
    subst e
    rw [hy] at hz
    injection hz with hz
    rw [hz]; exact hn
   ·
    have := sorted_at hS hy hz (by omega)
    omega
 unfold insI
 rw [filter_take (p := fun y => decide (¬ x.1 < y.1)) (k := j) (fun i y hi hy => decide_eq_true (hlo i y hi hy)) (fun i y hi hy => decide_eq_false (by have := h1 y (drop_mem hy hi); omega)),
  filter_drop (p := fun y => decide (x.1 < y.1)) (k := j) (fun i y hi hy => decide_eq_false (hlo i y hi hy)) (fun i y hi hy => decide_eq_true (h1 y (drop_mem hy hi)))]
theorem so_start {w : World} {base m : Nat} {v : Value} {S : List It} {x : It} (hm : S.length = m) (h : IOwn w base v (S ++ [x])) : (1 ≤ m ∧ IOwn w base v (S ++ [x])) ∨ (1 = m + 1 ∧ IOwn w base v (insI S x)) := by
 by_cases e : m = 0
 ·
  subst e
  obtain rfl : S = [] := List.eq_nil_of_length_eq_zero hm
  exact .inr ⟨rfl, h⟩
 · exact .inl ⟨by omega, h⟩
section
variable {S : List It} {x y : It} {p : Nat}
theorem mid_at (hy : S[p]? = some y) : (S.take (p + 1) ++ x :: S.drop (p + 1))[p]? = some y ∧ (S.take (p + 1) ++ x :: S.drop (p + 1))[p + 1]? = some x := by
 have hp := (List.getElem?_eq_some_iff.1 hy).1
 have hl : (S.take (p + 1)).length = p + 1 := by simp; omega
 constructor
 · rw [List.getElem?_append_left (by omega), List.getElem?_take, if_pos (by omega)]; exact hy
 · rw [List.getElem?_append_right (by omega), hl]; simp
theorem mid_lt {j i : Nat} (h : i ≤ S.length) : i < (S.take j ++ x :: S.drop j).length := by simp; omega
theorem swap_mid (hy : S[p]? = some y) : ((S.take (p + 1) ++ x :: S.drop (p + 1)).set (p + 1) y).set p x = S.take p ++ x :: S.drop p := by
 obtain ⟨hp, rfl⟩ := List.getElem?_eq_some_iff.1 hy
 have hl : (S.take p).length = p := by simp; omega
 rw [List.take_succ_eq_append_getElem hp, List.append_assoc, List.set_append_right _ _ (by omega), hl, show p + 1 - p = 1 by omega]
 simp only [List.singleton_append, List.set_cons_succ, List.set_cons_zero]
 rw [List.set_append_right _ _ (by omega), hl, Nat.sub_self, List.set_cons_zero, ← List.drop_eq_getElem_cons hp]
theorem gt_next (hy : S[p]? = some y) (h : ∀ z ∈ S.drop (p + 1), x.1 < z.1) (hl : x.1 < y.1) : ∀ z ∈ S.drop p, x.1 < z.1 := by
 obtain ⟨hp, rfl⟩ := List.getElem?_eq_some_iff.1 hy
 intro z hz
 rw [List.drop_eq_getElem_cons hp] at hz
 rcases List.mem_cons.1 hz with rfl | hz
 · exact hl
 · exact h z hz
end
def SoO (W : World) (base g cap m : Nat) (S : List It) (x : It) (a : Act) (w : World) : Prop :=
 ∃ i : Nat, Kn a 53 [(0, .slice (some ⟨g, 0, none⟩) (m + 1) cap), (1, .int .i64 0), (2, .int .i64 (m + 1 : Nat)), (3, .func (.func 119) #[] #[]), (8, .int .i64 (i : Nat))] ∧ 1 ≤ i ∧ i ≤ m + 1 ∧ ((i ≤ m ∧ IOwn w base (.slice (some ⟨g, 0, none⟩) (m + 1) cap) (S ++ [x])) ∨ (i = m + 1 ∧ IOwn w base (.slice (some ⟨g, 0, none⟩) (m + 1) cap) (insI S x))) ∧ Below base W w
def SoJ (W : World) (base g cap m : Nat) (S : List It) (x : It) (q : Nat) (a : Act) (w : World) : Prop :=
 Kn a 53 [(0, .slice (some ⟨g, 0, none⟩) (m + 1) cap), (1, .int .i64 0), (2, .int .i64 (m + 1 : Nat)), (3, .func (.func 119) #[] #[]), (8, .int .i64 (q + 1 : Nat)), (9, .int .i64 (q + 1 : Nat))] ∧ IOwn w base (.slice (some ⟨g, 0, none⟩) (m + 1) cap) (S ++ [x]) ∧ Below base W w
def SoK (W : World) (base g cap q : Nat) (S : List It) (x : It) (a : Act) (w : World) : Prop :=
 ∃ j : Nat, Kn a 53 [(0, .slice (some ⟨g, 0, none⟩) (q + 1 + 1) cap), (1, .int .i64 0), (2, .int .i64 (q + 1 + 1 : Nat)), (3, .func (.func 119) #[] #[]), (8, .int .i64 (q + 1 : Nat)), (9, .int .i64 (j : Nat))] ∧ j ≤ q + 1 ∧ (∀ y ∈ S.drop j, x.1 < y.1) ∧ IOwn w base (.slice (some ⟨g, 0, none⟩) (q + 1 + 1) cap) (S.take j ++ x :: S.drop j) ∧ Below base W w
def SSo (W : World) (base : Nat) (v : Value) (M : List It) (w : World) : Prop := (Below base W w ∧ base ≤ w.heap.size) ∧ IOwn w base v M
theorem SSo.up {W w w' : World} {base : Nat} {v : Value} {M : List It} (h : SSo W base v M w) (hb : Below w.heap.size w w') : SSo W base v M w' := ⟨⟨h.1.1.trans (hb.mono h.1.2), Nat.le_trans h.1.2 hb.size⟩, h.2.up hb⟩
set_option maxHeartbeats 8000000 in
theorem isort_any (w : World) (base g cap m : Nat) (S : List It) (x : It) (hbw : base ≤ w.heap.size) (hm : S.length = m) (hm1 : 0 < m + 1) (hn : m ≤ 100000) (hS : S.Pairwise (fun a b => a.1 < b.1)) (hB : ∀ y ∈ S ++ [x], 0 ≤ y.1 ∧ y.1 ≤ 2147483648) (hown : IOwn w base (.slice (some ⟨g, 0, none⟩) (m + 1) cap) (S ++ [x])) :
  Calls Tryz.prog 135 #[.slice (some ⟨g, 0, none⟩) (m + 1) cap, .int .i64 0, .int .i64 (m + 1 : Nat), .func (.func 119) #[] #[]] w fun e w' => e = .returned (.tuple #[]) ∧ IOwn w' base (.slice (some ⟨g, 0, none⟩) (m + 1) cap) (insI S x) ∧ Below base w w' := by
 have hall := Below.refl base w
 replace hB := Lib.hid hB
 refine K_enter 53 Tryz.func135 rfl rfl fun a H => ?_
 replace H := H.pick [0, 1, 2, 3]
 refine zC (zD ?_)
 refine kR 1 H rfl fun a H => ?_
 refine kV H (r_add (q := 0 + 1) U3 (H.ev rfl) evc (by omega) (by omega)) rfl fun a H => ?_
 refine kR 1 H rfl fun a H => ?_
 refine zA (zB ?_)
 refine wp_block ?_
 refine wp_loop (SoO w base g cap m S x) (fun a _ => m + 1 - (intOf (a.eval (.tmp 8))).toNat) ⟨1, H.pick [0, 1, 2, 3, 8], by omega, by omega, so_start hm hown, hall⟩ ?_
 clear H hall hown
 rintro a w' ⟨i, H, hi1, hi, hcase, hall⟩
 have H0 := H
 rcases hcase with ⟨him, hown⟩ | ⟨him, hown⟩
 ·
  obtain ⟨q, rfl⟩ : ∃ q, i = q + 1 := ⟨i - 1, by omega⟩
  by_cases hlast : q + 1 < m
  ·
   obtain ⟨y, hy⟩ : ∃ y, S[q]? = some y := ⟨_, List.getElem?_eq_getElem (by omega)⟩
   obtain ⟨z, hz⟩ : ∃ z, S[q + 1]? = some z := ⟨_, List.getElem?_eq_getElem (by omega)⟩
   have hy2 : (S ++ [x])[q]? = some y := by rw [List.getElem?_append_left (by omega)]; exact hy
   have hz2 : (S ++ [x])[q + 1]? = some z := by rw [List.getElem?_append_left (by omega)]; exact hz
   have hyz := sorted_at hS hy hz (by omega)
   have hby := hB.out y (List.mem_of_getElem? hy2)
   have hbz := hB.out z (List.mem_of_getElem? hz2)
   have HY := Lib.hid hy2
   have HZ := Lib.hid hz2
   clear hy hz hy2 hz2
   refine zC (zC (zD ?_))
   refine kR 2 H rfl fun a H => ?_
   refine kV H (r_lt U3 (H.ev rfl) (H.ev rfl) (dec_t (by omega))) rfl fun a H => ?_
   refine zA (zB (zH H rfl (zE (zB (zC ?_)))))
   refine wp_block ?_
   refine zC (zD ?_)
   refine kR 2 H rfl fun a H => ?_
   refine zA (zB ?_)
   refine wp_block ?_
   refine wp_loop (SoJ w base g cap m S x q) (fun a _ => 0) ⟨H.pick [0, 1, 2, 3, 8, 9], hown, hall⟩ ?_
   clear H hall hown
   rintro a w' ⟨H, hown, hall⟩
   refine zC (zC ?_)
   have hS : SSo w base (.slice (some ⟨g, 0, none⟩) (m + 1) cap) (S ++ [x]) _ := ⟨⟨hall.drew, Nat.le_trans hbw hall.size⟩, ROwn.keep hown (fun _ _ => rfl)⟩
   refine region_pi (SSo w base (.slice (some ⟨g, 0, none⟩) (m + 1) cap) (S ++ [x])) [(0, true), (1, true), (2, true), (3, true), (4, true), (5, true), (6, true), (7, true), (8, true), (9, true), (10, true), (11, true), (12, true), (13, true), (14, false), (15, true), (16, true)] (by kernel_rfl) (by kernel_rfl) rfl (by kernel_rfl) hS ?_
   clear hall hown
   refine pi_f0 _ rfl (fun w' hS' => r_move (H.ev rfl)) ?_; refine kp H rfl fun a H => ?_
   refine pi_f0 _ rfl (fun w' hS' => r_move (H.ev rfl)) ?_; refine kp H rfl fun a H => ?_
   refine pi_f0 _ rfl (fun w' hS' => r_gt U3 (H.ev rfl) (H.ev rfl) (dec_t (by omega))) ?_; refine kp H rfl fun a H => ?_
   refine pi_f0 _ rfl (fun w' hS' => r_move (H.ev rfl)) ?_; refine kp H rfl fun a H => ?_
   refine pi_f1 _ rfl rfl rfl (H.ev rfl) (fun w' hS' => r_move (H.ev rfl)) ?_; refine kp H rfl fun a H => ?_
   refine pi_f1 _ rfl rfl rfl (H.ev rfl) (fun w' hS' => r_move (H.ev rfl)) ?_; refine kp H rfl fun a H => ?_
   refine pi_f1 _ rfl rfl rfl (H.ev rfl) (fun w' hS' => r_move (H.ev rfl)) ?_; refine kp H rfl fun a H => ?_
   refine pi_f1 (.pointer (some ⟨g, 0 + (q + 1) * 5, none⟩)) rfl rfl rfl (H.ev rfl) (fun w' hS' => r_idx (j := q + 1) (q := 0 + (q + 1) * 5) U63 s65 (H.ev rfl) (H.ev rfl) (by omega) rfl) ?_; refine kp H rfl fun a H => ?_
   refine pi_f1 _ rfl rfl rfl (H.ev rfl) (fun w' hS' => r_row (cs := [.int .i64 z.1, .int .i64 z.2.1, .int .i64 z.2.2.1, .int .i64 z.2.2.2.1, .int .i64 z.2.2.2.2]) (H.ev rfl) (own_range encI_len hS'.2 HZ.out) (by kernel_rfl) s65 rfl) ?_; refine kp H rfl fun a H => ?_
   refine pi_f1 _ rfl rfl rfl (H.ev rfl) (fun w' hS' => r_move (H.ev rfl)) ?_; refine kp H rfl fun a H => ?_
   refine pi_f1 _ rfl rfl rfl (H.ev rfl) (fun w' hS' => r_move (H.ev rfl)) ?_; refine kp H rfl fun a H => ?_
   refine pi_f1 (.int .i64 (q : Nat)) rfl rfl rfl (H.ev rfl) (fun w' hS' => r_sub (q := ((q : Nat) : Int)) U3 (H.ev rfl) evc (by omega) (by omega)) ?_; refine kp H rfl fun a H => ?_
   refine pi_f1 _ rfl rfl rfl (H.ev rfl) (fun w' hS' => r_idx (j := q) (q := 0 + q * 5) U63 s65 (H.ev rfl) (H.ev rfl) (by omega) rfl) ?_; refine kp H rfl fun a H => ?_
   refine pi_f1 _ rfl rfl rfl (H.ev rfl) (fun w' hS' => r_row (cs := [.int .i64 y.1, .int .i64 y.2.1, .int .i64 y.2.2.1, .int .i64 y.2.2.2.1, .int .i64 y.2.2.2.2]) (H.ev rfl) (own_range encI_len hS'.2 HY.out) (by kernel_rfl) s65 rfl) ?_; refine kp H rfl fun a H => ?_
   refine pi_a1 rfl rfl rfl (H.ev rfl) (fun K hK => ?_); refine wpo_call 119 _ _ (cmp_any z y _ (by omega) (by omega)) (r_callf2 cf119 (H.ev rfl) (H.ev rfl) (H.ev rfl)) ?_; rintro e w9 ⟨rfl, hb9⟩; refine ⟨_, rfl, ?_⟩; replace hS := hS.up hb9; clear hb9; refine hK _ _ ⟨hS, ?_⟩; clear hK; clear K; refine kp H rfl fun a H => ?_
   refine pi_f1 _ rfl rfl rfl (H.ev rfl) (fun w' hS' => r_lt U3 (H.ev rfl) evc (dec_f (by omega))) ?_; refine kp H rfl fun a H => ?_
   refine pi_f0 _ rfl (fun w' hS' => r_pick_t (H.ev rfl) (H.ev rfl)) ?_; refine kp H rfl fun a H => ?_
   refine pi_nil (NoPanic.normal ?_)
   have hall := hS.1.1
   have hown := hS.2
   clear hS
   refine zB (zG H rfl (wp_exit (e_then (e_then ?_))))
   refine e_here ?_
   refine n_block (zB (zD ?_))
   refine kR 1 H rfl fun a H => ?_
   refine kV H (r_add (q := ((q + 1 + 1 : Nat) : Int)) U3 (H.ev rfl) evc (by omega) (by omega)) rfl fun a H => ?_
   refine kR 1 H rfl fun a H => ?_
   refine zA ?_
   refine zI ⟨⟨q + 1 + 1, H.pick [0, 1, 2, 3, 8], by omega, by omega, .inl ⟨by omega, hown⟩, hall⟩, ?_⟩
   rw [H.ev (j := 8) rfl, H0.ev (j := 8) rfl]
   simp only [intOf]
   omega
  ·
   obtain rfl : m = q + 1 := by omega
   refine zC (zC (zD ?_))
   refine kR 2 H rfl fun a H => ?_
   refine kV H (r_lt U3 (H.ev rfl) (H.ev rfl) (dec_t (by omega))) rfl fun a H => ?_
   refine zA (zB (zH H rfl (zE (zB (zC ?_)))))
   refine wp_block ?_
   refine zC (zD ?_)
   refine kR 2 H rfl fun a H => ?_
   refine zA (zB ?_)
   refine wp_block ?_
   refine wp_loop (SoK w base g cap q S x) (fun a _ => (intOf (a.eval (.tmp 9))).toNat) ⟨q + 1, H.pick [0, 1, 2, 3, 8, 9], by omega, (fun y hy => by rw [List.drop_eq_nil_of_le (by omega)] at hy; cases hy), by rw [List.drop_eq_nil_of_le (by omega), List.take_of_length_le (by omega)]; exact hown, hall⟩ ?_
   clear H hall hown
   rintro a w' ⟨j, H, hj, hgt, hown, hall⟩
   have H1 := H
   by_cases h0 : j = 0
   ·
    obtain rfl := h0
    rw [ins_at hS (by omega) hgt (.inl rfl)] at hown
    refine zC (zC ?_)
    have hS : SSo w base (.slice (some ⟨g, 0, none⟩) (q + 1 + 1) cap) (insI S x) _ := ⟨⟨hall.drew, Nat.le_trans hbw hall.size⟩, ROwn.keep hown (fun _ _ => rfl)⟩
    refine region_pi (SSo w base (.slice (some ⟨g, 0, none⟩) (q + 1 + 1) cap) (insI S x)) [(0, true), (1, true), (2, true), (3, true), (4, true), (5, true), (6, true), (7, true), (8, true), (9, true), (10, true), (11, true), (12, true), (13, true), (14, false), (15, true), (16, true)] (by kernel_rfl) (by kernel_rfl) rfl (by kernel_rfl) hS ?_
    clear hall hown
    refine pi_f0 _ rfl (fun w' hS' => r_move (H.ev rfl)) ?_; refine kp H rfl fun a H => ?_
    refine pi_f0 _ rfl (fun w' hS' => r_move (H.ev rfl)) ?_; refine kp H rfl fun a H => ?_
    refine pi_f0 _ rfl (fun w' hS' => r_gt U3 (H.ev rfl) (H.ev rfl) (dec_f (by omega))) ?_; refine kp H rfl fun a H => ?_
    refine pi_f0 _ rfl (fun w' hS' => r_move (H.ev rfl)) ?_; refine kp H rfl fun a H => ?_
    refine pi_s1 rfl rfl rfl (H.ev rfl) ?_; refine kp H rfl fun a H => ?_
    refine pi_s1 rfl rfl rfl (H.ev rfl) ?_; refine kp H rfl fun a H => ?_
    refine pi_s1 rfl rfl rfl (H.ev rfl) ?_; refine kp H rfl fun a H => ?_
    refine pi_s1 rfl rfl rfl (H.ev rfl) ?_; refine kp H rfl fun a H => ?_
    refine pi_s1 rfl rfl rfl (H.ev rfl) ?_; refine kp H rfl fun a H => ?_
    refine pi_s1 rfl rfl rfl (H.ev rfl) ?_; refine kp H rfl fun a H => ?_
    refine pi_s1 rfl rfl rfl (H.ev rfl) ?_; refine kp H rfl fun a H => ?_
    refine pi_s1 rfl rfl rfl (H.ev rfl) ?_; refine kp H rfl fun a H => ?_
    refine pi_s1 rfl rfl rfl (H.ev rfl) ?_; refine kp H rfl fun a H => ?_
    refine pi_s1 rfl rfl rfl (H.ev rfl) ?_; refine kp H rfl fun a H => ?_
    refine pi_s1 rfl rfl rfl (H.ev rfl) ?_; refine kp H rfl fun a H => ?_
    refine pi_s1 rfl rfl rfl (H.ev rfl) ?_; refine kp H rfl fun a H => ?_
    refine pi_f0 _ rfl (fun w' hS' => r_pick_f (H.ev rfl) evc) ?_; refine kp H rfl fun a H => ?_
    refine pi_nil (NoPanic.normal ?_)
    have hall := hS.1.1
    have hown := hS.2
    clear hS
    refine zB (zG H rfl (wp_exit (e_then (e_then ?_))))
    refine e_here ?_
    refine n_block (zB (zD ?_))
    refine kR 1 H rfl fun a H => ?_
    refine kV H (r_add (q := ((q + 1 + 1 : Nat) : Int)) U3 (H.ev rfl) evc (by omega) (by omega)) rfl fun a H => ?_
    refine kR 1 H rfl fun a H => ?_
    refine zA ?_
    refine zI ⟨⟨q + 1 + 1, H.pick [0, 1, 2, 3, 8], by omega, by omega, .inr ⟨by omega, hown⟩, hall⟩, ?_⟩
    rw [H.ev (j := 8) rfl, H0.ev (j := 8) rfl]
    simp only [intOf]
    omega
   ·
    obtain ⟨p, rfl⟩ : ∃ p, j = p + 1 := ⟨j - 1, by omega⟩
    clear h0
    obtain ⟨y, hy⟩ : ∃ y, S[p]? = some y := ⟨_, List.getElem?_eq_getElem (by omega)⟩
    obtain ⟨hy2, hx2⟩ := mid_at (x := x) hy
    have hby := hB.out y (List.mem_append_left _ (List.mem_of_getElem? hy))
    have hbx := hB.out x (List.mem_append_right _ (List.mem_singleton.2 rfl))
    have HS := Lib.hid hy
    have HY := Lib.hid hy2
    have HZ := Lib.hid hx2
    clear hy hy2 hx2
    refine zC (zC ?_)
    have hS : SSo w base (.slice (some ⟨g, 0, none⟩) (q + 1 + 1) cap) (S.take (p + 1) ++ x :: S.drop (p + 1)) _ := ⟨⟨hall.drew, Nat.le_trans hbw hall.size⟩, ROwn.keep hown (fun _ _ => rfl)⟩
    refine region_pi (SSo w base (.slice (some ⟨g, 0, none⟩) (q + 1 + 1) cap) (S.take (p + 1) ++ x :: S.drop (p + 1))) [(0, true), (1, true), (2, true), (3, true), (4, true), (5, true), (6, true), (7, true), (8, true), (9, true), (10, true), (11, true), (12, true), (13, true), (14, false), (15, true), (16, true)] (by kernel_rfl) (by kernel_rfl) rfl (by kernel_rfl) hS ?_
    clear hall hown
    refine pi_f0 _ rfl (fun w' hS' => r_move (H.ev rfl)) ?_; refine kp H rfl fun a H => ?_
    refine pi_f0 _ rfl (fun w' hS' => r_move (H.ev rfl)) ?_; refine kp H rfl fun a H => ?_
    refine pi_f0 _ rfl (fun w' hS' => r_gt U3 (H.ev rfl) (H.ev rfl) (dec_t (by omega))) ?_; refine kp H rfl fun a H => ?_
    refine pi_f0 _ rfl (fun w' hS' => r_move (H.ev rfl)) ?_; refine kp H rfl fun a H => ?_
    refine pi_f1 _ rfl rfl rfl (H.ev rfl) (fun w' hS' => r_move (H.ev rfl)) ?_; refine kp H rfl fun a H => ?_
    refine pi_f1 _ rfl rfl rfl (H.ev rfl) (fun w' hS' => r_move (H.ev rfl)) ?_; refine kp H rfl fun a H => ?_
    refine pi_f1 _ rfl rfl rfl (H.ev rfl) (fun w' hS' => r_move (H.ev rfl)) ?_; refine kp H rfl fun a H => ?_
    refine pi_f1 (.pointer (some ⟨g, 0 + (p + 1) * 5, none⟩)) rfl rfl rfl (H.ev rfl) (fun w' hS' => r_idx (j := p + 1) (q := 0 + (p + 1) * 5) U63 s65 (H.ev rfl) (H.ev rfl) (by omega) rfl) ?_; refine kp H rfl fun a H => ?_
    refine pi_f1 _ rfl rfl rfl (H.ev rfl) (fun w' hS' => r_row (cs := [.int .i64 x.1, .int .i64 x.2.1, .int .i64 x.2.2.1, .int .i64 x.2.2.2.1, .int .i64 x.2.2.2.2]) (H.ev rfl) (own_range encI_len hS'.2 HZ.out) (by kernel_rfl) s65 rfl) ?_; refine kp H rfl fun a H => ?_
    refine pi_f1 _ rfl rfl rfl (H.ev rfl) (fun w' hS' => r_move (H.ev rfl)) ?_; refine kp H rfl fun a H => ?_
    refine pi_f1 _ rfl rfl rfl (H.ev rfl) (fun w' hS' => r_move (H.ev rfl)) ?_; refine kp H rfl fun a H => ?_
    refine pi_f1 (.int .i64 (p : Nat)) rfl rfl rfl (H.ev rfl) (fun w' hS' => r_sub (q := ((p : Nat) : Int)) U3 (H.ev rfl) evc (by omega) (by omega)) ?_; refine kp H rfl fun a H => ?_
    refine pi_f1 _ rfl rfl rfl (H.ev rfl) (fun w' hS' => r_idx (j := p) (q := 0 + p * 5) U63 s65 (H.ev rfl) (H.ev rfl) (by omega) rfl) ?_; refine kp H rfl fun a H => ?_
    refine pi_f1 _ rfl rfl rfl (H.ev rfl) (fun w' hS' => r_row (cs := [.int .i64 y.1, .int .i64 y.2.1, .int .i64 y.2.2.1, .int .i64 y.2.2.2.1, .int .i64 y.2.2.2.2]) (H.ev rfl) (own_range encI_len hS'.2 HY.out) (by kernel_rfl) s65 rfl) ?_; refine kp H rfl fun a H => ?_
    refine pi_a1 rfl rfl rfl (H.ev rfl) (fun K hK => ?_); refine wpo_call 119 _ _ (cmp_any x y _ (by omega) (by omega)) (r_callf2 cf119 (H.ev rfl) (H.ev rfl) (H.ev rfl)) ?_; rintro e w9 ⟨rfl, hb9⟩; refine ⟨_, rfl, ?_⟩; replace hS := hS.up hb9; clear hb9; refine hK _ _ ⟨hS, ?_⟩; clear hK; clear K; refine kp H rfl fun a H => ?_
    by_cases hcc0 : (x.1 - y.1) < 0
    ·
     refine pi_f1 _ rfl rfl rfl (H.ev rfl) (fun w' hS' => r_lt U3 (H.ev rfl) evc (dec_t (hcc0))) ?_; refine kp H rfl fun a H => ?_
     refine pi_f0 _ rfl (fun w' hS' => r_pick_t (H.ev rfl) (H.ev rfl)) ?_; refine kp H rfl fun a H => ?_
     refine pi_nil (NoPanic.normal ?_)
     have hall := hS.1.1
     have hown := hS.2
     clear hS
     refine zB (zH H rfl (zE (zB (zC ?_))))
     refine wp_block ?_
     refine region_tree (AnyW) 18 (.fl 0 (.fl 1 (.fl 2 (.fl 3 (.fl 4 (.fl 5 (.fl 6 (.fl 7 (.fl 8 (.fl 10 (.fl 11 (.fl 12 (.two 9 (.one 13 (.fl 14 (.one 15 (.fl 16 (.one 17 .done))))) 13 (.one 9 (.fl 14 (.one 15 (.fl 16 (.one 17 .done)))))))))))))))))) (by kernel_rfl) (by kernel_rfl) rfl (by kernel_rfl) (AnyW.any _) ?_
     replace hown : IOwn (World.drew _) base (.slice (some ⟨g, 0, none⟩) (q + 1 + 1) cap) _ := ROwn.keep hown (fun _ _ => rfl)
     replace hall := hall.drew
     refine kQ 4 H rfl fun a H => ?_
     refine kF (v := .int .i64 (p : Nat)) H rfl rfl (fun w' hS' => r_sub (q := ((p : Nat) : Int)) U3 (H.ev rfl) evc (by omega) (by omega)) rfl fun a H => ?_
     refine kQ 2 H rfl fun a H => ?_
     refine kF (v := .int .i64 (p : Nat)) H rfl rfl (fun w' hS' => r_sub (q := ((p : Nat) : Int)) U3 (H.ev rfl) evc (by omega) (by omega)) rfl fun a H => ?_
     refine kF (v := .pointer (some ⟨g, 0 + (p) * 5, none⟩)) H rfl rfl (fun w' hS' => r_idx (j := p) (q := 0 + (p) * 5) U63 s65 (H.ev rfl) (H.ev rfl) (by omega) rfl) rfl fun a H => ?_
     refine kQ 2 H rfl fun a H => ?_
     refine kF (v := .pointer (some ⟨g, 0 + (p + 1) * 5, none⟩)) H rfl rfl (fun w' hS' => r_idx (j := p + 1) (q := 0 + (p + 1) * 5) U63 s65 (H.ev rfl) (H.ev rfl) (by omega) rfl) rfl fun a H => ?_
     refine pt_two (fun K hK => ?_) (fun K hK => ?_)
     ·
      refine st_a0 rfl ?_; refine wpo_w (.agg #[.int .i64 y.1, .int .i64 y.2.1, .int .i64 y.2.2.1, .int .i64 y.2.2.2.1, .int .i64 y.2.2.2.2]) _ (r_row (cs := [.int .i64 y.1, .int .i64 y.2.1, .int .i64 y.2.2.1, .int .i64 y.2.2.2.1, .int .i64 y.2.2.2.2]) (H.ev rfl) (own_range encI_len hown HY.out) (by kernel_rfl) s65 rfl) ?_; refine hK _ _ ⟨(fun _ => AnyW.any _), ?_⟩; clear hK; clear K; refine kt H rfl fun a H => ?_
      refine pt_one (fun K hK => ?_)
      refine st_a0 rfl ?_; refine wpo_w (.agg #[.int .i64 x.1, .int .i64 x.2.1, .int .i64 x.2.2.1, .int .i64 x.2.2.2.1, .int .i64 x.2.2.2.2]) _ (r_row (cs := [.int .i64 x.1, .int .i64 x.2.1, .int .i64 x.2.2.1, .int .i64 x.2.2.2.1, .int .i64 x.2.2.2.2]) (H.ev rfl) (own_range encI_len hown HZ.out) (by kernel_rfl) s65 rfl) ?_; refine hK _ _ ⟨(fun _ => AnyW.any _), ?_⟩; clear hK; clear K; refine kt H rfl fun a H => ?_
      refine kF (v := .pointer (some ⟨g, 0 + (p + 1) * 5, none⟩)) H rfl rfl (fun w' hS' => r_idx (j := p + 1) (q := 0 + (p + 1) * 5) U63 s65 (H.ev rfl) (H.ev rfl) (by omega) rfl) rfl fun a H => ?_
      refine pt_one (fun K hK => ?_)
      refine st_a0 rfl ?_; obtain ⟨hbg, cur, hg, hfit, hset⟩ := own_seti (i := p + 1) encI_len hown (mid_lt (by omega)); refine wpo_store1 65 (.tmp 51) (.tmp 46) g (0 + (p + 1) * 5) 65 (.agg #[.int .i64 y.1, .int .i64 y.2.1, .int .i64 y.2.2.1, .int .i64 y.2.2.2.1, .int .i64 y.2.2.2.2]) cur (H.ev rfl) (H.ev rfl) hg s65 (by simp only [Value.cells, List.size_toArray, List.length_cons, List.length_nil]; omega) (ints_one [y.1, y.2.1, y.2.2.1, y.2.2.2.1, y.2.2.2.2]) fun w7 hb7 ho7 kq => ?_; have hown1 := hset y _ kq; replace hall := hall.trans (hb7 _ hbg); clear hb7 ho7 kq hg hset hown; refine hK _ _ ⟨(fun _ => AnyW.any _), ?_⟩; clear hK; clear K; skip
      refine kF (v := .pointer (some ⟨g, 0 + (p) * 5, none⟩)) H rfl rfl (fun w' hS' => r_idx (j := p) (q := 0 + (p) * 5) U63 s65 (H.ev rfl) (H.ev rfl) (by omega) rfl) rfl fun a H => ?_
      refine pt_one (fun K hK => ?_)
      refine st_a0 rfl ?_; obtain ⟨hbg2, cur2, hg2, hfit2, hset2⟩ := own_seti (i := p) encI_len hown1 (by rw [List.length_set]; exact mid_lt (by omega)); refine wpo_store1 65 (.tmp 52) (.tmp 50) g (0 + (p) * 5) 65 (.agg #[.int .i64 x.1, .int .i64 x.2.1, .int .i64 x.2.2.1, .int .i64 x.2.2.2.1, .int .i64 x.2.2.2.2]) cur2 (H.ev rfl) (H.ev rfl) hg2 s65 (by simp only [Value.cells, List.size_toArray, List.length_cons, List.length_nil]; omega) (ints_one [x.1, x.2.1, x.2.2.1, x.2.2.2.1, x.2.2.2.2]) fun w8 hb8 ho8 kq => ?_; have hown := hset2 x _ kq; rw [swap_mid HS.out] at hown; replace hall := hall.trans (hb8 _ hbg2); clear hb8 ho8 kq hg2 hset2 hown1; refine hK _ _ ⟨(fun _ => AnyW.any _), ?_⟩; clear hK; clear K; skip
      refine pt_done (NoPanic.normal ?_)
      refine n_block (zB (zD ?_))
      refine kR 1 H rfl fun a H => ?_
      refine kV H (r_sub (q := ((p : Nat) : Int)) U3 (H.ev rfl) evc (by omega) (by omega)) rfl fun a H => ?_
      refine kR 1 H rfl fun a H => ?_
      refine zA ?_
      refine zI ⟨⟨p, H.pick [0, 1, 2, 3, 8, 9], by omega, gt_next HS.out hgt (by omega), hown, hall⟩, ?_⟩
      rw [H.ev (j := 9) rfl, H1.ev (j := 9) rfl]
      simp only [intOf]
      omega
     ·
      refine st_a0 rfl ?_; refine wpo_w (.agg #[.int .i64 x.1, .int .i64 x.2.1, .int .i64 x.2.2.1, .int .i64 x.2.2.2.1, .int .i64 x.2.2.2.2]) _ (r_row (cs := [.int .i64 x.1, .int .i64 x.2.1, .int .i64 x.2.2.1, .int .i64 x.2.2.2.1, .int .i64 x.2.2.2.2]) (H.ev rfl) (own_range encI_len hown HZ.out) (by kernel_rfl) s65 rfl) ?_; refine hK _ _ ⟨(fun _ => AnyW.any _), ?_⟩; clear hK; clear K; refine kt H rfl fun a H => ?_
      refine pt_one (fun K hK => ?_)
      refine st_a0 rfl ?_; refine wpo_w (.agg #[.int .i64 y.1, .int .i64 y.2.1, .int .i64 y.2.2.1, .int .i64 y.2.2.2.1, .int .i64 y.2.2.2.2]) _ (r_row (cs := [.int .i64 y.1, .int .i64 y.2.1, .int .i64 y.2.2.1, .int .i64 y.2.2.2.1, .int .i64 y.2.2.2.2]) (H.ev rfl) (own_range encI_len hown HY.out) (by kernel_rfl) s65 rfl) ?_; refine hK _ _ ⟨(fun _ => AnyW.any _), ?_⟩; clear hK; clear K; refine kt H rfl fun a H => ?_
      refine kF (v := .pointer (some ⟨g, 0 + (p + 1) * 5, none⟩)) H rfl rfl (fun w' hS' => r_idx (j := p + 1) (q := 0 + (p + 1) * 5) U63 s65 (H.ev rfl) (H.ev rfl) (by omega) rfl) rfl fun a H => ?_
      refine pt_one (fun K hK => ?_)
      refine st_a0 rfl ?_; obtain ⟨hbg, cur, hg, hfit, hset⟩ := own_seti (i := p + 1) encI_len hown (mid_lt (by omega)); refine wpo_store1 65 (.tmp 51) (.tmp 46) g (0 + (p + 1) * 5) 65 (.agg #[.int .i64 y.1, .int .i64 y.2.1, .int .i64 y.2.2.1, .int .i64 y.2.2.2.1, .int .i64 y.2.2.2.2]) cur (H.ev rfl) (H.ev rfl) hg s65 (by simp only [Value.cells, List.size_toArray, List.length_cons, List.length_nil]; omega) (ints_one [y.1, y.2.1, y.2.2.1, y.2.2.2.1, y.2.2.2.2]) fun w7 hb7 ho7 kq => ?_; have hown1 := hset y _ kq; replace hall := hall.trans (hb7 _ hbg); clear hb7 ho7 kq hg hset hown; refine hK _ _ ⟨(fun _ => AnyW.any _), ?_⟩; clear hK; clear K; skip
      refine kF (v := .pointer (some ⟨g, 0 + (p) * 5, none⟩)) H rfl rfl (fun w' hS' => r_idx (j := p) (q := 0 + (p) * 5) U63 s65 (H.ev rfl) (H.ev rfl) (by omega) rfl) rfl fun a H => ?_
      refine pt_one (fun K hK => ?_)
      refine st_a0 rfl ?_; obtain ⟨hbg2, cur2, hg2, hfit2, hset2⟩ := own_seti (i := p) encI_len hown1 (by rw [List.length_set]; exact mid_lt (by omega)); refine wpo_store1 65 (.tmp 52) (.tmp 50) g (0 + (p) * 5) 65 (.agg #[.int .i64 x.1, .int .i64 x.2.1, .int .i64 x.2.2.1, .int .i64 x.2.2.2.1, .int .i64 x.2.2.2.2]) cur2 (H.ev rfl) (H.ev rfl) hg2 s65 (by simp only [Value.cells, List.size_toArray, List.length_cons, List.length_nil]; omega) (ints_one [x.1, x.2.1, x.2.2.1, x.2.2.2.1, x.2.2.2.2]) fun w8 hb8 ho8 kq => ?_; have hown := hset2 x _ kq; rw [swap_mid HS.out] at hown; replace hall := hall.trans (hb8 _ hbg2); clear hb8 ho8 kq hg2 hset2 hown1; refine hK _ _ ⟨(fun _ => AnyW.any _), ?_⟩; clear hK; clear K; skip
      refine pt_done (NoPanic.normal ?_)
      refine n_block (zB (zD ?_))
      refine kR 1 H rfl fun a H => ?_
      refine kV H (r_sub (q := ((p : Nat) : Int)) U3 (H.ev rfl) evc (by omega) (by omega)) rfl fun a H => ?_
      refine kR 1 H rfl fun a H => ?_
      refine zA ?_
      refine zI ⟨⟨p, H.pick [0, 1, 2, 3, 8, 9], by omega, gt_next HS.out hgt (by omega), hown, hall⟩, ?_⟩
      rw [H.ev (j := 9) rfl, H1.ev (j := 9) rfl]
      simp only [intOf]
      omega
    ·
     refine pi_f1 _ rfl rfl rfl (H.ev rfl) (fun w' hS' => r_lt U3 (H.ev rfl) evc (dec_f (hcc0))) ?_; refine kp H rfl fun a H => ?_
     refine pi_f0 _ rfl (fun w' hS' => r_pick_t (H.ev rfl) (H.ev rfl)) ?_; refine kp H rfl fun a H => ?_
     refine pi_nil (NoPanic.normal ?_)
     have hall := hS.1.1
     have hown := hS.2
     clear hS
     refine zB (zG H rfl (wp_exit (e_then (e_then ?_))))
     refine e_here ?_
     refine n_block (zB ?_)
     rw [ins_at hS (by omega) hgt (.inr ⟨p, y, rfl, HS.out, by omega⟩)] at hown
     refine zD ?_
     refine kR 1 H rfl fun a H => ?_
     refine kV H (r_add (q := ((q + 1 + 1 : Nat) : Int)) U3 (H.ev rfl) evc (by omega) (by omega)) rfl fun a H => ?_
     refine kR 1 H rfl fun a H => ?_
     refine zA ?_
     refine zI ⟨⟨q + 1 + 1, H.pick [0, 1, 2, 3, 8], by omega, by omega, .inr ⟨by omega, hown⟩, hall⟩, ?_⟩
     rw [H.ev (j := 8) rfl, H0.ev (j := 8) rfl]
     simp only [intOf]
     omega
 ·
  obtain rfl : i = m + 1 := by omega
  refine zC (zC (zD ?_))
  refine kR 2 H rfl fun a H => ?_
  refine kV H (r_lt U3 (H.ev rfl) (H.ev rfl) (dec_f (by omega))) rfl fun a H => ?_
  refine zA (zB (zG H rfl (wp_exit (e_then (e_then ?_)))))
  refine e_here ?_
  exact q_k_end0 H rfl ⟨rfl, hown, hall⟩
end
theorem conv_up52 {a : Act} {w : World} {d : Option Tmp} {tt : TypeId} {ps : String} {af : Array Edge} {gd : Option (Nat × Bool)} {x : Operand} (v : Int) (hx : a.eval x = .int .i64 v) (h0 : 0 ≤ v) (h1 : v < 9223372036854775808) : (execOp a.eval ⟨d, .convert 3 117 x, tt, ps, af, gd⟩).run Tryz.prog w = .ok (.value (.int .u64 v)) w := by
 have u3 := U3
 have u52 := U117
 unfold execOp
 simp only [hx]
 go_simp
 exact IntWalk.u64_in _ (by omega)
theorem r_call5 {P : Program} {a : Act} {w : World} {d : Option Tmp} {tt : TypeId} {ps : String} {af : Array Edge} {gd : Option (Nat × Bool)} {f : FuncId} (hf : entF P f) {x y z u v : Operand} {vx vy vz vu vv : Value} {ats : Array TypeId} (hx : a.eval x = vx) (hy : a.eval y = vy) (hz : a.eval z = vz) (hu : a.eval u = vu) (hv : a.eval v = vv) : (execOp a.eval ⟨d, .call { callee := .value (.func f), args := #[x, y, z, u, v], argTypes := ats }, tt, ps, af, gd⟩).run P w = .ok (.enter f #[vx, vy, vz, vu, vv]) w := by
 have he : a.eval (.func f) = .func (.func f) #[] #[] := rfl
 unfold execOp
 simp [resolve, invoke, hx, hy, hz, hu, hv, he, Deferred.ofValue, hf _ w]
set_option maxHeartbeats 4000000 in
set_option maxRecDepth 100000 in
theorem len64_any (n : Nat) (w : World) (h : n ≤ 12) : Calls Tryz.prog 144 #[.int .u64 (n : Nat)] w fun e w' => (∃ l : Int, e = .returned (.int .i64 l)) ∧ w = w' := by
 have hc : n = 0 ∨ n = 1 ∨ n = 2 ∨ n = 3 ∨ n = 4 ∨ n = 5 ∨ n = 6 ∨ n = 7 ∨ n = 8 ∨ n = 9 ∨ n = 10 ∨ n = 11 ∨ n = 12 := by omega
 rcases hc with rfl | rfl | rfl | rfl | rfl | rfl | rfl | rfl | rfl | rfl | rfl | rfl | rfl <;>
 ·
  go_enter Tryz.func144, Tryz.ntmps144
  go_wp2
  go_ret
  exact ⟨⟨_, rfl⟩, rfl⟩
theorem len_any (n : Nat) (w : World) (h : n ≤ 12) : Calls Tryz.prog 129 #[.int .u64 (n : Nat)] w fun e w' => (∃ l : Int, e = .returned (.int .i64 l)) ∧ w = w' := by
 go_enter Tryz.func129, Tryz.ntmps129
 go_wp2_with (first | (go_at_call 144; refine (len64_any n _ h).mono ?_; rintro e w' ⟨⟨l, rfl⟩, rfl⟩))
 go_ret
 exact ⟨⟨_, rfl⟩, rfl⟩
def PdI (W : World) (base g cap m : Nat) (S : List It) (x : It) (lim : Int) (a : Act) (w : World) : Prop :=
 Kn a 148 [(0, .slice (some ⟨g, 0, none⟩) (m + 1) cap), (1, .int .i64 0), (2, .int .i64 (m + 1 : Nat)), (3, .int .i64 lim), (4, .func (.func 119) #[] #[])] ∧ IOwn w base (.slice (some ⟨g, 0, none⟩) (m + 1) cap) (S ++ [x]) ∧ Below base W w
theorem pdq_any (w : World) (base g cap m : Nat) (S : List It) (x : It) (lim : Int) (hbw : base ≤ w.heap.size) (hm : S.length = m) (hn : m ≤ 11) (hS : S.Pairwise (fun a b => a.1 < b.1)) (hB : ∀ y ∈ S ++ [x], 0 ≤ y.1 ∧ y.1 ≤ 2147483648) (hown : IOwn w base (.slice (some ⟨g, 0, none⟩) (m + 1) cap) (S ++ [x])) :
  Calls Tryz.prog 128 #[.slice (some ⟨g, 0, none⟩) (m + 1) cap, .int .i64 0, .int .i64 (m + 1 : Nat), .int .i64 lim, .func (.func 119) #[] #[]] w fun e w' => e = .returned (.tuple #[]) ∧ IOwn w' base (.slice (some ⟨g, 0, none⟩) (m + 1) cap) (insI S x) ∧ Below base w w' := by
 have hall := Below.refl base w
 refine K_enter 148 Tryz.func128 rfl rfl fun a H => ?_
 replace H := H.pick [0, 1, 2, 3, 4]
 refine zC (zD ?_)
 refine kR 1 H rfl fun a H => ?_
 refine zA (zB (zC (zD ?_)))
 refine kR 1 H rfl fun a H => ?_
 refine zA (zB ?_)
 refine wp_block ?_
 refine wp_loop (PdI w base g cap m S x lim) (fun a _ => 0) ⟨H.pick [0, 1, 2, 3, 4], hown, hall⟩ ?_
 clear H hall hown
 rintro a w' ⟨H, hown, hall⟩
 refine wp_block ?_
 refine zC (zD ?_)
 refine kR 2 H rfl fun a H => ?_
 refine kV (v := .int .i64 (m + 1 : Nat)) H (r_sub (q := ((m + 1 : Nat) : Int)) U3 (H.ev rfl) (H.ev rfl) (by omega) (by omega)) rfl fun a H => ?_
 refine kR 1 H rfl fun a H => ?_
 refine zA (zB (zC (zC (zD ?_))))
 refine kR 1 H rfl fun a H => ?_
 refine kV H (r_le U3 (H.ev rfl) evc (dec_t (by omega))) rfl fun a H => ?_
 refine zA (zB (zH H rfl (zC (zD ?_))))
 refine kR 4 H rfl fun a H => ?_
 refine wl_call _ _ _ (isort_any _ base g cap m S x (Nat.le_trans hbw hall.size) hm (by omega) (by omega) hS hB hown) (r_call4 cf135 (H.ev rfl) (H.ev rfl) (H.ev rfl) (H.ev rfl)) ?_; rintro e w9 ⟨rfl, hown2, hb⟩; refine ⟨_, rfl, ?_⟩; replace hall := hall.trans hb; clear hb hown; refine kl H rfl fun a H => ?_
 refine zA (zB (zF (zJ (r_block (zJ (r_block ?_))))))
 exact k_ret0 H rfl ⟨rfl, hown2, hall⟩
theorem sort_any (w : World) (base g cap m : Nat) (S : List It) (x : It) (hbw : base ≤ w.heap.size) (hm : S.length = m) (hn : m ≤ 11) (hS : S.Pairwise (fun a b => a.1 < b.1)) (hB : ∀ y ∈ S ++ [x], 0 ≤ y.1 ∧ y.1 ≤ 2147483648) (hown : IOwn w base (.slice (some ⟨g, 0, none⟩) (m + 1) cap) (S ++ [x])) :
  Calls Tryz.prog 118 #[.slice (some ⟨g, 0, none⟩) (m + 1) cap, .func (.func 119) #[] #[]] w fun e w' => e = .returned (.tuple #[]) ∧ IOwn w' base (.slice (some ⟨g, 0, none⟩) (m + 1) cap) (insI S x) ∧ Below base w w' := by
 refine K_enter 14 Tryz.func118 rfl rfl fun a H => ?_
 replace H := H.pick [0, 1]
 refine zC (zD ?_)
 refine kR 1 H rfl fun a H => ?_
 refine kV H (r_len U63 (H.ev rfl)) rfl fun a H => ?_
 refine kR 1 H rfl fun a H => ?_
 refine zA (zB (zD ?_))
 refine kR 3 H rfl fun a H => ?_
 refine kV (v := .int .u64 (m + 1 : Nat)) H (conv_up52 _ (H.ev rfl) (by omega) (by omega)) rfl fun a H => ?_
 refine wl_call _ _ _ (len_any (m + 1) _ (by omega)) (r_call1 cf129 (H.ev rfl)) ?_; rintro e w9 ⟨⟨lim, rfl⟩, rfl⟩; refine ⟨_, rfl, ?_⟩; skip; refine kl H rfl fun a H => ?_
 refine kR 1 H rfl fun a H => ?_
 refine wl_call _ _ _ (pdq_any _ base g cap m S x lim hbw hm hn hS hB hown) (r_call5 cf128 (H.ev rfl) evc (H.ev rfl) (H.ev rfl) (H.ev rfl)) ?_; rintro e w9 ⟨rfl, hown2, hb⟩; refine ⟨_, rfl, ?_⟩; skip; refine kl H rfl fun a H => ?_
 refine zA ?_
 exact q_k_end0 H rfl ⟨rfl, hown2, hb⟩
section
theorem r_subw {P : Program} {a : Act} {w : World} {d : Option Tmp} {tt : TypeId} {ps : String} {af : Array Edge} {gd : Option (Nat × Bool)} {x y : Operand} {m n q : Int} {t t2 : TypeId} (ht : P.underlying t = some (.int .i64)) (hx : a.eval x = .int .i64 m) (hy : a.eval y = .int .i64 n) (hq : IntKind.i64.wrap (m - n) = q) : (execOp a.eval ⟨d, .binOp .sub t x y t2, tt, ps, af, gd⟩).run P w = .ok (.value (.int .i64 q)) w := by
 subst hq
 unfold execOp
 simp only [hx, hy]
 go_simp
def RightL (n : Int) (L : List It) : Prop := 1 ≤ n ∧ n ≤ 1073741824 ∧ L.Pairwise (fun a b => a.1 < b.1) ∧ ∀ y ∈ L, n < y.1 ∧ y.1 - n < 8 ∧ y.1 < 1073741824
instance (n : Int) (L : List It) : Decidable (RightL n L) := by unfold RightL; infer_instance
def q_rightF (n : Int) (L : List It) : Bool := decide (RightL n L)
def OkTo (n : Int) (L : List It) (k : Nat) : Prop := ∀ (j : Nat) (y : It), j < k → L[j]? = some y → n < y.1 ∧ IntKind.i64.wrap (y.1 - n) < 8 ∧ y.1 < 1073741824 ∧ ∀ i p, j = i + 1 → L[i]? = some p → p.1 < y.1
def LastI (n : Int) (L : List It) (k : Nat) (l : Int) : Prop := (k = 0 ∧ l = n) ∨ ∃ j p, k = j + 1 ∧ L[j]? = some p ∧ l = p.1
section
variable {n l : Int} {L : List It} {k : Nat} {y : It}
theorem last_ge (hok : OkTo n L k) (hl : LastI n L k l) : n ≤ l := by
 rcases hl with ⟨_, rfl⟩ | ⟨j, p, e, hp, rfl⟩
 · omega
 · have := (hok j p (by omega) hp).1; omega
theorem ok_next (hok : OkTo n L k) (hl : LastI n L k l) (hy : L[k]? = some y) (h1 : l < y.1) (h2 : IntKind.i64.wrap (y.1 - n) < 8) (h3 : y.1 < 1073741824) : OkTo n L (k + 1) := by
 have hge := last_ge hok hl
 intro j z hj hz
 by_cases e : j = k
 ·
  subst e
  rw [hy] at hz
  injection hz with hz
  subst hz
  refine ⟨by omega, h2, h3, fun i p e hp => ?_⟩
  rcases hl with ⟨e0, rfl⟩ | ⟨j', q, e', hq, rfl⟩
  · omega
  ·
   obtain rfl : i = j' := by omega
   rw [hq] at hp
   injection hp with hp
   rw [← hp]; exact h1
 · exact hok j z (by omega) hz
theorem sorted_steps : ∀ {L : List It}, (∀ j p y, L[j]? = some p → L[j + 1]? = some y → p.1 < y.1) → L.Pairwise (fun a b => a.1 < b.1)
 | [], _ => .nil
 | [a], _ => by simp
 | a :: b :: L, h => by
  have ih := sorted_steps (L := b :: L) fun j p y hp hy => h (j + 1) p y (by simpa using hp) (by simpa using hy)
  have hab : a.1 < b.1 := h 0 a b rfl rfl
  rw [List.pairwise_cons]
  refine ⟨fun y hy => ?_, ih⟩
  rcases List.mem_cons.1 hy with rfl | hy
  · exact hab
  · have := (List.pairwise_cons.1 ih).1 y hy; omega
theorem wrap_in {m : Int} (h : -9223372036854775808 ≤ m ∧ m ≤ 9223372036854775807) : IntKind.i64.wrap m = m := IntWalk.i64_in _ h
theorem right_yes (hok : OkTo n L L.length) (h1 : 1 ≤ n) (h2 : n ≤ 1073741824) : q_rightF n L = true := by
 unfold q_rightF
 apply decide_eq_true
 refine ⟨h1, h2, sorted_steps fun j p y hp hy => (hok (j + 1) y (List.getElem?_eq_some_iff.1 hy).1 hy).2.2.2 j p rfl hp, fun y hy => ?_⟩
 obtain ⟨j, hj, rfl⟩ := List.mem_iff_getElem.1 hy
 obtain ⟨a1, a2, a3, _⟩ := hok j _ hj (List.getElem?_eq_getElem hj)
 rw [wrap_in (by omega)] at a2
 exact ⟨a1, a2, a3⟩
theorem right_out (h : ¬ (1 ≤ n ∧ n ≤ 1073741824)) : q_rightF n L = false := by
 unfold q_rightF
 apply decide_eq_false
 rintro ⟨h1, h2, _⟩
 exact h ⟨h1, h2⟩
theorem right_no (hy : L[k]? = some y) (hok : OkTo n L k) (hl : LastI n L k l) (h : y.1 ≤ l ∨ 8 ≤ IntKind.i64.wrap (y.1 - n) ∨ 1073741824 ≤ y.1) : q_rightF n L = false := by
 unfold q_rightF
 apply decide_eq_false
 rintro ⟨h1, h2, h3, h4⟩
 obtain ⟨a1, a2, a3⟩ := h4 y (List.mem_of_getElem? hy)
 rw [wrap_in (by omega)] at h
 rcases h with h | h | h
 ·
  rcases hl with ⟨_, rfl⟩ | ⟨j, p, rfl, hp, rfl⟩
  · omega
  ·
   obtain ⟨hj, rfl⟩ := List.getElem?_eq_some_iff.1 hy
   obtain ⟨hj', rfl⟩ := List.getElem?_eq_some_iff.1 hp
   have := List.pairwise_iff_getElem.1 h3 j (j + 1) hj' hj (by omega)
   omega
 · omega
 · omega
end
def Rt16 (W : World) (b0 : Nat) (n : Int) (A : Option Addr) (c : Nat) (L : List It) (a : Act) (w : World) : Prop :=
 ∃ (k : Nat) (l : Int), Kn a 43 [(1, .pointer (some ⟨b0, 0, none⟩)), (3, .int .i64 l), (9, .slice A L.length c), (10, .int .i64 (L.length : Nat)), (11, .int .i64 (k : Nat))] ∧ k ≤ L.length ∧ LastI n L k l ∧ OkTo n L k ∧ Block w b0 70 #[.int .i64 n, .slice A L.length c] ∧ Below W.heap.size W w
theorem q_right_any (w : World) (n : Int) (v : Value) (L : List It) (h : IRow w v L) (hn : L.length ≤ 9223372036854775807) :
  Calls Tryz.prog 116 #[.agg #[.int .i64 n, v]] w fun e w' => e = .returned (.bool (q_rightF n L)) ∧ Below w.heap.size w w' := by
 obtain ⟨A, c, rfl, h1, h2, h3, hh⟩ := h
 replace hh := Lib.hid hh
 have hall := Below.refl w.heap.size w
 refine K_enter 43 Tryz.func116 rfl rfl fun a H => ?_
 replace H := H.pick [0]
 refine zC (zD ?_)
 refine op_box 70 _ #[.int .i64 n, .slice A L.length c] (H.ev rfl) fun w0 b0 hge hb k0 => ?_; have g0 := Nat.le_trans hall.size hge; replace hall := hall.tr hb; clear hb; clear hge; refine kl H rfl fun a H => ?_
 refine kR 1 H rfl fun a H => ?_
 refine zA (zB (zC (zD ?_)))
 refine kR 1 H rfl fun a H => ?_
 refine kV H (r_ld U3 rfl (H.ev rfl) ((Block.cell k0 0).trans rfl)) rfl fun a H => ?_
 refine kR 1 H rfl fun a H => ?_
 refine zA (zB (zC (zC (zD ?_))))
 refine kR 1 H rfl fun a H => ?_
 refine kV H (r_ld U63 rfl (H.ev rfl) ((Block.cell k0 1).trans rfl)) rfl fun a H => ?_
 refine kV H (r_len U63 (H.ev rfl)) rfl fun a H => ?_
 refine kR 1 H rfl fun a H => ?_
 refine zA (zB ?_)
 refine wp_block ?_
 refine wp_loop (Rt16 w b0 n A c L) (fun a _ => L.length - (intOf (a.eval (.tmp 11))).toNat) ⟨0, n, H.pick [1, 3, 9, 10, 11], by omega, .inl ⟨rfl, rfl⟩, fun j y hj => by omega, k0, hall⟩ ?_
 clear H hall k0
 rintro a w' ⟨k, l, H, hk, hl, hok, k0, hall⟩
 have H0 := H
 by_cases hlt : k < L.length
 ·
  obtain ⟨b, o, hA, hr⟩ := flat_some encI_len hh.out (by omega) hlt
  subst hA
  have hy : L[k]? = some L[k] := List.getElem?_eq_getElem hlt
  have HY := Lib.hid hy
  have HRG := Lib.hid hr
  generalize L[k] = y at *
  obtain ⟨d, hd⟩ : ∃ d, IntKind.i64.wrap (y.1 - n) = d := ⟨_, rfl⟩
  have HDD := Lib.hid hd
  clear hy hr hd
  have H := H0
  refine zC (zD ?_)
  refine kV H (r_lt U3 (H.ev rfl) (H.ev rfl) (dec_t (by omega))) rfl fun a H => ?_
  refine zA (zB (zC (zH H rfl (zE (zB (zC ?_))))))
  refine wp_block ?_
  refine zC (zD ?_)
  refine kV H (r_idx (j := k) (q := o + k * 5) U63 s65 (H.ev rfl) (H.ev rfl) (by omega) rfl) rfl fun a H => ?_
  refine kV H (r_row (cs := [.int .i64 y.1, .int .i64 y.2.1, .int .i64 y.2.2.1, .int .i64 y.2.2.2.1, .int .i64 y.2.2.2.2]) (H.ev rfl) (range_ups HRG.out hall) (by kernel_rfl) s65 rfl) rfl fun a H => ?_
  refine op_new 65 5 (.tmp 14) #[.int .i64 y.1, .int .i64 y.2.1, .int .i64 y.2.2.1, .int .i64 y.2.2.2.1, .int .i64 y.2.2.2.2] _ z65 s65 rfl (ints_one [y.1, y.2.1, y.2.2.1, y.2.2.2.1, y.2.2.2.2]) (fun p => (H.put 5 p rfl).ev rfl) (fun p => (H.put 5 p rfl).ev rfl) fun w1 b1 hge hb k1 => ?_; have g1 := Nat.le_trans hall.size hge; replace k0 := Block.ups k0 hb; replace hall := hall.tr hb; clear hb; clear hge; refine kl H rfl fun a H => ?_
  refine zA (zB (zC (zC (zD ?_))))
  refine kR 1 H rfl fun a H => ?_
  refine kV H (r_ld U3 rfl (H.ev rfl) ((Block.cell k1 0).trans rfl)) rfl fun a H => ?_
  refine kR 1 H rfl fun a H => ?_
  by_cases hcc0 : y.1 ≤ l
  ·
   refine kV H (r_le U3 (H.ev rfl) (H.ev rfl) (dec_t (hcc0))) rfl fun a H => ?_
   refine kR 13 H rfl fun a H => ?_
   refine zA (zB (zH H rfl (zC (zD ?_))))
   refine kR 1 H rfl fun a H => ?_
   refine zA (zB (zF (zJ (r_block (zJ (zJ (r_block (zJ ?_))))))))
   exact k_ret1 H rfl rfl ⟨by rw [right_no HY.out hok hl (by rw [HDD.out]; omega)], hall⟩
  ·
   refine kV H (r_le U3 (H.ev rfl) (H.ev rfl) (dec_f (hcc0))) rfl fun a H => ?_
   refine kR 2 H rfl fun a H => ?_
   refine kW H rfl (r_ld U3 rfl (H.ev rfl) ((Block.cell k1 0).trans rfl)) rfl fun a H => ?_
   refine kR 1 H rfl fun a H => ?_
   refine kW H rfl (r_ld U3 rfl (H.ev rfl) ((Block.cell k0 0).trans rfl)) rfl fun a H => ?_
   refine kG H rfl ?_; refine kV (v := .int .i64 d) H (r_subw U3 (H.ev rfl) (H.ev rfl) HDD.out) rfl fun a H => ?_
   by_cases hcc1 : d ≥ 8
   ·
    refine kW H rfl (r_ge U3 (H.ev rfl) evc (dec_t (hcc1))) rfl fun a H => ?_
    refine kR 6 H rfl fun a H => ?_
    refine zA (zB (zH H rfl (zC (zD ?_))))
    refine kR 1 H rfl fun a H => ?_
    refine zA (zB (zF (zJ (r_block (zJ (zJ (r_block (zJ ?_))))))))
    exact k_ret1 H rfl rfl ⟨by rw [right_no HY.out hok hl (by rw [HDD.out]; omega)], hall⟩
   ·
    refine kW H rfl (r_ge U3 (H.ev rfl) evc (dec_f (hcc1))) rfl fun a H => ?_
    refine kR 3 H rfl fun a H => ?_
    refine kW H rfl (r_ld U3 rfl (H.ev rfl) ((Block.cell k1 0).trans rfl)) rfl fun a H => ?_
    by_cases hcc2 : y.1 ≥ 1073741824
    ·
     refine kW H rfl (r_ge U3 (H.ev rfl) evc (dec_t (hcc2))) rfl fun a H => ?_
     refine kR 1 H rfl fun a H => ?_
     refine zA (zB (zH H rfl (zC (zD ?_))))
     refine kR 1 H rfl fun a H => ?_
     refine zA (zB (zF (zJ (r_block (zJ (zJ (r_block (zJ ?_))))))))
     exact k_ret1 H rfl rfl ⟨by rw [right_no HY.out hok hl (by rw [HDD.out]; omega)], hall⟩
    ·
     refine kW H rfl (r_ge U3 (H.ev rfl) evc (dec_f (hcc2))) rfl fun a H => ?_
     refine kR 1 H rfl fun a H => ?_
     refine zA (zB (zG H rfl (zE (zB (zD ?_)))))
     refine kR 1 H rfl fun a H => ?_
     refine kV H (r_ld U3 rfl (H.ev rfl) ((Block.cell k1 0).trans rfl)) rfl fun a H => ?_
     refine kR 1 H rfl fun a H => ?_
     refine zA (n_block (zB (zD ?_)))
     refine kV H (r_add (q := ((k + 1 : Nat) : Int)) U3 (H.ev rfl) evc (by omega) (by omega)) rfl fun a H => ?_
     refine kR 1 H rfl fun a H => ?_
     refine zA ?_
     refine zI ⟨⟨k + 1, y.1, H.pick [1, 3, 9, 10, 11], by omega, .inr ⟨k, y, rfl, HY.out, rfl⟩, ok_next hok hl HY.out (by omega) (by rw [HDD.out]; omega) (by omega), k0, hall⟩, ?_⟩
     rw [H.ev (j := 11) rfl, H0.ev (j := 11) rfl]
     simp only [intOf]
     omega
 ·
  obtain rfl : k = L.length := by omega
  refine zC (zD ?_)
  refine kV H (r_lt U3 (H.ev rfl) (H.ev rfl) (dec_f (by omega))) rfl fun a H => ?_
  refine zA (zB (zC (zG H rfl (wp_exit (e_then (e_then ?_))))))
  refine e_here ?_
  refine zB (zC (zD ?_))
  refine kR 1 H rfl fun a H => ?_
  refine kV H (r_ld U3 rfl (H.ev rfl) ((Block.cell k0 0).trans rfl)) rfl fun a H => ?_
  by_cases hcc3 : n ≥ 1
  ·
   refine kV H (r_ge U3 (H.ev rfl) evc (dec_t (hcc3))) rfl fun a H => ?_
   refine kR 2 H rfl fun a H => ?_
   refine kW H rfl (r_ld U3 rfl (H.ev rfl) ((Block.cell k0 0).trans rfl)) rfl fun a H => ?_
   by_cases hcc4 : n ≤ 1073741824
   ·
    refine kW H rfl (r_le U3 (H.ev rfl) evc (dec_t (hcc4))) rfl fun a H => ?_
    refine kR 2 H rfl fun a H => ?_
    refine zA (zB (zF ?_))
    exact k_ret1 H rfl rfl ⟨by rw [show q_rightF n L = true from right_yes hok (by omega) (by omega)], hall⟩
   ·
    refine kW H rfl (r_le U3 (H.ev rfl) evc (dec_f (hcc4))) rfl fun a H => ?_
    refine kR 2 H rfl fun a H => ?_
    refine zA (zB (zF ?_))
    exact k_ret1 H rfl rfl ⟨by rw [show q_rightF n L = false from right_out (by omega)], hall⟩
  ·
   refine kV H (r_ge U3 (H.ev rfl) evc (dec_f (hcc3))) rfl fun a H => ?_
   refine kR 6 H rfl fun a H => ?_
   refine zA (zB (zF ?_))
   exact k_ret1 H rfl rfl ⟨by rw [show q_rightF n L = false from right_out (by omega)], hall⟩
end
theorem cloneB_any (w : World) (v : Value) (L : List It) (h : IRow w v L) (hn : L.length ≤ 100000) :
  Calls Tryz.prog 114 #[v] w fun e w' => (∃ B v', B = w.heap.size ∧ e = .returned v' ∧ IOwn w' B v' L) ∧ Below w.heap.size w w' :=
 (q_clone_any w v L h hn).mono fun e w' ⟨⟨v', he, ho⟩, hb⟩ => ⟨⟨_, v', rfl, he, ho⟩, hb⟩
theorem le_up {B b : Nat} {w w' : World} (h : B ≤ w.heap.size) (hb : Below b w w') : B ≤ w'.heap.size := Nat.le_trans h hb.size
theorem lt_up {B b : Nat} {w w' : World} (h : B < w.heap.size) (hb : Below b w w') : B < w'.heap.size := Nat.lt_of_lt_of_le h hb.size
theorem cell_keep {w w' : World} {b o : Nat} (h : w'.heap[b]? = w.heap[b]?) : w'.cell? ⟨b, o, none⟩ = w.cell? ⟨b, o, none⟩ := by unfold World.cell?; rw [h]
theorem range_tail {w : World} {b o : Nat} {v : Value} {cs : List Value} (h : w.rangeAt b o (v :: cs)) : w.rangeAt b (o + 1) cs := fun j u hu => by
 have := h (j + 1) u (by simpa using hu)
 rwa [Nat.add_assoc, Nat.add_comm 1 j]
theorem Row.keep {α : Type} {enc : α → List Int} {w w' : World} {A : Option Addr} {n c : Nat} {L : List α} (h : Row enc w (.slice A n c) L) (hk : ∀ b o, A = some ⟨b, o, none⟩ → w'.heap[b]? = w.heap[b]?) : Row enc w' (.slice A n c) L := by
 obtain ⟨A', c', e, a1, a2, a3, hh⟩ := h
 injection e with e1 e2 e3
 subst e1 e3
 refine ⟨_, _, by rw [e2], a1, a2, a3, fun j hj => ?_⟩
 obtain ⟨b, o, he, hc⟩ := hh j hj
 exact ⟨b, o, he, (cell_keep (hk b o he)).trans hc⟩
theorem Row.slice_le {α : Type} {enc : α → List Int} {w : World} {A : Option Addr} {n c : Nat} {L : List α} (h : Row enc w (.slice A n c) L) : n ≤ c := by
 obtain ⟨A', c', e, a1, a2, a3, hh⟩ := h
 injection e with e1 e2 e3
 omega
theorem row_tail {w : World} {A : Option Addr} {c : Nat} {y : It} {M : List It} (h : IRow w (.slice A (y :: M).length c) (y :: M)) : IRow w (.slice (slAt A c 1 5) M.length (c - 1)) M := Row.drop encI_len h (j := 1) (by simp)
theorem slAt_block {b o c lo size b' o' : Nat} (h : slAt (some ⟨b, o, none⟩) c lo size = some ⟨b', o', none⟩) : b' = b := by
 unfold slAt at h
 split at h
 · injection h with h; injection h with h; exact h.symm
 · simp [add_flat] at h; exact h.1.symm
theorem own_form {w : World} {B : Nat} {v : Value} {M : List It} {n : Nat} (h : IOwn w B v M) (hl : M.length = n) (hp : 0 < n) : ∃ g cap, v = .slice (some ⟨g, 0, none⟩) n cap ∧ B ≤ g ∧ g < w.heap.size := by
 subst hl
 obtain ⟨_, ⟨_, h1⟩ | ⟨g, cap, cur, rfl, hb, hg, _⟩⟩ := h
 · omega
 · exact ⟨g, cap, rfl, hb, Block.lt hg⟩
theorem own_row_at {w : World} {B g n cap : Nat} {M : List It} (h : IOwn w B (.slice (some ⟨g, 0, none⟩) n cap) M) : g < w.heap.size ∧ IRow w (.slice (some ⟨g, 0, none⟩) n cap) M := ⟨(ROwn.lt h rfl).2, IOwn.row h⟩
theorem app_own {α : Type} {enc : α → List Int} {e : TypeId} {size : Nat} {w : World} {B : Nat} {v : Value} {L : List α} {x : α} (h : w.ownsRow B e size v (L.length + 1) (FV enc L ++ FV enc [x])) : ROwn enc e size w B v (L ++ [x]) := by
 unfold ROwn
 rw [List.length_append, FV_append]
 exact h
/-- a slice whose memory lies from block B on -/
def Fresh (B : Nat) (s : Value) : Prop := ∀ A n c, s = .slice A n c → ∀ b o, A = some ⟨b, o, none⟩ → B ≤ b
theorem nil_fresh {B : Nat} : Fresh B (.slice none 0 0) := fun A n c e b o ea => by injection e with e1; rw [← e1] at ea; cases ea
theorem own_fresh {α : Type} {enc : α → List Int} {e : TypeId} {size : Nat} {w : World} {B B' : Nat} {v : Value} {L : List α} (h : ROwn enc e size w B v L) (hB : B' ≤ B) : Fresh B' v := fun A n c ev b o ea => by
 subst ev ea
 have := (h.lt (q := b) rfl).1
 omega
theorem ins_len1 (L : List It) (x : It) : (L ++ [x]).length = L.length + 1 := by simp
theorem filter_parts {α : Type} (p : α → Bool) (L : List α) : (L.filter p).length + (L.filter fun y => !p y).length = L.length := by
 induction L with
 | nil => rfl
 | cons y L ih =>
  simp only [List.filter_cons]
  cases hp : p y
  · simp; omega
  · simp; omega
theorem ins_len (L : List It) (x : It) : (insI L x).length = L.length + 1 := by
 have h := filter_parts (fun y : It => decide (x.1 < y.1)) L
 have e : (fun y : It => decide (¬ x.1 < y.1)) = fun y => !decide (x.1 < y.1) := by funext y; rw [decide_not]
 unfold insI
 rw [List.length_append, List.length_cons, e]
 omega
theorem right_len {n : Int} {L : List It} (h : RightL n L) : L.length ≤ 7 := by
 have key : ∀ (L : List It) (l : Int), L.Pairwise (fun a b => a.1 < b.1) → (∀ y ∈ L, l < y.1 ∧ y.1 < n + 8) → (L.length : Int) ≤ n + 7 - l ∨ L = [] := by
  intro L
  induction L with
  | nil => intro l _ _; exact .inr rfl
  | cons y L ih =>
   intro l hp hb
   left
   rw [List.pairwise_cons] at hp
   have hy := hb y (List.mem_cons_self ..)
   rcases ih y.1 hp.2 (fun z hz => ⟨hp.1 z hz, (hb z (List.mem_cons_of_mem _ hz)).2⟩) with h | h
   · simp only [List.length_cons]; omega
   · subst h; simp; omega
 rcases key L n h.2.2.1 (fun y hy => by have := h.2.2.2 y hy; omega) with h | h
 · omega
 · subst h; simp
theorem ins_bound {n : Int} {L : List It} {x : It} (h : RightL n L) (h0 : n ≤ x.1) (h1 : x.1 < 1073741824) : ∀ y ∈ L ++ [x], 0 ≤ y.1 ∧ y.1 ≤ 2147483648 := by
 intro y hy
 have := h.1
 rcases List.mem_append.1 hy with hy | hy
 · have := h.2.2.2 y hy; omega
 · have := List.mem_singleton.1 hy; subst this; omega
/-- what goes, and what waits -/
def popF : Int → List It → (Int × List It) × List Nt
 | n, [] => ((n, []), [])
 | n, y :: M => if y.1 = n then ((popF (n + 1) M).1, y.2 :: (popF (n + 1) M).2) else ((n, y :: M), [])
theorem popF_nil (n : Int) : popF n [] = ((n, []), []) := rfl
theorem popF_stop {n : Int} {y : It} {M : List It} (h : ¬ y.1 = n) : popF n (y :: M) = ((n, y :: M), []) := if_neg h
theorem popF_go {n : Int} {y : It} {M : List It} (h : y.1 = n) : popF n (y :: M) = ((popF (n + 1) M).1, y.2 :: (popF (n + 1) M).2) := if_pos h
def ShutP (n : Int) (L : List It) (x : It) : Prop := q_rightF n L = false ∨ x.1 < n ∨ 8 ≤ x.1 - n ∨ 1073741824 ≤ x.1 ∨ hasQ L x.1 = true
instance (n : Int) (L : List It) (x : It) : Decidable (ShutP n L x) := by unfold ShutP; infer_instance
def takeF (n : Int) (L : List It) (x : It) : (Int × List It) × List Nt := if ShutP n L x then ((n, L), []) else popF n (insI L x)
theorem shut_of {n : Int} {L : List It} {x : It} (h : q_rightF n L = false ∨ x.1 < n ∨ 8 ≤ x.1 - n ∨ 1073741824 ≤ x.1 ∨ hasQ L x.1 = true) : takeF n L x = ((n, L), []) := if_pos h
theorem take_open {n : Int} {L : List It} {x : It} (h : RightL n L) (h1 : n ≤ x.1) (h2 : x.1 - n < 8) (h3 : x.1 < 1073741824) (h4 : hasQ L x.1 = false) : takeF n L x = popF n (insI L x) := by
 unfold takeF
 rw [if_neg]
 rintro (e | e | e | e | e)
 · rw [show q_rightF n L = true from decide_eq_true h] at e; cases e
 · omega
 · omega
 · omega
 · rw [h4] at e; cases e
def q_lenAt (w : World) (b : Nat) : Nat := match w.cell? ⟨b, 1, none⟩ with | some (.slice _ n _) => n | _ => 0
theorem lenAt_eq {w : World} {b : Nat} {t : TypeId} {x : Value} {A : Option Addr} {n c : Nat} (k : Block w b t #[x, .slice A n c]) : q_lenAt w b = n := by
 unfold q_lenAt
 rw [k.cell 1]
 rfl
theorem q_k_ret_cell2 {P : Program} {a : Act} {w : World} {n : Nat} {l : List (Nat × Value)} {fn : Func} {R : Ending → World → Prop} {p u : Tmp} {ty : TypeId} {g : Nat} {t : TypeId} {C : Array Value} {x : Value} {ds : TypeDesc} (H : Kn a n l) (hf : fn.results = #[.cell p ty, .tmp u]) (hp : lk l p = some (.pointer (some ⟨g, 0, none⟩))) (hx : lk l u = some x)
  (hg : Block w g t C) (hu : P.underlying ty = some ds) (hd : (match ds with | .struct _ | .array _ _ => true | _ => false) = true) (hi : (P.info? ty).map (·.size) = some C.size) (h : R (.returned (.tuple #[.agg C, x])) w) : bodyPost P fn R .ret a w := by
 refine ⟨H.defers, _, res_row_tmp hf a.tmps w g t C ds (H.at_ p _ hp) hg hu hd hi, ?_⟩
 rw [H.at_ u x hx]
 exact h
def STn (W : World) (b0 : Nat) (nn : Int) (s : Value) (w : World) : Prop := Below W.heap.size W w ∧ Block w b0 70 #[.int .i64 nn, s]
def STk (W : World) (b0 : Nat) (nn : Int) (s : Value) (b oo : Nat) (y : It) (w : World) : Prop := Below W.heap.size W w ∧ Block w b0 70 #[.int .i64 nn, s] ∧ w.rangeAt b (oo + 0 * 5) (IV (encI y))
def TkI (W : World) (B b0 b1 b2 g : Nat) (x : It) (top : Int) (T : (Int × List It) × List Nt) (a : Act) (w : World) : Prop :=
 ∃ (M : List It) (nn : Int) (A' : Option Addr) (c' : Nat) (o : Value) (NS : List Nt), Kn a 84 [(2, .pointer (some ⟨b0, 0, none⟩)), (3, .pointer (some ⟨b1, 0, none⟩)), (4, .pointer (some ⟨b2, 0, none⟩)), (7, o)] ∧ (1 ≤ nn ∧ nn + (M.length : Nat) ≤ top) ∧
  Block w b0 70 #[.int .i64 nn, .slice A' M.length c'] ∧ Block w b1 65 #[.int .i64 x.1, .int .i64 x.2.1, .int .i64 x.2.2.1, .int .i64 x.2.2.2.1, .int .i64 x.2.2.2.2] ∧ Block w b2 70 #[.int .i64 0, .slice none 0 0] ∧ IRow w (.slice A' M.length c') M ∧ (∀ b o', A' = some ⟨b, o', none⟩ → b = g) ∧
  NOwn w B o NS ∧ o.ownBlock ≠ some g ∧ NS.length + M.length ≤ 8 ∧ g < w.heap.size ∧ B ≤ w.heap.size ∧ T = ((popF nn M).1, NS ++ (popF nn M).2) ∧ Below W.heap.size W w
set_option maxHeartbeats 8000000 in
theorem take_any (w : World) (n : Int) (v : Value) (L : List It) (x : It) (h : IRow w v L) (hn : L.length ≤ 100000) (hx1 : -9223372036854775808 ≤ x.1) (hx2 : x.1 ≤ 9223372036854775807) :
  Calls Tryz.prog 88 #[.agg #[.int .i64 n, v], .agg #[.int .i64 x.1, .int .i64 x.2.1, .int .i64 x.2.2.1, .int .i64 x.2.2.2.1, .int .i64 x.2.2.2.2]] w fun e w' => (∃ s o, e = .returned (.tuple #[.agg #[.int .i64 (takeF n L x).1.1, s], o]) ∧ (IRow w' s (takeF n L x).1.2 ∧ Fresh w.heap.size s) ∧ (NRow w' o (takeF n L x).2 ∧ Fresh w.heap.size o)) ∧ Below w.heap.size w w' := by
 have hall := Below.refl w.heap.size w
 refine K_enter 84 Tryz.func88 rfl rfl fun a H => ?_
 replace H := H.pick [0, 1]
 refine zC (zD ?_)
 refine op_box 70 _ #[.int .i64 n, v] (H.ev rfl) fun w0 b0 hge hb k0 => ?_; have g0 := Nat.le_trans hall.size hge; replace hall := hall.tr hb; clear hb; clear hge; refine kl H rfl fun a H => ?_
 refine op_box 65 _ #[.int .i64 x.1, .int .i64 x.2.1, .int .i64 x.2.2.1, .int .i64 x.2.2.2.1, .int .i64 x.2.2.2.2] (H.ev rfl) fun w1 b1 hge hb k1 => ?_; have g1 := Nat.le_trans hall.size hge; have d0_1 : b0 < b1 := Nat.lt_of_lt_of_le k0.lt hge; replace k0 := Block.ups k0 hb; replace hall := hall.tr hb; clear hb; clear hge; refine kl H rfl fun a H => ?_
 refine op_alloc 70 #[.int .i64 0, .slice none 0 0] z70 fun w2 b2 hge hb k2 => ?_; have g2 := Nat.le_trans hall.size hge; have d0_2 : b0 < b2 := Nat.lt_of_lt_of_le k0.lt hge; have d1_2 : b1 < b2 := Nat.lt_of_lt_of_le k1.lt hge; replace k0 := Block.ups k0 hb; replace k1 := Block.ups k1 hb; replace hall := hall.tr hb; clear hb; clear hge; refine kl H rfl fun a H => ?_
 refine kR 1 H rfl fun a H => ?_
 refine zA (zB (zC (zD ?_)))
 refine kR 1 H rfl fun a H => ?_
 refine kV H (r_ld U63 rfl (H.ev rfl) ((Block.cell k0 1).trans rfl)) rfl fun a H => ?_
 refine wl_call _ _ _ (cloneB_any _ _ L (Row.up h hall) hn) (r_call1 cf114 (H.ev rfl)) ?_; rintro e w9 ⟨⟨B, v1, hB, rfl, hown⟩, hb⟩; refine ⟨_, rfl, ?_⟩; have e0 : b0 < B := hB ▸ k0.lt; have e1 : b1 < B := hB ▸ k1.lt; have e2 : b2 < B := hB ▸ k2.lt; have hBW := hall.size; rw [← hB] at hBW; have hBc := hb.size; rw [← hB] at hBc; replace k0 := Block.ups k0 hb; replace k1 := Block.ups k1 hb; replace k2 := Block.ups k2 hb; replace hall := hall.tr hb; clear hb; clear hB; obtain ⟨A1, c1, rfl, -, -, -⟩ := own_slice hown; refine kl H rfl fun a H => ?_
 refine kR 1 H rfl fun a H => ?_
 refine op_store1 63 (.tmp 11) (.tmp 10) b0 1 70 (.slice A1 L.length c1) _ (H.ev rfl) (H.ev rfl) k0 s63 (by simp [Value.cells]) (by simp [Value.cells, Value.oneCell']) fun w' hb ho kq => ?_; clear k0; have k0 : Block _ b0 70 #[.int .i64 n, .slice A1 L.length c1] := kq; clear kq; replace k1 := block_same k1 (ho _ (by omega)); replace k2 := block_same k2 (ho _ (by omega)); replace hown := ROwn.keep hown (fun q e => ho q (by have := (hown.lt e).1; omega)); replace hBc := le_up hBc (hb _ g0); replace hall := hall.trans (hb _ g0); clear hb ho; refine kl0 H fun a H => ?_
 refine zA (zB (zC (zD ?_)))
 refine kV (v := .func (.func 115) #[] #[.pointer (some ⟨b1, 0, none⟩)]) H (r_mkfn1 (H.ev rfl)) rfl fun a H => ?_
 refine kR 1 H rfl fun a H => ?_
 refine zA (zB (zC (zC ?_)))
 obtain ⟨rt, hrt⟩ : ∃ rt, q_rightF n L = rt := ⟨_, rfl⟩
 obtain ⟨hq, hhq⟩ : ∃ hq, hasQ L x.1 = hq := ⟨_, rfl⟩
 have HRT := Lib.hid hrt
 have HHQ := Lib.hid hhq
 cases rt
 ·
  clear hrt hhq
  refine zD ?_
  refine kV H (r_row (cs := [.int .i64 n, .slice A1 L.length c1]) (H.ev rfl) (block_range k0) (by kernel_rfl) s70 rfl) rfl fun a H => ?_
  refine wl_call _ _ _ (q_right_any _ n _ L (IOwn.row hown) (by omega)) (r_call1 cf116 (H.ev rfl)) ?_; rintro e w9 ⟨rfl, hb⟩; refine ⟨_, rfl, ?_⟩; rw [HRT.out]; replace k0 := Block.ups k0 hb; replace k1 := Block.ups k1 hb; replace k2 := Block.ups k2 hb; replace hown := ROwn.up hown hb; replace hBc := le_up hBc hb; replace hall := hall.tr hb; clear hb; refine kl H rfl fun a H => ?_
  refine kV H (r_not (H.ev rfl) rfl) rfl fun a H => ?_
  refine kR 26 H rfl fun a H => ?_
  refine zA (zB (zH H rfl (zC (zD ?_))))
  refine kV H (r_row (cs := [.int .i64 n, .slice A1 L.length c1]) (H.ev rfl) (block_range k0) (by kernel_rfl) s70 rfl) rfl fun a H => ?_
  refine op_store1 70 (.tmp 4) (.tmp 42) b2 0 70 (.agg #[.int .i64 n, .slice A1 L.length c1]) _ (H.ev rfl) (H.ev rfl) k2 s70 (by simp [Value.cells]) (by simp [Value.cells, Value.oneCell']) fun w' hb ho kq => ?_; clear k2; have k2 : Block _ b2 70 #[.int .i64 n, .slice A1 L.length c1] := kq; clear kq; replace k0 := block_same k0 (ho _ (by omega)); replace k1 := block_same k1 (ho _ (by omega)); replace hown := ROwn.keep hown (fun q e => ho q (by have := (hown.lt e).1; omega)); replace hBc := le_up hBc (hb _ g2); replace hall := hall.trans (hb _ g2); clear hb ho; refine kl0 H fun a H => ?_
  refine kR 1 H rfl fun a H => ?_
  refine zA (zB (zF (zJ ?_)))
  rw [show takeF n L x = ((n, L), []) from shut_of (by first | exact .inl HRT.out | exact .inr (.inl (by omega)) | exact .inr (.inr (.inl (by omega))) | exact .inr (.inr (.inr (.inl (by omega)))) | exact .inr (.inr (.inr (.inr HHQ.out))))]
  exact q_k_ret_cell2 H rfl rfl rfl k2 U70 rfl s70 ⟨⟨_, _, rfl, ⟨IOwn.row hown, own_fresh hown hBW⟩, ⟨Row.nil, nil_fresh⟩⟩, hall⟩
 ·
  have hR : RightL n L := of_decide_eq_true hrt
  have hn1 := hR.1
  have hn2 := hR.2.1
  have hLl := right_len hR
  have HR := Lib.hid hR
  clear hrt hhq hR
  cases hq
  ·
   refine zD ?_
   refine kV H (r_row (cs := [.int .i64 n, .slice A1 L.length c1]) (H.ev rfl) (block_range k0) (by kernel_rfl) s70 rfl) rfl fun a H => ?_
   refine wl_call _ _ _ (q_right_any _ n _ L (IOwn.row hown) (by omega)) (r_call1 cf116 (H.ev rfl)) ?_; rintro e w9 ⟨rfl, hb⟩; refine ⟨_, rfl, ?_⟩; rw [HRT.out]; replace k0 := Block.ups k0 hb; replace k1 := Block.ups k1 hb; replace k2 := Block.ups k2 hb; replace hown := ROwn.up hown hb; replace hBc := le_up hBc hb; replace hall := hall.tr hb; clear hb; refine kl H rfl fun a H => ?_
   refine kV H (r_not (H.ev rfl) rfl) rfl fun a H => ?_
   refine kR 2 H rfl fun a H => ?_
   refine kW H rfl (r_ld U3 rfl (H.ev rfl) ((Block.cell k1 0).trans rfl)) rfl fun a H => ?_
   refine kR 1 H rfl fun a H => ?_
   refine kW H rfl (r_ld U3 rfl (H.ev rfl) ((Block.cell k0 0).trans rfl)) rfl fun a H => ?_
   by_cases hcc0 : x.1 < n
   ·
    refine kW H rfl (r_lt U3 (H.ev rfl) (H.ev rfl) (dec_t (hcc0))) rfl fun a H => ?_
    refine kR 20 H rfl fun a H => ?_
    refine zA (zB (zH H rfl (zC (zD ?_))))
    refine kV H (r_row (cs := [.int .i64 n, .slice A1 L.length c1]) (H.ev rfl) (block_range k0) (by kernel_rfl) s70 rfl) rfl fun a H => ?_
    refine op_store1 70 (.tmp 4) (.tmp 42) b2 0 70 (.agg #[.int .i64 n, .slice A1 L.length c1]) _ (H.ev rfl) (H.ev rfl) k2 s70 (by simp [Value.cells]) (by simp [Value.cells, Value.oneCell']) fun w' hb ho kq => ?_; clear k2; have k2 : Block _ b2 70 #[.int .i64 n, .slice A1 L.length c1] := kq; clear kq; replace k0 := block_same k0 (ho _ (by omega)); replace k1 := block_same k1 (ho _ (by omega)); replace hown := ROwn.keep hown (fun q e => ho q (by have := (hown.lt e).1; omega)); replace hBc := le_up hBc (hb _ g2); replace hall := hall.trans (hb _ g2); clear hb ho; refine kl0 H fun a H => ?_
    refine kR 1 H rfl fun a H => ?_
    refine zA (zB (zF (zJ ?_)))
    rw [show takeF n L x = ((n, L), []) from shut_of (by first | exact .inl HRT.out | exact .inr (.inl (by omega)) | exact .inr (.inr (.inl (by omega))) | exact .inr (.inr (.inr (.inl (by omega)))) | exact .inr (.inr (.inr (.inr HHQ.out))))]
    exact q_k_ret_cell2 H rfl rfl rfl k2 U70 rfl s70 ⟨⟨_, _, rfl, ⟨IOwn.row hown, own_fresh hown hBW⟩, ⟨Row.nil, nil_fresh⟩⟩, hall⟩
   ·
    refine kW H rfl (r_lt U3 (H.ev rfl) (H.ev rfl) (dec_f (hcc0))) rfl fun a H => ?_
    refine kR 3 H rfl fun a H => ?_
    refine kW H rfl (r_ld U3 rfl (H.ev rfl) ((Block.cell k1 0).trans rfl)) rfl fun a H => ?_
    refine kR 1 H rfl fun a H => ?_
    refine kW H rfl (r_ld U3 rfl (H.ev rfl) ((Block.cell k0 0).trans rfl)) rfl fun a H => ?_
    refine kW H rfl (r_sub (q := x.1 - n) U3 (H.ev rfl) (H.ev rfl) (by omega) (by omega)) rfl fun a H => ?_
    by_cases hcc1 : (x.1 - n) ≥ 8
    ·
     refine kW H rfl (r_ge U3 (H.ev rfl) evc (dec_t (hcc1))) rfl fun a H => ?_
     refine kR 12 H rfl fun a H => ?_
     refine zA (zB (zH H rfl (zC (zD ?_))))
     refine kV H (r_row (cs := [.int .i64 n, .slice A1 L.length c1]) (H.ev rfl) (block_range k0) (by kernel_rfl) s70 rfl) rfl fun a H => ?_
     refine op_store1 70 (.tmp 4) (.tmp 42) b2 0 70 (.agg #[.int .i64 n, .slice A1 L.length c1]) _ (H.ev rfl) (H.ev rfl) k2 s70 (by simp [Value.cells]) (by simp [Value.cells, Value.oneCell']) fun w' hb ho kq => ?_; clear k2; have k2 : Block _ b2 70 #[.int .i64 n, .slice A1 L.length c1] := kq; clear kq; replace k0 := block_same k0 (ho _ (by omega)); replace k1 := block_same k1 (ho _ (by omega)); replace hown := ROwn.keep hown (fun q e => ho q (by have := (hown.lt e).1; omega)); replace hBc := le_up hBc (hb _ g2); replace hall := hall.trans (hb _ g2); clear hb ho; refine kl0 H fun a H => ?_
     refine kR 1 H rfl fun a H => ?_
     refine zA (zB (zF (zJ ?_)))
     rw [show takeF n L x = ((n, L), []) from shut_of (by first | exact .inl HRT.out | exact .inr (.inl (by omega)) | exact .inr (.inr (.inl (by omega))) | exact .inr (.inr (.inr (.inl (by omega)))) | exact .inr (.inr (.inr (.inr HHQ.out))))]
     exact q_k_ret_cell2 H rfl rfl rfl k2 U70 rfl s70 ⟨⟨_, _, rfl, ⟨IOwn.row hown, own_fresh hown hBW⟩, ⟨Row.nil, nil_fresh⟩⟩, hall⟩
    ·
     refine kW H rfl (r_ge U3 (H.ev rfl) evc (dec_f (hcc1))) rfl fun a H => ?_
     refine kR 3 H rfl fun a H => ?_
     refine kW H rfl (r_ld U3 rfl (H.ev rfl) ((Block.cell k1 0).trans rfl)) rfl fun a H => ?_
     by_cases hcc2 : x.1 ≥ 1073741824
     ·
      refine kW H rfl (r_ge U3 (H.ev rfl) evc (dec_t (hcc2))) rfl fun a H => ?_
      refine kR 7 H rfl fun a H => ?_
      refine zA (zB (zH H rfl (zC (zD ?_))))
      refine kV H (r_row (cs := [.int .i64 n, .slice A1 L.length c1]) (H.ev rfl) (block_range k0) (by kernel_rfl) s70 rfl) rfl fun a H => ?_
      refine op_store1 70 (.tmp 4) (.tmp 42) b2 0 70 (.agg #[.int .i64 n, .slice A1 L.length c1]) _ (H.ev rfl) (H.ev rfl) k2 s70 (by simp [Value.cells]) (by simp [Value.cells, Value.oneCell']) fun w' hb ho kq => ?_; clear k2; have k2 : Block _ b2 70 #[.int .i64 n, .slice A1 L.length c1] := kq; clear kq; replace k0 := block_same k0 (ho _ (by omega)); replace k1 := block_same k1 (ho _ (by omega)); replace hown := ROwn.keep hown (fun q e => ho q (by have := (hown.lt e).1; omega)); replace hBc := le_up hBc (hb _ g2); replace hall := hall.trans (hb _ g2); clear hb ho; refine kl0 H fun a H => ?_
      refine kR 1 H rfl fun a H => ?_
      refine zA (zB (zF (zJ ?_)))
      rw [show takeF n L x = ((n, L), []) from shut_of (by first | exact .inl HRT.out | exact .inr (.inl (by omega)) | exact .inr (.inr (.inl (by omega))) | exact .inr (.inr (.inr (.inl (by omega)))) | exact .inr (.inr (.inr (.inr HHQ.out))))]
      exact q_k_ret_cell2 H rfl rfl rfl k2 U70 rfl s70 ⟨⟨_, _, rfl, ⟨IOwn.row hown, own_fresh hown hBW⟩, ⟨Row.nil, nil_fresh⟩⟩, hall⟩
     ·
      refine kW H rfl (r_ge U3 (H.ev rfl) evc (dec_f (hcc2))) rfl fun a H => ?_
      refine kR 3 H rfl fun a H => ?_
      refine kW H rfl (r_ld U63 rfl (H.ev rfl) ((Block.cell k0 1).trans rfl)) rfl fun a H => ?_
      refine kR 1 H rfl fun a H => ?_
      refine kG H rfl ?_; refine wl_call _ _ _ (contains_any _ _ L x b1 (IOwn.row hown) (by omega) (block_range k1)) (r_call2 cf117 (H.ev rfl) (H.ev rfl)) ?_; rintro e w9 ⟨rfl, hb⟩; refine ⟨_, rfl, ?_⟩; rw [HHQ.out]; replace k0 := Block.ups k0 hb; replace k1 := Block.ups k1 hb; replace k2 := Block.ups k2 hb; replace hown := ROwn.up hown hb; replace hBc := le_up hBc hb; replace hall := hall.tr hb; clear hb; refine kl H rfl fun a H => ?_
      refine kR 1 H rfl fun a H => ?_
      refine zA (zB (zG H rfl (zE (zB (zC (zD ?_))))))
      refine kR 1 H rfl fun a H => ?_
      refine kV H (r_ld U63 rfl (H.ev rfl) ((Block.cell k0 1).trans rfl)) rfl fun a H => ?_
      refine kV H (r_row (cs := [.int .i64 x.1, .int .i64 x.2.1, .int .i64 x.2.2.1, .int .i64 x.2.2.2.1, .int .i64 x.2.2.2.2]) (H.ev rfl) (block_range k1) (by kernel_rfl) s65 rfl) rfl fun a H => ?_
      refine op_litv 63 1 #[(0, .agg #[.int .i64 x.1, .int .i64 x.2.1, .int .i64 x.2.2.1, .int .i64 x.2.2.2.1, .int .i64 x.2.2.2.2])] 65 #[.int .i64 x.1, .int .i64 x.2.1, .int .i64 x.2.2.1, .int .i64 x.2.2.2.1, .int .i64 x.2.2.2.2] (by simp [evc, H.ev (j := 45) rfl]) (fun w => by kernel_rfl) fun w3 b3 hge hb k3 => ?_; have g3 := Nat.le_trans hall.size hge; have d0_3 : b0 < b3 := Nat.lt_of_lt_of_le k0.lt hge; have d1_3 : b1 < b3 := Nat.lt_of_lt_of_le k1.lt hge; have d2_3 : b2 < b3 := Nat.lt_of_lt_of_le k2.lt hge; replace k0 := Block.ups k0 hb; replace k1 := Block.ups k1 hb; replace k2 := Block.ups k2 hb; replace hown := ROwn.up hown hb; replace hBc := le_up hBc hb; replace hall := hall.tr hb; clear hb; clear hge; refine kl H rfl fun a H => ?_
      refine op_append 63 65 (.tmp 44) (.tmp 46) B (.agg #[.int .i64 0, .int .i64 0, .int .i64 0, .int .i64 0, .int .i64 0]) 5 40 _ _ _ (some ⟨b3, 0, none⟩) 1 1 (FV encI [x]) (H.ev rfl) (H.ev rfl) U63 i65 rfl (by omega) hown (by rw [FV_len encI_len]; rfl) (holds_block k3 rfl) (FV_one _ _) (by unfold maxLen; omega) (by omega) hBc fun v2 w9 hown2 _ _ hb2 => ?_; replace k0 := Block.up k0 hb2 e0; replace k1 := Block.up k1 hb2 e1; replace k2 := Block.up k2 hb2 e2; have hown3 := app_own hown2; replace hall := hall.trans (hb2.mono hBW); replace hBc := le_up hBc hb2; clear hown2 hown k3 hb2; obtain ⟨g, cap, rfl, hBg, hgl⟩ := own_form hown3 (ins_len1 L x) (by omega); refine kl H rfl fun a H => ?_
      refine kR 1 H rfl fun a H => ?_
      refine op_store1 63 (.tmp 48) (.tmp 47) b0 1 70 (.slice (some ⟨g, 0, none⟩) (L.length + 1) cap) _ (H.ev rfl) (H.ev rfl) k0 s63 (by simp [Value.cells]) (by simp [Value.cells, Value.oneCell']) fun w' hb ho kq => ?_; clear k0; have k0 : Block _ b0 70 #[.int .i64 n, .slice (some ⟨g, 0, none⟩) (L.length + 1) cap] := kq; clear kq; replace k1 := block_same k1 (ho _ (by omega)); replace k2 := block_same k2 (ho _ (by omega)); replace hBc := le_up hBc (hb _ g0); replace hown3 := ROwn.keep hown3 (fun q e => ho q (by have := (hown3.lt e).1; omega)); replace hall := hall.trans (hb _ g0); clear hb ho; refine kl0 H fun a H => ?_
      refine zA (zB (zC (zD ?_)))
      refine kR 1 H rfl fun a H => ?_
      refine kV H (r_ld U63 rfl (H.ev rfl) ((Block.cell k0 1).trans rfl)) rfl fun a H => ?_
      refine wl_call _ _ _ (sort_any _ B g cap L.length L x hBc rfl (by omega) HR.out.2.2.1 (ins_bound HR.out (by omega) (by omega)) hown3) (r_call2 cf118 (H.ev rfl) rfl) ?_; rintro e w9 ⟨rfl, hown4, hb2⟩; refine ⟨_, rfl, ?_⟩; replace k0 := Block.up k0 hb2 e0; replace k1 := Block.up k1 hb2 e1; replace k2 := Block.up k2 hb2 e2; replace hall := hall.trans (hb2.mono hBW); replace hBc := le_up hBc hb2; clear hb2 hown3; refine kl H rfl fun a H => ?_
      refine zA (zB (zC (zD ?_)))
      refine kR 1 H rfl fun a H => ?_
      refine zA (zB (zC ?_))
      refine wp_block ?_
      have HTK : Hid (takeF n L x = popF n (insI L x)) := Lib.hid (take_open HR.out (by omega) (by omega) (by omega) HHQ.out)
      obtain ⟨hgl', hrow⟩ := own_row_at hown4
      have hlen := ins_len L x
      have hbd0 : 1 ≤ n ∧ n + ((insI L x).length : Nat) ≤ n + 8 := by omega
      refine wp_loop (TkI w B b0 b1 b2 g x (n + 8) (popF n (insI L x))) (fun a w' => q_lenAt w' b0) ⟨insI L x, n, some ⟨g, 0, none⟩, cap, .slice none 0 0, [], H.pick [2, 3, 4, 7], hbd0, by rw [hlen]; exact k0, k1, k2, by rw [hlen]; exact hrow, (fun b o e => by injection e with e; injection e with e; exact e.symm), ROwn.nil, (fun e => by cases e), by simp only [List.length_nil]; omega, hgl', hBc, rfl, hall⟩ ?_
      clear H hall k0 k1 k2 hrow hgl hgl' hown4 hBc hbd0
      rintro a w' ⟨M, nn, A', c', o, NS, H, ⟨hbd1, hbd⟩, k0, k1, k2, hrow, hAg, hno, hog, hNS, hgl, hBc, hpop, hall⟩
      have H0 := H
      cases M with
      | nil =>
       have k0' : Block w' b0 70 #[.int .i64 nn, .slice A' 0 c'] := k0
       replace k0 := k0'
       clear k0'
       have HPE := Lib.hid (popF_nil nn)
       refine zC (zC ?_)
       have hS : STn w b0 nn (.slice A' 0 c') _ := ⟨hall.drew, k0⟩
       refine region_pi (STn w b0 nn (.slice A' 0 c')) [(0, true), (1, true), (2, true), (3, true), (4, true), (5, true), (6, true), (7, true), (8, true), (9, true), (10, true), (11, true), (12, true), (13, true)] (by kernel_rfl) (by kernel_rfl) rfl (by kernel_rfl) hS ?_
       replace k1 : Block (World.drew _) b1 65 _ := k1
       replace k2 : Block (World.drew _) b2 70 _ := k2
       replace hno : NOwn (World.drew _) B o NS := ROwn.keep hno (fun _ _ => rfl)
       replace hrow : IRow (World.drew _) _ _ := Row.keep hrow (fun _ _ _ => rfl)
       replace hgl : g < (World.drew _).heap.size := hgl
       replace hBc : B ≤ (World.drew _).heap.size := hBc
       clear k0 hall
       refine pi_f0 _ rfl (fun w' hS' => r_fld (q := 1) fld70_1 (H.ev rfl) rfl) ?_; refine kp H rfl fun a H => ?_
       refine pi_f0 _ rfl (fun w' hS' => r_ld U63 rfl (H.ev rfl) ((Block.cell (hS'.2) 1).trans rfl)) ?_; refine kp H rfl fun a H => ?_
       refine pi_f0 _ rfl (fun w' hS' => r_len U63 (H.ev rfl)) ?_; refine kp H rfl fun a H => ?_
       refine pi_f0 _ rfl (fun w' hS' => r_gt U3 (H.ev rfl) evc (dec_f (by omega))) ?_; refine kp H rfl fun a H => ?_
       refine pi_f0 _ rfl (fun w' hS' => r_move (H.ev rfl)) ?_; refine kp H rfl fun a H => ?_
       refine pi_s1 rfl rfl rfl (H.ev rfl) ?_; refine kp H rfl fun a H => ?_
       refine pi_s1 rfl rfl rfl (H.ev rfl) ?_; refine kp H rfl fun a H => ?_
       refine pi_s1 rfl rfl rfl (H.ev rfl) ?_; refine kp H rfl fun a H => ?_
       refine pi_s1 rfl rfl rfl (H.ev rfl) ?_; refine kp H rfl fun a H => ?_
       refine pi_s1 rfl rfl rfl (H.ev rfl) ?_; refine kp H rfl fun a H => ?_
       refine pi_s1 rfl rfl rfl (H.ev rfl) ?_; refine kp H rfl fun a H => ?_
       refine pi_s1 rfl rfl rfl (H.ev rfl) ?_; refine kp H rfl fun a H => ?_
       refine pi_s1 rfl rfl rfl (H.ev rfl) ?_; refine kp H rfl fun a H => ?_
       refine pi_f0 _ rfl (fun w' hS' => r_pick_f (H.ev rfl) evc) ?_; refine kp H rfl fun a H => ?_
       refine pi_nil (NoPanic.normal ?_)
       have hall := hS.1
       have k0 := hS.2
       clear hS
       refine zB (zG H rfl (wp_exit (e_then (e_then ?_))))
       refine e_here ?_
       refine zB (zC (zD ?_))
       refine kV H (r_row (cs := [.int .i64 nn, .slice A' 0 c']) (H.ev rfl) (block_range k0) (by kernel_rfl) s70 rfl) rfl fun a H => ?_
       refine kR 1 H rfl fun a H => ?_
       refine op_store1 70 (.tmp 4) (.tmp 82) b2 0 70 (.agg #[.int .i64 nn, .slice A' 0 c']) _ (H.ev rfl) (H.ev rfl) k2 s70 (by simp [Value.cells]) (by simp [Value.cells, Value.oneCell']) fun w' hb ho kq => ?_; clear k2; have k2 : Block _ b2 70 #[.int .i64 nn, .slice A' 0 c'] := kq; clear kq; replace k0 := block_same k0 (ho _ (by omega)); replace k1 := block_same k1 (ho _ (by omega)); replace hrow := Row.keep hrow (fun b o e => ho b (by have := hAg b o e; omega)); replace hno := ROwn.keep hno (fun q e => ho q (by have := (hno.lt e).1; omega)); replace hgl := lt_up hgl (hb _ g2); replace hBc := le_up hBc (hb _ g2); replace hall := hall.trans (hb _ g2); clear hb ho; refine kl0 H fun a H => ?_
       refine kR 1 H rfl fun a H => ?_
       refine zA (zB (zF ?_))
       rw [HTK.out, hpop, HPE.out, List.append_nil]
       exact q_k_ret_cell2 H rfl rfl rfl k2 U70 rfl s70 ⟨⟨_, _, rfl, ⟨hrow, fun A n c e b o' ea => by injection e with e1 e2 e3; rw [← e1] at ea; have := hAg b o' ea; omega⟩, ⟨NOwn.row hno, own_fresh hno hBW⟩⟩, hall⟩
      | cons y M =>
       have hyl : (0 : Nat) < (y :: M).length := by simp
       have hylI : (((y :: M).length : Nat) : Int) > 0 := by simp
       have hyl2 : (y :: M).length = M.length + 1 := rfl
       obtain ⟨b, oo, hA, hr⟩ := flat_some encI_len (row_holds hrow) (by omega) hyl
       subst hA
       have hbg : b = g := hAg b oo rfl
       subst hbg
       simp only [List.getElem_cons_zero] at hr
       have hsl := hrow.slice_le
       have H := H0
       have HK0 := Lib.hid k0
       by_cases hyn : y.1 = nn
       ·
        refine zC (zC ?_)
        have hS : STk w b0 nn (.slice (some ⟨b, oo, none⟩) (y :: M).length c') b oo y _ := ⟨hall.drew, k0, hr⟩
        refine region_pi (STk w b0 nn (.slice (some ⟨b, oo, none⟩) (y :: M).length c') b oo y) [(0, true), (1, true), (2, true), (3, true), (4, true), (5, true), (6, true), (7, true), (8, true), (9, true), (10, true), (11, true), (12, true), (13, true)] (by kernel_rfl) (by kernel_rfl) rfl (by kernel_rfl) hS ?_
        replace k1 : Block (World.drew _) b1 65 _ := k1
        replace k2 : Block (World.drew _) b2 70 _ := k2
        replace hno : NOwn (World.drew _) B o NS := ROwn.keep hno (fun _ _ => rfl)
        replace hrow : IRow (World.drew _) _ _ := Row.keep hrow (fun _ _ _ => rfl)
        replace hgl : b < (World.drew _).heap.size := hgl
        replace hBc : B ≤ (World.drew _).heap.size := hBc
        clear k0 hall
        clear hr
        refine pi_f0 _ rfl (fun w' hS' => r_fld (q := 1) fld70_1 (H.ev rfl) rfl) ?_; refine kp H rfl fun a H => ?_
        refine pi_f0 _ rfl (fun w' hS' => r_ld U63 rfl (H.ev rfl) ((Block.cell (hS'.2.1) 1).trans rfl)) ?_; refine kp H rfl fun a H => ?_
        refine pi_f0 _ rfl (fun w' hS' => r_len U63 (H.ev rfl)) ?_; refine kp H rfl fun a H => ?_
        refine pi_f0 _ rfl (fun w' hS' => r_gt U3 (H.ev rfl) evc (dec_t (hylI))) ?_; refine kp H rfl fun a H => ?_
        refine pi_f0 _ rfl (fun w' hS' => r_move (H.ev rfl)) ?_; refine kp H rfl fun a H => ?_
        refine pi_f1 _ rfl rfl rfl (H.ev rfl) (fun w' hS' => r_fld (q := 1) fld70_1 (H.ev rfl) rfl) ?_; refine kp H rfl fun a H => ?_
        refine pi_f1 _ rfl rfl rfl (H.ev rfl) (fun w' hS' => r_ld U63 rfl (H.ev rfl) ((Block.cell (hS'.2.1) 1).trans rfl)) ?_; refine kp H rfl fun a H => ?_
        refine pi_f1 _ rfl rfl rfl (H.ev rfl) (fun w' hS' => r_idx (j := 0) (q := oo + 0 * 5) U63 s65 (H.ev rfl) evc (by omega) rfl) ?_; refine kp H rfl fun a H => ?_
        refine pi_f1 _ rfl rfl rfl (H.ev rfl) (fun w' hS' => r_fld (q := oo + 0 * 5) fld65_0 (H.ev rfl) rfl) ?_; refine kp H rfl fun a H => ?_
        refine pi_f1 _ rfl rfl rfl (H.ev rfl) (fun w' hS' => r_ld U3 rfl (H.ev rfl) (range_cell (hS'.2.2) 0 rfl)) ?_; refine kp H rfl fun a H => ?_
        refine pi_f1 _ rfl rfl rfl (H.ev rfl) (fun w' hS' => r_fld (q := 0) fld70_0 (H.ev rfl) rfl) ?_; refine kp H rfl fun a H => ?_
        refine pi_f1 _ rfl rfl rfl (H.ev rfl) (fun w' hS' => r_ld U3 rfl (H.ev rfl) ((Block.cell (hS'.2.1) 0).trans rfl)) ?_; refine kp H rfl fun a H => ?_
        refine pi_f1 _ rfl rfl rfl (H.ev rfl) (fun w' hS' => r_eq U3 (H.ev rfl) (H.ev rfl) (dec_t (hyn))) ?_; refine kp H rfl fun a H => ?_
        refine pi_f0 _ rfl (fun w' hS' => r_pick_t (H.ev rfl) (H.ev rfl)) ?_; refine kp H rfl fun a H => ?_
        refine pi_nil (NoPanic.normal ?_)
        have hall := hS.1
        have k0 := hS.2.1
        have hr := hS.2.2
        clear hS
        refine zB (zH H rfl (zE (zB ?_)))
        refine wp_block ?_
        refine zC (zD ?_)
        refine kR 2 H rfl fun a H => ?_
        refine kV H (r_ld U63 rfl (H.ev rfl) ((Block.cell k0 1).trans rfl)) rfl fun a H => ?_
        refine kV H (r_idx (j := 0) (q := oo + 0 * 5) U63 s65 (H.ev rfl) evc (by omega) rfl) rfl fun a H => ?_
        refine kV H (r_fld (q := oo + 0 * 5 + 1) fld65_1 (H.ev rfl) rfl) rfl fun a H => ?_
        refine kV H (r_row (cs := [.int .i64 y.2.1, .int .i64 y.2.2.1, .int .i64 y.2.2.2.1, .int .i64 y.2.2.2.2]) (H.ev rfl) (range_tail hr) (by kernel_rfl) s49 rfl) rfl fun a H => ?_
        refine op_litv 53 1 #[(0, .agg #[.int .i64 y.2.1, .int .i64 y.2.2.1, .int .i64 y.2.2.2.1, .int .i64 y.2.2.2.2])] 49 #[.int .i64 y.2.1, .int .i64 y.2.2.1, .int .i64 y.2.2.2.1, .int .i64 y.2.2.2.2] (by simp [evc, H.ev (j := 71) rfl]) (fun w => by kernel_rfl) fun w4 b4 hge hb k4 => ?_; have g4 := Nat.le_trans hall.size hge; have d0_4 : b0 < b4 := Nat.lt_of_lt_of_le k0.lt hge; have d1_4 : b1 < b4 := Nat.lt_of_lt_of_le k1.lt hge; have d2_4 : b2 < b4 := Nat.lt_of_lt_of_le k2.lt hge; replace k0 := Block.ups k0 hb; replace k1 := Block.ups k1 hb; replace k2 := Block.ups k2 hb; replace hrow := Row.up hrow hb; replace hno := ROwn.up hno hb; replace hgl := lt_up hgl hb; replace hBc := le_up hBc hb; replace hr := range_ups hr hb; replace hall := hall.tr hb; clear hb; clear hge; refine kl H rfl fun a H => ?_
        refine op_append 53 49 (.tmp 66) (.tmp 72) B (.agg #[.int .i64 0, .int .i64 0, .int .i64 0, .int .i64 0]) 4 32 o _ _ (some ⟨b4, 0, none⟩) 1 1 (FV encN [y.2]) (H.ev rfl) (H.ev rfl) U53 i49 rfl (by omega) hno (by rw [FV_len encN_len]; rfl) (holds_block k4 rfl) (FV_one _ _) (by unfold maxLen; omega) (by omega) hBc fun o2 w9 hown2 hg9 hv9 hb2 => ?_; replace k0 := Block.up k0 hb2 e0; replace k1 := Block.up k1 hb2 e1; replace k2 := Block.up k2 hb2 e2; clear hr; replace hrow := Row.keep hrow (fun b' o' e => by have := hAg b' o' e; subst this; exact hg9.block _ hgl (fun e => hog e.symm)); have hog2 := app_ne hv9 hog hgl; have hno2 := app_own hown2; replace hgl := lt_up hgl hb2; replace hBc := le_up hBc hb2; replace hall := hall.trans (hb2.mono hBW); clear hown2 hno k4 hg9 hv9 hb2 hog; have hno := hno2; have hog := hog2; clear hno2 hog2; refine kl H rfl fun a H => ?_
        refine kR 1 H rfl fun a H => ?_
        refine zA (zB (zC (zD ?_)))
        refine kR 1 H rfl fun a H => ?_
        refine kV H (r_ld U63 rfl (H.ev rfl) ((Block.cell k0 1).trans rfl)) rfl fun a H => ?_
        refine kV (v := .slice (slAt (some ⟨b, oo, none⟩) c' 1 5) M.length (c' - 1)) H (run_op_slice U63 (.slice (some ⟨b, oo, none⟩) (y :: M).length c') (some (.int .i64 (1 : Nat))) none none (H.ev rfl) rfl rfl rfl (slice_any 1 (y :: M).length U63 s65 _ _ (.inr rfl) (.inl ⟨rfl, rfl⟩) (by omega) (by omega) rfl (by simp) rfl)) rfl fun a H => ?_
        refine kR 1 H rfl fun a H => ?_
        refine op_store1 63 (.tmp 77) (.tmp 76) b0 1 70 (.slice (slAt (some ⟨b, oo, none⟩) c' 1 5) M.length (c' - 1)) _ (H.ev rfl) (H.ev rfl) k0 s63 (by simp [Value.cells]) (by simp [Value.cells, Value.oneCell']) fun w' hb ho kq => ?_; clear k0; have k0 : Block _ b0 70 #[.int .i64 nn, .slice (slAt (some ⟨b, oo, none⟩) c' 1 5) M.length (c' - 1)] := kq; clear kq; replace k1 := block_same k1 (ho _ (by omega)); replace k2 := block_same k2 (ho _ (by omega)); replace hrow := Row.keep hrow (fun b o e => ho b (by have := hAg b o e; omega)); replace hno := ROwn.keep hno (fun q e => ho q (by have := (hno.lt e).1; omega)); replace hgl := lt_up hgl (hb _ g0); replace hBc := le_up hBc (hb _ g0); replace hall := hall.trans (hb _ g0); clear hb ho; refine kl0 H fun a H => ?_
        refine zA (zB (zD ?_))
        refine kR 1 H rfl fun a H => ?_
        refine kV H (r_ld U3 rfl (H.ev rfl) ((Block.cell k0 0).trans rfl)) rfl fun a H => ?_
        refine kV H (r_add (q := nn + 1) U3 (H.ev rfl) evc (by omega) (by omega)) rfl fun a H => ?_
        refine kR 1 H rfl fun a H => ?_
        refine op_store1 3 (.tmp 81) (.tmp 80) b0 0 70 (.int .i64 (nn + 1)) _ (H.ev rfl) (H.ev rfl) k0 s3 (by simp [Value.cells]) (ints_one [(nn + 1)]) fun w' hb ho kq => ?_; clear k0; have k0 : Block _ b0 70 #[.int .i64 (nn + 1), .slice (slAt (some ⟨b, oo, none⟩) c' 1 5) M.length (c' - 1)] := kq; clear kq; replace k1 := block_same k1 (ho _ (by omega)); replace k2 := block_same k2 (ho _ (by omega)); replace hrow := Row.keep hrow (fun b o e => ho b (by have := hAg b o e; omega)); replace hno := ROwn.keep hno (fun q e => ho q (by have := (hno.lt e).1; omega)); replace hgl := lt_up hgl (hb _ g0); replace hBc := le_up hBc (hb _ g0); replace hall := hall.trans (hb _ g0); clear hb ho; refine kl0 H fun a H => ?_
        refine zA (n_block ?_)
        have hrow2 : IRow _ (.slice (slAt (some ⟨b, oo, none⟩) c' 1 5) M.length (c' - 1)) M := row_tail hrow
        have hAg2 : ∀ b' o', slAt (some ⟨b, oo, none⟩) c' 1 5 = some ⟨b', o', none⟩ → b' = b := fun b' o' e => slAt_block e
        refine zI ⟨⟨M, nn + 1, _, _, o2, NS ++ [y.2], H.pick [2, 3, 4, 7], ⟨by omega, by omega⟩, k0, k1, k2, hrow2, hAg2, hno, hog, by rw [List.length_append]; simp only [List.length_cons, List.length_nil]; omega, hgl, hBc, by rw [hpop, popF_go (M := M) hyn, List.append_assoc]; rfl, hall⟩, ?_⟩
        rw [lenAt_eq k0, lenAt_eq HK0.out]
        simp
       ·
        have HPE := Lib.hid (popF_stop (M := M) hyn)
        refine zC (zC ?_)
        have hS : STk w b0 nn (.slice (some ⟨b, oo, none⟩) (y :: M).length c') b oo y _ := ⟨hall.drew, k0, hr⟩
        refine region_pi (STk w b0 nn (.slice (some ⟨b, oo, none⟩) (y :: M).length c') b oo y) [(0, true), (1, true), (2, true), (3, true), (4, true), (5, true), (6, true), (7, true), (8, true), (9, true), (10, true), (11, true), (12, true), (13, true)] (by kernel_rfl) (by kernel_rfl) rfl (by kernel_rfl) hS ?_
        replace k1 : Block (World.drew _) b1 65 _ := k1
        replace k2 : Block (World.drew _) b2 70 _ := k2
        replace hno : NOwn (World.drew _) B o NS := ROwn.keep hno (fun _ _ => rfl)
        replace hrow : IRow (World.drew _) _ _ := Row.keep hrow (fun _ _ _ => rfl)
        replace hgl : b < (World.drew _).heap.size := hgl
        replace hBc : B ≤ (World.drew _).heap.size := hBc
        clear k0 hall
        clear hr
        refine pi_f0 _ rfl (fun w' hS' => r_fld (q := 1) fld70_1 (H.ev rfl) rfl) ?_; refine kp H rfl fun a H => ?_
        refine pi_f0 _ rfl (fun w' hS' => r_ld U63 rfl (H.ev rfl) ((Block.cell (hS'.2.1) 1).trans rfl)) ?_; refine kp H rfl fun a H => ?_
        refine pi_f0 _ rfl (fun w' hS' => r_len U63 (H.ev rfl)) ?_; refine kp H rfl fun a H => ?_
        refine pi_f0 _ rfl (fun w' hS' => r_gt U3 (H.ev rfl) evc (dec_t (hylI))) ?_; refine kp H rfl fun a H => ?_
        refine pi_f0 _ rfl (fun w' hS' => r_move (H.ev rfl)) ?_; refine kp H rfl fun a H => ?_
        refine pi_f1 _ rfl rfl rfl (H.ev rfl) (fun w' hS' => r_fld (q := 1) fld70_1 (H.ev rfl) rfl) ?_; refine kp H rfl fun a H => ?_
        refine pi_f1 _ rfl rfl rfl (H.ev rfl) (fun w' hS' => r_ld U63 rfl (H.ev rfl) ((Block.cell (hS'.2.1) 1).trans rfl)) ?_; refine kp H rfl fun a H => ?_
        refine pi_f1 _ rfl rfl rfl (H.ev rfl) (fun w' hS' => r_idx (j := 0) (q := oo + 0 * 5) U63 s65 (H.ev rfl) evc (by omega) rfl) ?_; refine kp H rfl fun a H => ?_
        refine pi_f1 _ rfl rfl rfl (H.ev rfl) (fun w' hS' => r_fld (q := oo + 0 * 5) fld65_0 (H.ev rfl) rfl) ?_; refine kp H rfl fun a H => ?_
        refine pi_f1 _ rfl rfl rfl (H.ev rfl) (fun w' hS' => r_ld U3 rfl (H.ev rfl) (range_cell (hS'.2.2) 0 rfl)) ?_; refine kp H rfl fun a H => ?_
        refine pi_f1 _ rfl rfl rfl (H.ev rfl) (fun w' hS' => r_fld (q := 0) fld70_0 (H.ev rfl) rfl) ?_; refine kp H rfl fun a H => ?_
        refine pi_f1 _ rfl rfl rfl (H.ev rfl) (fun w' hS' => r_ld U3 rfl (H.ev rfl) ((Block.cell (hS'.2.1) 0).trans rfl)) ?_; refine kp H rfl fun a H => ?_
        refine pi_f1 _ rfl rfl rfl (H.ev rfl) (fun w' hS' => r_eq U3 (H.ev rfl) (H.ev rfl) (dec_f (hyn))) ?_; refine kp H rfl fun a H => ?_
        refine pi_f0 _ rfl (fun w' hS' => r_pick_t (H.ev rfl) (H.ev rfl)) ?_; refine kp H rfl fun a H => ?_
        refine pi_nil (NoPanic.normal ?_)
        have hall := hS.1
        have k0 := hS.2.1
        have hr := hS.2.2
        clear hS
        refine zB (zG H rfl (wp_exit (e_then (e_then ?_))))
        refine e_here ?_
        refine zB (zC (zD ?_))
        refine kV H (r_row (cs := [.int .i64 nn, .slice (some ⟨b, oo, none⟩) (y :: M).length c']) (H.ev rfl) (block_range k0) (by kernel_rfl) s70 rfl) rfl fun a H => ?_
        refine kR 1 H rfl fun a H => ?_
        refine op_store1 70 (.tmp 4) (.tmp 82) b2 0 70 (.agg #[.int .i64 nn, .slice (some ⟨b, oo, none⟩) (y :: M).length c']) _ (H.ev rfl) (H.ev rfl) k2 s70 (by simp [Value.cells]) (by simp [Value.cells, Value.oneCell']) fun w' hb ho kq => ?_; clear k2; have k2 : Block _ b2 70 #[.int .i64 nn, .slice (some ⟨b, oo, none⟩) (y :: M).length c'] := kq; clear kq; replace k0 := block_same k0 (ho _ (by omega)); replace k1 := block_same k1 (ho _ (by omega)); replace hrow := Row.keep hrow (fun b o e => ho b (by have := hAg b o e; omega)); replace hno := ROwn.keep hno (fun q e => ho q (by have := (hno.lt e).1; omega)); replace hgl := lt_up hgl (hb _ g2); replace hBc := le_up hBc (hb _ g2); replace hall := hall.trans (hb _ g2); clear hb ho; refine kl0 H fun a H => ?_
        refine kR 1 H rfl fun a H => ?_
        refine zA (zB (zF ?_))
        rw [HTK.out, hpop, HPE.out, List.append_nil]
        exact q_k_ret_cell2 H rfl rfl rfl k2 U70 rfl s70 ⟨⟨_, _, rfl, ⟨hrow, fun A n c e b o' ea => by injection e with e1 e2 e3; rw [← e1] at ea; have := hAg b o' ea; omega⟩, ⟨NOwn.row hno, own_fresh hno hBW⟩⟩, hall⟩
  ·
   refine zD ?_
   refine kV H (r_row (cs := [.int .i64 n, .slice A1 L.length c1]) (H.ev rfl) (block_range k0) (by kernel_rfl) s70 rfl) rfl fun a H => ?_
   refine wl_call _ _ _ (q_right_any _ n _ L (IOwn.row hown) (by omega)) (r_call1 cf116 (H.ev rfl)) ?_; rintro e w9 ⟨rfl, hb⟩; refine ⟨_, rfl, ?_⟩; rw [HRT.out]; replace k0 := Block.ups k0 hb; replace k1 := Block.ups k1 hb; replace k2 := Block.ups k2 hb; replace hown := ROwn.up hown hb; replace hBc := le_up hBc hb; replace hall := hall.tr hb; clear hb; refine kl H rfl fun a H => ?_
   refine kV H (r_not (H.ev rfl) rfl) rfl fun a H => ?_
   refine kR 2 H rfl fun a H => ?_
   refine kW H rfl (r_ld U3 rfl (H.ev rfl) ((Block.cell k1 0).trans rfl)) rfl fun a H => ?_
   refine kR 1 H rfl fun a H => ?_
   refine kW H rfl (r_ld U3 rfl (H.ev rfl) ((Block.cell k0 0).trans rfl)) rfl fun a H => ?_
   by_cases hcc3 : x.1 < n
   ·
    refine kW H rfl (r_lt U3 (H.ev rfl) (H.ev rfl) (dec_t (hcc3))) rfl fun a H => ?_
    refine kR 20 H rfl fun a H => ?_
    refine zA (zB (zH H rfl (zC (zD ?_))))
    refine kV H (r_row (cs := [.int .i64 n, .slice A1 L.length c1]) (H.ev rfl) (block_range k0) (by kernel_rfl) s70 rfl) rfl fun a H => ?_
    refine op_store1 70 (.tmp 4) (.tmp 42) b2 0 70 (.agg #[.int .i64 n, .slice A1 L.length c1]) _ (H.ev rfl) (H.ev rfl) k2 s70 (by simp [Value.cells]) (by simp [Value.cells, Value.oneCell']) fun w' hb ho kq => ?_; clear k2; have k2 : Block _ b2 70 #[.int .i64 n, .slice A1 L.length c1] := kq; clear kq; replace k0 := block_same k0 (ho _ (by omega)); replace k1 := block_same k1 (ho _ (by omega)); replace hown := ROwn.keep hown (fun q e => ho q (by have := (hown.lt e).1; omega)); replace hBc := le_up hBc (hb _ g2); replace hall := hall.trans (hb _ g2); clear hb ho; refine kl0 H fun a H => ?_
    refine kR 1 H rfl fun a H => ?_
    refine zA (zB (zF (zJ ?_)))
    rw [show takeF n L x = ((n, L), []) from shut_of (by first | exact .inl HRT.out | exact .inr (.inl (by omega)) | exact .inr (.inr (.inl (by omega))) | exact .inr (.inr (.inr (.inl (by omega)))) | exact .inr (.inr (.inr (.inr HHQ.out))))]
    exact q_k_ret_cell2 H rfl rfl rfl k2 U70 rfl s70 ⟨⟨_, _, rfl, ⟨IOwn.row hown, own_fresh hown hBW⟩, ⟨Row.nil, nil_fresh⟩⟩, hall⟩
   ·
    refine kW H rfl (r_lt U3 (H.ev rfl) (H.ev rfl) (dec_f (hcc3))) rfl fun a H => ?_
    refine kR 3 H rfl fun a H => ?_
    refine kW H rfl (r_ld U3 rfl (H.ev rfl) ((Block.cell k1 0).trans rfl)) rfl fun a H => ?_
    refine kR 1 H rfl fun a H => ?_
    refine kW H rfl (r_ld U3 rfl (H.ev rfl) ((Block.cell k0 0).trans rfl)) rfl fun a H => ?_
    refine kW H rfl (r_sub (q := x.1 - n) U3 (H.ev rfl) (H.ev rfl) (by omega) (by omega)) rfl fun a H => ?_
    by_cases hcc4 : (x.1 - n) ≥ 8
    ·
     refine kW H rfl (r_ge U3 (H.ev rfl) evc (dec_t (hcc4))) rfl fun a H => ?_
     refine kR 12 H rfl fun a H => ?_
     refine zA (zB (zH H rfl (zC (zD ?_))))
     refine kV H (r_row (cs := [.int .i64 n, .slice A1 L.length c1]) (H.ev rfl) (block_range k0) (by kernel_rfl) s70 rfl) rfl fun a H => ?_
     refine op_store1 70 (.tmp 4) (.tmp 42) b2 0 70 (.agg #[.int .i64 n, .slice A1 L.length c1]) _ (H.ev rfl) (H.ev rfl) k2 s70 (by simp [Value.cells]) (by simp [Value.cells, Value.oneCell']) fun w' hb ho kq => ?_; clear k2; have k2 : Block _ b2 70 #[.int .i64 n, .slice A1 L.length c1] := kq; clear kq; replace k0 := block_same k0 (ho _ (by omega)); replace k1 := block_same k1 (ho _ (by omega)); replace hown := ROwn.keep hown (fun q e => ho q (by have := (hown.lt e).1; omega)); replace hBc := le_up hBc (hb _ g2); replace hall := hall.trans (hb _ g2); clear hb ho; refine kl0 H fun a H => ?_
     refine kR 1 H rfl fun a H => ?_
     refine zA (zB (zF (zJ ?_)))
     rw [show takeF n L x = ((n, L), []) from shut_of (by first | exact .inl HRT.out | exact .inr (.inl (by omega)) | exact .inr (.inr (.inl (by omega))) | exact .inr (.inr (.inr (.inl (by omega)))) | exact .inr (.inr (.inr (.inr HHQ.out))))]
     exact q_k_ret_cell2 H rfl rfl rfl k2 U70 rfl s70 ⟨⟨_, _, rfl, ⟨IOwn.row hown, own_fresh hown hBW⟩, ⟨Row.nil, nil_fresh⟩⟩, hall⟩
    ·
     refine kW H rfl (r_ge U3 (H.ev rfl) evc (dec_f (hcc4))) rfl fun a H => ?_
     refine kR 3 H rfl fun a H => ?_
     refine kW H rfl (r_ld U3 rfl (H.ev rfl) ((Block.cell k1 0).trans rfl)) rfl fun a H => ?_
     by_cases hcc5 : x.1 ≥ 1073741824
     ·
      refine kW H rfl (r_ge U3 (H.ev rfl) evc (dec_t (hcc5))) rfl fun a H => ?_
      refine kR 7 H rfl fun a H => ?_
      refine zA (zB (zH H rfl (zC (zD ?_))))
      refine kV H (r_row (cs := [.int .i64 n, .slice A1 L.length c1]) (H.ev rfl) (block_range k0) (by kernel_rfl) s70 rfl) rfl fun a H => ?_
      refine op_store1 70 (.tmp 4) (.tmp 42) b2 0 70 (.agg #[.int .i64 n, .slice A1 L.length c1]) _ (H.ev rfl) (H.ev rfl) k2 s70 (by simp [Value.cells]) (by simp [Value.cells, Value.oneCell']) fun w' hb ho kq => ?_; clear k2; have k2 : Block _ b2 70 #[.int .i64 n, .slice A1 L.length c1] := kq; clear kq; replace k0 := block_same k0 (ho _ (by omega)); replace k1 := block_same k1 (ho _ (by omega)); replace hown := ROwn.keep hown (fun q e => ho q (by have := (hown.lt e).1; omega)); replace hBc := le_up hBc (hb _ g2); replace hall := hall.trans (hb _ g2); clear hb ho; refine kl0 H fun a H => ?_
      refine kR 1 H rfl fun a H => ?_
      refine zA (zB (zF (zJ ?_)))
      rw [show takeF n L x = ((n, L), []) from shut_of (by first | exact .inl HRT.out | exact .inr (.inl (by omega)) | exact .inr (.inr (.inl (by omega))) | exact .inr (.inr (.inr (.inl (by omega)))) | exact .inr (.inr (.inr (.inr HHQ.out))))]
      exact q_k_ret_cell2 H rfl rfl rfl k2 U70 rfl s70 ⟨⟨_, _, rfl, ⟨IOwn.row hown, own_fresh hown hBW⟩, ⟨Row.nil, nil_fresh⟩⟩, hall⟩
     ·
      refine kW H rfl (r_ge U3 (H.ev rfl) evc (dec_f (hcc5))) rfl fun a H => ?_
      refine kR 3 H rfl fun a H => ?_
      refine kW H rfl (r_ld U63 rfl (H.ev rfl) ((Block.cell k0 1).trans rfl)) rfl fun a H => ?_
      refine kR 1 H rfl fun a H => ?_
      refine kG H rfl ?_; refine wl_call _ _ _ (contains_any _ _ L x b1 (IOwn.row hown) (by omega) (block_range k1)) (r_call2 cf117 (H.ev rfl) (H.ev rfl)) ?_; rintro e w9 ⟨rfl, hb⟩; refine ⟨_, rfl, ?_⟩; rw [HHQ.out]; replace k0 := Block.ups k0 hb; replace k1 := Block.ups k1 hb; replace k2 := Block.ups k2 hb; replace hown := ROwn.up hown hb; replace hBc := le_up hBc hb; replace hall := hall.tr hb; clear hb; refine kl H rfl fun a H => ?_
      refine kR 1 H rfl fun a H => ?_
      refine zA (zB (zH H rfl (zC (zD ?_))))
      refine kV H (r_row (cs := [.int .i64 n, .slice A1 L.length c1]) (H.ev rfl) (block_range k0) (by kernel_rfl) s70 rfl) rfl fun a H => ?_
      refine op_store1 70 (.tmp 4) (.tmp 42) b2 0 70 (.agg #[.int .i64 n, .slice A1 L.length c1]) _ (H.ev rfl) (H.ev rfl) k2 s70 (by simp [Value.cells]) (by simp [Value.cells, Value.oneCell']) fun w' hb ho kq => ?_; clear k2; have k2 : Block _ b2 70 #[.int .i64 n, .slice A1 L.length c1] := kq; clear kq; replace k0 := block_same k0 (ho _ (by omega)); replace k1 := block_same k1 (ho _ (by omega)); replace hown := ROwn.keep hown (fun q e => ho q (by have := (hown.lt e).1; omega)); replace hBc := le_up hBc (hb _ g2); replace hall := hall.trans (hb _ g2); clear hb ho; refine kl0 H fun a H => ?_
      refine kR 1 H rfl fun a H => ?_
      refine zA (zB (zF (zJ ?_)))
      rw [show takeF n L x = ((n, L), []) from shut_of (by first | exact .inl HRT.out | exact .inr (.inl (by omega)) | exact .inr (.inr (.inl (by omega))) | exact .inr (.inr (.inr (.inl (by omega)))) | exact .inr (.inr (.inr (.inr HHQ.out))))]
      exact q_k_ret_cell2 H rfl rfl rfl k2 U70 rfl s70 ⟨⟨_, _, rfl, ⟨IOwn.row hown, own_fresh hown hBW⟩, ⟨Row.nil, nil_fresh⟩⟩, hall⟩
theorem q_k_ret_cell {P : Program} {a : Act} {w : World} {n : Nat} {l : List (Nat × Value)} {fn : Func} {R : Ending → World → Prop} {p : Tmp} {ty : TypeId} {g : Nat} {t : TypeId} {C : Array Value} {ds : TypeDesc} (H : Kn a n l) (hf : fn.results = #[.cell p ty]) (hp : lk l p = some (.pointer (some ⟨g, 0, none⟩)))
  (hg : Block w g t C) (hu : P.underlying ty = some ds) (hd : (match ds with | .struct _ | .array _ _ => true | _ => false) = true) (hi : (P.info? ty).map (·.size) = some C.size) (h : R (.returned (.agg C)) w) : bodyPost P fn R .ret a w :=
 ⟨H.defers, _, res_row hf a.tmps w g t C ds (H.at_ p _ hp) hg hu hd hi, h⟩
/-- the bits of what waits -/
def ackS (n : Int) (L : List It) : Nat := (L.map fun y => 2 ^ (y.1 - n - 1).toNat).sum
def ackF (n : Int) (L : List It) : Int × Int := if q_rightF n L = true then (n - 1, (ackS n L : Nat)) else (0, 0)
theorem ack_next (n : Int) {L : List It} {k : Nat} {y : It} (hy : L[k]? = some y) : ackS n (L.take (k + 1)) = ackS n (L.take k) + 2 ^ (y.1 - n - 1).toNat := by
 obtain ⟨hk, rfl⟩ := List.getElem?_eq_some_iff.1 hy
 unfold ackS
 rw [List.take_succ_eq_append_getElem hk, List.map_append, List.sum_append]
 simp
theorem ack_lt {n : Int} {L : List It} (h : RightL n L) : ∀ (k E : Nat), k ≤ L.length → (∀ (j : Nat) y, j < k → L[j]? = some y → (y.1 - n - 1).toNat < E) → ackS n (L.take k) < 2 ^ E
 | 0, E, _, _ => by have : 0 < 2 ^ E := Nat.two_pow_pos E; simpa [ackS] using this
 | k + 1, E, hk, hE => by
  have hy : L[k]? = some L[k] := List.getElem?_eq_getElem (by omega)
  have ih := ack_lt h k (L[k].1 - n - 1).toNat (by omega) fun j z hj hz => by
   obtain ⟨hj', rfl⟩ := List.getElem?_eq_some_iff.1 hz
   have := List.pairwise_iff_getElem.1 h.2.2.1 j k hj' (by omega) hj
   have := h.2.2.2 _ (List.getElem_mem hj')
   omega
  have he := hE k _ (by omega) hy
  rw [ack_next n hy]
  have h2 : 2 ^ ((L[k].1 - n - 1).toNat + 1) ≤ 2 ^ E := Nat.pow_le_pow_right (by omega) he
  rw [Nat.pow_succ] at h2
  omega
theorem ack_bound {n : Int} {L : List It} {k : Nat} {y : It} (h : RightL n L) (hy : L[k]? = some y) : ackS n (L.take k) < 2 ^ (y.1 - n - 1).toNat := by
 obtain ⟨hk, rfl⟩ := List.getElem?_eq_some_iff.1 hy
 refine ack_lt h k _ (by omega) fun j z hj hz => ?_
 obtain ⟨hj', rfl⟩ := List.getElem?_eq_some_iff.1 hz
 have := List.pairwise_iff_getElem.1 h.2.2.1 j k hj' hk hj
 have := h.2.2.2 _ (List.getElem_mem hj')
 omega
theorem pow_le {q : Nat} (h : q ≤ 6) : 2 ^ q ≤ 64 := by
 have : 2 ^ q ≤ 2 ^ 6 := Nat.pow_le_pow_right (by omega) h
 omega
theorem r_shl1 {P : Program} {a : Act} {w : World} {d : Option Tmp} {tt : TypeId} {ps : String} {af : Array Edge} {gd : Option (Nat × Bool)} {y : Operand} {q : Nat} {t t2 : TypeId} (ht : P.underlying t = some (.int .i64)) (hy : a.eval y = .int .i64 (q : Nat)) (hq : q ≤ 6) : (execOp a.eval ⟨d, .binOp .shl t (.const (.int .i64 1)) y t2, tt, ps, af, gd⟩).run P w = .ok (.value (.int .i64 (2 ^ q : Nat))) w := by
 have hc : q = 0 ∨ q = 1 ∨ q = 2 ∨ q = 3 ∨ q = 4 ∨ q = 5 ∨ q = 6 := by omega
 unfold execOp
 simp only [hy]
 rcases hc with rfl | rfl | rfl | rfl | rfl | rfl | rfl <;> go_simp <;> decide
theorem or_add : ∀ (q : Fin 7) (s : Fin 64), s.1 < 2 ^ q.1 → bits .or .i64 ((s.1 : Nat) : Int) ((2 ^ q.1 : Nat) : Int) = ((s.1 + 2 ^ q.1 : Nat) : Int) := by decide
theorem r_or1 {P : Program} {a : Act} {w : World} {d : Option Tmp} {tt : TypeId} {ps : String} {af : Array Edge} {gd : Option (Nat × Bool)} {x y : Operand} {s q : Nat} {t t2 : TypeId} (ht : P.underlying t = some (.int .i64)) (hx : a.eval x = .int .i64 (s : Nat)) (hy : a.eval y = .int .i64 (2 ^ q : Nat)) (hq : q ≤ 6) (hs : s < 2 ^ q) : (execOp a.eval ⟨d, .binOp .or t x y t2, tt, ps, af, gd⟩).run P w = .ok (.value (.int .i64 (s + 2 ^ q : Nat))) w := by
 have hp := pow_le hq
 have h := or_add ⟨q, by omega⟩ ⟨s, by omega⟩ hs
 unfold execOp
 simp only [hx, hy]
 go_simp
 exact h
theorem start_any (w : World) : Calls Tryz.prog 86 #[] w fun e w' => e = .returned (.agg #[.int .i64 1, .slice none 0 0]) ∧ Below w.heap.size w w' := by
 have hall := Below.refl w.heap.size w
 refine K_enter 2 Tryz.func86 rfl rfl fun a H => ?_
 replace H := H.pick []
 refine zC (zD ?_)
 refine op_alloc 70 #[.int .i64 0, .slice none 0 0] z70 fun w0 b0 hge hb k0 => ?_; have g0 := Nat.le_trans hall.size hge; replace hall := hall.tr hb; clear hb hge; refine kl H rfl fun a H => ?_
 refine zA (zB (zC (zD ?_)))
 refine kV H (r_build #[(0, .int .i64 1)] (.agg #[.int .i64 1, .slice none 0 0]) (by simp [evc]) (fun w => by kernel_rfl)) rfl fun a H => ?_
 refine op_store1 70 (.tmp 0) (.tmp 1) b0 0 70 (.agg #[.int .i64 1, .slice none 0 0]) _ (H.ev rfl) (H.ev rfl) k0 s70 (by simp [Value.cells]) (by simp [Value.cells, Value.oneCell']) fun w' hb ho kq => ?_; clear k0; have k0 : Block _ b0 70 #[.int .i64 1, .slice none 0 0] := kq; clear kq; replace hall := hall.trans (hb _ g0); clear hb ho; refine kl0 H fun a H => ?_
 refine zA (zB (zF ?_))
 exact q_k_ret_cell H rfl rfl k0 U70 rfl s70 ⟨rfl, hall⟩
def Ac14 (W : World) (b0 : Nat) (n : Int) (A : Option Addr) (c : Nat) (L : List It) (a : Act) (w : World) : Prop :=
 ∃ k : Nat, Kn a 30 [(1, .pointer (some ⟨b0, 0, none⟩)), (3, .int .i64 (ackS n (L.take k) : Nat)), (10, .slice A L.length c), (11, .int .i64 (L.length : Nat)), (12, .int .i64 (k : Nat))] ∧ k ≤ L.length ∧ Block w b0 70 #[.int .i64 n, .slice A L.length c] ∧ Below W.heap.size W w
set_option maxHeartbeats 4000000 in
theorem ack_any (w : World) (n : Int) (v : Value) (L : List It) (h0 : IRow w v L) (hn : L.length ≤ 9223372036854775807) :
  Calls Tryz.prog 90 #[.agg #[.int .i64 n, v]] w fun e w' => e = .returned (.tuple #[.int .i64 (ackF n L).1, .int .i64 (ackF n L).2]) ∧ Below w.heap.size w w' := by
 obtain ⟨A, c, rfl, h1, h2, h3, hh⟩ := h0
 have h : Hid (IRow w (.slice A L.length c) L) := Lib.hid ⟨A, c, rfl, h1, h2, h3, hh⟩
 replace hh := Lib.hid hh
 have hall := Below.refl w.heap.size w
 cases hrt : q_rightF n L
 ·
  refine K_enter 30 Tryz.func90 rfl rfl fun a H => ?_
  replace H := H.pick [0]
  refine zC (zD ?_)
  refine op_box 70 _ #[.int .i64 n, .slice A L.length c] (H.ev rfl) fun w0 b0 hge hb k0 => ?_; have g0 := Nat.le_trans hall.size hge; replace hall := hall.tr hb; clear hb; clear hge; refine kl H rfl fun a H => ?_
  refine kR 2 H rfl fun a H => ?_
  refine zA (zB (zC (zC (zD ?_))))
  refine kV H (r_row (cs := [.int .i64 n, .slice A L.length c]) (H.ev rfl) (block_range k0) (by kernel_rfl) s70 rfl) rfl fun a H => ?_
  refine wl_call _ _ _ (q_right_any _ n _ L (Row.up h.out hall) (by omega)) (r_call1 cf116 (H.ev rfl)) ?_; rintro e w9 ⟨rfl, hb⟩; refine ⟨_, rfl, ?_⟩; rw [hrt]; replace k0 := Block.ups k0 hb; replace hall := hall.tr hb; clear hb; refine kl H rfl fun a H => ?_
  refine kV H (r_not (H.ev rfl) rfl) rfl fun a H => ?_
  refine zA (zB (zH H rfl (zC (zD ?_))))
  refine kR 2 H rfl fun a H => ?_
  refine zA (zB (zF (zJ ?_)))
  exact k_ret2 H rfl rfl rfl ⟨by rw [show ackF n L = (0, 0) from if_neg (by rw [hrt]; simp)], hall⟩
 ·
  have HR : Hid (RightL n L) := Lib.hid (of_decide_eq_true hrt)
  have hn1 := HR.out.1
  have hn2 := HR.out.2.1
  have HRT := Lib.hid hrt
  refine K_enter 30 Tryz.func90 rfl rfl fun a H => ?_
  replace H := H.pick [0]
  refine zC (zD ?_)
  refine op_box 70 _ #[.int .i64 n, .slice A L.length c] (H.ev rfl) fun w0 b0 hge hb k0 => ?_; have g0 := Nat.le_trans hall.size hge; replace hall := hall.tr hb; clear hb; clear hge; refine kl H rfl fun a H => ?_
  refine kR 2 H rfl fun a H => ?_
  refine zA (zB (zC (zC (zD ?_))))
  refine kV H (r_row (cs := [.int .i64 n, .slice A L.length c]) (H.ev rfl) (block_range k0) (by kernel_rfl) s70 rfl) rfl fun a H => ?_
  refine wl_call _ _ _ (q_right_any _ n _ L (Row.up h.out hall) (by omega)) (r_call1 cf116 (H.ev rfl)) ?_; rintro e w9 ⟨rfl, hb⟩; refine ⟨_, rfl, ?_⟩; rw [hrt]; replace k0 := Block.ups k0 hb; replace hall := hall.tr hb; clear hb; refine kl H rfl fun a H => ?_
  refine kV H (r_not (H.ev rfl) rfl) rfl fun a H => ?_
  refine zA (zB (zG H rfl (zE (zB (zC (zC (zD ?_)))))))
  refine kR 1 H rfl fun a H => ?_
  refine kV H (r_ld U63 rfl (H.ev rfl) ((Block.cell k0 1).trans rfl)) rfl fun a H => ?_
  refine kV H (r_len U63 (H.ev rfl)) rfl fun a H => ?_
  refine kR 1 H rfl fun a H => ?_
  refine zA (zB ?_)
  refine wp_block ?_
  refine wp_loop (Ac14 w b0 n A c L) (fun a _ => L.length - (intOf (a.eval (.tmp 12))).toNat) ⟨0, H.pick [1, 3, 10, 11, 12], by omega, k0, hall⟩ ?_
  clear H hall k0
  rintro a w' ⟨k, H, hk, k0, hall⟩
  have H0 := H
  by_cases hlt : k < L.length
  ·
   obtain ⟨b, o, hA, hr⟩ := flat_some encI_len hh.out (by omega) hlt
   subst hA
   have hy : L[k]? = some L[k] := List.getElem?_eq_getElem hlt
   have hbnd := HR.out.2.2.2 _ (List.getElem_mem hlt)
   have hS1 := ack_next n hy
   have hS2 := ack_bound HR.out hy
   have HRG := Lib.hid hr
   generalize L[k] = y at *
   obtain ⟨q, hq⟩ : ∃ q : Nat, y.1 - n - 1 = q := ⟨(y.1 - n - 1).toNat, by omega⟩
   have hq6 : q ≤ 6 := by omega
   have hqn : (y.1 - n - 1).toNat = q := by omega
   rw [hqn] at hS1 hS2
   generalize ackS n (L.take k) = sk at *
   have HS1 := Lib.hid hS1
   have hp7 := pow_le hq6
   clear hy hr hqn hS1
   have H := H0
   refine zC (zD ?_)
   refine kV H (r_lt U3 (H.ev rfl) (H.ev rfl) (dec_t (by omega))) rfl fun a H => ?_
   refine zA (zB (zC (zH H rfl (zE (zB (zC ?_))))))
   refine wp_block ?_
   refine zC (zD ?_)
   refine kV H (r_idx (j := k) (q := o + k * 5) U63 s65 (H.ev rfl) (H.ev rfl) (by omega) rfl) rfl fun a H => ?_
   refine kV H (r_row (cs := [.int .i64 y.1, .int .i64 y.2.1, .int .i64 y.2.2.1, .int .i64 y.2.2.2.1, .int .i64 y.2.2.2.2]) (H.ev rfl) (range_ups HRG.out hall) (by kernel_rfl) s65 rfl) rfl fun a H => ?_
   refine op_new 65 5 (.tmp 15) #[.int .i64 y.1, .int .i64 y.2.1, .int .i64 y.2.2.1, .int .i64 y.2.2.2.1, .int .i64 y.2.2.2.2] _ z65 s65 rfl (ints_one [y.1, y.2.1, y.2.2.1, y.2.2.2.1, y.2.2.2.2]) (fun p => (H.put 5 p rfl).ev rfl) (fun p => (H.put 5 p rfl).ev rfl) fun w1 b1 hge hb k1 => ?_; have g1 := Nat.le_trans hall.size hge; replace k0 := Block.ups k0 hb; replace hall := hall.tr hb; clear hb; clear hge; refine kl H rfl fun a H => ?_
   refine zA (zB (zD ?_))
   refine kR 2 H rfl fun a H => ?_
   refine kV H (r_ld U3 rfl (H.ev rfl) ((Block.cell k1 0).trans rfl)) rfl fun a H => ?_
   refine kR 1 H rfl fun a H => ?_
   refine kV H (r_ld U3 rfl (H.ev rfl) ((Block.cell k0 0).trans rfl)) rfl fun a H => ?_
   refine kV H (r_sub (q := y.1 - n) U3 (H.ev rfl) (H.ev rfl) (by omega) (by omega)) rfl fun a H => ?_
   refine kV (v := .int .i64 (q : Nat)) H (r_sub (q := ((q : Nat) : Int)) U3 (H.ev rfl) evc (by omega) (by omega)) rfl fun a H => ?_
   refine kV (v := .int .i64 (2 ^ q : Nat)) H (r_shl1 U3 (H.ev rfl) hq6) rfl fun a H => ?_
   refine kV (v := .int .i64 (sk + 2 ^ q : Nat)) H (r_or1 U3 (H.ev rfl) (H.ev rfl) hq6 hS2) rfl fun a H => ?_
   refine kR 1 H rfl fun a H => ?_
   refine zA (n_block (zB (zD ?_)))
   refine kV H (r_add (q := ((k + 1 : Nat) : Int)) U3 (H.ev rfl) evc (by omega) (by omega)) rfl fun a H => ?_
   refine kR 1 H rfl fun a H => ?_
   refine zA ?_
   replace H := H.pick [1, 3, 10, 11, 12]
   rw [← HS1.out] at H
   refine zI ⟨⟨k + 1, H, by omega, k0, hall⟩, ?_⟩
   rw [H.ev (j := 12) rfl, H0.ev (j := 12) rfl]
   simp only [intOf]
   omega
  ·
   obtain rfl : k = L.length := by omega
   refine zC (zD ?_)
   refine kV H (r_lt U3 (H.ev rfl) (H.ev rfl) (dec_f (by omega))) rfl fun a H => ?_
   refine zA (zB (zC (zG H rfl (wp_exit (e_then (e_then ?_))))))
   refine e_here ?_
   refine zB (zC (zD ?_))
   refine kR 1 H rfl fun a H => ?_
   refine kV H (r_ld U3 rfl (H.ev rfl) ((Block.cell k0 0).trans rfl)) rfl fun a H => ?_
   refine kV H (r_sub (q := n - 1) U3 (H.ev rfl) evc (by omega) (by omega)) rfl fun a H => ?_
   refine kR 3 H rfl fun a H => ?_
   refine zA (zB (zF ?_))
   exact k_ret2 H rfl rfl rfl ⟨by rw [show ackF n L = (n - 1, ((ackS n L : Nat) : Int)) from if_pos hrt, List.take_length], hall⟩
section
theorem pop_spec : ∀ (M : List It) (n : Int), ∃ j : Nat, j ≤ M.length ∧ popF n M = ((n + j, M.drop j), (M.take j).map (·.2))
 | [], n => ⟨0, by simp, by simp [popF]⟩
 | y :: M, n => by
  by_cases h : y.1 = n
  ·
   obtain ⟨j, hj, e⟩ := pop_spec M (n + 1)
   refine ⟨j + 1, by simp; omega, ?_⟩
   rw [popF_go h, e]
   simp
   omega
  · exact ⟨0, by simp, by rw [popF_stop h]; simp⟩
theorem pop_len (M : List It) (n : Int) : (popF n M).1.2.length + (popF n M).2.length = M.length ∧ (popF n M).1.1 = n + ((popF n M).2.length : Nat) := by
 obtain ⟨j, hj, e⟩ := pop_spec M n
 rw [e]
 simp
 omega
theorem right_pop : ∀ (M : List It) (n : Int), 1 ≤ n → n ≤ 1073741824 → M.Pairwise (fun a b => a.1 < b.1) → (∀ y ∈ M, n ≤ y.1 ∧ y.1 - n < 8 ∧ y.1 < 1073741824) → RightL (popF n M).1.1 (popF n M).1.2
 | [], n, h1, h2, _, _ => ⟨h1, h2, .nil, by simp [popF]⟩
 | y :: M, n, h1, h2, hp, hb => by
  have hy := hb y (List.mem_cons_self ..)
  have hp' := List.pairwise_cons.1 hp
  by_cases h : y.1 = n
  ·
   rw [popF_go h]
   exact right_pop M (n + 1) (by omega) (by omega) hp'.2 fun z hz => by
    have a1 := hp'.1 z hz
    have a2 := hb z (List.mem_cons_of_mem _ hz)
    omega
  ·
   rw [popF_stop h]
   show RightL n (y :: M)
   refine ⟨h1, h2, hp, fun z hz => ?_⟩
   rcases List.mem_cons.1 hz with rfl | hz
   · omega
   ·
    have a1 := hp'.1 z hz
    have a2 := hb z (List.mem_cons_of_mem _ hz)
    omega
theorem ins_mem {L : List It} {x y : It} : y ∈ insI L x ↔ y = x ∨ y ∈ L := by
 unfold insI
 rw [List.mem_append, List.mem_cons, List.mem_filter, List.mem_filter]
 constructor
 ·
  rintro (⟨h, _⟩ | rfl | ⟨h, _⟩)
  · exact .inr h
  · exact .inl rfl
  · exact .inr h
 ·
  rintro (rfl | h)
  · exact .inr (.inl rfl)
  ·
   by_cases e : x.1 < y.1
   · exact .inr (.inr ⟨h, by simp [e]⟩)
   · exact .inl ⟨h, by simp; omega⟩
theorem has_no {L : List It} {q : Int} : hasQ L q = false ↔ ∀ y ∈ L, y.1 ≠ q := by
 unfold hasQ
 rw [List.any_eq_false]
 simp
theorem ins_sorted {L : List It} {x : It} (hS : L.Pairwise (fun a b => a.1 < b.1)) (hq : hasQ L x.1 = false) : (insI L x).Pairwise (fun a b => a.1 < b.1) := by
 rw [has_no] at hq
 unfold insI
 rw [List.pairwise_append, List.pairwise_cons]
 refine ⟨hS.filter _, ⟨fun y hy => ?_, hS.filter _⟩, fun y hy z hz => ?_⟩
 ·
  have := (List.mem_filter.1 hy).2
  simpa using this
 ·
  obtain ⟨h1, h2⟩ := List.mem_filter.1 hy
  have h2 := of_decide_eq_true h2
  have h3 := hq y h1
  rcases List.mem_cons.1 hz with rfl | hz
  · omega
  ·
   have := (List.mem_filter.1 hz).2
   have := of_decide_eq_true this
   omega
section
variable {n : Int} {L : List It} {x : It}
theorem take_shut (h : ShutP n L x) : takeF n L x = ((n, L), []) := if_pos h
theorem take_go (h : ¬ ShutP n L x) : takeF n L x = popF n (insI L x) := if_neg h
theorem open_facts (h : ¬ ShutP n L x) : RightL n L ∧ n ≤ x.1 ∧ x.1 - n < 8 ∧ x.1 < 1073741824 ∧ hasQ L x.1 = false := by
 unfold ShutP at h
 refine ⟨of_decide_eq_true ?_, by omega, by omega, by omega, ?_⟩
 ·
  cases e : q_rightF n L with
  | true => exact e
  | false => exact absurd (.inl e) h
 ·
  cases e : hasQ L x.1 with
  | false => rfl
  | true => exact absurd (.inr (.inr (.inr (.inr e)))) h
theorem ins_range (h : ¬ ShutP n L x) : (insI L x).Pairwise (fun a b => a.1 < b.1) ∧ ∀ y ∈ insI L x, n ≤ y.1 ∧ y.1 - n < 8 ∧ y.1 < 1073741824 := by
 obtain ⟨hR, h1, h2, h3, h4⟩ := open_facts h
 refine ⟨ins_sorted hR.2.2.1 h4, fun y hy => ?_⟩
 rcases ins_mem.1 hy with rfl | hy
 · omega
 · have := hR.2.2.2 y hy; omega
theorem right_take (hR : RightL n L) : RightL (takeF n L x).1.1 (takeF n L x).1.2 := by
 by_cases h : ShutP n L x
 · rw [take_shut h]; exact hR
 ·
  rw [take_go h]
  obtain ⟨h1, h2⟩ := ins_range h
  exact right_pop _ n hR.1 hR.2.1 h1 h2
end
end
end Go.Proofs.YtbnmpoonkjlkjaaGreat
