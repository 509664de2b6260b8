/- Client: part E of the proof. -/
import Derived.Test.YtbnmpoonkjlkjaaGreatXD
import Derived.Laws.Cover3
namespace Go.Proofs.YtbnmpoonkjlkjaaGreat
open Go.RowKit
set_option linter.unusedVariables false
set_option linter.unusedSimpArgs false
theorem hin_next {p : Pkt} {L : List (Nat × Nat × Nat × Nat)} {i : Nat} {s : Nat × Nat × Nat × Nat} (h : ∀ j s, j < i → L[j]? = some s → ((s.2.2.1 : Nat) : Int) ≤ p.fld (atF s.1) ∧ p.fld (atF s.1) ≤ ((s.2.2.2 : Nat) : Int)) (hs : L[i]? = some s)
  (h1 : ((s.2.2.1 : Nat) : Int) ≤ p.fld (atF s.1)) (h2 : p.fld (atF s.1) ≤ ((s.2.2.2 : Nat) : Int)) : ∀ j s, j < i + 1 → L[j]? = some s → ((s.2.2.1 : Nat) : Int) ≤ p.fld (atF s.1) ∧ p.fld (atF s.1) ≤ ((s.2.2.2 : Nat) : Int) := by
 intro j t hj ht
 by_cases e : j = i
 ·
  subst e
  rw [hs] at ht
  injection ht with ht
  subst ht
  exact ⟨h1, h2⟩
 · exact h j t (by omega) ht
theorem sealed_t (w : World) (k : Int) (h : 2 ≤ k ∧ k ≤ 4) : Calls Tryz.prog 64 #[.int .i64 k] w fun e w' => e = .returned (.bool true) ∧ Below w.heap.size w w' := by simpa [h] using sealed_any w k
theorem sealed_f (w : World) (k : Int) (h : ¬ (2 ≤ k ∧ k ≤ 4)) : Calls Tryz.prog 64 #[.int .i64 k] w fun e w' => e = .returned (.bool false) ∧ Below w.heap.size w w' := by
 have := sealed_any w k
 rwa [decide_eq_false h] at this
theorem tagged_t (w : World) (k : Int) (h : 5 ≤ k ∧ k ≤ 11) : Calls Tryz.prog 66 #[.int .i64 k] w fun e w' => e = .returned (.bool true) ∧ Below w.heap.size w w' := by simpa [h] using tagged_any w k
theorem tagged_f (w : World) (k : Int) (h : ¬ (5 ≤ k ∧ k ≤ 11)) : Calls Tryz.prog 66 #[.int .i64 k] w fun e w' => e = .returned (.bool false) ∧ Below w.heap.size w w' := by
 have := tagged_any w k
 rwa [decide_eq_false h] at this
theorem fld91_0 : fldAt Tryz.prog 91 0 0 := fun b o w => by go_simp
theorem fld91_1 : fldAt Tryz.prog 91 1 1 := fun b o w => by go_simp
theorem fld91_2 : fldAt Tryz.prog 91 2 2 := fun b o w => by go_simp
theorem fld91_3 : fldAt Tryz.prog 91 3 3 := fun b o w => by go_simp
theorem slots_le (k : Int) : (slotsF k).length ≤ 6 := by
 unfold slotsF
 by_cases h1 : k = 1
 · rw [if_pos h1]; decide
 rw [if_neg h1]
 by_cases h2 : k = 2
 · rw [if_pos h2]; decide
 rw [if_neg h2]
 by_cases h3 : k = 3
 · rw [if_pos h3]; decide
 rw [if_neg h3]
 by_cases h4 : k = 4
 · rw [if_pos h4]; decide
 rw [if_neg h4]
 by_cases h5 : k = 5
 · rw [if_pos h5]; decide
 rw [if_neg h5]
 by_cases h10 : k = 10
 · rw [if_pos h10]; decide
 rw [if_neg h10]
 by_cases h6 : k = 6
 · rw [if_pos h6]; decide
 rw [if_neg h6]
 by_cases h7 : k = 7
 · rw [if_pos h7]; decide
 rw [if_neg h7]
 by_cases h8 : k = 8
 · rw [if_pos h8]; decide
 rw [if_neg h8]
 by_cases h9 : k = 9
 · rw [if_pos h9]; decide
 rw [if_neg h9]
 by_cases h11 : k = 11
 · rw [if_pos h11]; decide
 rw [if_neg h11]
 by_cases h12 : k = 12
 · rw [if_pos h12]; decide
 rw [if_neg h12]
 decide
theorem s33a : (Tryz.prog.info? 33).map (·.size) = some 16 := by kernel_rfl
theorem s34a : (Tryz.prog.info? 34).map (·.size) = some 8 := by kernel_rfl
theorem bytes_one (l : List B8) : ((l.map u8v).toArray).all (·.oneCell') = true := barr_one l
theorem bare_len (p : Pkt) (L : List (Nat × Nat × Nat × Nat)) (i : Nat) : (bareN p L i).length = 12 := by simp [bareN]
theorem pv_len3 {N : List Int} {S T : List B8} (h1 : N.length = 12) (h2 : S.length = 16) (h3 : T.length = 8) : (pv ⟨N, S, T⟩).size = 36 := by simp [pcell, h1, h2, h3]
theorem pv_sec {w : World} {b : Nat} {t : TypeId} {p : Pkt} (h : Block w b t (pv p)) (hp : p.ok) : w.rangeAt b 12 (p.sec.map u8v) := by
 intro j v hv
 rw [h.cell]
 have hj : j < p.sec.length := by simpa using (List.getElem?_eq_some_iff.1 hv).1
 simp only [pcell, List.getElem?_toArray]
 rw [List.append_assoc, List.getElem?_append_right (by simp [hp.1]), List.getElem?_append_left (by simp [hp.1]; omega)]
 simpa [hp.1] using hv
theorem pv_tg {w : World} {b : Nat} {t : TypeId} {p : Pkt} (h : Block w b t (pv p)) (hp : p.ok) : w.rangeAt b 28 (p.tg.map u8v) := by
 intro j v hv
 rw [h.cell]
 simp only [pcell, List.getElem?_toArray]
 rw [List.getElem?_append_right (by simp [hp.1, hp.2.1])]
 simpa [hp.1, hp.2.1] using hv
theorem setL_mid : ∀ (vs pre old post : List Value), old.length = vs.length → setL (pre ++ old ++ post).toArray pre.length vs = (pre ++ vs ++ post).toArray
 | [], pre, old, post, h => by
  have : old = [] := List.eq_nil_of_length_eq_zero h
  subst this
  rfl
 | v :: vs, pre, [], post, h => by cases h
 | v :: vs, pre, o :: old, post, h => by
  rw [setL]
  have e : (pre ++ o :: old ++ post).toArray.setIfInBounds pre.length v = ((pre ++ [v]) ++ old ++ post).toArray := by
   apply Array.ext'
   simp
  rw [e]
  have := setL_mid vs (pre ++ [v]) old post (by simpa using h)
  simp only [List.length_append, List.length_cons, List.length_nil] at this
  rw [this]
  simp
theorem sec_set {w : World} {b : Nat} {t : TypeId} {N : List Int} {S S' T : List B8} (h1 : N.length = 12) (h2 : S.length = S'.length) (h : Block w b t (setL (pv ⟨N, S, T⟩) 12 (S'.map u8v).toArray.toList)) : Block w b t (pv ⟨N, S', T⟩) := by
 have := setL_mid (S'.map u8v) (N.map (.int .i64)) (S.map u8v) (T.map u8v) (by simpa using h2)
 rw [List.length_map, h1] at this
 show Block w b t (N.map (Value.int .i64) ++ S'.map u8v ++ T.map u8v).toArray
 rw [← this]
 exact h
theorem tg_set {w : World} {b : Nat} {t : TypeId} {N : List Int} {S T T' : List B8} (h1 : N.length = 12) (h2 : S.length = 16) (h3 : T.length = T'.length) (h : Block w b t (setL (pv ⟨N, S, T⟩) 28 (T'.map u8v).toArray.toList)) : Block w b t (pv ⟨N, S, T'⟩) := by
 have := setL_mid (T'.map u8v) (N.map (.int .i64) ++ S.map u8v) (T.map u8v) [] (by simpa using h3)
 rw [List.length_append, List.length_map, List.length_map, h1, h2, List.append_nil, List.append_nil] at this
 show Block w b t (N.map (Value.int .i64) ++ S.map u8v ++ T'.map u8v).toArray
 rw [← this]
 exact h
/-- what a right packet of this one's kind holds -/
def full (p : Pkt) (L : List (Nat × Nat × Nat × Nat)) : Pkt := ⟨bareN p L L.length, if 2 ≤ p.fld 0 ∧ p.fld 0 ≤ 4 then p.sec else List.replicate 16 0, if 5 ≤ p.fld 0 ∧ p.fld 0 ≤ 11 then p.tg else List.replicate 8 0⟩
def rightP (p : Pkt) : Prop := slotsF (p.fld 0) ≠ [] ∧ (∀ (j : Nat) (s : Nat × Nat × Nat × Nat), (slotsF (p.fld 0))[j]? = some s → ((s.2.2.1 : Nat) : Int) ≤ p.fld (atF s.1) ∧ p.fld (atF s.1) ≤ ((s.2.2.2 : Nat) : Int)) ∧ full p (slotsF (p.fld 0)) = p ∧ ¬ (p.fld 0 = 8 ∧ p.fld 3 = 0 ∧ p.fld 7 + p.fld 5 + p.fld 6 > 0)
noncomputable def rightF (p : Pkt) : Bool := @decide (rightP p) (Classical.propDecidable _)
theorem rightF_t {p : Pkt} (h : rightP p) : rightF p = true := @decide_eq_true _ (Classical.propDecidable _) h
theorem rightF_f {p : Pkt} (h : ¬ rightP p) : rightF p = false := @decide_eq_false _ (Classical.propDecidable _) h
theorem right_no1 {p : Pkt} (h : slotsF (p.fld 0) = []) : rightF p = false := rightF_f fun r => r.1 h
theorem right_no2 {p : Pkt} {j : Nat} {s : Nat × Nat × Nat × Nat} (hs : (slotsF (p.fld 0))[j]? = some s) (h : ¬ (((s.2.2.1 : Nat) : Int) ≤ p.fld (atF s.1) ∧ p.fld (atF s.1) ≤ ((s.2.2.2 : Nat) : Int))) : rightF p = false := rightF_f fun r => h (r.2.1 j s hs)
theorem right_no3 {p : Pkt} (h : full p (slotsF (p.fld 0)) ≠ p) : rightF p = false := rightF_f fun r => h r.2.2.1
theorem right_no4 {p : Pkt} (h : p.fld 0 = 8 ∧ p.fld 3 = 0 ∧ p.fld 7 + p.fld 5 + p.fld 6 > 0) : rightF p = false := rightF_f fun r => r.2.2.2 h
theorem void_bounds {p : Pkt} (hk : p.fld 0 = 8) (h : ∀ (j : Nat) (s : Nat × Nat × Nat × Nat), (slotsF (p.fld 0))[j]? = some s → ((s.2.2.1 : Nat) : Int) ≤ p.fld (atF s.1) ∧ p.fld (atF s.1) ≤ ((s.2.2.2 : Nat) : Int)) : 0 ≤ p.fld 7 ∧ p.fld 7 ≤ 1073741824 ∧ 0 ≤ p.fld 5 ∧ p.fld 5 ≤ 3 ∧ 0 ≤ p.fld 6 ∧ p.fld 6 ≤ 4 := by
 have a := h 3 (103, 4, 0, 1073741824) (by rw [hk]; rfl)
 have b := h 4 (102, 1, 0, 3) (by rw [hk]; rfl)
 have c := h 5 (104, 1, 0, 4) (by rw [hk]; rfl)
 exact ⟨a.1, a.2, b.1, b.2, c.1, c.2⟩
theorem r_nenil {P : Program} {a : Act} {w : World} {d : Option Tmp} {tt : TypeId} {ps : String} {af : Array Edge} {gd : Option (Nat × Bool)} {t e t2 : TypeId} {x : Operand} {A : Option Addr} {n c : Nat} (ht : P.underlying t = some (.slice e)) (hx : a.eval x = .slice A n c) {b : Bool} (hb : (!A.isNone) = b) :
  (execOp a.eval ⟨d, .binOp .neq t x (.const (.slice none 0 0)) t2, tt, ps, af, gd⟩).run P w = .ok (.value (.bool b)) w := by
 subst hb
 have h := run_neq_slice_nil (P := P) w t e A n c ht
 unfold execOp
 simp only [hx]
 go_simp
theorem r_eqpk_b {d : Option Tmp} {tt : TypeId} {ps : String} {af : Array Edge} {gd : Option (Nat × Bool)} {a : Act} {w : World} {x y : Operand} {t2 : TypeId} {p q : Pkt} {b : Bool} (hp : p.ok) (hq : q.ok) (hx : a.eval x = .agg (pv p)) (hy : a.eval y = .agg (pv q)) (hb : decide (p = q) = b) :
  (execOp a.eval ⟨d, .binOp .eql 36 x y t2, tt, ps, af, gd⟩).run Tryz.prog w = .ok (.value (.bool b)) w := by
 subst hb
 exact r_eqpk hp hq hx hy
def Ri1 (W : World) (p : Pkt) (L : List (Nat × Nat × Nat × Nat)) (A : Option Addr) (b0 b1 : Nat) (a : Act) (w : World) : Prop :=
 ∃ i : Nat, Kn a 84 [(1, .pointer (some ⟨b0, 0, none⟩)), (3, .slice A L.length L.length), (4, .pointer (some ⟨b1, 0, none⟩)), (15, .slice A L.length L.length), (16, .int .i64 (L.length : Nat)), (17, .int .i64 (i : Nat))] ∧ i ≤ L.length ∧ (∀ j s, j < i → L[j]? = some s → ((s.2.2.1 : Nat) : Int) ≤ p.fld (atF s.1) ∧ p.fld (atF s.1) ≤ ((s.2.2.2 : Nat) : Int)) ∧ Block w b0 36 (pv p) ∧ Block w b1 36 (pv (bare p L i)) ∧ Holds w A (L.flatMap encS) ∧ Below W.heap.size W w
set_option maxRecDepth 100000 in
set_option maxHeartbeats 8000000 in
theorem pright_any (w : World) (p : Pkt) (hp : p.ok) : Calls Tryz.prog 68 #[.agg (pv p)] w fun e w' => e = .returned (.bool (rightF p)) ∧ Below w.heap.size w w' := by
 have hall := Below.refl w.heap.size w
 refine K_enter 84 Tryz.func68 rfl rfl fun a H => ?_
 replace H := H.pick [0]
 refine zC (zD ?_)
 refine op_box 36 (.tmp 0) (pv p) (H.ev rfl) fun w0 b0 hge hb k0 => ?_; have g0 := Nat.le_trans hall.size hge; replace hall := hall.tr hb; clear hb hge; refine kl H rfl fun a H => ?_
 refine kR 1 H rfl fun a H => ?_
 refine zA (zB (zC (zD ?_)))
 refine kR 1 H rfl fun a H => ?_
 refine kV H (r_ld U3 rfl (H.ev rfl) (pv_cell k0 (fld_at hp (j := 0) (by omega)))) rfl fun a H => ?_
 refine wl_call _ _ _ (slots_any _ (p.fld 0)) (r_call1 cf63 (H.ev rfl)) ?_; rintro e w9 ⟨⟨A, rfl, hh, hA⟩, hb⟩; refine ⟨_, rfl, ?_⟩; have hA2 := none_iff hA; have hfl := fl_of hA hh; replace k0 := Block.ups k0 hb; replace hall := hall.tr hb; clear hb; obtain ⟨L, hL⟩ : ∃ L, slotsF (p.fld 0) = L := ⟨_, rfl⟩; rw [hL] at hh hA2 hA; have hLn : L.length ≤ 6 := (by rw [← hL]; exact slots_le _); have HL := Lib.hid hL; rw [hL]; clear hL; refine kl H rfl fun a H => ?_
 refine kR 1 H rfl fun a H => ?_
 refine zA (zB (zC (zD ?_)))
 refine kR 1 H rfl fun a H => ?_
 refine kV H (r_ld U3 rfl (H.ev rfl) (pv_cell k0 (fld_at hp (j := 0) (by omega)))) rfl fun a H => ?_
 refine kV (v := .agg (pv (bare p L 0))) H (r_bare (H.ev rfl)) rfl fun a H => ?_
 refine op_alloc 36 (pv pk0) z36 fun w1 b1 hge hb k1 => ?_; have g1 := Nat.le_trans hall.size hge; have h01 : b0 < b1 := Nat.lt_of_lt_of_le k0.lt hge; have hfl1 := hfl.le hge; clear hfl; replace k0 := Block.ups k0 hb; replace hh := holds_ups hh hb; replace hall := hall.tr hb; clear hb; clear hge; refine kl H rfl fun a H => ?_
 refine op_store 36 (.tmp 4) (.tmp 14) b1 36 (pv (bare p L 0)) _ (H.ev rfl) (H.ev rfl) k1 (s36p (bare_ok hp)) (by rw [pv_size pk0_ok, pv_size (bare_ok hp)]) (pv_one _) fun w' hb ho kq => ?_; clear k1; have k1 := kq; replace k0 := block_same k0 (ho _ (by omega)); replace hh := holds_far hh (hb _ (Nat.le_refl _)) hfl1; replace hall := hall.trans (hb _ g1); clear hb ho kq; refine kl0 H fun a H => ?_
 refine zA (zB (zC (zC (zD ?_))))
 refine kR 1 H rfl fun a H => ?_
 refine kV H (r_len U87 (H.ev rfl)) rfl fun a H => ?_
 refine kR 1 H rfl fun a H => ?_
 refine zA (zB ?_)
 refine wp_block ?_
 refine wp_loop (Ri1 w p L A b0 b1) (fun a _ => L.length - (intOf (a.eval (.tmp 17))).toNat) ⟨0, H.pick [1, 3, 4, 15, 16, 17], by omega, fun j s hj => by omega, k0, k1, hh, hall⟩ ?_
 clear H hall k0 k1 hh
 rintro a w' ⟨i, H, hi, hin, k0, k1, hh, hall⟩
 have H0 := H
 by_cases hlt : i < L.length
 ·
  obtain ⟨s, hs⟩ : ∃ s, L[i]? = some s := ⟨_, List.getElem?_eq_getElem hlt⟩
  obtain ⟨g, hAe⟩ := fl_some hA hs
  subst hAe
  have hat := at_lt (show (slotsF (p.fld 0))[i]? = some s by rw [HL.out]; exact hs)
  have HS := Lib.hid (show (slotsF (p.fld 0))[i]? = some s by rw [HL.out]; exact hs)
  have HLS := Lib.hid hs
  clear hs
  refine zC (zD ?_)
  refine kV H (r_lt U3 (H.ev rfl) (H.ev rfl) (dec_t (by omega))) rfl fun a H => ?_
  refine zA (zB (zC (zH H rfl (zE (zB (zC ?_))))))
  refine wp_block ?_
  refine zC (zD ?_)
  refine kV H (r_idx (j := i) (q := 0 + i * 4) U87 s91 (H.ev rfl) (H.ev rfl) (by omega) rfl) rfl fun a H => ?_
  refine kV H (r_row (cs := [.func (.func s.1) #[] #[], .int .i64 (s.2.1 : Nat), .int .i64 (s.2.2.1 : Nat), .int .i64 (s.2.2.2 : Nat)]) (H.ev rfl) (slots_range hh HLS.out) (by kernel_rfl) s91 rfl) rfl fun a H => ?_
  refine op_new 91 6 (.tmp 20) #[.func (.func s.1) #[] #[], .int .i64 (s.2.1 : Nat), .int .i64 (s.2.2.1 : Nat), .int .i64 (s.2.2.2 : Nat)] _ z91 s91 rfl (by simp [Value.cells, Value.oneCell']) (fun p => (H.put 6 p rfl).ev rfl) (fun p => (H.put 6 p rfl).ev rfl) fun w2 b2 hge hb k2 => ?_; have g2 := Nat.le_trans hall.size hge; replace k0 := Block.ups k0 hb; replace k1 := Block.ups k1 hb; replace hh := holds_ups hh hb; replace hall := hall.tr hb; clear hb; clear hge; refine kl H rfl fun a H => ?_
  refine zA (zB (zC (zD ?_)))
  refine kR 1 H rfl fun a H => ?_
  refine kV H (r_ld U89 rfl (H.ev rfl) ((Block.cell k2 0).trans rfl)) rfl fun a H => ?_
  refine wl_call _ _ _ (at_any _ b0 i HS.out) (r_callf (at_ent HS.out) (H.ev rfl) (H.ev rfl)) ?_; rintro e w9 ⟨rfl, hb⟩; refine ⟨_, rfl, ?_⟩; replace k0 := Block.ups k0 hb; replace k1 := Block.ups k1 hb; replace hh := holds_ups hh hb; replace k2 := Block.ups k2 hb; replace hall := hall.tr hb; clear hb; refine kl H rfl fun a H => ?_
  refine kR 1 H rfl fun a H => ?_
  refine kV H (r_ld U3 rfl (H.ev rfl) (pv_cell k0 (fld_at hp hat))) rfl fun a H => ?_
  refine kR 1 H rfl fun a H => ?_
  refine zA (zB (zC (zC (zD ?_))))
  refine kR 2 H rfl fun a H => ?_
  refine kV H (r_ld U3 rfl (H.ev rfl) ((Block.cell k2 2).trans rfl)) rfl fun a H => ?_
  by_cases hcc0 : (p.fld (atF s.1)) < ((s.2.2.1 : Nat) : Int)
  ·
   refine kV H (r_lt U3 (H.ev rfl) (H.ev rfl) (dec_t (hcc0))) rfl fun a H => ?_
   refine kR 6 H rfl fun a H => ?_
   refine zA (zB (zH H rfl (zC (zD ?_))))
   refine kR 1 H rfl fun a H => ?_
   refine zA (zB (zF (zJ (r_block (zJ (zJ (r_block (zJ ?_))))))))
   exact k_ret1 H rfl rfl ⟨by rw [right_no2 HS.out (by omega)]; first | done | rfl, hall⟩
  ·
   refine kV H (r_lt U3 (H.ev rfl) (H.ev rfl) (dec_f (hcc0))) rfl fun a H => ?_
   refine kR 3 H rfl fun a H => ?_
   refine kW H rfl (r_ld U3 rfl (H.ev rfl) ((Block.cell k2 3).trans rfl)) rfl fun a H => ?_
   by_cases hcc1 : (p.fld (atF s.1)) > ((s.2.2.2 : Nat) : Int)
   ·
    refine kW H rfl (r_gt U3 (H.ev rfl) (H.ev rfl) (dec_t (hcc1))) rfl fun a H => ?_
    refine kR 1 H rfl fun a H => ?_
    refine zA (zB (zH H rfl (zC (zD ?_))))
    refine kR 1 H rfl fun a H => ?_
    refine zA (zB (zF (zJ (r_block (zJ (zJ (r_block (zJ ?_))))))))
    exact k_ret1 H rfl rfl ⟨by rw [right_no2 HS.out (by omega)]; first | done | rfl, hall⟩
   ·
    refine kW H rfl (r_gt U3 (H.ev rfl) (H.ev rfl) (dec_f (hcc1))) rfl fun a H => ?_
    refine kR 1 H rfl fun a H => ?_
    refine zA (zB (zG H rfl (zE (zB (zD ?_)))))
    refine kR 1 H rfl fun a H => ?_
    refine kV H (r_ld U89 rfl (H.ev rfl) ((Block.cell k2 0).trans rfl)) rfl fun a H => ?_
    refine wl_call _ _ _ (at_any _ b1 i HS.out) (r_callf (at_ent HS.out) (H.ev rfl) (H.ev rfl)) ?_; rintro e w9 ⟨rfl, hb⟩; refine ⟨_, rfl, ?_⟩; replace k0 := Block.ups k0 hb; replace k1 := Block.ups k1 hb; replace hh := holds_ups hh hb; replace k2 := Block.ups k2 hb; replace hall := hall.tr hb; clear hb; refine kl H rfl fun a H => ?_
    refine kR 2 H rfl fun a H => ?_
    refine op_store1 3 (.tmp 40) (.tmp 39) b1 (atF s.1) 36 (.int .i64 (p.fld (atF s.1))) _ (H.ev rfl) (H.ev rfl) k1 s3 (by rw [pv_size (bare_ok hp)]; show atF s.1 + 1 ≤ 36; omega) (by simp [Value.cells, Value.oneCell']) fun w' hb ho kq => ?_; clear k1; have k1 := kq; rw [bare_next HLS.out hat] at k1; replace k0 := block_same k0 (ho _ (by omega)); replace hh := holds_far hh (hb _ (Nat.le_refl _)) hfl1; replace hall := hall.trans (hb _ g1); clear hb ho kq; refine kl0 H fun a H => ?_
    refine zA (n_block (zB (zD ?_)))
    refine kV H (r_add (q := ((i + 1 : Nat) : Int)) U3 (H.ev rfl) evc (by omega) (by omega)) rfl fun a H => ?_
    refine kR 1 H rfl fun a H => ?_
    refine zA ?_
    have hin2 : ∀ j s, j < i + 1 → L[j]? = some s → ((s.2.2.1 : Nat) : Int) ≤ p.fld (atF s.1) ∧ p.fld (atF s.1) ≤ ((s.2.2.2 : Nat) : Int) := hin_next hin HLS.out (by omega) (by omega)
    refine zI ⟨⟨i + 1, H.pick [1, 3, 4, 15, 16, 17], by omega, hin2, k0, k1, hh, hall⟩, ?_⟩
    rw [H.ev (j := 17) rfl, H0.ev (j := 17) rfl]
    simp only [intOf]
    omega
 ·
  obtain rfl : i = L.length := by omega
  refine zC (zD ?_)
  refine kV H (r_lt U3 (H.ev rfl) (H.ev rfl) (dec_f (by omega))) rfl fun a H => ?_
  refine zA (zB (zC (zG H rfl (wp_exit (e_then (e_then ?_))))))
  refine e_here ?_
  refine zB (zC (zC ?_))
  by_cases hse : (2 ≤ p.fld 0 ∧ p.fld 0 ≤ 4)
  ·
   refine zD ?_
   refine kR 1 H rfl fun a H => ?_
   refine kV H (r_ld U3 rfl (H.ev rfl) (pv_cell k0 (fld_at hp (j := 0) (by omega)))) rfl fun a H => ?_
   refine wl_call _ _ _ (sealed_t _ _ hse) (r_call1 cf64 (H.ev rfl)) ?_; rintro e w9 ⟨rfl, hb⟩; refine ⟨_, rfl, ?_⟩; replace k0 := Block.ups k0 hb; replace k1 := Block.ups k1 hb; replace hh := holds_ups hh hb; replace hall := hall.tr hb; clear hb; refine kl H rfl fun a H => ?_
   refine zA (zB (zH H rfl (zD ?_)))
   refine kR 1 H rfl fun a H => ?_
   refine kV (v := .agg (p.sec.map u8v).toArray) H (r_row (cs := p.sec.map u8v) (H.ev rfl) (pv_sec k0 hp) (by kernel_rfl) (by rw [List.length_map, hp.2.1]; exact s33a) rfl) rfl fun a H => ?_
   refine kR 1 H rfl fun a H => ?_
   refine op_store_mid 33 (.tmp 47) (.tmp 46) b1 12 36 (p.sec.map u8v).toArray _ (H.ev rfl) (H.ev rfl) k1 (by rw [List.size_toArray, List.length_map, hp.2.1]; exact s33a) (by rw [pv_size (bare_ok hp), List.size_toArray, List.length_map, hp.2.1]; omega) (bytes_one _) fun w' hb ho kq => ?_; clear k1; have k1 := sec_set (bare_len p L _) (by rw [List.length_replicate, hp.2.1]) kq; replace k0 := block_same k0 (ho _ (by omega)); replace hh := holds_far hh (hb _ (Nat.le_refl _)) hfl1; replace hall := hall.trans (hb _ g1); clear hb ho kq; refine kl0 H fun a H => ?_
   refine zA (zB (zC (zC ?_)))
   by_cases htg : (5 ≤ p.fld 0 ∧ p.fld 0 ≤ 11)
   ·
    refine zD ?_
    refine kR 1 H rfl fun a H => ?_
    refine kV H (r_ld U3 rfl (H.ev rfl) (pv_cell k0 (fld_at hp (j := 0) (by omega)))) rfl fun a H => ?_
    refine wl_call _ _ _ (tagged_t _ _ htg) (r_call1 cf66 (H.ev rfl)) ?_; rintro e w9 ⟨rfl, hb⟩; refine ⟨_, rfl, ?_⟩; replace k0 := Block.ups k0 hb; replace k1 := Block.ups k1 hb; replace hh := holds_ups hh hb; replace hall := hall.tr hb; clear hb; refine kl H rfl fun a H => ?_
    refine zA (zB (zH H rfl (zD ?_)))
    refine kR 1 H rfl fun a H => ?_
    refine kV (v := .agg (p.tg.map u8v).toArray) H (r_row (cs := p.tg.map u8v) (H.ev rfl) (pv_tg k0 hp) (by kernel_rfl) (by rw [List.length_map, hp.2.2.1]; exact s34a) rfl) rfl fun a H => ?_
    refine kR 1 H rfl fun a H => ?_
    refine op_store_mid 34 (.tmp 53) (.tmp 52) b1 28 36 (p.tg.map u8v).toArray _ (H.ev rfl) (H.ev rfl) k1 (by rw [List.size_toArray, List.length_map, hp.2.2.1]; exact s34a) (by rw [List.size_toArray, List.length_map, hp.2.2.1]; show 28 + 8 ≤ (pv ⟨bareN p L L.length, p.sec, List.replicate 8 0⟩).size; rw [pv_len3 (bare_len p L _) (by first | exact hp.2.1 | rfl) rfl]; omega) (bytes_one _) fun w' hb ho kq => ?_; clear k1; have k1 := tg_set (S := p.sec) (bare_len p L _) (by first | exact hp.2.1 | rfl) (by rw [List.length_replicate, hp.2.2.1]) kq; replace k0 := block_same k0 (ho _ (by omega)); replace hh := holds_far hh (hb _ (Nat.le_refl _)) hfl1; replace hall := hall.trans (hb _ g1); clear hb ho kq; refine kl0 H fun a H => ?_
    refine zA (zB (zC (zD ?_)))
    refine kR 1 H rfl fun a H => ?_
    refine kV H (r_ld U3 rfl (H.ev rfl) (pv_cell k0 (fld_at hp (j := 0) (by omega)))) rfl fun a H => ?_
    by_cases hcc2 : (p.fld 0) = 8
    ·
     refine kV H (r_eq U3 (H.ev rfl) evc (dec_t (hcc2))) rfl fun a H => ?_
     refine kR 2 H rfl fun a H => ?_
     refine kW H rfl (r_ld U3 rfl (H.ev rfl) (pv_cell k0 (fld_at hp (j := 3) (by omega)))) rfl fun a H => ?_
     by_cases hcc3 : (p.fld 3) = 0
     ·
      refine kW H rfl (r_eq U3 (H.ev rfl) evc (dec_t (hcc3))) rfl fun a H => ?_
      refine kR 2 H rfl fun a H => ?_
      refine zA (zB (zC ?_))
      obtain ⟨v1, v2, v3, v4, v5, v6⟩ := void_bounds (p := p) (by assumption) (by rw [HL.out]; exact fun j s hj => hin j s (List.getElem?_eq_some_iff.1 hj).1 hj)
      have hfe : full p L = (⟨bareN p L L.length, p.sec, p.tg⟩ : Pkt) := by simp only [full, if_pos hse, if_pos htg]
      have hok : Pkt.ok (⟨bareN p L L.length, p.sec, p.tg⟩ : Pkt) := ⟨bare_len p L _, by first | exact hp.2.1 | rfl, by first | exact hp.2.2.1 | rfl, (bare_ok (i := L.length) hp).2.2.2⟩
      by_cases hL0 : L = []
      ·
       refine zD ?_
       refine kR 1 H rfl fun a H => ?_
       refine kV (v := .bool false) H (r_nenil U87 (H.ev rfl) (by rw [hA2, hL0]; rfl)) rfl fun a H => ?_
       refine kR 21 H rfl fun a H => ?_
       refine zA (zB (zF ?_))
       exact k_ret1 H rfl rfl ⟨by rw [right_no1 (by rw [HL.out]; exact hL0)]; first | done | rfl, hall⟩
      ·
       by_cases he : (⟨bareN p L L.length, p.sec, p.tg⟩ : Pkt) = p
       ·
        refine zD ?_
        refine kR 1 H rfl fun a H => ?_
        refine kV (v := .bool true) H (r_nenil U87 (H.ev rfl) (by rw [hA2, decide_eq_false hL0]; rfl)) rfl fun a H => ?_
        refine kR 1 H rfl fun a H => ?_
        refine kG H rfl ?_; refine kV (v := .agg (pv (⟨bareN p L L.length, p.sec, p.tg⟩ : Pkt))) H (run_load_row b1 36 _ _ (H.ev rfl) k1 U36 rfl (s36p hok)) rfl fun a H => ?_
        refine kG H rfl ?_; refine kV (v := .agg (pv p)) H (run_load_row b0 36 _ _ (H.ev rfl) k0 U36 rfl (s36p hp)) rfl fun a H => ?_
        refine kG H rfl ?_; refine kV (v := .bool true) H (r_eqpk_b hok hp (H.ev rfl) (H.ev rfl) (decide_eq_true he)) rfl fun a H => ?_
        refine kR 5 H rfl fun a H => ?_
        refine kW H rfl (r_ld U3 rfl (H.ev rfl) (pv_cell k0 (fld_at hp (j := 7) (by omega)))) rfl fun a H => ?_
        refine kR 1 H rfl fun a H => ?_
        refine kW H rfl (r_ld U3 rfl (H.ev rfl) (pv_cell k0 (fld_at hp (j := 5) (by omega)))) rfl fun a H => ?_
        refine kW H rfl (r_add (q := (p.fld 7) + (p.fld 5)) U3 (H.ev rfl) (H.ev rfl) (by omega) (by omega)) rfl fun a H => ?_
        refine kR 1 H rfl fun a H => ?_
        refine kW H rfl (r_ld U3 rfl (H.ev rfl) (pv_cell k0 (fld_at hp (j := 6) (by omega)))) rfl fun a H => ?_
        refine kW H rfl (r_add (q := ((p.fld 7) + (p.fld 5)) + (p.fld 6)) U3 (H.ev rfl) (H.ev rfl) (by omega) (by omega)) rfl fun a H => ?_
        by_cases hcc4 : (((p.fld 7) + (p.fld 5)) + (p.fld 6)) > 0
        ·
         refine kW H rfl (r_gt U3 (H.ev rfl) evc (dec_t (hcc4))) rfl fun a H => ?_
         refine kR 1 H rfl fun a H => ?_
         refine kW H rfl (r_not (H.ev rfl) rfl) rfl fun a H => ?_
         refine kR 2 H rfl fun a H => ?_
         refine zA (zB (zF ?_))
         exact k_ret1 H rfl rfl ⟨by rw [right_no4 (by omega)]; first | done | rfl, hall⟩
        ·
         refine kW H rfl (r_gt U3 (H.ev rfl) evc (dec_f (hcc4))) rfl fun a H => ?_
         refine kR 1 H rfl fun a H => ?_
         refine kW H rfl (r_not (H.ev rfl) rfl) rfl fun a H => ?_
         refine kR 2 H rfl fun a H => ?_
         refine zA (zB (zF ?_))
         exact k_ret1 H rfl rfl ⟨by rw [rightF_t ⟨by rw [HL.out]; exact hL0, by rw [HL.out]; exact fun j s hj => hin j s (List.getElem?_eq_some_iff.1 hj).1 hj, by rw [HL.out, hfe]; exact he, by omega⟩]; first | done | rfl, hall⟩
       ·
        refine zD ?_
        refine kR 1 H rfl fun a H => ?_
        refine kV (v := .bool true) H (r_nenil U87 (H.ev rfl) (by rw [hA2, decide_eq_false hL0]; rfl)) rfl fun a H => ?_
        refine kR 1 H rfl fun a H => ?_
        refine kG H rfl ?_; refine kV (v := .agg (pv (⟨bareN p L L.length, p.sec, p.tg⟩ : Pkt))) H (run_load_row b1 36 _ _ (H.ev rfl) k1 U36 rfl (s36p hok)) rfl fun a H => ?_
        refine kG H rfl ?_; refine kV (v := .agg (pv p)) H (run_load_row b0 36 _ _ (H.ev rfl) k0 U36 rfl (s36p hp)) rfl fun a H => ?_
        refine kG H rfl ?_; refine kV (v := .bool false) H (r_eqpk_b hok hp (H.ev rfl) (H.ev rfl) (decide_eq_false he)) rfl fun a H => ?_
        refine kR 17 H rfl fun a H => ?_
        refine zA (zB (zF ?_))
        exact k_ret1 H rfl rfl ⟨by rw [right_no3 (by rw [HL.out, hfe]; exact he)]; first | done | rfl, hall⟩
     ·
      refine kW H rfl (r_eq U3 (H.ev rfl) evc (dec_f (hcc3))) rfl fun a H => ?_
      refine kR 2 H rfl fun a H => ?_
      refine zA (zB (zC ?_))
      obtain ⟨v1, v2, v3, v4, v5, v6⟩ := void_bounds (p := p) (by assumption) (by rw [HL.out]; exact fun j s hj => hin j s (List.getElem?_eq_some_iff.1 hj).1 hj)
      have hfe : full p L = (⟨bareN p L L.length, p.sec, p.tg⟩ : Pkt) := by simp only [full, if_pos hse, if_pos htg]
      have hok : Pkt.ok (⟨bareN p L L.length, p.sec, p.tg⟩ : Pkt) := ⟨bare_len p L _, by first | exact hp.2.1 | rfl, by first | exact hp.2.2.1 | rfl, (bare_ok (i := L.length) hp).2.2.2⟩
      by_cases hL0 : L = []
      ·
       refine zD ?_
       refine kR 1 H rfl fun a H => ?_
       refine kV (v := .bool false) H (r_nenil U87 (H.ev rfl) (by rw [hA2, hL0]; rfl)) rfl fun a H => ?_
       refine kR 21 H rfl fun a H => ?_
       refine zA (zB (zF ?_))
       exact k_ret1 H rfl rfl ⟨by rw [right_no1 (by rw [HL.out]; exact hL0)]; first | done | rfl, hall⟩
      ·
       by_cases he : (⟨bareN p L L.length, p.sec, p.tg⟩ : Pkt) = p
       ·
        refine zD ?_
        refine kR 1 H rfl fun a H => ?_
        refine kV (v := .bool true) H (r_nenil U87 (H.ev rfl) (by rw [hA2, decide_eq_false hL0]; rfl)) rfl fun a H => ?_
        refine kR 1 H rfl fun a H => ?_
        refine kG H rfl ?_; refine kV (v := .agg (pv (⟨bareN p L L.length, p.sec, p.tg⟩ : Pkt))) H (run_load_row b1 36 _ _ (H.ev rfl) k1 U36 rfl (s36p hok)) rfl fun a H => ?_
        refine kG H rfl ?_; refine kV (v := .agg (pv p)) H (run_load_row b0 36 _ _ (H.ev rfl) k0 U36 rfl (s36p hp)) rfl fun a H => ?_
        refine kG H rfl ?_; refine kV (v := .bool true) H (r_eqpk_b hok hp (H.ev rfl) (H.ev rfl) (decide_eq_true he)) rfl fun a H => ?_
        refine kR 14 H rfl fun a H => ?_
        refine kW H rfl (r_not (H.ev rfl) rfl) rfl fun a H => ?_
        refine kR 2 H rfl fun a H => ?_
        refine zA (zB (zF ?_))
        exact k_ret1 H rfl rfl ⟨by rw [rightF_t ⟨by rw [HL.out]; exact hL0, by rw [HL.out]; exact fun j s hj => hin j s (List.getElem?_eq_some_iff.1 hj).1 hj, by rw [HL.out, hfe]; exact he, by omega⟩]; first | done | rfl, hall⟩
       ·
        refine zD ?_
        refine kR 1 H rfl fun a H => ?_
        refine kV (v := .bool true) H (r_nenil U87 (H.ev rfl) (by rw [hA2, decide_eq_false hL0]; rfl)) rfl fun a H => ?_
        refine kR 1 H rfl fun a H => ?_
        refine kG H rfl ?_; refine kV (v := .agg (pv (⟨bareN p L L.length, p.sec, p.tg⟩ : Pkt))) H (run_load_row b1 36 _ _ (H.ev rfl) k1 U36 rfl (s36p hok)) rfl fun a H => ?_
        refine kG H rfl ?_; refine kV (v := .agg (pv p)) H (run_load_row b0 36 _ _ (H.ev rfl) k0 U36 rfl (s36p hp)) rfl fun a H => ?_
        refine kG H rfl ?_; refine kV (v := .bool false) H (r_eqpk_b hok hp (H.ev rfl) (H.ev rfl) (decide_eq_false he)) rfl fun a H => ?_
        refine kR 17 H rfl fun a H => ?_
        refine zA (zB (zF ?_))
        exact k_ret1 H rfl rfl ⟨by rw [right_no3 (by rw [HL.out, hfe]; exact he)]; first | done | rfl, hall⟩
    ·
     refine kV H (r_eq U3 (H.ev rfl) evc (dec_f (hcc2))) rfl fun a H => ?_
     refine kR 6 H rfl fun a H => ?_
     refine zA (zB (zC ?_))
     have hfe : full p L = (⟨bareN p L L.length, p.sec, p.tg⟩ : Pkt) := by simp only [full, if_pos hse, if_pos htg]
     have hok : Pkt.ok (⟨bareN p L L.length, p.sec, p.tg⟩ : Pkt) := ⟨bare_len p L _, by first | exact hp.2.1 | rfl, by first | exact hp.2.2.1 | rfl, (bare_ok (i := L.length) hp).2.2.2⟩
     by_cases hL0 : L = []
     ·
      refine zD ?_
      refine kR 1 H rfl fun a H => ?_
      refine kV (v := .bool false) H (r_nenil U87 (H.ev rfl) (by rw [hA2, hL0]; rfl)) rfl fun a H => ?_
      refine kR 21 H rfl fun a H => ?_
      refine zA (zB (zF ?_))
      exact k_ret1 H rfl rfl ⟨by rw [right_no1 (by rw [HL.out]; exact hL0)]; first | done | rfl, hall⟩
     ·
      by_cases he : (⟨bareN p L L.length, p.sec, p.tg⟩ : Pkt) = p
      ·
       refine zD ?_
       refine kR 1 H rfl fun a H => ?_
       refine kV (v := .bool true) H (r_nenil U87 (H.ev rfl) (by rw [hA2, decide_eq_false hL0]; rfl)) rfl fun a H => ?_
       refine kR 1 H rfl fun a H => ?_
       refine kG H rfl ?_; refine kV (v := .agg (pv (⟨bareN p L L.length, p.sec, p.tg⟩ : Pkt))) H (run_load_row b1 36 _ _ (H.ev rfl) k1 U36 rfl (s36p hok)) rfl fun a H => ?_
       refine kG H rfl ?_; refine kV (v := .agg (pv p)) H (run_load_row b0 36 _ _ (H.ev rfl) k0 U36 rfl (s36p hp)) rfl fun a H => ?_
       refine kG H rfl ?_; refine kV (v := .bool true) H (r_eqpk_b hok hp (H.ev rfl) (H.ev rfl) (decide_eq_true he)) rfl fun a H => ?_
       refine kR 14 H rfl fun a H => ?_
       refine kW H rfl (r_not (H.ev rfl) rfl) rfl fun a H => ?_
       refine kR 2 H rfl fun a H => ?_
       refine zA (zB (zF ?_))
       exact k_ret1 H rfl rfl ⟨by rw [rightF_t ⟨by rw [HL.out]; exact hL0, by rw [HL.out]; exact fun j s hj => hin j s (List.getElem?_eq_some_iff.1 hj).1 hj, by rw [HL.out, hfe]; exact he, by omega⟩]; first | done | rfl, hall⟩
      ·
       refine zD ?_
       refine kR 1 H rfl fun a H => ?_
       refine kV (v := .bool true) H (r_nenil U87 (H.ev rfl) (by rw [hA2, decide_eq_false hL0]; rfl)) rfl fun a H => ?_
       refine kR 1 H rfl fun a H => ?_
       refine kG H rfl ?_; refine kV (v := .agg (pv (⟨bareN p L L.length, p.sec, p.tg⟩ : Pkt))) H (run_load_row b1 36 _ _ (H.ev rfl) k1 U36 rfl (s36p hok)) rfl fun a H => ?_
       refine kG H rfl ?_; refine kV (v := .agg (pv p)) H (run_load_row b0 36 _ _ (H.ev rfl) k0 U36 rfl (s36p hp)) rfl fun a H => ?_
       refine kG H rfl ?_; refine kV (v := .bool false) H (r_eqpk_b hok hp (H.ev rfl) (H.ev rfl) (decide_eq_false he)) rfl fun a H => ?_
       refine kR 17 H rfl fun a H => ?_
       refine zA (zB (zF ?_))
       exact k_ret1 H rfl rfl ⟨by rw [right_no3 (by rw [HL.out, hfe]; exact he)]; first | done | rfl, hall⟩
   ·
    refine zD ?_
    refine kR 1 H rfl fun a H => ?_
    refine kV H (r_ld U3 rfl (H.ev rfl) (pv_cell k0 (fld_at hp (j := 0) (by omega)))) rfl fun a H => ?_
    refine wl_call _ _ _ (tagged_f _ _ htg) (r_call1 cf66 (H.ev rfl)) ?_; rintro e w9 ⟨rfl, hb⟩; refine ⟨_, rfl, ?_⟩; replace k0 := Block.ups k0 hb; replace k1 := Block.ups k1 hb; replace hh := holds_ups hh hb; replace hall := hall.tr hb; clear hb; refine kl H rfl fun a H => ?_
    refine zA (zB (zG H rfl (zE (zB (zC (zD ?_))))))
    refine kR 1 H rfl fun a H => ?_
    refine kV H (r_ld U3 rfl (H.ev rfl) (pv_cell k0 (fld_at hp (j := 0) (by omega)))) rfl fun a H => ?_
    by_cases hcc5 : (p.fld 0) = 8
    ·
     refine kV H (r_eq U3 (H.ev rfl) evc (dec_t (hcc5))) rfl fun a H => ?_
     refine kR 2 H rfl fun a H => ?_
     refine kW H rfl (r_ld U3 rfl (H.ev rfl) (pv_cell k0 (fld_at hp (j := 3) (by omega)))) rfl fun a H => ?_
     by_cases hcc6 : (p.fld 3) = 0
     ·
      refine kW H rfl (r_eq U3 (H.ev rfl) evc (dec_t (hcc6))) rfl fun a H => ?_
      refine kR 2 H rfl fun a H => ?_
      refine zA (zB (zC ?_))
      obtain ⟨v1, v2, v3, v4, v5, v6⟩ := void_bounds (p := p) (by assumption) (by rw [HL.out]; exact fun j s hj => hin j s (List.getElem?_eq_some_iff.1 hj).1 hj)
      have hfe : full p L = (⟨bareN p L L.length, p.sec, List.replicate 8 0⟩ : Pkt) := by simp only [full, if_pos hse, if_neg htg]
      have hok : Pkt.ok (⟨bareN p L L.length, p.sec, List.replicate 8 0⟩ : Pkt) := ⟨bare_len p L _, by first | exact hp.2.1 | rfl, by first | exact hp.2.2.1 | rfl, (bare_ok (i := L.length) hp).2.2.2⟩
      by_cases hL0 : L = []
      ·
       refine zD ?_
       refine kR 1 H rfl fun a H => ?_
       refine kV (v := .bool false) H (r_nenil U87 (H.ev rfl) (by rw [hA2, hL0]; rfl)) rfl fun a H => ?_
       refine kR 21 H rfl fun a H => ?_
       refine zA (zB (zF ?_))
       exact k_ret1 H rfl rfl ⟨by rw [right_no1 (by rw [HL.out]; exact hL0)]; first | done | rfl, hall⟩
      ·
       by_cases he : (⟨bareN p L L.length, p.sec, List.replicate 8 0⟩ : Pkt) = p
       ·
        refine zD ?_
        refine kR 1 H rfl fun a H => ?_
        refine kV (v := .bool true) H (r_nenil U87 (H.ev rfl) (by rw [hA2, decide_eq_false hL0]; rfl)) rfl fun a H => ?_
        refine kR 1 H rfl fun a H => ?_
        refine kG H rfl ?_; refine kV (v := .agg (pv (⟨bareN p L L.length, p.sec, List.replicate 8 0⟩ : Pkt))) H (run_load_row b1 36 _ _ (H.ev rfl) k1 U36 rfl (s36p hok)) rfl fun a H => ?_
        refine kG H rfl ?_; refine kV (v := .agg (pv p)) H (run_load_row b0 36 _ _ (H.ev rfl) k0 U36 rfl (s36p hp)) rfl fun a H => ?_
        refine kG H rfl ?_; refine kV (v := .bool true) H (r_eqpk_b hok hp (H.ev rfl) (H.ev rfl) (decide_eq_true he)) rfl fun a H => ?_
        refine kR 5 H rfl fun a H => ?_
        refine kW H rfl (r_ld U3 rfl (H.ev rfl) (pv_cell k0 (fld_at hp (j := 7) (by omega)))) rfl fun a H => ?_
        refine kR 1 H rfl fun a H => ?_
        refine kW H rfl (r_ld U3 rfl (H.ev rfl) (pv_cell k0 (fld_at hp (j := 5) (by omega)))) rfl fun a H => ?_
        refine kW H rfl (r_add (q := (p.fld 7) + (p.fld 5)) U3 (H.ev rfl) (H.ev rfl) (by omega) (by omega)) rfl fun a H => ?_
        refine kR 1 H rfl fun a H => ?_
        refine kW H rfl (r_ld U3 rfl (H.ev rfl) (pv_cell k0 (fld_at hp (j := 6) (by omega)))) rfl fun a H => ?_
        refine kW H rfl (r_add (q := ((p.fld 7) + (p.fld 5)) + (p.fld 6)) U3 (H.ev rfl) (H.ev rfl) (by omega) (by omega)) rfl fun a H => ?_
        by_cases hcc7 : (((p.fld 7) + (p.fld 5)) + (p.fld 6)) > 0
        ·
         refine kW H rfl (r_gt U3 (H.ev rfl) evc (dec_t (hcc7))) rfl fun a H => ?_
         refine kR 1 H rfl fun a H => ?_
         refine kW H rfl (r_not (H.ev rfl) rfl) rfl fun a H => ?_
         refine kR 2 H rfl fun a H => ?_
         refine zA (zB (zF ?_))
         exact k_ret1 H rfl rfl ⟨by rw [right_no4 (by omega)]; first | done | rfl, hall⟩
        ·
         refine kW H rfl (r_gt U3 (H.ev rfl) evc (dec_f (hcc7))) rfl fun a H => ?_
         refine kR 1 H rfl fun a H => ?_
         refine kW H rfl (r_not (H.ev rfl) rfl) rfl fun a H => ?_
         refine kR 2 H rfl fun a H => ?_
         refine zA (zB (zF ?_))
         exact k_ret1 H rfl rfl ⟨by rw [rightF_t ⟨by rw [HL.out]; exact hL0, by rw [HL.out]; exact fun j s hj => hin j s (List.getElem?_eq_some_iff.1 hj).1 hj, by rw [HL.out, hfe]; exact he, by omega⟩]; first | done | rfl, hall⟩
       ·
        refine zD ?_
        refine kR 1 H rfl fun a H => ?_
        refine kV (v := .bool true) H (r_nenil U87 (H.ev rfl) (by rw [hA2, decide_eq_false hL0]; rfl)) rfl fun a H => ?_
        refine kR 1 H rfl fun a H => ?_
        refine kG H rfl ?_; refine kV (v := .agg (pv (⟨bareN p L L.length, p.sec, List.replicate 8 0⟩ : Pkt))) H (run_load_row b1 36 _ _ (H.ev rfl) k1 U36 rfl (s36p hok)) rfl fun a H => ?_
        refine kG H rfl ?_; refine kV (v := .agg (pv p)) H (run_load_row b0 36 _ _ (H.ev rfl) k0 U36 rfl (s36p hp)) rfl fun a H => ?_
        refine kG H rfl ?_; refine kV (v := .bool false) H (r_eqpk_b hok hp (H.ev rfl) (H.ev rfl) (decide_eq_false he)) rfl fun a H => ?_
        refine kR 17 H rfl fun a H => ?_
        refine zA (zB (zF ?_))
        exact k_ret1 H rfl rfl ⟨by rw [right_no3 (by rw [HL.out, hfe]; exact he)]; first | done | rfl, hall⟩
     ·
      refine kW H rfl (r_eq U3 (H.ev rfl) evc (dec_f (hcc6))) rfl fun a H => ?_
      refine kR 2 H rfl fun a H => ?_
      refine zA (zB (zC ?_))
      obtain ⟨v1, v2, v3, v4, v5, v6⟩ := void_bounds (p := p) (by assumption) (by rw [HL.out]; exact fun j s hj => hin j s (List.getElem?_eq_some_iff.1 hj).1 hj)
      have hfe : full p L = (⟨bareN p L L.length, p.sec, List.replicate 8 0⟩ : Pkt) := by simp only [full, if_pos hse, if_neg htg]
      have hok : Pkt.ok (⟨bareN p L L.length, p.sec, List.replicate 8 0⟩ : Pkt) := ⟨bare_len p L _, by first | exact hp.2.1 | rfl, by first | exact hp.2.2.1 | rfl, (bare_ok (i := L.length) hp).2.2.2⟩
      by_cases hL0 : L = []
      ·
       refine zD ?_
       refine kR 1 H rfl fun a H => ?_
       refine kV (v := .bool false) H (r_nenil U87 (H.ev rfl) (by rw [hA2, hL0]; rfl)) rfl fun a H => ?_
       refine kR 21 H rfl fun a H => ?_
       refine zA (zB (zF ?_))
       exact k_ret1 H rfl rfl ⟨by rw [right_no1 (by rw [HL.out]; exact hL0)]; first | done | rfl, hall⟩
      ·
       by_cases he : (⟨bareN p L L.length, p.sec, List.replicate 8 0⟩ : Pkt) = p
       ·
        refine zD ?_
        refine kR 1 H rfl fun a H => ?_
        refine kV (v := .bool true) H (r_nenil U87 (H.ev rfl) (by rw [hA2, decide_eq_false hL0]; rfl)) rfl fun a H => ?_
        refine kR 1 H rfl fun a H => ?_
        refine kG H rfl ?_; refine kV (v := .agg (pv (⟨bareN p L L.length, p.sec, List.replicate 8 0⟩ : Pkt))) H (run_load_row b1 36 _ _ (H.ev rfl) k1 U36 rfl (s36p hok)) rfl fun a H => ?_
        refine kG H rfl ?_; refine kV (v := .agg (pv p)) H (run_load_row b0 36 _ _ (H.ev rfl) k0 U36 rfl (s36p hp)) rfl fun a H => ?_
        refine kG H rfl ?_; refine kV (v := .bool true) H (r_eqpk_b hok hp (H.ev rfl) (H.ev rfl) (decide_eq_true he)) rfl fun a H => ?_
        refine kR 14 H rfl fun a H => ?_
        refine kW H rfl (r_not (H.ev rfl) rfl) rfl fun a H => ?_
        refine kR 2 H rfl fun a H => ?_
        refine zA (zB (zF ?_))
        exact k_ret1 H rfl rfl ⟨by rw [rightF_t ⟨by rw [HL.out]; exact hL0, by rw [HL.out]; exact fun j s hj => hin j s (List.getElem?_eq_some_iff.1 hj).1 hj, by rw [HL.out, hfe]; exact he, by omega⟩]; first | done | rfl, hall⟩
       ·
        refine zD ?_
        refine kR 1 H rfl fun a H => ?_
        refine kV (v := .bool true) H (r_nenil U87 (H.ev rfl) (by rw [hA2, decide_eq_false hL0]; rfl)) rfl fun a H => ?_
        refine kR 1 H rfl fun a H => ?_
        refine kG H rfl ?_; refine kV (v := .agg (pv (⟨bareN p L L.length, p.sec, List.replicate 8 0⟩ : Pkt))) H (run_load_row b1 36 _ _ (H.ev rfl) k1 U36 rfl (s36p hok)) rfl fun a H => ?_
        refine kG H rfl ?_; refine kV (v := .agg (pv p)) H (run_load_row b0 36 _ _ (H.ev rfl) k0 U36 rfl (s36p hp)) rfl fun a H => ?_
        refine kG H rfl ?_; refine kV (v := .bool false) H (r_eqpk_b hok hp (H.ev rfl) (H.ev rfl) (decide_eq_false he)) rfl fun a H => ?_
        refine kR 17 H rfl fun a H => ?_
        refine zA (zB (zF ?_))
        exact k_ret1 H rfl rfl ⟨by rw [right_no3 (by rw [HL.out, hfe]; exact he)]; first | done | rfl, hall⟩
    ·
     refine kV H (r_eq U3 (H.ev rfl) evc (dec_f (hcc5))) rfl fun a H => ?_
     refine kR 6 H rfl fun a H => ?_
     refine zA (zB (zC ?_))
     have hfe : full p L = (⟨bareN p L L.length, p.sec, List.replicate 8 0⟩ : Pkt) := by simp only [full, if_pos hse, if_neg htg]
     have hok : Pkt.ok (⟨bareN p L L.length, p.sec, List.replicate 8 0⟩ : Pkt) := ⟨bare_len p L _, by first | exact hp.2.1 | rfl, by first | exact hp.2.2.1 | rfl, (bare_ok (i := L.length) hp).2.2.2⟩
     by_cases hL0 : L = []
     ·
      refine zD ?_
      refine kR 1 H rfl fun a H => ?_
      refine kV (v := .bool false) H (r_nenil U87 (H.ev rfl) (by rw [hA2, hL0]; rfl)) rfl fun a H => ?_
      refine kR 21 H rfl fun a H => ?_
      refine zA (zB (zF ?_))
      exact k_ret1 H rfl rfl ⟨by rw [right_no1 (by rw [HL.out]; exact hL0)]; first | done | rfl, hall⟩
     ·
      by_cases he : (⟨bareN p L L.length, p.sec, List.replicate 8 0⟩ : Pkt) = p
      ·
       refine zD ?_
       refine kR 1 H rfl fun a H => ?_
       refine kV (v := .bool true) H (r_nenil U87 (H.ev rfl) (by rw [hA2, decide_eq_false hL0]; rfl)) rfl fun a H => ?_
       refine kR 1 H rfl fun a H => ?_
       refine kG H rfl ?_; refine kV (v := .agg (pv (⟨bareN p L L.length, p.sec, List.replicate 8 0⟩ : Pkt))) H (run_load_row b1 36 _ _ (H.ev rfl) k1 U36 rfl (s36p hok)) rfl fun a H => ?_
       refine kG H rfl ?_; refine kV (v := .agg (pv p)) H (run_load_row b0 36 _ _ (H.ev rfl) k0 U36 rfl (s36p hp)) rfl fun a H => ?_
       refine kG H rfl ?_; refine kV (v := .bool true) H (r_eqpk_b hok hp (H.ev rfl) (H.ev rfl) (decide_eq_true he)) rfl fun a H => ?_
       refine kR 14 H rfl fun a H => ?_
       refine kW H rfl (r_not (H.ev rfl) rfl) rfl fun a H => ?_
       refine kR 2 H rfl fun a H => ?_
       refine zA (zB (zF ?_))
       exact k_ret1 H rfl rfl ⟨by rw [rightF_t ⟨by rw [HL.out]; exact hL0, by rw [HL.out]; exact fun j s hj => hin j s (List.getElem?_eq_some_iff.1 hj).1 hj, by rw [HL.out, hfe]; exact he, by omega⟩]; first | done | rfl, hall⟩
      ·
       refine zD ?_
       refine kR 1 H rfl fun a H => ?_
       refine kV (v := .bool true) H (r_nenil U87 (H.ev rfl) (by rw [hA2, decide_eq_false hL0]; rfl)) rfl fun a H => ?_
       refine kR 1 H rfl fun a H => ?_
       refine kG H rfl ?_; refine kV (v := .agg (pv (⟨bareN p L L.length, p.sec, List.replicate 8 0⟩ : Pkt))) H (run_load_row b1 36 _ _ (H.ev rfl) k1 U36 rfl (s36p hok)) rfl fun a H => ?_
       refine kG H rfl ?_; refine kV (v := .agg (pv p)) H (run_load_row b0 36 _ _ (H.ev rfl) k0 U36 rfl (s36p hp)) rfl fun a H => ?_
       refine kG H rfl ?_; refine kV (v := .bool false) H (r_eqpk_b hok hp (H.ev rfl) (H.ev rfl) (decide_eq_false he)) rfl fun a H => ?_
       refine kR 17 H rfl fun a H => ?_
       refine zA (zB (zF ?_))
       exact k_ret1 H rfl rfl ⟨by rw [right_no3 (by rw [HL.out, hfe]; exact he)]; first | done | rfl, hall⟩
  ·
   refine zD ?_
   refine kR 1 H rfl fun a H => ?_
   refine kV H (r_ld U3 rfl (H.ev rfl) (pv_cell k0 (fld_at hp (j := 0) (by omega)))) rfl fun a H => ?_
   refine wl_call _ _ _ (sealed_f _ _ hse) (r_call1 cf64 (H.ev rfl)) ?_; rintro e w9 ⟨rfl, hb⟩; refine ⟨_, rfl, ?_⟩; replace k0 := Block.ups k0 hb; replace k1 := Block.ups k1 hb; replace hh := holds_ups hh hb; replace hall := hall.tr hb; clear hb; refine kl H rfl fun a H => ?_
   refine zA (zB (zG H rfl (zE (zB (zC (zC ?_))))))
   by_cases htg : (5 ≤ p.fld 0 ∧ p.fld 0 ≤ 11)
   ·
    refine zD ?_
    refine kR 1 H rfl fun a H => ?_
    refine kV H (r_ld U3 rfl (H.ev rfl) (pv_cell k0 (fld_at hp (j := 0) (by omega)))) rfl fun a H => ?_
    refine wl_call _ _ _ (tagged_t _ _ htg) (r_call1 cf66 (H.ev rfl)) ?_; rintro e w9 ⟨rfl, hb⟩; refine ⟨_, rfl, ?_⟩; replace k0 := Block.ups k0 hb; replace k1 := Block.ups k1 hb; replace hh := holds_ups hh hb; replace hall := hall.tr hb; clear hb; refine kl H rfl fun a H => ?_
    refine zA (zB (zH H rfl (zD ?_)))
    refine kR 1 H rfl fun a H => ?_
    refine kV (v := .agg (p.tg.map u8v).toArray) H (r_row (cs := p.tg.map u8v) (H.ev rfl) (pv_tg k0 hp) (by kernel_rfl) (by rw [List.length_map, hp.2.2.1]; exact s34a) rfl) rfl fun a H => ?_
    refine kR 1 H rfl fun a H => ?_
    refine op_store_mid 34 (.tmp 53) (.tmp 52) b1 28 36 (p.tg.map u8v).toArray _ (H.ev rfl) (H.ev rfl) k1 (by rw [List.size_toArray, List.length_map, hp.2.2.1]; exact s34a) (by rw [List.size_toArray, List.length_map, hp.2.2.1]; show 28 + 8 ≤ (pv ⟨bareN p L L.length, List.replicate 16 0, List.replicate 8 0⟩).size; rw [pv_len3 (bare_len p L _) (by first | exact hp.2.1 | rfl) rfl]; omega) (bytes_one _) fun w' hb ho kq => ?_; clear k1; have k1 := tg_set (S := List.replicate 16 0) (bare_len p L _) (by first | exact hp.2.1 | rfl) (by rw [List.length_replicate, hp.2.2.1]) kq; replace k0 := block_same k0 (ho _ (by omega)); replace hh := holds_far hh (hb _ (Nat.le_refl _)) hfl1; replace hall := hall.trans (hb _ g1); clear hb ho kq; refine kl0 H fun a H => ?_
    refine zA (zB (zC (zD ?_)))
    refine kR 1 H rfl fun a H => ?_
    refine kV H (r_ld U3 rfl (H.ev rfl) (pv_cell k0 (fld_at hp (j := 0) (by omega)))) rfl fun a H => ?_
    by_cases hcc8 : (p.fld 0) = 8
    ·
     refine kV H (r_eq U3 (H.ev rfl) evc (dec_t (hcc8))) rfl fun a H => ?_
     refine kR 2 H rfl fun a H => ?_
     refine kW H rfl (r_ld U3 rfl (H.ev rfl) (pv_cell k0 (fld_at hp (j := 3) (by omega)))) rfl fun a H => ?_
     by_cases hcc9 : (p.fld 3) = 0
     ·
      refine kW H rfl (r_eq U3 (H.ev rfl) evc (dec_t (hcc9))) rfl fun a H => ?_
      refine kR 2 H rfl fun a H => ?_
      refine zA (zB (zC ?_))
      obtain ⟨v1, v2, v3, v4, v5, v6⟩ := void_bounds (p := p) (by assumption) (by rw [HL.out]; exact fun j s hj => hin j s (List.getElem?_eq_some_iff.1 hj).1 hj)
      have hfe : full p L = (⟨bareN p L L.length, List.replicate 16 0, p.tg⟩ : Pkt) := by simp only [full, if_neg hse, if_pos htg]
      have hok : Pkt.ok (⟨bareN p L L.length, List.replicate 16 0, p.tg⟩ : Pkt) := ⟨bare_len p L _, by first | exact hp.2.1 | rfl, by first | exact hp.2.2.1 | rfl, (bare_ok (i := L.length) hp).2.2.2⟩
      by_cases hL0 : L = []
      ·
       refine zD ?_
       refine kR 1 H rfl fun a H => ?_
       refine kV (v := .bool false) H (r_nenil U87 (H.ev rfl) (by rw [hA2, hL0]; rfl)) rfl fun a H => ?_
       refine kR 21 H rfl fun a H => ?_
       refine zA (zB (zF ?_))
       exact k_ret1 H rfl rfl ⟨by rw [right_no1 (by rw [HL.out]; exact hL0)]; first | done | rfl, hall⟩
      ·
       by_cases he : (⟨bareN p L L.length, List.replicate 16 0, p.tg⟩ : Pkt) = p
       ·
        refine zD ?_
        refine kR 1 H rfl fun a H => ?_
        refine kV (v := .bool true) H (r_nenil U87 (H.ev rfl) (by rw [hA2, decide_eq_false hL0]; rfl)) rfl fun a H => ?_
        refine kR 1 H rfl fun a H => ?_
        refine kG H rfl ?_; refine kV (v := .agg (pv (⟨bareN p L L.length, List.replicate 16 0, p.tg⟩ : Pkt))) H (run_load_row b1 36 _ _ (H.ev rfl) k1 U36 rfl (s36p hok)) rfl fun a H => ?_
        refine kG H rfl ?_; refine kV (v := .agg (pv p)) H (run_load_row b0 36 _ _ (H.ev rfl) k0 U36 rfl (s36p hp)) rfl fun a H => ?_
        refine kG H rfl ?_; refine kV (v := .bool true) H (r_eqpk_b hok hp (H.ev rfl) (H.ev rfl) (decide_eq_true he)) rfl fun a H => ?_
        refine kR 5 H rfl fun a H => ?_
        refine kW H rfl (r_ld U3 rfl (H.ev rfl) (pv_cell k0 (fld_at hp (j := 7) (by omega)))) rfl fun a H => ?_
        refine kR 1 H rfl fun a H => ?_
        refine kW H rfl (r_ld U3 rfl (H.ev rfl) (pv_cell k0 (fld_at hp (j := 5) (by omega)))) rfl fun a H => ?_
        refine kW H rfl (r_add (q := (p.fld 7) + (p.fld 5)) U3 (H.ev rfl) (H.ev rfl) (by omega) (by omega)) rfl fun a H => ?_
        refine kR 1 H rfl fun a H => ?_
        refine kW H rfl (r_ld U3 rfl (H.ev rfl) (pv_cell k0 (fld_at hp (j := 6) (by omega)))) rfl fun a H => ?_
        refine kW H rfl (r_add (q := ((p.fld 7) + (p.fld 5)) + (p.fld 6)) U3 (H.ev rfl) (H.ev rfl) (by omega) (by omega)) rfl fun a H => ?_
        by_cases hcc10 : (((p.fld 7) + (p.fld 5)) + (p.fld 6)) > 0
        ·
         refine kW H rfl (r_gt U3 (H.ev rfl) evc (dec_t (hcc10))) rfl fun a H => ?_
         refine kR 1 H rfl fun a H => ?_
         refine kW H rfl (r_not (H.ev rfl) rfl) rfl fun a H => ?_
         refine kR 2 H rfl fun a H => ?_
         refine zA (zB (zF ?_))
         exact k_ret1 H rfl rfl ⟨by rw [right_no4 (by omega)]; first | done | rfl, hall⟩
        ·
         refine kW H rfl (r_gt U3 (H.ev rfl) evc (dec_f (hcc10))) rfl fun a H => ?_
         refine kR 1 H rfl fun a H => ?_
         refine kW H rfl (r_not (H.ev rfl) rfl) rfl fun a H => ?_
         refine kR 2 H rfl fun a H => ?_
         refine zA (zB (zF ?_))
         exact k_ret1 H rfl rfl ⟨by rw [rightF_t ⟨by rw [HL.out]; exact hL0, by rw [HL.out]; exact fun j s hj => hin j s (List.getElem?_eq_some_iff.1 hj).1 hj, by rw [HL.out, hfe]; exact he, by omega⟩]; first | done | rfl, hall⟩
       ·
        refine zD ?_
        refine kR 1 H rfl fun a H => ?_
        refine kV (v := .bool true) H (r_nenil U87 (H.ev rfl) (by rw [hA2, decide_eq_false hL0]; rfl)) rfl fun a H => ?_
        refine kR 1 H rfl fun a H => ?_
        refine kG H rfl ?_; refine kV (v := .agg (pv (⟨bareN p L L.length, List.replicate 16 0, p.tg⟩ : Pkt))) H (run_load_row b1 36 _ _ (H.ev rfl) k1 U36 rfl (s36p hok)) rfl fun a H => ?_
        refine kG H rfl ?_; refine kV (v := .agg (pv p)) H (run_load_row b0 36 _ _ (H.ev rfl) k0 U36 rfl (s36p hp)) rfl fun a H => ?_
        refine kG H rfl ?_; refine kV (v := .bool false) H (r_eqpk_b hok hp (H.ev rfl) (H.ev rfl) (decide_eq_false he)) rfl fun a H => ?_
        refine kR 17 H rfl fun a H => ?_
        refine zA (zB (zF ?_))
        exact k_ret1 H rfl rfl ⟨by rw [right_no3 (by rw [HL.out, hfe]; exact he)]; first | done | rfl, hall⟩
     ·
      refine kW H rfl (r_eq U3 (H.ev rfl) evc (dec_f (hcc9))) rfl fun a H => ?_
      refine kR 2 H rfl fun a H => ?_
      refine zA (zB (zC ?_))
      obtain ⟨v1, v2, v3, v4, v5, v6⟩ := void_bounds (p := p) (by assumption) (by rw [HL.out]; exact fun j s hj => hin j s (List.getElem?_eq_some_iff.1 hj).1 hj)
      have hfe : full p L = (⟨bareN p L L.length, List.replicate 16 0, p.tg⟩ : Pkt) := by simp only [full, if_neg hse, if_pos htg]
      have hok : Pkt.ok (⟨bareN p L L.length, List.replicate 16 0, p.tg⟩ : Pkt) := ⟨bare_len p L _, by first | exact hp.2.1 | rfl, by first | exact hp.2.2.1 | rfl, (bare_ok (i := L.length) hp).2.2.2⟩
      by_cases hL0 : L = []
      ·
       refine zD ?_
       refine kR 1 H rfl fun a H => ?_
       refine kV (v := .bool false) H (r_nenil U87 (H.ev rfl) (by rw [hA2, hL0]; rfl)) rfl fun a H => ?_
       refine kR 21 H rfl fun a H => ?_
       refine zA (zB (zF ?_))
       exact k_ret1 H rfl rfl ⟨by rw [right_no1 (by rw [HL.out]; exact hL0)]; first | done | rfl, hall⟩
      ·
       by_cases he : (⟨bareN p L L.length, List.replicate 16 0, p.tg⟩ : Pkt) = p
       ·
        refine zD ?_
        refine kR 1 H rfl fun a H => ?_
        refine kV (v := .bool true) H (r_nenil U87 (H.ev rfl) (by rw [hA2, decide_eq_false hL0]; rfl)) rfl fun a H => ?_
        refine kR 1 H rfl fun a H => ?_
        refine kG H rfl ?_; refine kV (v := .agg (pv (⟨bareN p L L.length, List.replicate 16 0, p.tg⟩ : Pkt))) H (run_load_row b1 36 _ _ (H.ev rfl) k1 U36 rfl (s36p hok)) rfl fun a H => ?_
        refine kG H rfl ?_; refine kV (v := .agg (pv p)) H (run_load_row b0 36 _ _ (H.ev rfl) k0 U36 rfl (s36p hp)) rfl fun a H => ?_
        refine kG H rfl ?_; refine kV (v := .bool true) H (r_eqpk_b hok hp (H.ev rfl) (H.ev rfl) (decide_eq_true he)) rfl fun a H => ?_
        refine kR 14 H rfl fun a H => ?_
        refine kW H rfl (r_not (H.ev rfl) rfl) rfl fun a H => ?_
        refine kR 2 H rfl fun a H => ?_
        refine zA (zB (zF ?_))
        exact k_ret1 H rfl rfl ⟨by rw [rightF_t ⟨by rw [HL.out]; exact hL0, by rw [HL.out]; exact fun j s hj => hin j s (List.getElem?_eq_some_iff.1 hj).1 hj, by rw [HL.out, hfe]; exact he, by omega⟩]; first | done | rfl, hall⟩
       ·
        refine zD ?_
        refine kR 1 H rfl fun a H => ?_
        refine kV (v := .bool true) H (r_nenil U87 (H.ev rfl) (by rw [hA2, decide_eq_false hL0]; rfl)) rfl fun a H => ?_
        refine kR 1 H rfl fun a H => ?_
        refine kG H rfl ?_; refine kV (v := .agg (pv (⟨bareN p L L.length, List.replicate 16 0, p.tg⟩ : Pkt))) H (run_load_row b1 36 _ _ (H.ev rfl) k1 U36 rfl (s36p hok)) rfl fun a H => ?_
        refine kG H rfl ?_; refine kV (v := .agg (pv p)) H (run_load_row b0 36 _ _ (H.ev rfl) k0 U36 rfl (s36p hp)) rfl fun a H => ?_
        refine kG H rfl ?_; refine kV (v := .bool false) H (r_eqpk_b hok hp (H.ev rfl) (H.ev rfl) (decide_eq_false he)) rfl fun a H => ?_
        refine kR 17 H rfl fun a H => ?_
        refine zA (zB (zF ?_))
        exact k_ret1 H rfl rfl ⟨by rw [right_no3 (by rw [HL.out, hfe]; exact he)]; first | done | rfl, hall⟩
    ·
     refine kV H (r_eq U3 (H.ev rfl) evc (dec_f (hcc8))) rfl fun a H => ?_
     refine kR 6 H rfl fun a H => ?_
     refine zA (zB (zC ?_))
     have hfe : full p L = (⟨bareN p L L.length, List.replicate 16 0, p.tg⟩ : Pkt) := by simp only [full, if_neg hse, if_pos htg]
     have hok : Pkt.ok (⟨bareN p L L.length, List.replicate 16 0, p.tg⟩ : Pkt) := ⟨bare_len p L _, by first | exact hp.2.1 | rfl, by first | exact hp.2.2.1 | rfl, (bare_ok (i := L.length) hp).2.2.2⟩
     by_cases hL0 : L = []
     ·
      refine zD ?_
      refine kR 1 H rfl fun a H => ?_
      refine kV (v := .bool false) H (r_nenil U87 (H.ev rfl) (by rw [hA2, hL0]; rfl)) rfl fun a H => ?_
      refine kR 21 H rfl fun a H => ?_
      refine zA (zB (zF ?_))
      exact k_ret1 H rfl rfl ⟨by rw [right_no1 (by rw [HL.out]; exact hL0)]; first | done | rfl, hall⟩
     ·
      by_cases he : (⟨bareN p L L.length, List.replicate 16 0, p.tg⟩ : Pkt) = p
      ·
       refine zD ?_
       refine kR 1 H rfl fun a H => ?_
       refine kV (v := .bool true) H (r_nenil U87 (H.ev rfl) (by rw [hA2, decide_eq_false hL0]; rfl)) rfl fun a H => ?_
       refine kR 1 H rfl fun a H => ?_
       refine kG H rfl ?_; refine kV (v := .agg (pv (⟨bareN p L L.length, List.replicate 16 0, p.tg⟩ : Pkt))) H (run_load_row b1 36 _ _ (H.ev rfl) k1 U36 rfl (s36p hok)) rfl fun a H => ?_
       refine kG H rfl ?_; refine kV (v := .agg (pv p)) H (run_load_row b0 36 _ _ (H.ev rfl) k0 U36 rfl (s36p hp)) rfl fun a H => ?_
       refine kG H rfl ?_; refine kV (v := .bool true) H (r_eqpk_b hok hp (H.ev rfl) (H.ev rfl) (decide_eq_true he)) rfl fun a H => ?_
       refine kR 14 H rfl fun a H => ?_
       refine kW H rfl (r_not (H.ev rfl) rfl) rfl fun a H => ?_
       refine kR 2 H rfl fun a H => ?_
       refine zA (zB (zF ?_))
       exact k_ret1 H rfl rfl ⟨by rw [rightF_t ⟨by rw [HL.out]; exact hL0, by rw [HL.out]; exact fun j s hj => hin j s (List.getElem?_eq_some_iff.1 hj).1 hj, by rw [HL.out, hfe]; exact he, by omega⟩]; first | done | rfl, hall⟩
      ·
       refine zD ?_
       refine kR 1 H rfl fun a H => ?_
       refine kV (v := .bool true) H (r_nenil U87 (H.ev rfl) (by rw [hA2, decide_eq_false hL0]; rfl)) rfl fun a H => ?_
       refine kR 1 H rfl fun a H => ?_
       refine kG H rfl ?_; refine kV (v := .agg (pv (⟨bareN p L L.length, List.replicate 16 0, p.tg⟩ : Pkt))) H (run_load_row b1 36 _ _ (H.ev rfl) k1 U36 rfl (s36p hok)) rfl fun a H => ?_
       refine kG H rfl ?_; refine kV (v := .agg (pv p)) H (run_load_row b0 36 _ _ (H.ev rfl) k0 U36 rfl (s36p hp)) rfl fun a H => ?_
       refine kG H rfl ?_; refine kV (v := .bool false) H (r_eqpk_b hok hp (H.ev rfl) (H.ev rfl) (decide_eq_false he)) rfl fun a H => ?_
       refine kR 17 H rfl fun a H => ?_
       refine zA (zB (zF ?_))
       exact k_ret1 H rfl rfl ⟨by rw [right_no3 (by rw [HL.out, hfe]; exact he)]; first | done | rfl, hall⟩
   ·
    refine zD ?_
    refine kR 1 H rfl fun a H => ?_
    refine kV H (r_ld U3 rfl (H.ev rfl) (pv_cell k0 (fld_at hp (j := 0) (by omega)))) rfl fun a H => ?_
    refine wl_call _ _ _ (tagged_f _ _ htg) (r_call1 cf66 (H.ev rfl)) ?_; rintro e w9 ⟨rfl, hb⟩; refine ⟨_, rfl, ?_⟩; replace k0 := Block.ups k0 hb; replace k1 := Block.ups k1 hb; replace hh := holds_ups hh hb; replace hall := hall.tr hb; clear hb; refine kl H rfl fun a H => ?_
    refine zA (zB (zG H rfl (zE (zB (zC (zD ?_))))))
    refine kR 1 H rfl fun a H => ?_
    refine kV H (r_ld U3 rfl (H.ev rfl) (pv_cell k0 (fld_at hp (j := 0) (by omega)))) rfl fun a H => ?_
    by_cases hcc11 : (p.fld 0) = 8
    ·
     refine kV H (r_eq U3 (H.ev rfl) evc (dec_t (hcc11))) rfl fun a H => ?_
     refine kR 2 H rfl fun a H => ?_
     refine kW H rfl (r_ld U3 rfl (H.ev rfl) (pv_cell k0 (fld_at hp (j := 3) (by omega)))) rfl fun a H => ?_
     by_cases hcc12 : (p.fld 3) = 0
     ·
      refine kW H rfl (r_eq U3 (H.ev rfl) evc (dec_t (hcc12))) rfl fun a H => ?_
      refine kR 2 H rfl fun a H => ?_
      refine zA (zB (zC ?_))
      obtain ⟨v1, v2, v3, v4, v5, v6⟩ := void_bounds (p := p) (by assumption) (by rw [HL.out]; exact fun j s hj => hin j s (List.getElem?_eq_some_iff.1 hj).1 hj)
      have hfe : full p L = (⟨bareN p L L.length, List.replicate 16 0, List.replicate 8 0⟩ : Pkt) := by simp only [full, if_neg hse, if_neg htg]
      have hok : Pkt.ok (⟨bareN p L L.length, List.replicate 16 0, List.replicate 8 0⟩ : Pkt) := ⟨bare_len p L _, by first | exact hp.2.1 | rfl, by first | exact hp.2.2.1 | rfl, (bare_ok (i := L.length) hp).2.2.2⟩
      by_cases hL0 : L = []
      ·
       refine zD ?_
       refine kR 1 H rfl fun a H => ?_
       refine kV (v := .bool false) H (r_nenil U87 (H.ev rfl) (by rw [hA2, hL0]; rfl)) rfl fun a H => ?_
       refine kR 21 H rfl fun a H => ?_
       refine zA (zB (zF ?_))
       exact k_ret1 H rfl rfl ⟨by rw [right_no1 (by rw [HL.out]; exact hL0)]; first | done | rfl, hall⟩
      ·
       by_cases he : (⟨bareN p L L.length, List.replicate 16 0, List.replicate 8 0⟩ : Pkt) = p
       ·
        refine zD ?_
        refine kR 1 H rfl fun a H => ?_
        refine kV (v := .bool true) H (r_nenil U87 (H.ev rfl) (by rw [hA2, decide_eq_false hL0]; rfl)) rfl fun a H => ?_
        refine kR 1 H rfl fun a H => ?_
        refine kG H rfl ?_; refine kV (v := .agg (pv (⟨bareN p L L.length, List.replicate 16 0, List.replicate 8 0⟩ : Pkt))) H (run_load_row b1 36 _ _ (H.ev rfl) k1 U36 rfl (s36p hok)) rfl fun a H => ?_
        refine kG H rfl ?_; refine kV (v := .agg (pv p)) H (run_load_row b0 36 _ _ (H.ev rfl) k0 U36 rfl (s36p hp)) rfl fun a H => ?_
        refine kG H rfl ?_; refine kV (v := .bool true) H (r_eqpk_b hok hp (H.ev rfl) (H.ev rfl) (decide_eq_true he)) rfl fun a H => ?_
        refine kR 5 H rfl fun a H => ?_
        refine kW H rfl (r_ld U3 rfl (H.ev rfl) (pv_cell k0 (fld_at hp (j := 7) (by omega)))) rfl fun a H => ?_
        refine kR 1 H rfl fun a H => ?_
        refine kW H rfl (r_ld U3 rfl (H.ev rfl) (pv_cell k0 (fld_at hp (j := 5) (by omega)))) rfl fun a H => ?_
        refine kW H rfl (r_add (q := (p.fld 7) + (p.fld 5)) U3 (H.ev rfl) (H.ev rfl) (by omega) (by omega)) rfl fun a H => ?_
        refine kR 1 H rfl fun a H => ?_
        refine kW H rfl (r_ld U3 rfl (H.ev rfl) (pv_cell k0 (fld_at hp (j := 6) (by omega)))) rfl fun a H => ?_
        refine kW H rfl (r_add (q := ((p.fld 7) + (p.fld 5)) + (p.fld 6)) U3 (H.ev rfl) (H.ev rfl) (by omega) (by omega)) rfl fun a H => ?_
        by_cases hcc13 : (((p.fld 7) + (p.fld 5)) + (p.fld 6)) > 0
        ·
         refine kW H rfl (r_gt U3 (H.ev rfl) evc (dec_t (hcc13))) rfl fun a H => ?_
         refine kR 1 H rfl fun a H => ?_
         refine kW H rfl (r_not (H.ev rfl) rfl) rfl fun a H => ?_
         refine kR 2 H rfl fun a H => ?_
         refine zA (zB (zF ?_))
         exact k_ret1 H rfl rfl ⟨by rw [right_no4 (by omega)]; first | done | rfl, hall⟩
        ·
         refine kW H rfl (r_gt U3 (H.ev rfl) evc (dec_f (hcc13))) rfl fun a H => ?_
         refine kR 1 H rfl fun a H => ?_
         refine kW H rfl (r_not (H.ev rfl) rfl) rfl fun a H => ?_
         refine kR 2 H rfl fun a H => ?_
         refine zA (zB (zF ?_))
         exact k_ret1 H rfl rfl ⟨by rw [rightF_t ⟨by rw [HL.out]; exact hL0, by rw [HL.out]; exact fun j s hj => hin j s (List.getElem?_eq_some_iff.1 hj).1 hj, by rw [HL.out, hfe]; exact he, by omega⟩]; first | done | rfl, hall⟩
       ·
        refine zD ?_
        refine kR 1 H rfl fun a H => ?_
        refine kV (v := .bool true) H (r_nenil U87 (H.ev rfl) (by rw [hA2, decide_eq_false hL0]; rfl)) rfl fun a H => ?_
        refine kR 1 H rfl fun a H => ?_
        refine kG H rfl ?_; refine kV (v := .agg (pv (⟨bareN p L L.length, List.replicate 16 0, List.replicate 8 0⟩ : Pkt))) H (run_load_row b1 36 _ _ (H.ev rfl) k1 U36 rfl (s36p hok)) rfl fun a H => ?_
        refine kG H rfl ?_; refine kV (v := .agg (pv p)) H (run_load_row b0 36 _ _ (H.ev rfl) k0 U36 rfl (s36p hp)) rfl fun a H => ?_
        refine kG H rfl ?_; refine kV (v := .bool false) H (r_eqpk_b hok hp (H.ev rfl) (H.ev rfl) (decide_eq_false he)) rfl fun a H => ?_
        refine kR 17 H rfl fun a H => ?_
        refine zA (zB (zF ?_))
        exact k_ret1 H rfl rfl ⟨by rw [right_no3 (by rw [HL.out, hfe]; exact he)]; first | done | rfl, hall⟩
     ·
      refine kW H rfl (r_eq U3 (H.ev rfl) evc (dec_f (hcc12))) rfl fun a H => ?_
      refine kR 2 H rfl fun a H => ?_
      refine zA (zB (zC ?_))
      obtain ⟨v1, v2, v3, v4, v5, v6⟩ := void_bounds (p := p) (by assumption) (by rw [HL.out]; exact fun j s hj => hin j s (List.getElem?_eq_some_iff.1 hj).1 hj)
      have hfe : full p L = (⟨bareN p L L.length, List.replicate 16 0, List.replicate 8 0⟩ : Pkt) := by simp only [full, if_neg hse, if_neg htg]
      have hok : Pkt.ok (⟨bareN p L L.length, List.replicate 16 0, List.replicate 8 0⟩ : Pkt) := ⟨bare_len p L _, by first | exact hp.2.1 | rfl, by first | exact hp.2.2.1 | rfl, (bare_ok (i := L.length) hp).2.2.2⟩
      by_cases hL0 : L = []
      ·
       refine zD ?_
       refine kR 1 H rfl fun a H => ?_
       refine kV (v := .bool false) H (r_nenil U87 (H.ev rfl) (by rw [hA2, hL0]; rfl)) rfl fun a H => ?_
       refine kR 21 H rfl fun a H => ?_
       refine zA (zB (zF ?_))
       exact k_ret1 H rfl rfl ⟨by rw [right_no1 (by rw [HL.out]; exact hL0)]; first | done | rfl, hall⟩
      ·
       by_cases he : (⟨bareN p L L.length, List.replicate 16 0, List.replicate 8 0⟩ : Pkt) = p
       ·
        refine zD ?_
        refine kR 1 H rfl fun a H => ?_
        refine kV (v := .bool true) H (r_nenil U87 (H.ev rfl) (by rw [hA2, decide_eq_false hL0]; rfl)) rfl fun a H => ?_
        refine kR 1 H rfl fun a H => ?_
        refine kG H rfl ?_; refine kV (v := .agg (pv (⟨bareN p L L.length, List.replicate 16 0, List.replicate 8 0⟩ : Pkt))) H (run_load_row b1 36 _ _ (H.ev rfl) k1 U36 rfl (s36p hok)) rfl fun a H => ?_
        refine kG H rfl ?_; refine kV (v := .agg (pv p)) H (run_load_row b0 36 _ _ (H.ev rfl) k0 U36 rfl (s36p hp)) rfl fun a H => ?_
        refine kG H rfl ?_; refine kV (v := .bool true) H (r_eqpk_b hok hp (H.ev rfl) (H.ev rfl) (decide_eq_true he)) rfl fun a H => ?_
        refine kR 14 H rfl fun a H => ?_
        refine kW H rfl (r_not (H.ev rfl) rfl) rfl fun a H => ?_
        refine kR 2 H rfl fun a H => ?_
        refine zA (zB (zF ?_))
        exact k_ret1 H rfl rfl ⟨by rw [rightF_t ⟨by rw [HL.out]; exact hL0, by rw [HL.out]; exact fun j s hj => hin j s (List.getElem?_eq_some_iff.1 hj).1 hj, by rw [HL.out, hfe]; exact he, by omega⟩]; first | done | rfl, hall⟩
       ·
        refine zD ?_
        refine kR 1 H rfl fun a H => ?_
        refine kV (v := .bool true) H (r_nenil U87 (H.ev rfl) (by rw [hA2, decide_eq_false hL0]; rfl)) rfl fun a H => ?_
        refine kR 1 H rfl fun a H => ?_
        refine kG H rfl ?_; refine kV (v := .agg (pv (⟨bareN p L L.length, List.replicate 16 0, List.replicate 8 0⟩ : Pkt))) H (run_load_row b1 36 _ _ (H.ev rfl) k1 U36 rfl (s36p hok)) rfl fun a H => ?_
        refine kG H rfl ?_; refine kV (v := .agg (pv p)) H (run_load_row b0 36 _ _ (H.ev rfl) k0 U36 rfl (s36p hp)) rfl fun a H => ?_
        refine kG H rfl ?_; refine kV (v := .bool false) H (r_eqpk_b hok hp (H.ev rfl) (H.ev rfl) (decide_eq_false he)) rfl fun a H => ?_
        refine kR 17 H rfl fun a H => ?_
        refine zA (zB (zF ?_))
        exact k_ret1 H rfl rfl ⟨by rw [right_no3 (by rw [HL.out, hfe]; exact he)]; first | done | rfl, hall⟩
    ·
     refine kV H (r_eq U3 (H.ev rfl) evc (dec_f (hcc11))) rfl fun a H => ?_
     refine kR 6 H rfl fun a H => ?_
     refine zA (zB (zC ?_))
     have hfe : full p L = (⟨bareN p L L.length, List.replicate 16 0, List.replicate 8 0⟩ : Pkt) := by simp only [full, if_neg hse, if_neg htg]
     have hok : Pkt.ok (⟨bareN p L L.length, List.replicate 16 0, List.replicate 8 0⟩ : Pkt) := ⟨bare_len p L _, by first | exact hp.2.1 | rfl, by first | exact hp.2.2.1 | rfl, (bare_ok (i := L.length) hp).2.2.2⟩
     by_cases hL0 : L = []
     ·
      refine zD ?_
      refine kR 1 H rfl fun a H => ?_
      refine kV (v := .bool false) H (r_nenil U87 (H.ev rfl) (by rw [hA2, hL0]; rfl)) rfl fun a H => ?_
      refine kR 21 H rfl fun a H => ?_
      refine zA (zB (zF ?_))
      exact k_ret1 H rfl rfl ⟨by rw [right_no1 (by rw [HL.out]; exact hL0)]; first | done | rfl, hall⟩
     ·
      by_cases he : (⟨bareN p L L.length, List.replicate 16 0, List.replicate 8 0⟩ : Pkt) = p
      ·
       refine zD ?_
       refine kR 1 H rfl fun a H => ?_
       refine kV (v := .bool true) H (r_nenil U87 (H.ev rfl) (by rw [hA2, decide_eq_false hL0]; rfl)) rfl fun a H => ?_
       refine kR 1 H rfl fun a H => ?_
       refine kG H rfl ?_; refine kV (v := .agg (pv (⟨bareN p L L.length, List.replicate 16 0, List.replicate 8 0⟩ : Pkt))) H (run_load_row b1 36 _ _ (H.ev rfl) k1 U36 rfl (s36p hok)) rfl fun a H => ?_
       refine kG H rfl ?_; refine kV (v := .agg (pv p)) H (run_load_row b0 36 _ _ (H.ev rfl) k0 U36 rfl (s36p hp)) rfl fun a H => ?_
       refine kG H rfl ?_; refine kV (v := .bool true) H (r_eqpk_b hok hp (H.ev rfl) (H.ev rfl) (decide_eq_true he)) rfl fun a H => ?_
       refine kR 14 H rfl fun a H => ?_
       refine kW H rfl (r_not (H.ev rfl) rfl) rfl fun a H => ?_
       refine kR 2 H rfl fun a H => ?_
       refine zA (zB (zF ?_))
       exact k_ret1 H rfl rfl ⟨by rw [rightF_t ⟨by rw [HL.out]; exact hL0, by rw [HL.out]; exact fun j s hj => hin j s (List.getElem?_eq_some_iff.1 hj).1 hj, by rw [HL.out, hfe]; exact he, by omega⟩]; first | done | rfl, hall⟩
      ·
       refine zD ?_
       refine kR 1 H rfl fun a H => ?_
       refine kV (v := .bool true) H (r_nenil U87 (H.ev rfl) (by rw [hA2, decide_eq_false hL0]; rfl)) rfl fun a H => ?_
       refine kR 1 H rfl fun a H => ?_
       refine kG H rfl ?_; refine kV (v := .agg (pv (⟨bareN p L L.length, List.replicate 16 0, List.replicate 8 0⟩ : Pkt))) H (run_load_row b1 36 _ _ (H.ev rfl) k1 U36 rfl (s36p hok)) rfl fun a H => ?_
       refine kG H rfl ?_; refine kV (v := .agg (pv p)) H (run_load_row b0 36 _ _ (H.ev rfl) k0 U36 rfl (s36p hp)) rfl fun a H => ?_
       refine kG H rfl ?_; refine kV (v := .bool false) H (r_eqpk_b hok hp (H.ev rfl) (H.ev rfl) (decide_eq_false he)) rfl fun a H => ?_
       refine kR 17 H rfl fun a H => ?_
       refine zA (zB (zF ?_))
       exact k_ret1 H rfl rfl ⟨by rw [right_no3 (by rw [HL.out, hfe]; exact he)]; first | done | rfl, hall⟩
theorem pright_t (w : World) (p : Pkt) (hp : p.ok) (h : rightF p = true) : Calls Tryz.prog 68 #[.agg (pv p)] w fun e w' => e = .returned (.bool true) ∧ Below w.heap.size w w' := by
 have := pright_any w p hp
 rwa [h] at this
theorem pright_f (w : World) (p : Pkt) (hp : p.ok) (h : ¬ rightF p = true) : Calls Tryz.prog 68 #[.agg (pv p)] w fun e w' => e = .returned (.bool false) ∧ Below w.heap.size w w' := by
 have := pright_any w p hp
 rwa [show rightF p = false by simpa using h] at this
theorem own_lit1 {w : World} {b D : Nat} {x : B8} (k : Block w b 5 #[u8v x]) (h : D ≤ b) : BOwn w D (.slice (some ⟨b, 0, none⟩) 1 1) [x] := ⟨rfl, .inr ⟨b, 1, _, rfl, h, k, Nat.le_refl _, by simp [maxLen], rfl, rfl⟩⟩
/-- the kind's byte and the first i slots' bytes -/
def encS0 (p : Pkt) (L : List (Nat × Nat × Nat × Nat)) (i : Nat) : List B8 := BitVec.ofInt 8 (p.fld 0) :: (L.take i).flatMap fun s => putN (p.fld (atF s.1)) s.2.1 s.2.1
def encF (p : Pkt) : List B8 := (encS0 p (slotsF (p.fld 0)) (slotsF (p.fld 0)).length ++ if 2 ≤ p.fld 0 ∧ p.fld 0 ≤ 4 then p.sec else []) ++ if 5 ≤ p.fld 0 ∧ p.fld 0 ≤ 11 then p.tg else []
theorem encF_eq {p : Pkt} {L : List (Nat × Nat × Nat × Nat)} (h : slotsF (p.fld 0) = L) : encF p = (encS0 p L L.length ++ if 2 ≤ p.fld 0 ∧ p.fld 0 ≤ 4 then p.sec else []) ++ if 5 ≤ p.fld 0 ∧ p.fld 0 ≤ 11 then p.tg else [] := by subst h; rfl
theorem encS0_next {p : Pkt} {L : List (Nat × Nat × Nat × Nat)} {i : Nat} {s : Nat × Nat × Nat × Nat} (h : L[i]? = some s) : encS0 p L (i + 1) = encS0 p L i ++ putN (p.fld (atF s.1)) s.2.1 s.2.1 := by
 obtain ⟨hi, rfl⟩ := List.getElem?_eq_some_iff.1 h
 simp only [encS0, List.take_succ_eq_append_getElem hi, List.flatMap_append, List.flatMap_cons, List.flatMap_nil, List.append_nil, List.cons_append]
theorem slot_size {kd : Int} {k : Nat} {s : Nat × Nat × Nat × Nat} (h : (slotsF kd)[k]? = some s) : 1 ≤ s.2.1 ∧ s.2.1 ≤ 7 := by
  have hm : s ∈ slotsF kd := List.mem_of_getElem? h
  clear h
  unfold slotsF at hm
  by_cases h1 : kd = 1
  ·
   rw [if_pos h1] at hm
   simp only [List.mem_cons, List.not_mem_nil, or_false] at hm
   rcases hm with rfl <;> simp
  rw [if_neg h1] at hm
  by_cases h2 : kd = 2
  ·
   rw [if_pos h2] at hm
   simp only [List.mem_cons, List.not_mem_nil, or_false] at hm
   rcases hm with rfl | rfl <;> simp
  rw [if_neg h2] at hm
  by_cases h3 : kd = 3
  ·
   rw [if_pos h3] at hm
   simp only [List.mem_cons, List.not_mem_nil, or_false] at hm
   rcases hm with rfl | rfl | rfl <;> simp
  rw [if_neg h3] at hm
  by_cases h4 : kd = 4
  ·
   rw [if_pos h4] at hm
   simp only [List.mem_cons, List.not_mem_nil, or_false] at hm
   rcases hm with rfl | rfl <;> simp
  rw [if_neg h4] at hm
  by_cases h5 : kd = 5
  ·
   rw [if_pos h5] at hm
   simp only [List.mem_cons, List.not_mem_nil, or_false] at hm
   rcases hm with rfl | rfl <;> simp
  rw [if_neg h5] at hm
  by_cases h10 : kd = 10
  ·
   rw [if_pos h10] at hm
   simp only [List.mem_cons, List.not_mem_nil, or_false] at hm
   rcases hm with rfl | rfl <;> simp
  rw [if_neg h10] at hm
  by_cases h6 : kd = 6
  ·
   rw [if_pos h6] at hm
   simp only [List.mem_cons, List.not_mem_nil, or_false] at hm
   rcases hm with rfl | rfl | rfl <;> simp
  rw [if_neg h6] at hm
  by_cases h7 : kd = 7
  ·
   rw [if_pos h7] at hm
   simp only [List.mem_cons, List.not_mem_nil, or_false] at hm
   rcases hm with rfl | rfl | rfl | rfl <;> simp
  rw [if_neg h7] at hm
  by_cases h8 : kd = 8
  ·
   rw [if_pos h8] at hm
   simp only [List.mem_cons, List.not_mem_nil, or_false] at hm
   rcases hm with rfl | rfl | rfl | rfl | rfl | rfl <;> simp
  rw [if_neg h8] at hm
  by_cases h9 : kd = 9
  ·
   rw [if_pos h9] at hm
   simp only [List.mem_cons, List.not_mem_nil, or_false] at hm
   rcases hm with rfl | rfl | rfl <;> simp
  rw [if_neg h9] at hm
  by_cases h11 : kd = 11
  ·
   rw [if_pos h11] at hm
   simp only [List.mem_cons, List.not_mem_nil, or_false] at hm
   rcases hm with rfl | rfl | rfl <;> simp
  rw [if_neg h11] at hm
  by_cases h12 : kd = 12
  ·
   rw [if_pos h12] at hm
   simp only [List.mem_cons, List.not_mem_nil, or_false] at hm
   rcases hm with rfl | rfl <;> simp
  rw [if_neg h12] at hm
  cases hm
theorem encS0_len {p : Pkt} {L : List (Nat × Nat × Nat × Nat)} (hL : slotsF (p.fld 0) = L) : ∀ {i : Nat}, i ≤ L.length → (encS0 p L i).length ≤ 1 + 7 * i
 | 0, _ => by simp [encS0]
 | i + 1, h => by
  have ih := encS0_len hL (i := i) (by omega)
  have hs : L[i]? = some L[i] := List.getElem?_eq_getElem (by omega)
  have hz := slot_size (show (slotsF (p.fld 0))[i]? = some L[i] by rw [hL]; exact hs)
  rw [encS0_next hs, List.length_append, putN_len]
  omega
theorem holds_range {w : World} {b o : Nat} {l : List Value} (h : w.rangeAt b o l) : Holds w (some ⟨b, o, none⟩) l := fun j hj => ⟨b, o, rfl, by rw [List.getElem?_eq_getElem hj]; exact h j _ (List.getElem?_eq_getElem hj)⟩
def En1 (W : World) (p : Pkt) (L : List (Nat × Nat × Nat × Nat)) (A : Option Addr) (b0 : Nat) (a : Act) (w : World) : Prop :=
 ∃ (i : Nat) (Ao : Option Addr) (co : Nat), Kn a 47 [(1, .pointer (some ⟨b0, 0, none⟩)), (4, .slice Ao (encS0 p L i).length co), (16, .slice A L.length L.length), (17, .int .i64 (L.length : Nat)), (18, .int .i64 (i : Nat))] ∧ i ≤ L.length ∧ BOwn w (b0 + 1) (.slice Ao (encS0 p L i).length co) (encS0 p L i) ∧ Block w b0 36 (pv p) ∧ Holds w A (L.flatMap encS) ∧ Below W.heap.size W w
set_option maxRecDepth 100000 in
set_option maxHeartbeats 8000000 in
theorem enc_any (w : World) (p : Pkt) (hp : p.ok) : Calls Tryz.prog 107 #[.agg (pv p)] w fun e w' => ((rightF p = true ∧ ∃ A c, e = .returned (.tuple #[.slice A (encF p).length c, .int .i64 0]) ∧ BOwn w' w.heap.size (.slice A (encF p).length c) (encF p)) ∨ (rightF p = false ∧ e = .returned (.tuple #[.slice none 0 0, .int .i64 1]))) ∧ Below w.heap.size w w' := by
 have hall := Below.refl w.heap.size w
 refine K_enter 47 Tryz.func107 rfl rfl fun a H => ?_
 replace H := H.pick [0]
 refine zC (zD ?_)
 refine op_box 36 (.tmp 0) (pv p) (H.ev rfl) fun w0 b0 hge hb k0 => ?_; have g0 := Nat.le_trans hall.size hge; replace hall := hall.tr hb; clear hb hge; refine kl H rfl fun a H => ?_
 refine kR 2 H rfl fun a H => ?_
 refine zA (zB (zC (zC ?_)))
 by_cases hR : rightF p = true
 ·
  refine zD ?_
  refine kV (v := .agg (pv p)) H (run_load_row b0 36 _ _ (H.ev rfl) k0 U36 rfl (s36p hp)) rfl fun a H => ?_
  refine wl_call _ _ _ (pright_t _ p hp hR) (r_call1 cf68 (H.ev rfl)) ?_; rintro e w9 ⟨rfl, hb⟩; refine ⟨_, rfl, ?_⟩; replace k0 := Block.ups k0 hb; replace hall := hall.tr hb; clear hb; refine kl H rfl fun a H => ?_
  refine kV H (r_not (H.ev rfl) rfl) rfl fun a H => ?_
  refine zA (zB (zG H rfl (zE (zB (zC (zD ?_))))))
  refine kR 1 H rfl fun a H => ?_
  refine kV H (r_ld U3 rfl (H.ev rfl) (pv_cell k0 (fld_at hp (j := 0) (by omega)))) rfl fun a H => ?_
  refine kV H (r_cvi_8 U3 U5 (H.ev rfl)) rfl fun a H => ?_
  refine op_litv 30 1 #[(0, u8v (BitVec.ofInt 8 (p.fld 0)))] 5 #[u8v (BitVec.ofInt 8 (p.fld 0))] (by simp [H.ev (j := 12) rfl]) (fun w => by kernel_rfl) fun w1 bo hge hb ko => ?_; have hown : BOwn _ (b0 + 1) (.slice (some ⟨bo, 0, none⟩) 1 1) [BitVec.ofInt 8 (p.fld 0)] := own_lit1 ko (Nat.le_trans k0.lt hge); replace k0 := Block.ups k0 hb; replace hall := hall.tr hb; clear hb hge ko; refine kl H rfl fun a H => ?_
  refine kR 1 H rfl fun a H => ?_
  refine zA (zB (zC (zC (zD ?_))))
  refine kR 1 H rfl fun a H => ?_
  refine kV H (r_ld U3 rfl (H.ev rfl) (pv_cell k0 (fld_at hp (j := 0) (by omega)))) rfl fun a H => ?_
  refine wl_call _ _ _ (slots_any _ (p.fld 0)) (r_call1 cf63 (H.ev rfl)) ?_; rintro e w9 ⟨⟨A, rfl, hh, hA⟩, hb⟩; refine ⟨_, rfl, ?_⟩; have hfl := fl_of hA hh; replace k0 := Block.ups k0 hb; replace hown := own_ups hown hb; replace hall := hall.tr hb; clear hb; obtain ⟨L, hL⟩ : ∃ L, slotsF (p.fld 0) = L := ⟨_, rfl⟩; rw [hL] at hh hA; have hLn : L.length ≤ 6 := (by rw [← hL]; exact slots_le _); have HL := Lib.hid hL; rw [hL]; clear hL; refine kl H rfl fun a H => ?_
  refine kV H (r_len U87 (H.ev rfl)) rfl fun a H => ?_
  refine kR 1 H rfl fun a H => ?_
  refine zA (zB ?_)
  refine wp_block ?_
  refine wp_loop (En1 w p L A b0) (fun a _ => L.length - (intOf (a.eval (.tmp 18))).toNat) ⟨0, some ⟨bo, 0, none⟩, 1, H.pick [1, 4, 16, 17, 18], by omega, hown, k0, hh, hall⟩ ?_
  clear H hall k0 hown hh
  rintro a w' ⟨i, Ao, co, H, hi, hown, k0, hh, hall⟩
  have H0 := H
  have hel := encS0_len (i := i) HL.out hi
  by_cases hlt : i < L.length
  ·
   obtain ⟨s, hs⟩ : ∃ s, L[i]? = some s := ⟨_, List.getElem?_eq_getElem hlt⟩
   obtain ⟨g, hAe⟩ := fl_some hA hs
   subst hAe
   have hat := at_lt (show (slotsF (p.fld 0))[i]? = some s by rw [HL.out]; exact hs)
   have hsz := slot_size (show (slotsF (p.fld 0))[i]? = some s by rw [HL.out]; exact hs)
   have HS := Lib.hid (show (slotsF (p.fld 0))[i]? = some s by rw [HL.out]; exact hs)
   have HLS := Lib.hid hs
   clear hs
   refine zC (zD ?_)
   refine kV H (r_lt U3 (H.ev rfl) (H.ev rfl) (dec_t (by omega))) rfl fun a H => ?_
   refine zA (zB (zC (zH H rfl (zE (zB (zC ?_))))))
   refine wp_block ?_
   refine zC (zD ?_)
   refine kV H (r_idx (j := i) (q := 0 + i * 4) U87 s91 (H.ev rfl) (H.ev rfl) (by omega) rfl) rfl fun a H => ?_
   refine kV H (r_row (cs := [.func (.func s.1) #[] #[], .int .i64 (s.2.1 : Nat), .int .i64 (s.2.2.1 : Nat), .int .i64 (s.2.2.2 : Nat)]) (H.ev rfl) (slots_range hh HLS.out) (by kernel_rfl) s91 rfl) rfl fun a H => ?_
   refine op_new 91 6 (.tmp 21) #[.func (.func s.1) #[] #[], .int .i64 (s.2.1 : Nat), .int .i64 (s.2.2.1 : Nat), .int .i64 (s.2.2.2 : Nat)] _ z91 s91 rfl (by simp [Value.cells, Value.oneCell']) (fun p => (H.put 6 p rfl).ev rfl) (fun p => (H.put 6 p rfl).ev rfl) fun w2 b2 hge hb k2 => ?_; have g2 := Nat.le_trans hall.size hge; replace k0 := Block.ups k0 hb; replace hh := holds_ups hh hb; replace hown := own_ups hown hb; replace hall := hall.tr hb; clear hb; clear hge; refine kl H rfl fun a H => ?_
   refine zA (zB ?_)
   have hall7 := hall
   have hS : BelowOf (BelowTo hall7) _ := Below.drew (Below.refl _ (BelowTo hall7))
   refine region_tree (BelowOf (BelowTo hall7)) 10 (.fl 0 (.fl 1 (.fl 2 (.fl 6 (.fl 7 (.one 3 (.fl 4 (.fl 5 (.one 8 (.fl 9 .done)))))))))) (by kernel_rfl) (by kernel_rfl) rfl (by kernel_rfl) hS ?_
   refine kQ 2 H rfl fun a H => ?_
   refine kF H rfl rfl (fun w' hS' => r_ld U89 rfl (H.ev rfl) ((Block.cell (Block.ups k2 hS') 0).trans rfl)) rfl fun a H => ?_
   refine kQ 1 H rfl fun a H => ?_
   refine kF H rfl rfl (fun w' hS' => r_ld U3 rfl (H.ev rfl) ((Block.cell (Block.ups k2 hS') 1).trans rfl)) rfl fun a H => ?_
   refine pt_one (fun K hK => ?_)
   refine st_a0 rfl ?_; refine wpo_call _ _ _ (at_any _ b0 i HS.out) (r_callf (at_ent HS.out) (H.ev rfl) (H.ev rfl)) ?_; rintro e w9 ⟨rfl, hb⟩; refine ⟨_, rfl, ?_⟩; replace hS := Below.trans hS (Below.mono hb (Below.size hS)); clear hb; refine hK _ _ ⟨(fun _ => hS), ?_⟩; clear hK; clear K; refine kt H rfl fun a H => ?_
   refine kQ 1 H rfl fun a H => ?_
   refine kF H rfl rfl (fun w' hS' => r_ld U3 rfl (H.ev rfl) (pv_cell (Block.ups k0 hS') (fld_at hp hat))) rfl fun a H => ?_
   refine pt_one (fun K hK => ?_)
   refine st_a0 rfl ?_; refine wpo_call _ _ _ (put_lit _ _ (encS0 p L i) (p.fld (atF s.1)) s.2.1 _ rfl (BOwn.row (own_ups hown hS)) (by omega) (by omega) (by omega)) (r_call3 cf122 (H.ev rfl) (H.ev rfl) (H.ev rfl)) ?_; rintro e w9 ⟨⟨D, A3, c3, hDe, rfl, hown3⟩, hb⟩; refine ⟨_, rfl, ?_⟩; have hown4 := own_baseB hown3 (show b0 + 1 ≤ D by rw [hDe]; exact Nat.le_trans k0.lt (Below.size hS)); clear hown hown3 hDe; replace hS := Below.trans hS (Below.mono hb (Below.size hS)); clear hb; refine hK _ _ ⟨(fun _ => hS), ?_⟩; clear hK; clear K; refine kt H rfl fun a H => ?_
   refine kQ 1 H rfl fun a H => ?_
   refine pt_done (NoPanic.normal ?_)
   replace k0 := Block.ups k0 hS
   replace hh := holds_ups hh hS
   replace k2 := Block.ups k2 hS
   replace hall := hall.trans (Below.mono hS hall.size)
   clear hS
   refine n_block (zB (zD ?_))
   refine kV H (r_add (q := ((i + 1 : Nat) : Int)) U3 (H.ev rfl) evc (by omega) (by omega)) rfl fun a H => ?_
   refine kR 1 H rfl fun a H => ?_
   refine zA ?_
   rw [← encS0_next HLS.out] at H hown4
   refine zI ⟨⟨i + 1, _, _, H.pick [1, 4, 16, 17, 18], by omega, hown4, k0, hh, hall⟩, ?_⟩
   rw [H.ev (j := 18) rfl, H0.ev (j := 18) rfl]
   simp only [intOf]
   omega
  ·
   obtain rfl : i = L.length := by omega
   clear hh
   refine zC (zD ?_)
   refine kV H (r_lt U3 (H.ev rfl) (H.ev rfl) (dec_f (by omega))) rfl fun a H => ?_
   refine zA (zB (zC (zG H rfl (wp_exit (e_then (e_then ?_))))))
   refine e_here ?_
   refine zB (zC (zC ?_))
   by_cases hse : (2 ≤ p.fld 0 ∧ p.fld 0 ≤ 4)
   ·
    refine zD ?_
    refine kR 1 H rfl fun a H => ?_
    refine kV H (r_ld U3 rfl (H.ev rfl) (pv_cell k0 (fld_at hp (j := 0) (by omega)))) rfl fun a H => ?_
    refine wl_call _ _ _ (sealed_t _ _ hse) (r_call1 cf64 (H.ev rfl)) ?_; rintro e w9 ⟨rfl, hb⟩; refine ⟨_, rfl, ?_⟩; replace k0 := Block.ups k0 hb; replace hown := own_ups hown hb; replace hall := hall.tr hb; clear hb; refine kl H rfl fun a H => ?_
    refine zA (zB (zH H rfl (zD ?_)))
    refine kR 2 H rfl fun a H => ?_
    refine kV (v := .slice (some ⟨b0, 12, none⟩) 16 16) H (r_slice_all (b := b0) (o := 12) U33 s5 (H.ev rfl) (by omega)) rfl fun a H => ?_
    have hDs2 : b0 + 1 ≤ _ := k0.lt; refine op_append 30 5 (.tmp 35) (.tmp 37) (b0 + 1) (.int .u8 0) 1 1 _ _ _ (some ⟨b0, 12, none⟩) 16 16 (p.sec.map u8v) (H.ev rfl) (H.ev rfl) U30 i5 rfl (by omega) hown (by rw [List.length_map, hp.2.1]) (holds_range (pv_sec k0 hp)) (u8s_one _) (by unfold maxLen; first | omega | (simp only [List.length_append, hp.2.1]; omega)) (by first | omega | (simp only [List.length_append, hp.2.1]; omega)) hDs2 fun o2 w9 hown2 hg9 hv9 hb2 => ?_; have hown3 := bown_appn hp.2.1 hown2; replace k0 := Block.up k0 hb2 (by omega); replace hall := hall.trans (hb2.mono (by omega)); clear hDs2 hown hown2 hg9 hv9 hb2; have hown := hown3; clear hown3; obtain ⟨A4, c4, hov⟩ := own_sliceB hown; subst hov; refine kl H rfl fun a H => ?_
    refine kR 1 H rfl fun a H => ?_
    refine zA (zB (zC (zC ?_)))
    by_cases htg : (5 ≤ p.fld 0 ∧ p.fld 0 ≤ 11)
    ·
     refine zD ?_
     refine kR 1 H rfl fun a H => ?_
     refine kV H (r_ld U3 rfl (H.ev rfl) (pv_cell k0 (fld_at hp (j := 0) (by omega)))) rfl fun a H => ?_
     refine wl_call _ _ _ (tagged_t _ _ htg) (r_call1 cf66 (H.ev rfl)) ?_; rintro e w9 ⟨rfl, hb⟩; refine ⟨_, rfl, ?_⟩; replace k0 := Block.ups k0 hb; replace hown := own_ups hown hb; replace hall := hall.tr hb; clear hb; refine kl H rfl fun a H => ?_
     refine zA (zB (zH H rfl (zD ?_)))
     refine kR 2 H rfl fun a H => ?_
     refine kV (v := .slice (some ⟨b0, 28, none⟩) 8 8) H (r_slice_all (b := b0) (o := 28) U34 s5 (H.ev rfl) (by omega)) rfl fun a H => ?_
     have hDs2 : b0 + 1 ≤ _ := k0.lt; refine op_append 30 5 (.tmp 42) (.tmp 44) (b0 + 1) (.int .u8 0) 1 1 _ _ _ (some ⟨b0, 28, none⟩) 8 8 (p.tg.map u8v) (H.ev rfl) (H.ev rfl) U30 i5 rfl (by omega) hown (by rw [List.length_map, hp.2.2.1]) (holds_range (pv_tg k0 hp)) (u8s_one _) (by unfold maxLen; first | omega | (simp only [List.length_append, hp.2.1]; omega)) (by first | omega | (simp only [List.length_append, hp.2.1]; omega)) hDs2 fun o2 w9 hown2 hg9 hv9 hb2 => ?_; have hown3 := bown_appn hp.2.2.1 hown2; replace k0 := Block.up k0 hb2 (by omega); replace hall := hall.trans (hb2.mono (by omega)); clear hDs2 hown hown2 hg9 hv9 hb2; have hown := hown3; clear hown3; obtain ⟨A4, c4, hov⟩ := own_sliceB hown; subst hov; refine kl H rfl fun a H => ?_
     refine kR 1 H rfl fun a H => ?_
     refine zA (zB (zC (zD ?_)))
     refine kR 3 H rfl fun a H => ?_
     refine zA (zB (zF ?_))
     exact k_ret2 H rfl rfl rfl ⟨.inl ⟨hR, A4, c4, by rw [encF_eq HL.out]; simp only [if_pos hse, if_pos htg, List.append_nil]; first | done | rfl, by rw [encF_eq HL.out]; simp only [if_pos hse, if_pos htg, List.append_nil]; exact own_baseB hown (by omega)⟩, hall⟩
    ·
     refine zD ?_
     refine kR 1 H rfl fun a H => ?_
     refine kV H (r_ld U3 rfl (H.ev rfl) (pv_cell k0 (fld_at hp (j := 0) (by omega)))) rfl fun a H => ?_
     refine wl_call _ _ _ (tagged_f _ _ htg) (r_call1 cf66 (H.ev rfl)) ?_; rintro e w9 ⟨rfl, hb⟩; refine ⟨_, rfl, ?_⟩; replace k0 := Block.ups k0 hb; replace hown := own_ups hown hb; replace hall := hall.tr hb; clear hb; refine kl H rfl fun a H => ?_
     refine zA (zB (zG H rfl (zE (zB (zC (zD ?_))))))
     refine kR 3 H rfl fun a H => ?_
     refine zA (zB (zF ?_))
     exact k_ret2 H rfl rfl rfl ⟨.inl ⟨hR, A4, c4, by rw [encF_eq HL.out]; simp only [if_pos hse, if_neg htg, List.append_nil]; first | done | rfl, by rw [encF_eq HL.out]; simp only [if_pos hse, if_neg htg, List.append_nil]; exact own_baseB hown (by omega)⟩, hall⟩
   ·
    refine zD ?_
    refine kR 1 H rfl fun a H => ?_
    refine kV H (r_ld U3 rfl (H.ev rfl) (pv_cell k0 (fld_at hp (j := 0) (by omega)))) rfl fun a H => ?_
    refine wl_call _ _ _ (sealed_f _ _ hse) (r_call1 cf64 (H.ev rfl)) ?_; rintro e w9 ⟨rfl, hb⟩; refine ⟨_, rfl, ?_⟩; replace k0 := Block.ups k0 hb; replace hown := own_ups hown hb; replace hall := hall.tr hb; clear hb; refine kl H rfl fun a H => ?_
    refine zA (zB (zG H rfl (zE (zB (zC (zC ?_))))))
    by_cases htg : (5 ≤ p.fld 0 ∧ p.fld 0 ≤ 11)
    ·
     refine zD ?_
     refine kR 1 H rfl fun a H => ?_
     refine kV H (r_ld U3 rfl (H.ev rfl) (pv_cell k0 (fld_at hp (j := 0) (by omega)))) rfl fun a H => ?_
     refine wl_call _ _ _ (tagged_t _ _ htg) (r_call1 cf66 (H.ev rfl)) ?_; rintro e w9 ⟨rfl, hb⟩; refine ⟨_, rfl, ?_⟩; replace k0 := Block.ups k0 hb; replace hown := own_ups hown hb; replace hall := hall.tr hb; clear hb; refine kl H rfl fun a H => ?_
     refine zA (zB (zH H rfl (zD ?_)))
     refine kR 2 H rfl fun a H => ?_
     refine kV (v := .slice (some ⟨b0, 28, none⟩) 8 8) H (r_slice_all (b := b0) (o := 28) U34 s5 (H.ev rfl) (by omega)) rfl fun a H => ?_
     have hDs2 : b0 + 1 ≤ _ := k0.lt; refine op_append 30 5 (.tmp 42) (.tmp 44) (b0 + 1) (.int .u8 0) 1 1 _ _ _ (some ⟨b0, 28, none⟩) 8 8 (p.tg.map u8v) (H.ev rfl) (H.ev rfl) U30 i5 rfl (by omega) hown (by rw [List.length_map, hp.2.2.1]) (holds_range (pv_tg k0 hp)) (u8s_one _) (by unfold maxLen; first | omega | (simp only [List.length_append, hp.2.1]; omega)) (by first | omega | (simp only [List.length_append, hp.2.1]; omega)) hDs2 fun o2 w9 hown2 hg9 hv9 hb2 => ?_; have hown3 := bown_appn hp.2.2.1 hown2; replace k0 := Block.up k0 hb2 (by omega); replace hall := hall.trans (hb2.mono (by omega)); clear hDs2 hown hown2 hg9 hv9 hb2; have hown := hown3; clear hown3; obtain ⟨A4, c4, hov⟩ := own_sliceB hown; subst hov; refine kl H rfl fun a H => ?_
     refine kR 1 H rfl fun a H => ?_
     refine zA (zB (zC (zD ?_)))
     refine kR 3 H rfl fun a H => ?_
     refine zA (zB (zF ?_))
     exact k_ret2 H rfl rfl rfl ⟨.inl ⟨hR, A4, c4, by rw [encF_eq HL.out]; simp only [if_neg hse, if_pos htg, List.append_nil]; first | done | rfl, by rw [encF_eq HL.out]; simp only [if_neg hse, if_pos htg, List.append_nil]; exact own_baseB hown (by omega)⟩, hall⟩
    ·
     refine zD ?_
     refine kR 1 H rfl fun a H => ?_
     refine kV H (r_ld U3 rfl (H.ev rfl) (pv_cell k0 (fld_at hp (j := 0) (by omega)))) rfl fun a H => ?_
     refine wl_call _ _ _ (tagged_f _ _ htg) (r_call1 cf66 (H.ev rfl)) ?_; rintro e w9 ⟨rfl, hb⟩; refine ⟨_, rfl, ?_⟩; replace k0 := Block.ups k0 hb; replace hown := own_ups hown hb; replace hall := hall.tr hb; clear hb; refine kl H rfl fun a H => ?_
     refine zA (zB (zG H rfl (zE (zB (zC (zD ?_))))))
     refine kR 3 H rfl fun a H => ?_
     refine zA (zB (zF ?_))
     exact k_ret2 H rfl rfl rfl ⟨.inl ⟨hR, Ao, co, by rw [encF_eq HL.out]; simp only [if_neg hse, if_neg htg, List.append_nil]; first | done | rfl, by rw [encF_eq HL.out]; simp only [if_neg hse, if_neg htg, List.append_nil]; exact own_baseB hown (by omega)⟩, hall⟩
 ·
  refine zD ?_
  refine kV (v := .agg (pv p)) H (run_load_row b0 36 _ _ (H.ev rfl) k0 U36 rfl (s36p hp)) rfl fun a H => ?_
  refine wl_call _ _ _ (pright_f _ p hp hR) (r_call1 cf68 (H.ev rfl)) ?_; rintro e w9 ⟨rfl, hb⟩; refine ⟨_, rfl, ?_⟩; replace k0 := Block.ups k0 hb; replace hall := hall.tr hb; clear hb; refine kl H rfl fun a H => ?_
  refine kV H (r_not (H.ev rfl) rfl) rfl fun a H => ?_
  refine zA (zB (zH H rfl (zC (zD ?_))))
  refine kR 2 H rfl fun a H => ?_
  refine zA (zB (zF (zJ ?_)))
  exact k_ret2 H rfl rfl rfl ⟨.inr ⟨by simpa using hR, rfl⟩, hall⟩
end Go.Proofs.YtbnmpoonkjlkjaaGreat
