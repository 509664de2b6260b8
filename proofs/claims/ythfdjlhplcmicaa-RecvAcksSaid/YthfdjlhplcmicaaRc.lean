/- Recv: RecvAcks, proved: what is acknowledged is what has come. -/
import Derived.Test.YthfdjlhplcmicaaPw
namespace Go.Proofs.Ythfdjlhplcmicaa
open Go.RowKit Go.ChangeShapes Go.WideShapes Go.ChangeAt Go.Maps
set_option linter.unusedVariables false
set_option linter.unusedSimpArgs false

theorem and_one : ∀ s : Fin 128, bits .and .i64 ((s.1 : Nat) : Int) 1 = ((s.1 % 2 : Nat) : Int) := by decide +kernel
theorem r_and1 {P : Program} {a : Act} {w : World} {d : Option Tmp} {tt : TypeId} {ps : String} {af : Array Edge} {gd : Option (Nat × Bool)} {x : Operand} {s : Nat} {t t2 : TypeId} (ht : P.underlying t = some (.int .i64)) (hx : a.eval x = .int .i64 (s : Nat)) (hs : s < 128) : (execOp a.eval ⟨d, .binOp .and t x (.const (.int .i64 1)) t2, tt, ps, af, gd⟩).run P w = .ok (.value (.int .i64 (s % 2 : Nat))) w := by
  have h := and_one ⟨s, hs⟩
  unfold execOp
  simp only [hx]
  go_simp
theorem r_shr {P : Program} {a : Act} {w : World} {d : Option Tmp} {tt : TypeId} {ps : String} {af : Array Edge} {gd : Option (Nat × Bool)} {x y : Operand} {s m : Nat} {t t2 : TypeId} (ht : P.underlying t = some (.int .i64)) (hx : a.eval x = .int .i64 (s : Nat)) (hy : a.eval y = .int .i64 (m : Nat)) (hm : m ≤ 6) (hs : s < 128) : (execOp a.eval ⟨d, .binOp .shr t x y t2, tt, ps, af, gd⟩).run P w = .ok (.value (.int .i64 (s / 2 ^ m : Nat))) w := by
  have hc : m = 0 ∨ m = 1 ∨ m = 2 ∨ m = 3 ∨ m = 4 ∨ m = 5 ∨ m = 6 := by omega
  unfold execOp
  simp only [hx, hy]
  rcases hc with rfl | rfl | rfl | rfl | rfl | rfl | rfl <;> go_simp
section
variable {A : Prop} {P : Nat → Prop} {m : Nat}
theorem hv_true (h : true = true ↔ A ∨ ∃ q, q < m ∧ P q) : true = true ↔ A ∨ ∃ q, q < m + 1 ∧ P q :=
  ⟨fun e => (h.1 e).imp_right fun ⟨q, hq, hp⟩ => ⟨q, by omega, hp⟩, fun _ => rfl⟩
theorem hv_here (h : P m) : true = true ↔ A ∨ ∃ q, q < m + 1 ∧ P q := ⟨fun _ => .inr ⟨m, by omega, h⟩, fun _ => rfl⟩
theorem hv_not (h : false = true ↔ A ∨ ∃ q, q < m ∧ P q) (hn : ¬ P m) : false = true ↔ A ∨ ∃ q, q < m + 1 ∧ P q := by
  constructor
  · intro e; cases e
  · rintro (e | ⟨q, hq, hp⟩)
    · exact h.2 (.inl e)
    · by_cases e : q = m
      · subst e; exact absurd hp hn
      · exact h.2 (.inr ⟨q, by omega, hp⟩)
end
theorem hv_end {n N : Int} {L' : List It} {sk : Nat} {x : It} {hv : Bool} (hB : ∀ m : Nat, m < 7 → (sk / 2 ^ m % 2 = 1 ↔ ∃ y ∈ L', y.1 = N + 1 + m)) (hR : RightL N L') (hm : (x.1 < N ∨ ∃ y ∈ L', y.1 = x.1) ↔ (x.1 < n ∨ (x.1 - n < 8 ∧ x.1 < 1073741824)))
    (h : hv = true ↔ x.1 ≤ N - 1 ∨ ∃ q : Nat, q < 7 ∧ (sk / 2 ^ q % 2 = 1 ∧ x.1 = N + 1 + (q : Nat))) : hv = true ↔ (x.1 < n ∨ (x.1 - n < 8 ∧ x.1 < 1073741824)) := by
  rw [h, ← hm]
  constructor
  · rintro (e | ⟨q, hq, hb, e⟩)
    · left; omega
    · obtain ⟨y, hy, e2⟩ := (hB q hq).1 hb
      exact .inr ⟨y, hy, by omega⟩
  · rintro (e | ⟨y, hy, e⟩)
    · left; omega
    · have := hR.2.2.2 y hy
      exact .inr ⟨(y.1 - N - 1).toNat, by omega, (hB _ (by omega)).2 ⟨y, hy, by omega⟩, by omega⟩
def AkI (W : World) (b0 b1 bz : Nat) (n : Int) (A : Option Addr) (c : Nat) (L : List It) (N : Int) (As : Option Addr) (cs : Nat) (L' : List It) (sk : Nat) (x : It) (a : Act) (w : World) : Prop :=
  ∃ (m : Nat) (hv : Bool), Kn a 117 [(2, .pointer (some ⟨b0, 0, none⟩)), (3, .pointer (some ⟨b1, 0, none⟩)), (5, .bool true), (6, .pointer (some ⟨bz, 0, none⟩)), (8, .int .i64 (N - 1)), (9, .int .i64 (sk : Nat)), (10, .bool hv), (11, .int .i64 (m : Nat))] ∧ m ≤ 7 ∧
    (hv = true ↔ x.1 ≤ N - 1 ∨ ∃ q : Nat, q < m ∧ (sk / 2 ^ q % 2 = 1 ∧ x.1 = N + 1 + (q : Nat))) ∧ Block w b0 24 #[.int .i64 n, .slice A L.length c] ∧ Block w b1 33 #[.int .i64 x.1, .int .i64 x.2.1, .int .i64 x.2.2.1, .int .i64 x.2.2.2.1, .int .i64 x.2.2.2.2] ∧ Block w bz 24 #[.int .i64 N, .slice As L'.length cs] ∧ IRow w (.slice As L'.length cs) L' ∧ Below W.heap.size W w
set_option maxHeartbeats 8000000 in
theorem acks_walk (w : World) (n : Int) (v : Value) (L : List It) (x : It) (h0 : IRow w v L) (hn : L.length ≤ 9223372036854775807) (hx : -9223372036854775808 ≤ x.1 ∧ x.1 ≤ 9223372036854775807) :
    Calls Try.prog 4 #[.agg #[.int .i64 n, v], .agg #[.int .i64 x.1, .int .i64 x.2.1, .int .i64 x.2.2.1, .int .i64 x.2.2.2.1, .int .i64 x.2.2.2.2]] w fun e w' => e = .returned (.bool true) ∧ Below w.heap.size w w' := by
  obtain ⟨A, c, rfl, h1, h2, h3, hh⟩ := h0
  have h : Hid (IRow w (.slice A L.length c) L) := Lib.hid ⟨A, c, rfl, h1, h2, h3, hh⟩
  replace hh := Lib.hid hh
  have hall := Below.refl w.heap.size w
  cases hrt : rightF n L
  · skip
    refine K_enter 117 Try.func4 rfl rfl fun a H => ?_
    replace H := H.pick [0, 1]
    refine wp_seq ?_
    refine wp_region_lit ?_
    refine op_box 24 _ #[.int .i64 n, .slice A L.length c] (H.ev rfl) fun w0 b0 hge hb k0 => ?_; have g0 := Nat.le_trans hall.size hge; replace hall := hall.trans (hb.mono hall.size); clear hb; clear hge; refine kl H rfl fun a H => ?_
    refine op_box 33 _ #[.int .i64 x.1, .int .i64 x.2.1, .int .i64 x.2.2.1, .int .i64 x.2.2.2.1, .int .i64 x.2.2.2.2] (H.ev rfl) fun w1 b1 hge hb k1 => ?_; have g1 := Nat.le_trans hall.size hge; replace k0 := Block.ups k0 hb; replace hall := hall.trans (hb.mono hall.size); clear hb; clear hge; refine kl H rfl fun a H => ?_
    refine wl_v _ (r_assign evc) ?_; refine kl H rfl fun a H => ?_
    refine wpList_nil ?_
    refine c_next ?_
    refine wp_seq ?_
    refine wp_region_lit ?_
    refine wl_call _ _ _ (small_any _) (r_call0 cf9) ?_; rintro e w9 ⟨rfl, hb⟩; refine ⟨_, rfl, ?_⟩; replace k0 := Block.ups k0 hb; replace k1 := Block.ups k1 hb; replace hall := hall.trans (hb.mono hall.size); clear hb; refine kl H rfl fun a H => ?_
    refine wl_v _ (r_assign (H.ev rfl)) ?_; refine kl H rfl fun a H => ?_
    refine wpList_nil ?_
    refine c_next ?_
    refine wp_seq ?_
    refine wp_seq ?_
    refine wp_region_lit ?_
    refine wl_v _ (r_row (cs := [.int .i64 n, .slice A L.length c]) (H.ev rfl) (block_range k0) (by kernel_rfl) s24 rfl) ?_; refine kl H rfl fun a H => ?_
    refine wl_call _ _ _ (right_any _ n _ L (Row.up h.out hall) (by omega)) (r_call1 cf16 (H.ev rfl)) ?_; rintro e w9 ⟨rfl, hb⟩; refine ⟨_, rfl, ?_⟩; rw [hrt]; replace k0 := Block.ups k0 hb; replace k1 := Block.ups k1 hb; replace hall := hall.trans (hb.mono hall.size); clear hb; refine kl H rfl fun a H => ?_
    refine wl_v _ (r_not (H.ev rfl) rfl) ?_; refine kl H rfl fun a H => ?_
    refine wl_v _ (r_move (H.ev rfl)) ?_; refine kl H rfl fun a H => ?_
    refine wl_s (kg_no rfl H rfl rfl rfl) ?_; refine kl H rfl fun a H => ?_
    refine wl_s (kg_no rfl H rfl rfl rfl) ?_; refine kl H rfl fun a H => ?_
    refine wl_s (kg_no rfl H rfl rfl rfl) ?_; refine kl H rfl fun a H => ?_
    refine wl_s (kg_no rfl H rfl rfl rfl) ?_; refine kl H rfl fun a H => ?_
    refine wl_v _ (r_pick_t (H.ev rfl) evc) ?_; refine kl H rfl fun a H => ?_
    refine wpList_nil ?_
    refine c_next ?_
    refine c_cond_t H rfl ?_
    refine wp_seq ?_
    refine wp_region_lit ?_
    refine wl_v _ (r_move (H.ev rfl)) ?_; refine kl H rfl fun a H => ?_
    refine wl_v _ (r_assign (H.ev rfl)) ?_; refine kl H rfl fun a H => ?_
    refine wpList_nil ?_
    refine c_next ?_
    refine wp_ret ?_
    refine r_then ?_
    exact k_ret1 H rfl rfl ⟨rfl, hall⟩
  · skip
    have HRT := Lib.hid hrt
    have HR : Hid (RightL n L) := Lib.hid (of_decide_eq_true hrt)
    have hn1 := HR.out.1
    have hn2 := HR.out.2.1
    have hLl := right_len HR.out
    refine K_enter 117 Try.func4 rfl rfl fun a H => ?_
    replace H := H.pick [0, 1]
    refine wp_seq ?_
    refine wp_region_lit ?_
    refine op_box 24 _ #[.int .i64 n, .slice A L.length c] (H.ev rfl) fun w0 b0 hge hb k0 => ?_; have g0 := Nat.le_trans hall.size hge; replace hall := hall.trans (hb.mono hall.size); clear hb; clear hge; refine kl H rfl fun a H => ?_
    refine op_box 33 _ #[.int .i64 x.1, .int .i64 x.2.1, .int .i64 x.2.2.1, .int .i64 x.2.2.2.1, .int .i64 x.2.2.2.2] (H.ev rfl) fun w1 b1 hge hb k1 => ?_; have g1 := Nat.le_trans hall.size hge; replace k0 := Block.ups k0 hb; replace hall := hall.trans (hb.mono hall.size); clear hb; clear hge; refine kl H rfl fun a H => ?_
    refine wl_v _ (r_assign evc) ?_; refine kl H rfl fun a H => ?_
    refine wpList_nil ?_
    refine c_next ?_
    refine wp_seq ?_
    refine wp_region_lit ?_
    refine wl_call _ _ _ (small_any _) (r_call0 cf9) ?_; rintro e w9 ⟨rfl, hb⟩; refine ⟨_, rfl, ?_⟩; replace k0 := Block.ups k0 hb; replace k1 := Block.ups k1 hb; replace hall := hall.trans (hb.mono hall.size); clear hb; refine kl H rfl fun a H => ?_
    refine wl_v _ (r_assign (H.ev rfl)) ?_; refine kl H rfl fun a H => ?_
    refine wpList_nil ?_
    refine c_next ?_
    refine wp_seq ?_
    refine wp_seq ?_
    refine wp_region_lit ?_
    refine wl_v _ (r_row (cs := [.int .i64 n, .slice A L.length c]) (H.ev rfl) (block_range k0) (by kernel_rfl) s24 rfl) ?_; refine kl H rfl fun a H => ?_
    refine wl_call _ _ _ (right_any _ n _ L (Row.up h.out hall) (by omega)) (r_call1 cf16 (H.ev rfl)) ?_; rintro e w9 ⟨rfl, hb⟩; refine ⟨_, rfl, ?_⟩; rw [hrt]; replace k0 := Block.ups k0 hb; replace k1 := Block.ups k1 hb; replace hall := hall.trans (hb.mono hall.size); clear hb; refine kl H rfl fun a H => ?_
    refine wl_v _ (r_not (H.ev rfl) rfl) ?_; refine kl H rfl fun a H => ?_
    refine wl_v _ (r_move (H.ev rfl)) ?_; refine kl H rfl fun a H => ?_
    refine op_unguard _ _ (kg_yes rfl H rfl rfl rfl) ?_; refine wl_v _ (r_fld (q := 1) fld24_1 (H.ev rfl) rfl) ?_; refine kl H rfl fun a H => ?_
    refine op_unguard _ _ (kg_yes rfl H rfl rfl rfl) ?_; refine wl_v _ (r_ld Try.underlying22 rfl (H.ev rfl) ((Block.cell k0 1).trans rfl)) ?_; refine kl H rfl fun a H => ?_
    refine op_unguard _ _ (kg_yes rfl H rfl rfl rfl) ?_; refine wl_v _ (r_len Try.underlying22 (H.ev rfl)) ?_; refine kl H rfl fun a H => ?_
    refine op_unguard _ _ (kg_yes rfl H rfl rfl rfl) ?_; refine wl_v _ (r_gt Try.underlying3 (H.ev rfl) evc (dec_f (by omega))) ?_; refine kl H rfl fun a H => ?_
    refine wl_v _ (r_pick_f (H.ev rfl) (H.ev rfl)) ?_; refine kl H rfl fun a H => ?_
    refine wpList_nil ?_
    refine c_next ?_
    refine c_cond_f H rfl ?_
    refine wp_skip ?_
    refine c_next ?_
    refine wp_seq ?_
    obtain ⟨⟨⟨N, L'⟩, NS⟩, hT⟩ : ∃ T, takeF n L x = T := ⟨_, rfl⟩
    have hRT := right_take (x := x) HR.out
    have hhm := had_may (x := x) HR.out
    have hag := take_again (x := x) HR.out
    rw [hT] at hRT hhm hag
    simp only at hRT hhm hag
    have hLl2 := right_len hRT
    have hN1 := hRT.1
    have hN2 := hRT.2.1
    obtain ⟨sk, hsk⟩ : ∃ sk, ackS N L' = sk := ⟨_, rfl⟩
    have hs128 := ack_128 hRT
    rw [hsk] at hs128
    have HA : Hid (ackF N L' = (N - 1, ((sk : Nat) : Int))) := Lib.hid (by unfold ackF; rw [if_pos (show rightF N L' = true from decide_eq_true hRT), hsk])
    have HB : Hid (∀ m : Nat, m < 7 → (sk / 2 ^ m % 2 = 1 ↔ ∃ y ∈ L', y.1 = N + 1 + m)) := Lib.hid fun m hm => by have := ack_bits hRT m hm L'.length (Nat.le_refl _); rwa [List.take_length, hsk] at this
    have HRT2 := Lib.hid hRT
    have HT := Lib.hid hT
    have HT2 := Lib.hid hag
    have HHM := Lib.hid hhm
    clear hT hRT hag hhm hsk
    refine wp_region_lit ?_
    refine wl_v _ (r_row (cs := [.int .i64 n, .slice A L.length c]) (H.ev rfl) (block_range k0) (by kernel_rfl) s24 rfl) ?_; refine kl H rfl fun a H => ?_
    refine wl_v _ (r_row (cs := [.int .i64 x.1, .int .i64 x.2.1, .int .i64 x.2.2.1, .int .i64 x.2.2.2.1, .int .i64 x.2.2.2.2]) (H.ev rfl) (block_range k1) (by kernel_rfl) s33 rfl) ?_; refine kl H rfl fun a H => ?_
    refine wl_call _ _ _ (take_any _ n (.slice A L.length c) L x (Row.up h.out hall) (by omega) hx.1 hx.2) (r_call2 cf12 (H.ev rfl) (H.ev rfl)) ?_; rintro e w9 ⟨⟨s1, o1, rfl, ⟨rs1, fs1⟩, ⟨ro1, fo1⟩⟩, hb⟩; refine ⟨_, rfl, ?_⟩; rw [HT.out] at rs1 ro1 ⊢; replace k0 := Block.ups k0 hb; replace k1 := Block.ups k1 hb; replace hall := hall.trans (hb.mono hall.size); clear hb; clear fs1 fo1; obtain ⟨As1, cs1, hsv, s1, s2, s3, s4⟩ := rs1; have rs1 : IRow _ (.slice As1 L'.length cs1) L' := ⟨As1, cs1, rfl, s1, s2, s3, s4⟩; subst hsv; obtain ⟨Ao1, co1, hov, u1, u2, u3, u4⟩ := ro1; have ro1 : NRow _ (.slice Ao1 NS.length co1) NS := ⟨Ao1, co1, rfl, u1, u2, u3, u4⟩; subst hov; clear s1 s2 s3 s4 u1 u2 u3 u4; refine kl H rfl fun a H => ?_
    refine wl_v _ (r_move (H.ev rfl)) ?_; refine kl H rfl fun a H => ?_
    refine wl_v _ (r_extract (v := .agg #[.int .i64 N, .slice As1 L'.length cs1]) (H.ev rfl) rfl) ?_; refine kl H rfl fun a H => ?_
    refine wl_v _ (r_extract (v := .slice Ao1 NS.length co1) (H.ev rfl) rfl) ?_; refine kl H rfl fun a H => ?_
    refine op_new 24 6 (.tmp 30) #[.int .i64 N, .slice As1 L'.length cs1] _ z24 s24 rfl (by simp [Value.cells, Value.oneCell']) (fun p => (H.put 6 p rfl).ev rfl) (fun p => (H.put 6 p rfl).ev rfl) fun w2 b2 hge hb k2 => ?_; have g2 := Nat.le_trans hall.size hge; replace k0 := Block.ups k0 hb; replace k1 := Block.ups k1 hb; replace rs1 := Row.up rs1 hb; replace ro1 := Row.up ro1 hb; replace hall := hall.trans (hb.mono hall.size); clear hb; clear hge; refine kl H rfl fun a H => ?_
    refine wl_v _ (r_assign (H.ev rfl)) ?_; refine kl H rfl fun a H => ?_
    refine wpList_nil ?_
    refine c_next ?_
    refine wp_seq ?_
    refine wp_region_lit ?_
    refine wl_v _ (r_row (cs := [.int .i64 N, .slice As1 L'.length cs1]) (H.ev rfl) (block_range k2) (by kernel_rfl) s24 rfl) ?_; refine kl H rfl fun a H => ?_
    refine wl_call _ _ _ (ack_any _ N _ L' rs1 (by omega)) (r_call1 cf14 (H.ev rfl)) ?_; rintro e w9 ⟨rfl, hb⟩; refine ⟨_, rfl, ?_⟩; rw [HA.out]; replace k0 := Block.ups k0 hb; replace k1 := Block.ups k1 hb; replace rs1 := Row.up rs1 hb; replace ro1 := Row.up ro1 hb; replace k2 := Block.ups k2 hb; replace hall := hall.trans (hb.mono hall.size); clear hb; refine kl H rfl fun a H => ?_
    refine wl_v _ (r_move (H.ev rfl)) ?_; refine kl H rfl fun a H => ?_
    refine wl_v _ (r_extract (v := .int .i64 (N - 1)) (H.ev rfl) rfl) ?_; refine kl H rfl fun a H => ?_
    refine wl_v _ (r_extract (v := .int .i64 (sk : Nat)) (H.ev rfl) rfl) ?_; refine kl H rfl fun a H => ?_
    refine wl_v _ (r_assign (H.ev rfl)) ?_; refine kl H rfl fun a H => ?_
    refine wl_v _ (r_assign (H.ev rfl)) ?_; refine kl H rfl fun a H => ?_
    refine wpList_nil ?_
    refine c_next ?_
    refine wp_seq ?_
    refine wp_region_lit ?_
    refine wl_v _ (r_fld (q := 0) fld33_0 (H.ev rfl) rfl) ?_; refine kl H rfl fun a H => ?_
    refine wl_v _ (r_ld Try.underlying3 rfl (H.ev rfl) ((Block.cell k1 0).trans rfl)) ?_; refine kl H rfl fun a H => ?_
    refine wl_v _ (r_move (H.ev rfl)) ?_; refine kl H rfl fun a H => ?_
    by_cases hcc0 : x.1 ≤ (N - 1)
    · skip
      refine wl_v _ (r_le Try.underlying3 (H.ev rfl) (H.ev rfl) (dec_t (hcc0))) ?_; refine kl H rfl fun a H => ?_
      refine wl_v _ (r_assign (H.ev rfl)) ?_; refine kl H rfl fun a H => ?_
      refine wpList_nil ?_
      refine c_next ?_
      refine wp_seq ?_
      refine wp_seq ?_
      refine wp_region_lit ?_
      refine wl_v _ (r_assign evc) ?_; refine kl H rfl fun a H => ?_
      refine wpList_nil ?_
      refine c_next ?_
      refine wp_block ?_
      refine wp_loop (AkI w b0 b1 b2 n A c L N As1 cs1 L' sk x) (fun a _ => 7 - (intOf (a.eval (.tmp 11))).toNat) ⟨0, true, H.pick [2, 3, 5, 6, 8, 9, 10, 11], by omega, by simp; omega, k0, k1, k2, rs1, hall⟩ ?_
      clear H hall k0 k1 k2 rs1
      rintro a w' ⟨m, hv, H, hm, hvi, k0, k1, k2, rs1, hall⟩
      have H0 := H
      by_cases hm7 : m < 7
      · skip
        cases hv
        · skip
          refine wp_seq ?_
          refine wp_seq ?_
          refine wp_region_lit ?_
          refine wl_v _ (r_move (H.ev rfl)) ?_; refine kl H rfl fun a H => ?_
          refine wl_v _ (r_lt Try.underlying3 (H.ev rfl) evc (dec_t ((by omega)))) ?_; refine kl H rfl fun a H => ?_
          refine wpList_nil ?_
          refine c_next ?_
          refine c_cond_t H rfl ?_
          refine wp_skip ?_
          refine c_next ?_
          refine wp_seq ?_
          refine wp_block ?_
          refine wp_region_lit ?_
          refine wl_v _ (r_move (H.ev rfl)) ?_; refine kl H rfl fun a H => ?_
          refine wl_v _ (r_move (H.ev rfl)) ?_; refine kl H rfl fun a H => ?_
          refine op_unguard _ _ (kg_yes rfl H rfl rfl rfl) ?_; refine wl_v _ (r_move (H.ev rfl)) ?_; refine kl H rfl fun a H => ?_
          refine op_unguard _ _ (kg_yes rfl H rfl rfl rfl) ?_; refine wl_v _ (r_move (H.ev rfl)) ?_; refine kl H rfl fun a H => ?_
          refine op_unguard _ _ (kg_yes rfl H rfl rfl rfl) ?_; refine wl_v (.int .i64 (sk / 2 ^ m : Nat)) (r_shr Try.underlying3 (H.ev rfl) (H.ev rfl) (by omega) hs128) ?_; refine kl H rfl fun a H => ?_
          refine op_unguard _ _ (kg_yes rfl H rfl rfl rfl) ?_; refine wl_v (.int .i64 (sk / 2 ^ m % 2 : Nat)) (r_and1 Try.underlying3 (H.ev rfl) (Nat.lt_of_le_of_lt (Nat.div_le_self _ _) hs128)) ?_; refine kl H rfl fun a H => ?_
          by_cases hcc1 : ((sk / 2 ^ m % 2 : Nat) : Int) = 1
          · skip
            refine op_unguard _ _ (kg_yes rfl H rfl rfl rfl) ?_; refine wl_v _ (r_eq Try.underlying3 (H.ev rfl) evc (dec_t (hcc1))) ?_; refine kl H rfl fun a H => ?_
            refine op_unguard _ _ (kg_yes rfl H rfl rfl rfl) ?_; refine wl_v _ (r_move (H.ev rfl)) ?_; refine kl H rfl fun a H => ?_
            refine op_unguard _ _ (kg_yes rfl H rfl rfl rfl) ?_; refine wl_v _ (r_fld (q := 0) fld33_0 (H.ev rfl) rfl) ?_; refine kl H rfl fun a H => ?_
            refine op_unguard _ _ (kg_yes rfl H rfl rfl rfl) ?_; refine wl_v _ (r_ld Try.underlying3 rfl (H.ev rfl) ((Block.cell k1 0).trans rfl)) ?_; refine kl H rfl fun a H => ?_
            refine op_unguard _ _ (kg_yes rfl H rfl rfl rfl) ?_; refine wl_v _ (r_move (H.ev rfl)) ?_; refine kl H rfl fun a H => ?_
            refine op_unguard _ _ (kg_yes rfl H rfl rfl rfl) ?_; refine wl_v _ (r_add (q := (N - 1) + 2) Try.underlying3 (H.ev rfl) evc (by omega) (by omega)) ?_; refine kl H rfl fun a H => ?_
            refine op_unguard _ _ (kg_yes rfl H rfl rfl rfl) ?_; refine wl_v _ (r_move (H.ev rfl)) ?_; refine kl H rfl fun a H => ?_
            refine op_unguard _ _ (kg_yes rfl H rfl rfl rfl) ?_; refine wl_v _ (r_add (q := ((N - 1) + 2) + ((m : Nat) : Int)) Try.underlying3 (H.ev rfl) (H.ev rfl) (by omega) (by omega)) ?_; refine kl H rfl fun a H => ?_
            by_cases hcc2 : x.1 = (((N - 1) + 2) + ((m : Nat) : Int))
            · skip
              refine op_unguard _ _ (kg_yes rfl H rfl rfl rfl) ?_; refine wl_v _ (r_eq Try.underlying3 (H.ev rfl) (H.ev rfl) (dec_t (hcc2))) ?_; refine kl H rfl fun a H => ?_
              refine op_unguard _ _ (kg_yes rfl H rfl rfl rfl) ?_; refine wl_v _ (r_pick_t (H.ev rfl) (H.ev rfl)) ?_; refine kl H rfl fun a H => ?_
              refine wl_v _ (r_pick_f (H.ev rfl) (H.ev rfl)) ?_; refine kl H rfl fun a H => ?_
              refine wl_v _ (r_assign (H.ev rfl)) ?_; refine kl H rfl fun a H => ?_
              refine wpList_nil ?_
              refine n_block ?_
              refine c_next ?_
              refine wp_region_lit ?_
              refine wl_v _ (r_move (H.ev rfl)) ?_; refine kl H rfl fun a H => ?_
              refine wl_v _ (r_add (q := ((m + 1 : Nat) : Int)) Try.underlying3 (H.ev rfl) evc (by omega) (by omega)) ?_; refine kl H rfl fun a H => ?_
              refine wl_v _ (r_assign (H.ev rfl)) ?_; refine kl H rfl fun a H => ?_
              refine wpList_nil ?_
              refine n_then ⟨⟨m + 1, _, H.pick [2, 3, 5, 6, 8, 9, 10, 11], by omega, hv_here ⟨by omega, by omega⟩, k0, k1, k2, rs1, hall⟩, ?_⟩
              rw [H.ev (j := 11) rfl, H0.ev (j := 11) rfl]
              simp only [intOf]
              omega
            · skip
              refine op_unguard _ _ (kg_yes rfl H rfl rfl rfl) ?_; refine wl_v _ (r_eq Try.underlying3 (H.ev rfl) (H.ev rfl) (dec_f (hcc2))) ?_; refine kl H rfl fun a H => ?_
              refine op_unguard _ _ (kg_yes rfl H rfl rfl rfl) ?_; refine wl_v _ (r_pick_t (H.ev rfl) (H.ev rfl)) ?_; refine kl H rfl fun a H => ?_
              refine wl_v _ (r_pick_f (H.ev rfl) (H.ev rfl)) ?_; refine kl H rfl fun a H => ?_
              refine wl_v _ (r_assign (H.ev rfl)) ?_; refine kl H rfl fun a H => ?_
              refine wpList_nil ?_
              refine n_block ?_
              refine c_next ?_
              refine wp_region_lit ?_
              refine wl_v _ (r_move (H.ev rfl)) ?_; refine kl H rfl fun a H => ?_
              refine wl_v _ (r_add (q := ((m + 1 : Nat) : Int)) Try.underlying3 (H.ev rfl) evc (by omega) (by omega)) ?_; refine kl H rfl fun a H => ?_
              refine wl_v _ (r_assign (H.ev rfl)) ?_; refine kl H rfl fun a H => ?_
              refine wpList_nil ?_
              refine n_then ⟨⟨m + 1, _, H.pick [2, 3, 5, 6, 8, 9, 10, 11], by omega, hv_not hvi (fun e => by omega), k0, k1, k2, rs1, hall⟩, ?_⟩
              rw [H.ev (j := 11) rfl, H0.ev (j := 11) rfl]
              simp only [intOf]
              omega
          · skip
            refine op_unguard _ _ (kg_yes rfl H rfl rfl rfl) ?_; refine wl_v _ (r_eq Try.underlying3 (H.ev rfl) evc (dec_f (hcc1))) ?_; refine kl H rfl fun a H => ?_
            refine op_unguard _ _ (kg_yes rfl H rfl rfl rfl) ?_; refine wl_v _ (r_move (H.ev rfl)) ?_; refine kl H rfl fun a H => ?_
            refine wl_s (kg_no rfl H rfl rfl rfl) ?_; refine kl H rfl fun a H => ?_
            refine wl_s (kg_no rfl H rfl rfl rfl) ?_; refine kl H rfl fun a H => ?_
            refine wl_s (kg_no rfl H rfl rfl rfl) ?_; refine kl H rfl fun a H => ?_
            refine wl_s (kg_no rfl H rfl rfl rfl) ?_; refine kl H rfl fun a H => ?_
            refine wl_s (kg_no rfl H rfl rfl rfl) ?_; refine kl H rfl fun a H => ?_
            refine wl_s (kg_no rfl H rfl rfl rfl) ?_; refine kl H rfl fun a H => ?_
            refine wl_s (kg_no rfl H rfl rfl rfl) ?_; refine kl H rfl fun a H => ?_
            refine op_unguard _ _ (kg_yes rfl H rfl rfl rfl) ?_; refine wl_v _ (r_pick_f (H.ev rfl) evc) ?_; refine kl H rfl fun a H => ?_
            refine wl_v _ (r_pick_f (H.ev rfl) (H.ev rfl)) ?_; refine kl H rfl fun a H => ?_
            refine wl_v _ (r_assign (H.ev rfl)) ?_; refine kl H rfl fun a H => ?_
            refine wpList_nil ?_
            refine n_block ?_
            refine c_next ?_
            refine wp_region_lit ?_
            refine wl_v _ (r_move (H.ev rfl)) ?_; refine kl H rfl fun a H => ?_
            refine wl_v _ (r_add (q := ((m + 1 : Nat) : Int)) Try.underlying3 (H.ev rfl) evc (by omega) (by omega)) ?_; refine kl H rfl fun a H => ?_
            refine wl_v _ (r_assign (H.ev rfl)) ?_; refine kl H rfl fun a H => ?_
            refine wpList_nil ?_
            refine n_then ⟨⟨m + 1, _, H.pick [2, 3, 5, 6, 8, 9, 10, 11], by omega, hv_not hvi (fun e => by omega), k0, k1, k2, rs1, hall⟩, ?_⟩
            rw [H.ev (j := 11) rfl, H0.ev (j := 11) rfl]
            simp only [intOf]
            omega
        · skip
          refine wp_seq ?_
          refine wp_seq ?_
          refine wp_region_lit ?_
          refine wl_v _ (r_move (H.ev rfl)) ?_; refine kl H rfl fun a H => ?_
          refine wl_v _ (r_lt Try.underlying3 (H.ev rfl) evc (dec_t ((by omega)))) ?_; refine kl H rfl fun a H => ?_
          refine wpList_nil ?_
          refine c_next ?_
          refine c_cond_t H rfl ?_
          refine wp_skip ?_
          refine c_next ?_
          refine wp_seq ?_
          refine wp_block ?_
          refine wp_region_lit ?_
          refine wl_v _ (r_move (H.ev rfl)) ?_; refine kl H rfl fun a H => ?_
          refine wl_v _ (r_move (H.ev rfl)) ?_; refine kl H rfl fun a H => ?_
          refine wl_s (kg_no rfl H rfl rfl rfl) ?_; refine kl H rfl fun a H => ?_
          refine wl_s (kg_no rfl H rfl rfl rfl) ?_; refine kl H rfl fun a H => ?_
          refine wl_s (kg_no rfl H rfl rfl rfl) ?_; refine kl H rfl fun a H => ?_
          refine wl_s (kg_no rfl H rfl rfl rfl) ?_; refine kl H rfl fun a H => ?_
          refine wl_s (kg_no rfl H rfl rfl rfl) ?_; refine kl H rfl fun a H => ?_
          refine wl_s (kg_no rfl H rfl rfl rfl) ?_; refine kl H rfl fun a H => ?_
          refine wl_s (kg_un rfl H rfl rfl rfl) ?_; refine kl H rfl fun a H => ?_
          refine wl_s (kg_un rfl H rfl rfl rfl) ?_; refine kl H rfl fun a H => ?_
          refine wl_s (kg_un rfl H rfl rfl rfl) ?_; refine kl H rfl fun a H => ?_
          refine wl_s (kg_un rfl H rfl rfl rfl) ?_; refine kl H rfl fun a H => ?_
          refine wl_s (kg_un rfl H rfl rfl rfl) ?_; refine kl H rfl fun a H => ?_
          refine wl_s (kg_un rfl H rfl rfl rfl) ?_; refine kl H rfl fun a H => ?_
          refine wl_s (kg_un rfl H rfl rfl rfl) ?_; refine kl H rfl fun a H => ?_
          refine wl_s (kg_no rfl H rfl rfl rfl) ?_; refine kl H rfl fun a H => ?_
          refine wl_v _ (r_pick_t (H.ev rfl) evc) ?_; refine kl H rfl fun a H => ?_
          refine wl_v _ (r_assign (H.ev rfl)) ?_; refine kl H rfl fun a H => ?_
          refine wpList_nil ?_
          refine n_block ?_
          refine c_next ?_
          refine wp_region_lit ?_
          refine wl_v _ (r_move (H.ev rfl)) ?_; refine kl H rfl fun a H => ?_
          refine wl_v _ (r_add (q := ((m + 1 : Nat) : Int)) Try.underlying3 (H.ev rfl) evc (by omega) (by omega)) ?_; refine kl H rfl fun a H => ?_
          refine wl_v _ (r_assign (H.ev rfl)) ?_; refine kl H rfl fun a H => ?_
          refine wpList_nil ?_
          refine n_then ⟨⟨m + 1, _, H.pick [2, 3, 5, 6, 8, 9, 10, 11], by omega, hv_true hvi, k0, k1, k2, rs1, hall⟩, ?_⟩
          rw [H.ev (j := 11) rfl, H0.ev (j := 11) rfl]
          simp only [intOf]
          omega
      · skip
        obtain rfl : m = 7 := by omega
        refine wp_seq ?_
        refine wp_seq ?_
        refine wp_region_lit ?_
        refine wl_v _ (r_move (H.ev rfl)) ?_; refine kl H rfl fun a H => ?_
        refine wl_v _ (r_lt Try.underlying3 (H.ev rfl) evc (dec_f (by omega))) ?_; refine kl H rfl fun a H => ?_
        refine wpList_nil ?_
        refine c_next ?_
        refine c_cond_f H rfl ?_
        refine wp_exit ?_
        refine e_then ?_
        refine e_then ?_
        refine e_here ?_
        refine c_next ?_
        refine wp_seq ?_
        have hbm := hv_end HB.out HRT2.out HHM.out hvi
        cases hv
        · skip
          have hno : ¬ (x.1 < n ∨ (x.1 - n < 8 ∧ x.1 < 1073741824)) := fun e => by cases hbm.2 e
          refine wp_region_lit ?_
          refine wl_v _ (r_fld (q := 0) fld33_0 (H.ev rfl) rfl) ?_; refine kl H rfl fun a H => ?_
          refine wl_v _ (r_ld Try.underlying3 rfl (H.ev rfl) ((Block.cell k1 0).trans rfl)) ?_; refine kl H rfl fun a H => ?_
          refine wl_v _ (r_fld (q := 0) fld24_0 (H.ev rfl) rfl) ?_; refine kl H rfl fun a H => ?_
          refine wl_v _ (r_ld Try.underlying3 rfl (H.ev rfl) ((Block.cell k0 0).trans rfl)) ?_; refine kl H rfl fun a H => ?_
          by_cases hcc3 : x.1 < n
          · skip
            refine wl_v _ (r_lt Try.underlying3 (H.ev rfl) (H.ev rfl) (dec_t (hcc3))) ?_; refine kl H rfl fun a H => ?_
            refine wl_v _ (r_move (H.ev rfl)) ?_; refine kl H rfl fun a H => ?_
            refine wl_s (kg_no rfl H rfl rfl rfl) ?_; refine kl H rfl fun a H => ?_
            refine wl_s (kg_no rfl H rfl rfl rfl) ?_; refine kl H rfl fun a H => ?_
            refine wl_s (kg_no rfl H rfl rfl rfl) ?_; refine kl H rfl fun a H => ?_
            refine wl_s (kg_no rfl H rfl rfl rfl) ?_; refine kl H rfl fun a H => ?_
            refine wl_s (kg_no rfl H rfl rfl rfl) ?_; refine kl H rfl fun a H => ?_
            refine wl_s (kg_no rfl H rfl rfl rfl) ?_; refine kl H rfl fun a H => ?_
            refine wl_s (kg_no rfl H rfl rfl rfl) ?_; refine kl H rfl fun a H => ?_
            refine wl_s (kg_un rfl H rfl rfl rfl) ?_; refine kl H rfl fun a H => ?_
            refine wl_s (kg_un rfl H rfl rfl rfl) ?_; refine kl H rfl fun a H => ?_
            refine wl_s (kg_un rfl H rfl rfl rfl) ?_; refine kl H rfl fun a H => ?_
            refine wl_s (kg_no rfl H rfl rfl rfl) ?_; refine kl H rfl fun a H => ?_
            refine wl_v _ (r_pick_t (H.ev rfl) evc) ?_; refine kl H rfl fun a H => ?_
            refine wl_v _ (r_assign (H.ev rfl)) ?_; refine kl H rfl fun a H => ?_
            refine wpList_nil ?_
            refine c_next ?_
            refine wp_seq ?_
            refine wp_region_lit ?_
            refine wl_v _ (r_row (cs := [.int .i64 N, .slice As1 L'.length cs1]) (H.ev rfl) (block_range k2) (by kernel_rfl) s24 rfl) ?_; refine kl H rfl fun a H => ?_
            refine wl_v _ (r_row (cs := [.int .i64 x.1, .int .i64 x.2.1, .int .i64 x.2.2.1, .int .i64 x.2.2.2.1, .int .i64 x.2.2.2.2]) (H.ev rfl) (block_range k1) (by kernel_rfl) s33 rfl) ?_; refine kl H rfl fun a H => ?_
            refine wl_call _ _ _ (take_any _ N (.slice As1 L'.length cs1) L' x rs1 (by omega) hx.1 hx.2) (r_call2 cf12 (H.ev rfl) (H.ev rfl)) ?_; rintro e w9 ⟨⟨s2, o2, rfl, ⟨rs2, fs2⟩, ⟨ro2, fo2⟩⟩, hb⟩; refine ⟨_, rfl, ?_⟩; rw [HT2.out] at rs2 ro2 ⊢; replace k0 := Block.ups k0 hb; replace k1 := Block.ups k1 hb; replace k2 := Block.ups k2 hb; replace rs1 := Row.up rs1 hb; replace hall := hall.trans (hb.mono hall.size); clear hb; clear fs2 fo2; obtain ⟨As2, cs2, hsv, s1, s2, s3, s4⟩ := rs2; have rs2 : IRow _ (.slice As2 L'.length cs2) L' := ⟨As2, cs2, rfl, s1, s2, s3, s4⟩; subst hsv; obtain ⟨Ao2, co2, hov, u1, u2, u3, u4⟩ := ro2; have ro2 : NRow _ (.slice Ao2 0 co2) ([] : List Nt) := ⟨Ao2, co2, rfl, u1, u2, u3, u4⟩; simp only [List.length_nil] at hov; subst hov; clear s1 s2 s3 s4 u1 u2 u3 u4; refine kl H rfl fun a H => ?_
            refine wl_v _ (r_move (H.ev rfl)) ?_; refine kl H rfl fun a H => ?_
            refine wl_v _ (r_extract (v := .agg #[.int .i64 N, .slice As2 L'.length cs2]) (H.ev rfl) rfl) ?_; refine kl H rfl fun a H => ?_
            refine wl_v _ (r_extract (v := .slice Ao2 0 co2) (H.ev rfl) rfl) ?_; refine kl H rfl fun a H => ?_
            refine op_new 24 13 (.tmp 84) #[.int .i64 N, .slice As2 L'.length cs2] _ z24 s24 rfl (by simp [Value.cells, Value.oneCell']) (fun p => (H.put 13 p rfl).ev rfl) (fun p => (H.put 13 p rfl).ev rfl) fun w3 b3 hge hb k3 => ?_; have g3 := Nat.le_trans hall.size hge; replace k0 := Block.ups k0 hb; replace k1 := Block.ups k1 hb; replace k2 := Block.ups k2 hb; replace rs1 := Row.up rs1 hb; replace rs2 := Row.up rs2 hb; replace ro2 := Row.up ro2 hb; replace hall := hall.trans (hb.mono hall.size); clear hb; clear hge; refine kl H rfl fun a H => ?_
            refine wl_v _ (r_assign (H.ev rfl)) ?_; refine kl H rfl fun a H => ?_
            refine wpList_nil ?_
            refine c_next ?_
            refine wp_seq ?_
            refine wp_region_lit ?_
            refine wl_v _ (r_move (H.ev rfl)) ?_; refine kl H rfl fun a H => ?_
            refine wl_v _ (r_move (H.ev rfl)) ?_; refine kl H rfl fun a H => ?_
            refine op_unguard _ _ (kg_yes rfl H rfl rfl rfl) ?_; refine wl_v _ (r_move (H.ev rfl)) ?_; refine kl H rfl fun a H => ?_
            refine op_unguard _ _ (kg_yes rfl H rfl rfl rfl) ?_; refine wl_v _ (r_fld (q := 0) fld24_0 (H.ev rfl) rfl) ?_; refine kl H rfl fun a H => ?_
            refine op_unguard _ _ (kg_yes rfl H rfl rfl rfl) ?_; refine wl_v _ (r_ld Try.underlying3 rfl (H.ev rfl) ((Block.cell k2 0).trans rfl)) ?_; refine kl H rfl fun a H => ?_
            refine op_unguard _ _ (kg_yes rfl H rfl rfl rfl) ?_; refine wl_v _ (r_sub (q := N - 1) Try.underlying3 (H.ev rfl) evc (by omega) (by omega)) ?_; refine kl H rfl fun a H => ?_
            refine op_unguard _ _ (kg_yes rfl H rfl rfl rfl) ?_; refine wl_v _ (r_eq Try.underlying3 (H.ev rfl) (H.ev rfl) (dec_t (by omega))) ?_; refine kl H rfl fun a H => ?_
            refine wl_v _ (r_pick_t (H.ev rfl) (H.ev rfl)) ?_; refine kl H rfl fun a H => ?_
            refine wl_v _ (r_move (H.ev rfl)) ?_; refine kl H rfl fun a H => ?_
            refine op_unguard _ _ (kg_yes rfl H rfl rfl rfl) ?_; refine wl_v _ (r_move (H.ev rfl)) ?_; refine kl H rfl fun a H => ?_
            by_cases hcc4 : ((sk : Nat) : Int) ≥ 0
            · skip
              refine op_unguard _ _ (kg_yes rfl H rfl rfl rfl) ?_; refine wl_v _ (r_ge Try.underlying3 (H.ev rfl) evc (dec_t (hcc4))) ?_; refine kl H rfl fun a H => ?_
              refine wl_v _ (r_pick_t (H.ev rfl) (H.ev rfl)) ?_; refine kl H rfl fun a H => ?_
              refine wl_v _ (r_move (H.ev rfl)) ?_; refine kl H rfl fun a H => ?_
              refine op_unguard _ _ (kg_yes rfl H rfl rfl rfl) ?_; refine wl_v _ (r_move (H.ev rfl)) ?_; refine kl H rfl fun a H => ?_
              by_cases hcc5 : ((sk : Nat) : Int) < 128
              · skip
                refine op_unguard _ _ (kg_yes rfl H rfl rfl rfl) ?_; refine wl_v _ (r_lt Try.underlying3 (H.ev rfl) evc (dec_t (hcc5))) ?_; refine kl H rfl fun a H => ?_
                refine wl_v _ (r_pick_t (H.ev rfl) (H.ev rfl)) ?_; refine kl H rfl fun a H => ?_
                refine wl_v _ (r_move (H.ev rfl)) ?_; refine kl H rfl fun a H => ?_
                refine op_unguard _ _ (kg_yes rfl H rfl rfl rfl) ?_; refine wl_v _ (r_move (H.ev rfl)) ?_; refine kl H rfl fun a H => ?_
                refine op_unguard _ _ (kg_yes rfl H rfl rfl rfl) ?_; refine wl_v _ (r_move (H.ev rfl)) ?_; refine kl H rfl fun a H => ?_
                refine op_unguard _ _ (kg_yes rfl H rfl rfl rfl) ?_; refine wl_v _ (r_beq Try.underlying4 (H.ev rfl) (H.ev rfl) rfl) ?_; refine kl H rfl fun a H => ?_
                refine wl_v _ (r_pick_t (H.ev rfl) (H.ev rfl)) ?_; refine kl H rfl fun a H => ?_
                refine wl_v _ (r_move (H.ev rfl)) ?_; refine kl H rfl fun a H => ?_
                refine wl_s (kg_no rfl H rfl rfl rfl) ?_; refine kl H rfl fun a H => ?_
                refine wl_s (kg_no rfl H rfl rfl rfl) ?_; refine kl H rfl fun a H => ?_
                refine wl_s (kg_no rfl H rfl rfl rfl) ?_; refine kl H rfl fun a H => ?_
                refine wl_v _ (r_pick_f (H.ev rfl) evc) ?_; refine kl H rfl fun a H => ?_
                refine wl_v _ (r_move (H.ev rfl)) ?_; refine kl H rfl fun a H => ?_
                refine wl_s (kg_no rfl H rfl rfl rfl) ?_; refine kl H rfl fun a H => ?_
                refine wl_s (kg_no rfl H rfl rfl rfl) ?_; refine kl H rfl fun a H => ?_
                refine wl_s (kg_no rfl H rfl rfl rfl) ?_; refine kl H rfl fun a H => ?_
                refine wl_v _ (r_pick_f (H.ev rfl) evc) ?_; refine kl H rfl fun a H => ?_
                refine wl_v _ (r_assign (H.ev rfl)) ?_; refine kl H rfl fun a H => ?_
                refine wpList_nil ?_
                refine c_next ?_
                refine wp_ret ?_
                exfalso; omega
              · skip
                refine op_unguard _ _ (kg_yes rfl H rfl rfl rfl) ?_; refine wl_v _ (r_lt Try.underlying3 (H.ev rfl) evc (dec_f (hcc5))) ?_; refine kl H rfl fun a H => ?_
                refine wl_v _ (r_pick_t (H.ev rfl) (H.ev rfl)) ?_; refine kl H rfl fun a H => ?_
                refine wl_v _ (r_move (H.ev rfl)) ?_; refine kl H rfl fun a H => ?_
                refine wl_s (kg_no rfl H rfl rfl rfl) ?_; refine kl H rfl fun a H => ?_
                refine wl_s (kg_no rfl H rfl rfl rfl) ?_; refine kl H rfl fun a H => ?_
                refine wl_s (kg_no rfl H rfl rfl rfl) ?_; refine kl H rfl fun a H => ?_
                refine wl_v _ (r_pick_f (H.ev rfl) evc) ?_; refine kl H rfl fun a H => ?_
                refine wl_v _ (r_move (H.ev rfl)) ?_; refine kl H rfl fun a H => ?_
                refine wl_s (kg_no rfl H rfl rfl rfl) ?_; refine kl H rfl fun a H => ?_
                refine wl_s (kg_no rfl H rfl rfl rfl) ?_; refine kl H rfl fun a H => ?_
                refine wl_s (kg_no rfl H rfl rfl rfl) ?_; refine kl H rfl fun a H => ?_
                refine wl_v _ (r_pick_f (H.ev rfl) evc) ?_; refine kl H rfl fun a H => ?_
                refine wl_v _ (r_move (H.ev rfl)) ?_; refine kl H rfl fun a H => ?_
                refine wl_s (kg_no rfl H rfl rfl rfl) ?_; refine kl H rfl fun a H => ?_
                refine wl_s (kg_no rfl H rfl rfl rfl) ?_; refine kl H rfl fun a H => ?_
                refine wl_s (kg_no rfl H rfl rfl rfl) ?_; refine kl H rfl fun a H => ?_
                refine wl_v _ (r_pick_f (H.ev rfl) evc) ?_; refine kl H rfl fun a H => ?_
                refine wl_v _ (r_assign (H.ev rfl)) ?_; refine kl H rfl fun a H => ?_
                refine wpList_nil ?_
                refine c_next ?_
                refine wp_ret ?_
                exfalso; omega
            · skip
              refine op_unguard _ _ (kg_yes rfl H rfl rfl rfl) ?_; refine wl_v _ (r_ge Try.underlying3 (H.ev rfl) evc (dec_f (hcc4))) ?_; refine kl H rfl fun a H => ?_
              refine wl_v _ (r_pick_t (H.ev rfl) (H.ev rfl)) ?_; refine kl H rfl fun a H => ?_
              refine wl_v _ (r_move (H.ev rfl)) ?_; refine kl H rfl fun a H => ?_
              refine wl_s (kg_no rfl H rfl rfl rfl) ?_; refine kl H rfl fun a H => ?_
              refine wl_s (kg_no rfl H rfl rfl rfl) ?_; refine kl H rfl fun a H => ?_
              refine wl_v _ (r_pick_f (H.ev rfl) evc) ?_; refine kl H rfl fun a H => ?_
              refine wl_v _ (r_move (H.ev rfl)) ?_; refine kl H rfl fun a H => ?_
              refine wl_s (kg_no rfl H rfl rfl rfl) ?_; refine kl H rfl fun a H => ?_
              refine wl_s (kg_no rfl H rfl rfl rfl) ?_; refine kl H rfl fun a H => ?_
              refine wl_s (kg_no rfl H rfl rfl rfl) ?_; refine kl H rfl fun a H => ?_
              refine wl_v _ (r_pick_f (H.ev rfl) evc) ?_; refine kl H rfl fun a H => ?_
              refine wl_v _ (r_move (H.ev rfl)) ?_; refine kl H rfl fun a H => ?_
              refine wl_s (kg_no rfl H rfl rfl rfl) ?_; refine kl H rfl fun a H => ?_
              refine wl_s (kg_no rfl H rfl rfl rfl) ?_; refine kl H rfl fun a H => ?_
              refine wl_s (kg_no rfl H rfl rfl rfl) ?_; refine kl H rfl fun a H => ?_
              refine wl_v _ (r_pick_f (H.ev rfl) evc) ?_; refine kl H rfl fun a H => ?_
              refine wl_v _ (r_move (H.ev rfl)) ?_; refine kl H rfl fun a H => ?_
              refine wl_s (kg_no rfl H rfl rfl rfl) ?_; refine kl H rfl fun a H => ?_
              refine wl_s (kg_no rfl H rfl rfl rfl) ?_; refine kl H rfl fun a H => ?_
              refine wl_s (kg_no rfl H rfl rfl rfl) ?_; refine kl H rfl fun a H => ?_
              refine wl_v _ (r_pick_f (H.ev rfl) evc) ?_; refine kl H rfl fun a H => ?_
              refine wl_v _ (r_assign (H.ev rfl)) ?_; refine kl H rfl fun a H => ?_
              refine wpList_nil ?_
              refine c_next ?_
              refine wp_ret ?_
              exfalso; omega
          · skip
            refine wl_v _ (r_lt Try.underlying3 (H.ev rfl) (H.ev rfl) (dec_f (hcc3))) ?_; refine kl H rfl fun a H => ?_
            refine wl_v _ (r_move (H.ev rfl)) ?_; refine kl H rfl fun a H => ?_
            refine op_unguard _ _ (kg_yes rfl H rfl rfl rfl) ?_; refine wl_v _ (r_fld (q := 0) fld33_0 (H.ev rfl) rfl) ?_; refine kl H rfl fun a H => ?_
            refine op_unguard _ _ (kg_yes rfl H rfl rfl rfl) ?_; refine wl_v _ (r_ld Try.underlying3 rfl (H.ev rfl) ((Block.cell k1 0).trans rfl)) ?_; refine kl H rfl fun a H => ?_
            refine op_unguard _ _ (kg_yes rfl H rfl rfl rfl) ?_; refine wl_v _ (r_fld (q := 0) fld24_0 (H.ev rfl) rfl) ?_; refine kl H rfl fun a H => ?_
            refine op_unguard _ _ (kg_yes rfl H rfl rfl rfl) ?_; refine wl_v _ (r_ld Try.underlying3 rfl (H.ev rfl) ((Block.cell k0 0).trans rfl)) ?_; refine kl H rfl fun a H => ?_
            refine op_unguard _ _ (kg_yes rfl H rfl rfl rfl) ?_; refine wl_v _ (r_sub (q := x.1 - n) Try.underlying3 (H.ev rfl) (H.ev rfl) (by omega) (by omega)) ?_; refine kl H rfl fun a H => ?_
            by_cases hcc6 : (x.1 - n) < 8
            · skip
              refine op_unguard _ _ (kg_yes rfl H rfl rfl rfl) ?_; refine wl_v _ (r_lt Try.underlying3 (H.ev rfl) evc (dec_t (hcc6))) ?_; refine kl H rfl fun a H => ?_
              refine op_unguard _ _ (kg_yes rfl H rfl rfl rfl) ?_; refine wl_v _ (r_move (H.ev rfl)) ?_; refine kl H rfl fun a H => ?_
              refine op_unguard _ _ (kg_yes rfl H rfl rfl rfl) ?_; refine wl_v _ (r_fld (q := 0) fld33_0 (H.ev rfl) rfl) ?_; refine kl H rfl fun a H => ?_
              refine op_unguard _ _ (kg_yes rfl H rfl rfl rfl) ?_; refine wl_v _ (r_ld Try.underlying3 rfl (H.ev rfl) ((Block.cell k1 0).trans rfl)) ?_; refine kl H rfl fun a H => ?_
              by_cases hcc7 : x.1 < 1073741824
              · skip
                refine op_unguard _ _ (kg_yes rfl H rfl rfl rfl) ?_; refine wl_v _ (r_lt Try.underlying3 (H.ev rfl) evc (dec_t (hcc7))) ?_; refine kl H rfl fun a H => ?_
                refine op_unguard _ _ (kg_yes rfl H rfl rfl rfl) ?_; refine wl_v _ (r_pick_t (H.ev rfl) (H.ev rfl)) ?_; refine kl H rfl fun a H => ?_
                refine wl_v _ (r_pick_f (H.ev rfl) (H.ev rfl)) ?_; refine kl H rfl fun a H => ?_
                refine wl_v _ (r_assign (H.ev rfl)) ?_; refine kl H rfl fun a H => ?_
                refine wpList_nil ?_
                refine c_next ?_
                refine wp_seq ?_
                refine wp_region_lit ?_
                refine wl_v _ (r_row (cs := [.int .i64 N, .slice As1 L'.length cs1]) (H.ev rfl) (block_range k2) (by kernel_rfl) s24 rfl) ?_; refine kl H rfl fun a H => ?_
                refine wl_v _ (r_row (cs := [.int .i64 x.1, .int .i64 x.2.1, .int .i64 x.2.2.1, .int .i64 x.2.2.2.1, .int .i64 x.2.2.2.2]) (H.ev rfl) (block_range k1) (by kernel_rfl) s33 rfl) ?_; refine kl H rfl fun a H => ?_
                refine wl_call _ _ _ (take_any _ N (.slice As1 L'.length cs1) L' x rs1 (by omega) hx.1 hx.2) (r_call2 cf12 (H.ev rfl) (H.ev rfl)) ?_; rintro e w9 ⟨⟨s2, o2, rfl, ⟨rs2, fs2⟩, ⟨ro2, fo2⟩⟩, hb⟩; refine ⟨_, rfl, ?_⟩; rw [HT2.out] at rs2 ro2 ⊢; replace k0 := Block.ups k0 hb; replace k1 := Block.ups k1 hb; replace k2 := Block.ups k2 hb; replace rs1 := Row.up rs1 hb; replace hall := hall.trans (hb.mono hall.size); clear hb; clear fs2 fo2; obtain ⟨As2, cs2, hsv, s1, s2, s3, s4⟩ := rs2; have rs2 : IRow _ (.slice As2 L'.length cs2) L' := ⟨As2, cs2, rfl, s1, s2, s3, s4⟩; subst hsv; obtain ⟨Ao2, co2, hov, u1, u2, u3, u4⟩ := ro2; have ro2 : NRow _ (.slice Ao2 0 co2) ([] : List Nt) := ⟨Ao2, co2, rfl, u1, u2, u3, u4⟩; simp only [List.length_nil] at hov; subst hov; clear s1 s2 s3 s4 u1 u2 u3 u4; refine kl H rfl fun a H => ?_
                refine wl_v _ (r_move (H.ev rfl)) ?_; refine kl H rfl fun a H => ?_
                refine wl_v _ (r_extract (v := .agg #[.int .i64 N, .slice As2 L'.length cs2]) (H.ev rfl) rfl) ?_; refine kl H rfl fun a H => ?_
                refine wl_v _ (r_extract (v := .slice Ao2 0 co2) (H.ev rfl) rfl) ?_; refine kl H rfl fun a H => ?_
                refine op_new 24 13 (.tmp 84) #[.int .i64 N, .slice As2 L'.length cs2] _ z24 s24 rfl (by simp [Value.cells, Value.oneCell']) (fun p => (H.put 13 p rfl).ev rfl) (fun p => (H.put 13 p rfl).ev rfl) fun w4 b4 hge hb k4 => ?_; have g4 := Nat.le_trans hall.size hge; replace k0 := Block.ups k0 hb; replace k1 := Block.ups k1 hb; replace k2 := Block.ups k2 hb; replace rs1 := Row.up rs1 hb; replace rs2 := Row.up rs2 hb; replace ro2 := Row.up ro2 hb; replace hall := hall.trans (hb.mono hall.size); clear hb; clear hge; refine kl H rfl fun a H => ?_
                refine wl_v _ (r_assign (H.ev rfl)) ?_; refine kl H rfl fun a H => ?_
                refine wpList_nil ?_
                refine c_next ?_
                refine wp_seq ?_
                refine wp_region_lit ?_
                refine wl_v _ (r_move (H.ev rfl)) ?_; refine kl H rfl fun a H => ?_
                refine wl_v _ (r_move (H.ev rfl)) ?_; refine kl H rfl fun a H => ?_
                refine op_unguard _ _ (kg_yes rfl H rfl rfl rfl) ?_; refine wl_v _ (r_move (H.ev rfl)) ?_; refine kl H rfl fun a H => ?_
                refine op_unguard _ _ (kg_yes rfl H rfl rfl rfl) ?_; refine wl_v _ (r_fld (q := 0) fld24_0 (H.ev rfl) rfl) ?_; refine kl H rfl fun a H => ?_
                refine op_unguard _ _ (kg_yes rfl H rfl rfl rfl) ?_; refine wl_v _ (r_ld Try.underlying3 rfl (H.ev rfl) ((Block.cell k2 0).trans rfl)) ?_; refine kl H rfl fun a H => ?_
                refine op_unguard _ _ (kg_yes rfl H rfl rfl rfl) ?_; refine wl_v _ (r_sub (q := N - 1) Try.underlying3 (H.ev rfl) evc (by omega) (by omega)) ?_; refine kl H rfl fun a H => ?_
                refine op_unguard _ _ (kg_yes rfl H rfl rfl rfl) ?_; refine wl_v _ (r_eq Try.underlying3 (H.ev rfl) (H.ev rfl) (dec_t (by omega))) ?_; refine kl H rfl fun a H => ?_
                refine wl_v _ (r_pick_t (H.ev rfl) (H.ev rfl)) ?_; refine kl H rfl fun a H => ?_
                refine wl_v _ (r_move (H.ev rfl)) ?_; refine kl H rfl fun a H => ?_
                refine op_unguard _ _ (kg_yes rfl H rfl rfl rfl) ?_; refine wl_v _ (r_move (H.ev rfl)) ?_; refine kl H rfl fun a H => ?_
                by_cases hcc8 : ((sk : Nat) : Int) ≥ 0
                · skip
                  refine op_unguard _ _ (kg_yes rfl H rfl rfl rfl) ?_; refine wl_v _ (r_ge Try.underlying3 (H.ev rfl) evc (dec_t (hcc8))) ?_; refine kl H rfl fun a H => ?_
                  refine wl_v _ (r_pick_t (H.ev rfl) (H.ev rfl)) ?_; refine kl H rfl fun a H => ?_
                  refine wl_v _ (r_move (H.ev rfl)) ?_; refine kl H rfl fun a H => ?_
                  refine op_unguard _ _ (kg_yes rfl H rfl rfl rfl) ?_; refine wl_v _ (r_move (H.ev rfl)) ?_; refine kl H rfl fun a H => ?_
                  by_cases hcc9 : ((sk : Nat) : Int) < 128
                  · skip
                    refine op_unguard _ _ (kg_yes rfl H rfl rfl rfl) ?_; refine wl_v _ (r_lt Try.underlying3 (H.ev rfl) evc (dec_t (hcc9))) ?_; refine kl H rfl fun a H => ?_
                    refine wl_v _ (r_pick_t (H.ev rfl) (H.ev rfl)) ?_; refine kl H rfl fun a H => ?_
                    refine wl_v _ (r_move (H.ev rfl)) ?_; refine kl H rfl fun a H => ?_
                    refine op_unguard _ _ (kg_yes rfl H rfl rfl rfl) ?_; refine wl_v _ (r_move (H.ev rfl)) ?_; refine kl H rfl fun a H => ?_
                    refine op_unguard _ _ (kg_yes rfl H rfl rfl rfl) ?_; refine wl_v _ (r_move (H.ev rfl)) ?_; refine kl H rfl fun a H => ?_
                    refine op_unguard _ _ (kg_yes rfl H rfl rfl rfl) ?_; refine wl_v _ (r_beq Try.underlying4 (H.ev rfl) (H.ev rfl) rfl) ?_; refine kl H rfl fun a H => ?_
                    refine wl_v _ (r_pick_t (H.ev rfl) (H.ev rfl)) ?_; refine kl H rfl fun a H => ?_
                    refine wl_v _ (r_move (H.ev rfl)) ?_; refine kl H rfl fun a H => ?_
                    refine wl_s (kg_no rfl H rfl rfl rfl) ?_; refine kl H rfl fun a H => ?_
                    refine wl_s (kg_no rfl H rfl rfl rfl) ?_; refine kl H rfl fun a H => ?_
                    refine wl_s (kg_no rfl H rfl rfl rfl) ?_; refine kl H rfl fun a H => ?_
                    refine wl_v _ (r_pick_f (H.ev rfl) evc) ?_; refine kl H rfl fun a H => ?_
                    refine wl_v _ (r_move (H.ev rfl)) ?_; refine kl H rfl fun a H => ?_
                    refine wl_s (kg_no rfl H rfl rfl rfl) ?_; refine kl H rfl fun a H => ?_
                    refine wl_s (kg_no rfl H rfl rfl rfl) ?_; refine kl H rfl fun a H => ?_
                    refine wl_s (kg_no rfl H rfl rfl rfl) ?_; refine kl H rfl fun a H => ?_
                    refine wl_v _ (r_pick_f (H.ev rfl) evc) ?_; refine kl H rfl fun a H => ?_
                    refine wl_v _ (r_assign (H.ev rfl)) ?_; refine kl H rfl fun a H => ?_
                    refine wpList_nil ?_
                    refine c_next ?_
                    refine wp_ret ?_
                    exfalso; omega
                  · skip
                    refine op_unguard _ _ (kg_yes rfl H rfl rfl rfl) ?_; refine wl_v _ (r_lt Try.underlying3 (H.ev rfl) evc (dec_f (hcc9))) ?_; refine kl H rfl fun a H => ?_
                    refine wl_v _ (r_pick_t (H.ev rfl) (H.ev rfl)) ?_; refine kl H rfl fun a H => ?_
                    refine wl_v _ (r_move (H.ev rfl)) ?_; refine kl H rfl fun a H => ?_
                    refine wl_s (kg_no rfl H rfl rfl rfl) ?_; refine kl H rfl fun a H => ?_
                    refine wl_s (kg_no rfl H rfl rfl rfl) ?_; refine kl H rfl fun a H => ?_
                    refine wl_s (kg_no rfl H rfl rfl rfl) ?_; refine kl H rfl fun a H => ?_
                    refine wl_v _ (r_pick_f (H.ev rfl) evc) ?_; refine kl H rfl fun a H => ?_
                    refine wl_v _ (r_move (H.ev rfl)) ?_; refine kl H rfl fun a H => ?_
                    refine wl_s (kg_no rfl H rfl rfl rfl) ?_; refine kl H rfl fun a H => ?_
                    refine wl_s (kg_no rfl H rfl rfl rfl) ?_; refine kl H rfl fun a H => ?_
                    refine wl_s (kg_no rfl H rfl rfl rfl) ?_; refine kl H rfl fun a H => ?_
                    refine wl_v _ (r_pick_f (H.ev rfl) evc) ?_; refine kl H rfl fun a H => ?_
                    refine wl_v _ (r_move (H.ev rfl)) ?_; refine kl H rfl fun a H => ?_
                    refine wl_s (kg_no rfl H rfl rfl rfl) ?_; refine kl H rfl fun a H => ?_
                    refine wl_s (kg_no rfl H rfl rfl rfl) ?_; refine kl H rfl fun a H => ?_
                    refine wl_s (kg_no rfl H rfl rfl rfl) ?_; refine kl H rfl fun a H => ?_
                    refine wl_v _ (r_pick_f (H.ev rfl) evc) ?_; refine kl H rfl fun a H => ?_
                    refine wl_v _ (r_assign (H.ev rfl)) ?_; refine kl H rfl fun a H => ?_
                    refine wpList_nil ?_
                    refine c_next ?_
                    refine wp_ret ?_
                    exfalso; omega
                · skip
                  refine op_unguard _ _ (kg_yes rfl H rfl rfl rfl) ?_; refine wl_v _ (r_ge Try.underlying3 (H.ev rfl) evc (dec_f (hcc8))) ?_; refine kl H rfl fun a H => ?_
                  refine wl_v _ (r_pick_t (H.ev rfl) (H.ev rfl)) ?_; refine kl H rfl fun a H => ?_
                  refine wl_v _ (r_move (H.ev rfl)) ?_; refine kl H rfl fun a H => ?_
                  refine wl_s (kg_no rfl H rfl rfl rfl) ?_; refine kl H rfl fun a H => ?_
                  refine wl_s (kg_no rfl H rfl rfl rfl) ?_; refine kl H rfl fun a H => ?_
                  refine wl_v _ (r_pick_f (H.ev rfl) evc) ?_; refine kl H rfl fun a H => ?_
                  refine wl_v _ (r_move (H.ev rfl)) ?_; refine kl H rfl fun a H => ?_
                  refine wl_s (kg_no rfl H rfl rfl rfl) ?_; refine kl H rfl fun a H => ?_
                  refine wl_s (kg_no rfl H rfl rfl rfl) ?_; refine kl H rfl fun a H => ?_
                  refine wl_s (kg_no rfl H rfl rfl rfl) ?_; refine kl H rfl fun a H => ?_
                  refine wl_v _ (r_pick_f (H.ev rfl) evc) ?_; refine kl H rfl fun a H => ?_
                  refine wl_v _ (r_move (H.ev rfl)) ?_; refine kl H rfl fun a H => ?_
                  refine wl_s (kg_no rfl H rfl rfl rfl) ?_; refine kl H rfl fun a H => ?_
                  refine wl_s (kg_no rfl H rfl rfl rfl) ?_; refine kl H rfl fun a H => ?_
                  refine wl_s (kg_no rfl H rfl rfl rfl) ?_; refine kl H rfl fun a H => ?_
                  refine wl_v _ (r_pick_f (H.ev rfl) evc) ?_; refine kl H rfl fun a H => ?_
                  refine wl_v _ (r_move (H.ev rfl)) ?_; refine kl H rfl fun a H => ?_
                  refine wl_s (kg_no rfl H rfl rfl rfl) ?_; refine kl H rfl fun a H => ?_
                  refine wl_s (kg_no rfl H rfl rfl rfl) ?_; refine kl H rfl fun a H => ?_
                  refine wl_s (kg_no rfl H rfl rfl rfl) ?_; refine kl H rfl fun a H => ?_
                  refine wl_v _ (r_pick_f (H.ev rfl) evc) ?_; refine kl H rfl fun a H => ?_
                  refine wl_v _ (r_assign (H.ev rfl)) ?_; refine kl H rfl fun a H => ?_
                  refine wpList_nil ?_
                  refine c_next ?_
                  refine wp_ret ?_
                  exfalso; omega
              · skip
                refine op_unguard _ _ (kg_yes rfl H rfl rfl rfl) ?_; refine wl_v _ (r_lt Try.underlying3 (H.ev rfl) evc (dec_f (hcc7))) ?_; refine kl H rfl fun a H => ?_
                refine op_unguard _ _ (kg_yes rfl H rfl rfl rfl) ?_; refine wl_v _ (r_pick_t (H.ev rfl) (H.ev rfl)) ?_; refine kl H rfl fun a H => ?_
                refine wl_v _ (r_pick_f (H.ev rfl) (H.ev rfl)) ?_; refine kl H rfl fun a H => ?_
                refine wl_v _ (r_assign (H.ev rfl)) ?_; refine kl H rfl fun a H => ?_
                refine wpList_nil ?_
                refine c_next ?_
                refine wp_seq ?_
                refine wp_region_lit ?_
                refine wl_v _ (r_row (cs := [.int .i64 N, .slice As1 L'.length cs1]) (H.ev rfl) (block_range k2) (by kernel_rfl) s24 rfl) ?_; refine kl H rfl fun a H => ?_
                refine wl_v _ (r_row (cs := [.int .i64 x.1, .int .i64 x.2.1, .int .i64 x.2.2.1, .int .i64 x.2.2.2.1, .int .i64 x.2.2.2.2]) (H.ev rfl) (block_range k1) (by kernel_rfl) s33 rfl) ?_; refine kl H rfl fun a H => ?_
                refine wl_call _ _ _ (take_any _ N (.slice As1 L'.length cs1) L' x rs1 (by omega) hx.1 hx.2) (r_call2 cf12 (H.ev rfl) (H.ev rfl)) ?_; rintro e w9 ⟨⟨s2, o2, rfl, ⟨rs2, fs2⟩, ⟨ro2, fo2⟩⟩, hb⟩; refine ⟨_, rfl, ?_⟩; rw [HT2.out] at rs2 ro2 ⊢; replace k0 := Block.ups k0 hb; replace k1 := Block.ups k1 hb; replace k2 := Block.ups k2 hb; replace rs1 := Row.up rs1 hb; replace hall := hall.trans (hb.mono hall.size); clear hb; clear fs2 fo2; obtain ⟨As2, cs2, hsv, s1, s2, s3, s4⟩ := rs2; have rs2 : IRow _ (.slice As2 L'.length cs2) L' := ⟨As2, cs2, rfl, s1, s2, s3, s4⟩; subst hsv; obtain ⟨Ao2, co2, hov, u1, u2, u3, u4⟩ := ro2; have ro2 : NRow _ (.slice Ao2 0 co2) ([] : List Nt) := ⟨Ao2, co2, rfl, u1, u2, u3, u4⟩; simp only [List.length_nil] at hov; subst hov; clear s1 s2 s3 s4 u1 u2 u3 u4; refine kl H rfl fun a H => ?_
                refine wl_v _ (r_move (H.ev rfl)) ?_; refine kl H rfl fun a H => ?_
                refine wl_v _ (r_extract (v := .agg #[.int .i64 N, .slice As2 L'.length cs2]) (H.ev rfl) rfl) ?_; refine kl H rfl fun a H => ?_
                refine wl_v _ (r_extract (v := .slice Ao2 0 co2) (H.ev rfl) rfl) ?_; refine kl H rfl fun a H => ?_
                refine op_new 24 13 (.tmp 84) #[.int .i64 N, .slice As2 L'.length cs2] _ z24 s24 rfl (by simp [Value.cells, Value.oneCell']) (fun p => (H.put 13 p rfl).ev rfl) (fun p => (H.put 13 p rfl).ev rfl) fun w5 b5 hge hb k5 => ?_; have g5 := Nat.le_trans hall.size hge; replace k0 := Block.ups k0 hb; replace k1 := Block.ups k1 hb; replace k2 := Block.ups k2 hb; replace rs1 := Row.up rs1 hb; replace rs2 := Row.up rs2 hb; replace ro2 := Row.up ro2 hb; replace hall := hall.trans (hb.mono hall.size); clear hb; clear hge; refine kl H rfl fun a H => ?_
                refine wl_v _ (r_assign (H.ev rfl)) ?_; refine kl H rfl fun a H => ?_
                refine wpList_nil ?_
                refine c_next ?_
                refine wp_seq ?_
                refine wp_region_lit ?_
                refine wl_v _ (r_move (H.ev rfl)) ?_; refine kl H rfl fun a H => ?_
                refine wl_v _ (r_move (H.ev rfl)) ?_; refine kl H rfl fun a H => ?_
                refine op_unguard _ _ (kg_yes rfl H rfl rfl rfl) ?_; refine wl_v _ (r_move (H.ev rfl)) ?_; refine kl H rfl fun a H => ?_
                refine op_unguard _ _ (kg_yes rfl H rfl rfl rfl) ?_; refine wl_v _ (r_fld (q := 0) fld24_0 (H.ev rfl) rfl) ?_; refine kl H rfl fun a H => ?_
                refine op_unguard _ _ (kg_yes rfl H rfl rfl rfl) ?_; refine wl_v _ (r_ld Try.underlying3 rfl (H.ev rfl) ((Block.cell k2 0).trans rfl)) ?_; refine kl H rfl fun a H => ?_
                refine op_unguard _ _ (kg_yes rfl H rfl rfl rfl) ?_; refine wl_v _ (r_sub (q := N - 1) Try.underlying3 (H.ev rfl) evc (by omega) (by omega)) ?_; refine kl H rfl fun a H => ?_
                refine op_unguard _ _ (kg_yes rfl H rfl rfl rfl) ?_; refine wl_v _ (r_eq Try.underlying3 (H.ev rfl) (H.ev rfl) (dec_t (by omega))) ?_; refine kl H rfl fun a H => ?_
                refine wl_v _ (r_pick_t (H.ev rfl) (H.ev rfl)) ?_; refine kl H rfl fun a H => ?_
                refine wl_v _ (r_move (H.ev rfl)) ?_; refine kl H rfl fun a H => ?_
                refine op_unguard _ _ (kg_yes rfl H rfl rfl rfl) ?_; refine wl_v _ (r_move (H.ev rfl)) ?_; refine kl H rfl fun a H => ?_
                by_cases hcc10 : ((sk : Nat) : Int) ≥ 0
                · skip
                  refine op_unguard _ _ (kg_yes rfl H rfl rfl rfl) ?_; refine wl_v _ (r_ge Try.underlying3 (H.ev rfl) evc (dec_t (hcc10))) ?_; refine kl H rfl fun a H => ?_
                  refine wl_v _ (r_pick_t (H.ev rfl) (H.ev rfl)) ?_; refine kl H rfl fun a H => ?_
                  refine wl_v _ (r_move (H.ev rfl)) ?_; refine kl H rfl fun a H => ?_
                  refine op_unguard _ _ (kg_yes rfl H rfl rfl rfl) ?_; refine wl_v _ (r_move (H.ev rfl)) ?_; refine kl H rfl fun a H => ?_
                  by_cases hcc11 : ((sk : Nat) : Int) < 128
                  · skip
                    refine op_unguard _ _ (kg_yes rfl H rfl rfl rfl) ?_; refine wl_v _ (r_lt Try.underlying3 (H.ev rfl) evc (dec_t (hcc11))) ?_; refine kl H rfl fun a H => ?_
                    refine wl_v _ (r_pick_t (H.ev rfl) (H.ev rfl)) ?_; refine kl H rfl fun a H => ?_
                    refine wl_v _ (r_move (H.ev rfl)) ?_; refine kl H rfl fun a H => ?_
                    refine op_unguard _ _ (kg_yes rfl H rfl rfl rfl) ?_; refine wl_v _ (r_move (H.ev rfl)) ?_; refine kl H rfl fun a H => ?_
                    refine op_unguard _ _ (kg_yes rfl H rfl rfl rfl) ?_; refine wl_v _ (r_move (H.ev rfl)) ?_; refine kl H rfl fun a H => ?_
                    refine op_unguard _ _ (kg_yes rfl H rfl rfl rfl) ?_; refine wl_v _ (r_beq Try.underlying4 (H.ev rfl) (H.ev rfl) rfl) ?_; refine kl H rfl fun a H => ?_
                    refine wl_v _ (r_pick_t (H.ev rfl) (H.ev rfl)) ?_; refine kl H rfl fun a H => ?_
                    refine wl_v _ (r_move (H.ev rfl)) ?_; refine kl H rfl fun a H => ?_
                    refine op_unguard _ _ (kg_yes rfl H rfl rfl rfl) ?_; refine wl_v _ (r_row (cs := [.int .i64 N, .slice As2 L'.length cs2]) (H.ev rfl) (block_range k5) (by kernel_rfl) s24 rfl) ?_; refine kl H rfl fun a H => ?_
                    refine op_unguard _ _ (kg_yes rfl H rfl rfl rfl) ?_; refine wl_v _ (r_row (cs := [.int .i64 N, .slice As1 L'.length cs1]) (H.ev rfl) (block_range k2) (by kernel_rfl) s24 rfl) ?_; refine kl H rfl fun a H => ?_
                    refine op_unguard _ _ (kg_yes rfl H rfl rfl rfl) ?_; refine wl_call _ _ _ (same_any _ N N _ _ L' L' rs2 rs1 (by omega)) (r_call2 cf10 (H.ev rfl) (H.ev rfl)) ?_; rintro e w9 ⟨rfl, hb⟩; refine ⟨_, rfl, ?_⟩; rw [show sameB N L' N L' = true from same_refl]; replace k0 := Block.ups k0 hb; replace k1 := Block.ups k1 hb; replace k2 := Block.ups k2 hb; replace rs1 := Row.up rs1 hb; replace rs2 := Row.up rs2 hb; replace ro2 := Row.up ro2 hb; replace k5 := Block.ups k5 hb; replace hall := hall.trans (hb.mono hall.size); clear hb; refine kl H rfl fun a H => ?_
                    refine wl_v _ (r_pick_t (H.ev rfl) (H.ev rfl)) ?_; refine kl H rfl fun a H => ?_
                    refine wl_v _ (r_move (H.ev rfl)) ?_; refine kl H rfl fun a H => ?_
                    refine op_unguard _ _ (kg_yes rfl H rfl rfl rfl) ?_; refine wl_v _ (r_move (H.ev rfl)) ?_; refine kl H rfl fun a H => ?_
                    refine op_unguard _ _ (kg_yes rfl H rfl rfl rfl) ?_; refine wl_v _ (r_len Try.underlying27 (H.ev rfl)) ?_; refine kl H rfl fun a H => ?_
                    refine op_unguard _ _ (kg_yes rfl H rfl rfl rfl) ?_; refine wl_v _ (r_eq Try.underlying3 (H.ev rfl) evc (dec_t (by omega))) ?_; refine kl H rfl fun a H => ?_
                    refine wl_v _ (r_pick_t (H.ev rfl) (H.ev rfl)) ?_; refine kl H rfl fun a H => ?_
                    refine wl_v _ (r_assign (H.ev rfl)) ?_; refine kl H rfl fun a H => ?_
                    refine wpList_nil ?_
                    refine c_next ?_
                    refine wp_ret ?_
                    exact k_ret1 H rfl rfl ⟨rfl, hall⟩
                  · skip
                    refine op_unguard _ _ (kg_yes rfl H rfl rfl rfl) ?_; refine wl_v _ (r_lt Try.underlying3 (H.ev rfl) evc (dec_f (hcc11))) ?_; refine kl H rfl fun a H => ?_
                    refine wl_v _ (r_pick_t (H.ev rfl) (H.ev rfl)) ?_; refine kl H rfl fun a H => ?_
                    refine wl_v _ (r_move (H.ev rfl)) ?_; refine kl H rfl fun a H => ?_
                    refine wl_s (kg_no rfl H rfl rfl rfl) ?_; refine kl H rfl fun a H => ?_
                    refine wl_s (kg_no rfl H rfl rfl rfl) ?_; refine kl H rfl fun a H => ?_
                    refine wl_s (kg_no rfl H rfl rfl rfl) ?_; refine kl H rfl fun a H => ?_
                    refine wl_v _ (r_pick_f (H.ev rfl) evc) ?_; refine kl H rfl fun a H => ?_
                    refine wl_v _ (r_move (H.ev rfl)) ?_; refine kl H rfl fun a H => ?_
                    refine wl_s (kg_no rfl H rfl rfl rfl) ?_; refine kl H rfl fun a H => ?_
                    refine wl_s (kg_no rfl H rfl rfl rfl) ?_; refine kl H rfl fun a H => ?_
                    refine wl_s (kg_no rfl H rfl rfl rfl) ?_; refine kl H rfl fun a H => ?_
                    refine wl_v _ (r_pick_f (H.ev rfl) evc) ?_; refine kl H rfl fun a H => ?_
                    refine wl_v _ (r_move (H.ev rfl)) ?_; refine kl H rfl fun a H => ?_
                    refine wl_s (kg_no rfl H rfl rfl rfl) ?_; refine kl H rfl fun a H => ?_
                    refine wl_s (kg_no rfl H rfl rfl rfl) ?_; refine kl H rfl fun a H => ?_
                    refine wl_s (kg_no rfl H rfl rfl rfl) ?_; refine kl H rfl fun a H => ?_
                    refine wl_v _ (r_pick_f (H.ev rfl) evc) ?_; refine kl H rfl fun a H => ?_
                    refine wl_v _ (r_assign (H.ev rfl)) ?_; refine kl H rfl fun a H => ?_
                    refine wpList_nil ?_
                    refine c_next ?_
                    refine wp_ret ?_
                    exfalso; omega
                · skip
                  refine op_unguard _ _ (kg_yes rfl H rfl rfl rfl) ?_; refine wl_v _ (r_ge Try.underlying3 (H.ev rfl) evc (dec_f (hcc10))) ?_; refine kl H rfl fun a H => ?_
                  refine wl_v _ (r_pick_t (H.ev rfl) (H.ev rfl)) ?_; refine kl H rfl fun a H => ?_
                  refine wl_v _ (r_move (H.ev rfl)) ?_; refine kl H rfl fun a H => ?_
                  refine wl_s (kg_no rfl H rfl rfl rfl) ?_; refine kl H rfl fun a H => ?_
                  refine wl_s (kg_no rfl H rfl rfl rfl) ?_; refine kl H rfl fun a H => ?_
                  refine wl_v _ (r_pick_f (H.ev rfl) evc) ?_; refine kl H rfl fun a H => ?_
                  refine wl_v _ (r_move (H.ev rfl)) ?_; refine kl H rfl fun a H => ?_
                  refine wl_s (kg_no rfl H rfl rfl rfl) ?_; refine kl H rfl fun a H => ?_
                  refine wl_s (kg_no rfl H rfl rfl rfl) ?_; refine kl H rfl fun a H => ?_
                  refine wl_s (kg_no rfl H rfl rfl rfl) ?_; refine kl H rfl fun a H => ?_
                  refine wl_v _ (r_pick_f (H.ev rfl) evc) ?_; refine kl H rfl fun a H => ?_
                  refine wl_v _ (r_move (H.ev rfl)) ?_; refine kl H rfl fun a H => ?_
                  refine wl_s (kg_no rfl H rfl rfl rfl) ?_; refine kl H rfl fun a H => ?_
                  refine wl_s (kg_no rfl H rfl rfl rfl) ?_; refine kl H rfl fun a H => ?_
                  refine wl_s (kg_no rfl H rfl rfl rfl) ?_; refine kl H rfl fun a H => ?_
                  refine wl_v _ (r_pick_f (H.ev rfl) evc) ?_; refine kl H rfl fun a H => ?_
                  refine wl_v _ (r_move (H.ev rfl)) ?_; refine kl H rfl fun a H => ?_
                  refine wl_s (kg_no rfl H rfl rfl rfl) ?_; refine kl H rfl fun a H => ?_
                  refine wl_s (kg_no rfl H rfl rfl rfl) ?_; refine kl H rfl fun a H => ?_
                  refine wl_s (kg_no rfl H rfl rfl rfl) ?_; refine kl H rfl fun a H => ?_
                  refine wl_v _ (r_pick_f (H.ev rfl) evc) ?_; refine kl H rfl fun a H => ?_
                  refine wl_v _ (r_assign (H.ev rfl)) ?_; refine kl H rfl fun a H => ?_
                  refine wpList_nil ?_
                  refine c_next ?_
                  refine wp_ret ?_
                  exfalso; omega
            · skip
              refine op_unguard _ _ (kg_yes rfl H rfl rfl rfl) ?_; refine wl_v _ (r_lt Try.underlying3 (H.ev rfl) evc (dec_f (hcc6))) ?_; refine kl H rfl fun a H => ?_
              refine op_unguard _ _ (kg_yes rfl H rfl rfl rfl) ?_; refine wl_v _ (r_move (H.ev rfl)) ?_; refine kl H rfl fun a H => ?_
              refine wl_s (kg_no rfl H rfl rfl rfl) ?_; refine kl H rfl fun a H => ?_
              refine wl_s (kg_no rfl H rfl rfl rfl) ?_; refine kl H rfl fun a H => ?_
              refine wl_s (kg_no rfl H rfl rfl rfl) ?_; refine kl H rfl fun a H => ?_
              refine op_unguard _ _ (kg_yes rfl H rfl rfl rfl) ?_; refine wl_v _ (r_pick_f (H.ev rfl) evc) ?_; refine kl H rfl fun a H => ?_
              refine wl_v _ (r_pick_f (H.ev rfl) (H.ev rfl)) ?_; refine kl H rfl fun a H => ?_
              refine wl_v _ (r_assign (H.ev rfl)) ?_; refine kl H rfl fun a H => ?_
              refine wpList_nil ?_
              refine c_next ?_
              refine wp_seq ?_
              refine wp_region_lit ?_
              refine wl_v _ (r_row (cs := [.int .i64 N, .slice As1 L'.length cs1]) (H.ev rfl) (block_range k2) (by kernel_rfl) s24 rfl) ?_; refine kl H rfl fun a H => ?_
              refine wl_v _ (r_row (cs := [.int .i64 x.1, .int .i64 x.2.1, .int .i64 x.2.2.1, .int .i64 x.2.2.2.1, .int .i64 x.2.2.2.2]) (H.ev rfl) (block_range k1) (by kernel_rfl) s33 rfl) ?_; refine kl H rfl fun a H => ?_
              refine wl_call _ _ _ (take_any _ N (.slice As1 L'.length cs1) L' x rs1 (by omega) hx.1 hx.2) (r_call2 cf12 (H.ev rfl) (H.ev rfl)) ?_; rintro e w9 ⟨⟨s2, o2, rfl, ⟨rs2, fs2⟩, ⟨ro2, fo2⟩⟩, hb⟩; refine ⟨_, rfl, ?_⟩; rw [HT2.out] at rs2 ro2 ⊢; replace k0 := Block.ups k0 hb; replace k1 := Block.ups k1 hb; replace k2 := Block.ups k2 hb; replace rs1 := Row.up rs1 hb; replace hall := hall.trans (hb.mono hall.size); clear hb; clear fs2 fo2; obtain ⟨As2, cs2, hsv, s1, s2, s3, s4⟩ := rs2; have rs2 : IRow _ (.slice As2 L'.length cs2) L' := ⟨As2, cs2, rfl, s1, s2, s3, s4⟩; subst hsv; obtain ⟨Ao2, co2, hov, u1, u2, u3, u4⟩ := ro2; have ro2 : NRow _ (.slice Ao2 0 co2) ([] : List Nt) := ⟨Ao2, co2, rfl, u1, u2, u3, u4⟩; simp only [List.length_nil] at hov; subst hov; clear s1 s2 s3 s4 u1 u2 u3 u4; refine kl H rfl fun a H => ?_
              refine wl_v _ (r_move (H.ev rfl)) ?_; refine kl H rfl fun a H => ?_
              refine wl_v _ (r_extract (v := .agg #[.int .i64 N, .slice As2 L'.length cs2]) (H.ev rfl) rfl) ?_; refine kl H rfl fun a H => ?_
              refine wl_v _ (r_extract (v := .slice Ao2 0 co2) (H.ev rfl) rfl) ?_; refine kl H rfl fun a H => ?_
              refine op_new 24 13 (.tmp 84) #[.int .i64 N, .slice As2 L'.length cs2] _ z24 s24 rfl (by simp [Value.cells, Value.oneCell']) (fun p => (H.put 13 p rfl).ev rfl) (fun p => (H.put 13 p rfl).ev rfl) fun w6 b6 hge hb k6 => ?_; have g6 := Nat.le_trans hall.size hge; replace k0 := Block.ups k0 hb; replace k1 := Block.ups k1 hb; replace k2 := Block.ups k2 hb; replace rs1 := Row.up rs1 hb; replace rs2 := Row.up rs2 hb; replace ro2 := Row.up ro2 hb; replace hall := hall.trans (hb.mono hall.size); clear hb; clear hge; refine kl H rfl fun a H => ?_
              refine wl_v _ (r_assign (H.ev rfl)) ?_; refine kl H rfl fun a H => ?_
              refine wpList_nil ?_
              refine c_next ?_
              refine wp_seq ?_
              refine wp_region_lit ?_
              refine wl_v _ (r_move (H.ev rfl)) ?_; refine kl H rfl fun a H => ?_
              refine wl_v _ (r_move (H.ev rfl)) ?_; refine kl H rfl fun a H => ?_
              refine op_unguard _ _ (kg_yes rfl H rfl rfl rfl) ?_; refine wl_v _ (r_move (H.ev rfl)) ?_; refine kl H rfl fun a H => ?_
              refine op_unguard _ _ (kg_yes rfl H rfl rfl rfl) ?_; refine wl_v _ (r_fld (q := 0) fld24_0 (H.ev rfl) rfl) ?_; refine kl H rfl fun a H => ?_
              refine op_unguard _ _ (kg_yes rfl H rfl rfl rfl) ?_; refine wl_v _ (r_ld Try.underlying3 rfl (H.ev rfl) ((Block.cell k2 0).trans rfl)) ?_; refine kl H rfl fun a H => ?_
              refine op_unguard _ _ (kg_yes rfl H rfl rfl rfl) ?_; refine wl_v _ (r_sub (q := N - 1) Try.underlying3 (H.ev rfl) evc (by omega) (by omega)) ?_; refine kl H rfl fun a H => ?_
              refine op_unguard _ _ (kg_yes rfl H rfl rfl rfl) ?_; refine wl_v _ (r_eq Try.underlying3 (H.ev rfl) (H.ev rfl) (dec_t (by omega))) ?_; refine kl H rfl fun a H => ?_
              refine wl_v _ (r_pick_t (H.ev rfl) (H.ev rfl)) ?_; refine kl H rfl fun a H => ?_
              refine wl_v _ (r_move (H.ev rfl)) ?_; refine kl H rfl fun a H => ?_
              refine op_unguard _ _ (kg_yes rfl H rfl rfl rfl) ?_; refine wl_v _ (r_move (H.ev rfl)) ?_; refine kl H rfl fun a H => ?_
              by_cases hcc12 : ((sk : Nat) : Int) ≥ 0
              · skip
                refine op_unguard _ _ (kg_yes rfl H rfl rfl rfl) ?_; refine wl_v _ (r_ge Try.underlying3 (H.ev rfl) evc (dec_t (hcc12))) ?_; refine kl H rfl fun a H => ?_
                refine wl_v _ (r_pick_t (H.ev rfl) (H.ev rfl)) ?_; refine kl H rfl fun a H => ?_
                refine wl_v _ (r_move (H.ev rfl)) ?_; refine kl H rfl fun a H => ?_
                refine op_unguard _ _ (kg_yes rfl H rfl rfl rfl) ?_; refine wl_v _ (r_move (H.ev rfl)) ?_; refine kl H rfl fun a H => ?_
                by_cases hcc13 : ((sk : Nat) : Int) < 128
                · skip
                  refine op_unguard _ _ (kg_yes rfl H rfl rfl rfl) ?_; refine wl_v _ (r_lt Try.underlying3 (H.ev rfl) evc (dec_t (hcc13))) ?_; refine kl H rfl fun a H => ?_
                  refine wl_v _ (r_pick_t (H.ev rfl) (H.ev rfl)) ?_; refine kl H rfl fun a H => ?_
                  refine wl_v _ (r_move (H.ev rfl)) ?_; refine kl H rfl fun a H => ?_
                  refine op_unguard _ _ (kg_yes rfl H rfl rfl rfl) ?_; refine wl_v _ (r_move (H.ev rfl)) ?_; refine kl H rfl fun a H => ?_
                  refine op_unguard _ _ (kg_yes rfl H rfl rfl rfl) ?_; refine wl_v _ (r_move (H.ev rfl)) ?_; refine kl H rfl fun a H => ?_
                  refine op_unguard _ _ (kg_yes rfl H rfl rfl rfl) ?_; refine wl_v _ (r_beq Try.underlying4 (H.ev rfl) (H.ev rfl) rfl) ?_; refine kl H rfl fun a H => ?_
                  refine wl_v _ (r_pick_t (H.ev rfl) (H.ev rfl)) ?_; refine kl H rfl fun a H => ?_
                  refine wl_v _ (r_move (H.ev rfl)) ?_; refine kl H rfl fun a H => ?_
                  refine op_unguard _ _ (kg_yes rfl H rfl rfl rfl) ?_; refine wl_v _ (r_row (cs := [.int .i64 N, .slice As2 L'.length cs2]) (H.ev rfl) (block_range k6) (by kernel_rfl) s24 rfl) ?_; refine kl H rfl fun a H => ?_
                  refine op_unguard _ _ (kg_yes rfl H rfl rfl rfl) ?_; refine wl_v _ (r_row (cs := [.int .i64 N, .slice As1 L'.length cs1]) (H.ev rfl) (block_range k2) (by kernel_rfl) s24 rfl) ?_; refine kl H rfl fun a H => ?_
                  refine op_unguard _ _ (kg_yes rfl H rfl rfl rfl) ?_; refine wl_call _ _ _ (same_any _ N N _ _ L' L' rs2 rs1 (by omega)) (r_call2 cf10 (H.ev rfl) (H.ev rfl)) ?_; rintro e w9 ⟨rfl, hb⟩; refine ⟨_, rfl, ?_⟩; rw [show sameB N L' N L' = true from same_refl]; replace k0 := Block.ups k0 hb; replace k1 := Block.ups k1 hb; replace k2 := Block.ups k2 hb; replace rs1 := Row.up rs1 hb; replace rs2 := Row.up rs2 hb; replace ro2 := Row.up ro2 hb; replace k6 := Block.ups k6 hb; replace hall := hall.trans (hb.mono hall.size); clear hb; refine kl H rfl fun a H => ?_
                  refine wl_v _ (r_pick_t (H.ev rfl) (H.ev rfl)) ?_; refine kl H rfl fun a H => ?_
                  refine wl_v _ (r_move (H.ev rfl)) ?_; refine kl H rfl fun a H => ?_
                  refine op_unguard _ _ (kg_yes rfl H rfl rfl rfl) ?_; refine wl_v _ (r_move (H.ev rfl)) ?_; refine kl H rfl fun a H => ?_
                  refine op_unguard _ _ (kg_yes rfl H rfl rfl rfl) ?_; refine wl_v _ (r_len Try.underlying27 (H.ev rfl)) ?_; refine kl H rfl fun a H => ?_
                  refine op_unguard _ _ (kg_yes rfl H rfl rfl rfl) ?_; refine wl_v _ (r_eq Try.underlying3 (H.ev rfl) evc (dec_t (by omega))) ?_; refine kl H rfl fun a H => ?_
                  refine wl_v _ (r_pick_t (H.ev rfl) (H.ev rfl)) ?_; refine kl H rfl fun a H => ?_
                  refine wl_v _ (r_assign (H.ev rfl)) ?_; refine kl H rfl fun a H => ?_
                  refine wpList_nil ?_
                  refine c_next ?_
                  refine wp_ret ?_
                  exact k_ret1 H rfl rfl ⟨rfl, hall⟩
                · skip
                  refine op_unguard _ _ (kg_yes rfl H rfl rfl rfl) ?_; refine wl_v _ (r_lt Try.underlying3 (H.ev rfl) evc (dec_f (hcc13))) ?_; refine kl H rfl fun a H => ?_
                  refine wl_v _ (r_pick_t (H.ev rfl) (H.ev rfl)) ?_; refine kl H rfl fun a H => ?_
                  refine wl_v _ (r_move (H.ev rfl)) ?_; refine kl H rfl fun a H => ?_
                  refine wl_s (kg_no rfl H rfl rfl rfl) ?_; refine kl H rfl fun a H => ?_
                  refine wl_s (kg_no rfl H rfl rfl rfl) ?_; refine kl H rfl fun a H => ?_
                  refine wl_s (kg_no rfl H rfl rfl rfl) ?_; refine kl H rfl fun a H => ?_
                  refine wl_v _ (r_pick_f (H.ev rfl) evc) ?_; refine kl H rfl fun a H => ?_
                  refine wl_v _ (r_move (H.ev rfl)) ?_; refine kl H rfl fun a H => ?_
                  refine wl_s (kg_no rfl H rfl rfl rfl) ?_; refine kl H rfl fun a H => ?_
                  refine wl_s (kg_no rfl H rfl rfl rfl) ?_; refine kl H rfl fun a H => ?_
                  refine wl_s (kg_no rfl H rfl rfl rfl) ?_; refine kl H rfl fun a H => ?_
                  refine wl_v _ (r_pick_f (H.ev rfl) evc) ?_; refine kl H rfl fun a H => ?_
                  refine wl_v _ (r_move (H.ev rfl)) ?_; refine kl H rfl fun a H => ?_
                  refine wl_s (kg_no rfl H rfl rfl rfl) ?_; refine kl H rfl fun a H => ?_
                  refine wl_s (kg_no rfl H rfl rfl rfl) ?_; refine kl H rfl fun a H => ?_
                  refine wl_s (kg_no rfl H rfl rfl rfl) ?_; refine kl H rfl fun a H => ?_
                  refine wl_v _ (r_pick_f (H.ev rfl) evc) ?_; refine kl H rfl fun a H => ?_
                  refine wl_v _ (r_assign (H.ev rfl)) ?_; refine kl H rfl fun a H => ?_
                  refine wpList_nil ?_
                  refine c_next ?_
                  refine wp_ret ?_
                  exfalso; omega
              · skip
                refine op_unguard _ _ (kg_yes rfl H rfl rfl rfl) ?_; refine wl_v _ (r_ge Try.underlying3 (H.ev rfl) evc (dec_f (hcc12))) ?_; refine kl H rfl fun a H => ?_
                refine wl_v _ (r_pick_t (H.ev rfl) (H.ev rfl)) ?_; refine kl H rfl fun a H => ?_
                refine wl_v _ (r_move (H.ev rfl)) ?_; refine kl H rfl fun a H => ?_
                refine wl_s (kg_no rfl H rfl rfl rfl) ?_; refine kl H rfl fun a H => ?_
                refine wl_s (kg_no rfl H rfl rfl rfl) ?_; refine kl H rfl fun a H => ?_
                refine wl_v _ (r_pick_f (H.ev rfl) evc) ?_; refine kl H rfl fun a H => ?_
                refine wl_v _ (r_move (H.ev rfl)) ?_; refine kl H rfl fun a H => ?_
                refine wl_s (kg_no rfl H rfl rfl rfl) ?_; refine kl H rfl fun a H => ?_
                refine wl_s (kg_no rfl H rfl rfl rfl) ?_; refine kl H rfl fun a H => ?_
                refine wl_s (kg_no rfl H rfl rfl rfl) ?_; refine kl H rfl fun a H => ?_
                refine wl_v _ (r_pick_f (H.ev rfl) evc) ?_; refine kl H rfl fun a H => ?_
                refine wl_v _ (r_move (H.ev rfl)) ?_; refine kl H rfl fun a H => ?_
                refine wl_s (kg_no rfl H rfl rfl rfl) ?_; refine kl H rfl fun a H => ?_
                refine wl_s (kg_no rfl H rfl rfl rfl) ?_; refine kl H rfl fun a H => ?_
                refine wl_s (kg_no rfl H rfl rfl rfl) ?_; refine kl H rfl fun a H => ?_
                refine wl_v _ (r_pick_f (H.ev rfl) evc) ?_; refine kl H rfl fun a H => ?_
                refine wl_v _ (r_move (H.ev rfl)) ?_; refine kl H rfl fun a H => ?_
                refine wl_s (kg_no rfl H rfl rfl rfl) ?_; refine kl H rfl fun a H => ?_
                refine wl_s (kg_no rfl H rfl rfl rfl) ?_; refine kl H rfl fun a H => ?_
                refine wl_s (kg_no rfl H rfl rfl rfl) ?_; refine kl H rfl fun a H => ?_
                refine wl_v _ (r_pick_f (H.ev rfl) evc) ?_; refine kl H rfl fun a H => ?_
                refine wl_v _ (r_assign (H.ev rfl)) ?_; refine kl H rfl fun a H => ?_
                refine wpList_nil ?_
                refine c_next ?_
                refine wp_ret ?_
                exfalso; omega
        · skip
          have hyes := hbm.1 rfl
          refine wp_region_lit ?_
          refine wl_v _ (r_fld (q := 0) fld33_0 (H.ev rfl) rfl) ?_; refine kl H rfl fun a H => ?_
          refine wl_v _ (r_ld Try.underlying3 rfl (H.ev rfl) ((Block.cell k1 0).trans rfl)) ?_; refine kl H rfl fun a H => ?_
          refine wl_v _ (r_fld (q := 0) fld24_0 (H.ev rfl) rfl) ?_; refine kl H rfl fun a H => ?_
          refine wl_v _ (r_ld Try.underlying3 rfl (H.ev rfl) ((Block.cell k0 0).trans rfl)) ?_; refine kl H rfl fun a H => ?_
          by_cases hcc14 : x.1 < n
          · skip
            refine wl_v _ (r_lt Try.underlying3 (H.ev rfl) (H.ev rfl) (dec_t (hcc14))) ?_; refine kl H rfl fun a H => ?_
            refine wl_v _ (r_move (H.ev rfl)) ?_; refine kl H rfl fun a H => ?_
            refine wl_s (kg_no rfl H rfl rfl rfl) ?_; refine kl H rfl fun a H => ?_
            refine wl_s (kg_no rfl H rfl rfl rfl) ?_; refine kl H rfl fun a H => ?_
            refine wl_s (kg_no rfl H rfl rfl rfl) ?_; refine kl H rfl fun a H => ?_
            refine wl_s (kg_no rfl H rfl rfl rfl) ?_; refine kl H rfl fun a H => ?_
            refine wl_s (kg_no rfl H rfl rfl rfl) ?_; refine kl H rfl fun a H => ?_
            refine wl_s (kg_no rfl H rfl rfl rfl) ?_; refine kl H rfl fun a H => ?_
            refine wl_s (kg_no rfl H rfl rfl rfl) ?_; refine kl H rfl fun a H => ?_
            refine wl_s (kg_un rfl H rfl rfl rfl) ?_; refine kl H rfl fun a H => ?_
            refine wl_s (kg_un rfl H rfl rfl rfl) ?_; refine kl H rfl fun a H => ?_
            refine wl_s (kg_un rfl H rfl rfl rfl) ?_; refine kl H rfl fun a H => ?_
            refine wl_s (kg_no rfl H rfl rfl rfl) ?_; refine kl H rfl fun a H => ?_
            refine wl_v _ (r_pick_t (H.ev rfl) evc) ?_; refine kl H rfl fun a H => ?_
            refine wl_v _ (r_assign (H.ev rfl)) ?_; refine kl H rfl fun a H => ?_
            refine wpList_nil ?_
            refine c_next ?_
            refine wp_seq ?_
            refine wp_region_lit ?_
            refine wl_v _ (r_row (cs := [.int .i64 N, .slice As1 L'.length cs1]) (H.ev rfl) (block_range k2) (by kernel_rfl) s24 rfl) ?_; refine kl H rfl fun a H => ?_
            refine wl_v _ (r_row (cs := [.int .i64 x.1, .int .i64 x.2.1, .int .i64 x.2.2.1, .int .i64 x.2.2.2.1, .int .i64 x.2.2.2.2]) (H.ev rfl) (block_range k1) (by kernel_rfl) s33 rfl) ?_; refine kl H rfl fun a H => ?_
            refine wl_call _ _ _ (take_any _ N (.slice As1 L'.length cs1) L' x rs1 (by omega) hx.1 hx.2) (r_call2 cf12 (H.ev rfl) (H.ev rfl)) ?_; rintro e w9 ⟨⟨s2, o2, rfl, ⟨rs2, fs2⟩, ⟨ro2, fo2⟩⟩, hb⟩; refine ⟨_, rfl, ?_⟩; rw [HT2.out] at rs2 ro2 ⊢; replace k0 := Block.ups k0 hb; replace k1 := Block.ups k1 hb; replace k2 := Block.ups k2 hb; replace rs1 := Row.up rs1 hb; replace hall := hall.trans (hb.mono hall.size); clear hb; clear fs2 fo2; obtain ⟨As2, cs2, hsv, s1, s2, s3, s4⟩ := rs2; have rs2 : IRow _ (.slice As2 L'.length cs2) L' := ⟨As2, cs2, rfl, s1, s2, s3, s4⟩; subst hsv; obtain ⟨Ao2, co2, hov, u1, u2, u3, u4⟩ := ro2; have ro2 : NRow _ (.slice Ao2 0 co2) ([] : List Nt) := ⟨Ao2, co2, rfl, u1, u2, u3, u4⟩; simp only [List.length_nil] at hov; subst hov; clear s1 s2 s3 s4 u1 u2 u3 u4; refine kl H rfl fun a H => ?_
            refine wl_v _ (r_move (H.ev rfl)) ?_; refine kl H rfl fun a H => ?_
            refine wl_v _ (r_extract (v := .agg #[.int .i64 N, .slice As2 L'.length cs2]) (H.ev rfl) rfl) ?_; refine kl H rfl fun a H => ?_
            refine wl_v _ (r_extract (v := .slice Ao2 0 co2) (H.ev rfl) rfl) ?_; refine kl H rfl fun a H => ?_
            refine op_new 24 13 (.tmp 84) #[.int .i64 N, .slice As2 L'.length cs2] _ z24 s24 rfl (by simp [Value.cells, Value.oneCell']) (fun p => (H.put 13 p rfl).ev rfl) (fun p => (H.put 13 p rfl).ev rfl) fun w7 b7 hge hb k7 => ?_; have g7 := Nat.le_trans hall.size hge; replace k0 := Block.ups k0 hb; replace k1 := Block.ups k1 hb; replace k2 := Block.ups k2 hb; replace rs1 := Row.up rs1 hb; replace rs2 := Row.up rs2 hb; replace ro2 := Row.up ro2 hb; replace hall := hall.trans (hb.mono hall.size); clear hb; clear hge; refine kl H rfl fun a H => ?_
            refine wl_v _ (r_assign (H.ev rfl)) ?_; refine kl H rfl fun a H => ?_
            refine wpList_nil ?_
            refine c_next ?_
            refine wp_seq ?_
            refine wp_region_lit ?_
            refine wl_v _ (r_move (H.ev rfl)) ?_; refine kl H rfl fun a H => ?_
            refine wl_v _ (r_move (H.ev rfl)) ?_; refine kl H rfl fun a H => ?_
            refine op_unguard _ _ (kg_yes rfl H rfl rfl rfl) ?_; refine wl_v _ (r_move (H.ev rfl)) ?_; refine kl H rfl fun a H => ?_
            refine op_unguard _ _ (kg_yes rfl H rfl rfl rfl) ?_; refine wl_v _ (r_fld (q := 0) fld24_0 (H.ev rfl) rfl) ?_; refine kl H rfl fun a H => ?_
            refine op_unguard _ _ (kg_yes rfl H rfl rfl rfl) ?_; refine wl_v _ (r_ld Try.underlying3 rfl (H.ev rfl) ((Block.cell k2 0).trans rfl)) ?_; refine kl H rfl fun a H => ?_
            refine op_unguard _ _ (kg_yes rfl H rfl rfl rfl) ?_; refine wl_v _ (r_sub (q := N - 1) Try.underlying3 (H.ev rfl) evc (by omega) (by omega)) ?_; refine kl H rfl fun a H => ?_
            refine op_unguard _ _ (kg_yes rfl H rfl rfl rfl) ?_; refine wl_v _ (r_eq Try.underlying3 (H.ev rfl) (H.ev rfl) (dec_t (by omega))) ?_; refine kl H rfl fun a H => ?_
            refine wl_v _ (r_pick_t (H.ev rfl) (H.ev rfl)) ?_; refine kl H rfl fun a H => ?_
            refine wl_v _ (r_move (H.ev rfl)) ?_; refine kl H rfl fun a H => ?_
            refine op_unguard _ _ (kg_yes rfl H rfl rfl rfl) ?_; refine wl_v _ (r_move (H.ev rfl)) ?_; refine kl H rfl fun a H => ?_
            by_cases hcc15 : ((sk : Nat) : Int) ≥ 0
            · skip
              refine op_unguard _ _ (kg_yes rfl H rfl rfl rfl) ?_; refine wl_v _ (r_ge Try.underlying3 (H.ev rfl) evc (dec_t (hcc15))) ?_; refine kl H rfl fun a H => ?_
              refine wl_v _ (r_pick_t (H.ev rfl) (H.ev rfl)) ?_; refine kl H rfl fun a H => ?_
              refine wl_v _ (r_move (H.ev rfl)) ?_; refine kl H rfl fun a H => ?_
              refine op_unguard _ _ (kg_yes rfl H rfl rfl rfl) ?_; refine wl_v _ (r_move (H.ev rfl)) ?_; refine kl H rfl fun a H => ?_
              by_cases hcc16 : ((sk : Nat) : Int) < 128
              · skip
                refine op_unguard _ _ (kg_yes rfl H rfl rfl rfl) ?_; refine wl_v _ (r_lt Try.underlying3 (H.ev rfl) evc (dec_t (hcc16))) ?_; refine kl H rfl fun a H => ?_
                refine wl_v _ (r_pick_t (H.ev rfl) (H.ev rfl)) ?_; refine kl H rfl fun a H => ?_
                refine wl_v _ (r_move (H.ev rfl)) ?_; refine kl H rfl fun a H => ?_
                refine op_unguard _ _ (kg_yes rfl H rfl rfl rfl) ?_; refine wl_v _ (r_move (H.ev rfl)) ?_; refine kl H rfl fun a H => ?_
                refine op_unguard _ _ (kg_yes rfl H rfl rfl rfl) ?_; refine wl_v _ (r_move (H.ev rfl)) ?_; refine kl H rfl fun a H => ?_
                refine op_unguard _ _ (kg_yes rfl H rfl rfl rfl) ?_; refine wl_v _ (r_beq Try.underlying4 (H.ev rfl) (H.ev rfl) rfl) ?_; refine kl H rfl fun a H => ?_
                refine wl_v _ (r_pick_t (H.ev rfl) (H.ev rfl)) ?_; refine kl H rfl fun a H => ?_
                refine wl_v _ (r_move (H.ev rfl)) ?_; refine kl H rfl fun a H => ?_
                refine op_unguard _ _ (kg_yes rfl H rfl rfl rfl) ?_; refine wl_v _ (r_row (cs := [.int .i64 N, .slice As2 L'.length cs2]) (H.ev rfl) (block_range k7) (by kernel_rfl) s24 rfl) ?_; refine kl H rfl fun a H => ?_
                refine op_unguard _ _ (kg_yes rfl H rfl rfl rfl) ?_; refine wl_v _ (r_row (cs := [.int .i64 N, .slice As1 L'.length cs1]) (H.ev rfl) (block_range k2) (by kernel_rfl) s24 rfl) ?_; refine kl H rfl fun a H => ?_
                refine op_unguard _ _ (kg_yes rfl H rfl rfl rfl) ?_; refine wl_call _ _ _ (same_any _ N N _ _ L' L' rs2 rs1 (by omega)) (r_call2 cf10 (H.ev rfl) (H.ev rfl)) ?_; rintro e w9 ⟨rfl, hb⟩; refine ⟨_, rfl, ?_⟩; rw [show sameB N L' N L' = true from same_refl]; replace k0 := Block.ups k0 hb; replace k1 := Block.ups k1 hb; replace k2 := Block.ups k2 hb; replace rs1 := Row.up rs1 hb; replace rs2 := Row.up rs2 hb; replace ro2 := Row.up ro2 hb; replace k7 := Block.ups k7 hb; replace hall := hall.trans (hb.mono hall.size); clear hb; refine kl H rfl fun a H => ?_
                refine wl_v _ (r_pick_t (H.ev rfl) (H.ev rfl)) ?_; refine kl H rfl fun a H => ?_
                refine wl_v _ (r_move (H.ev rfl)) ?_; refine kl H rfl fun a H => ?_
                refine op_unguard _ _ (kg_yes rfl H rfl rfl rfl) ?_; refine wl_v _ (r_move (H.ev rfl)) ?_; refine kl H rfl fun a H => ?_
                refine op_unguard _ _ (kg_yes rfl H rfl rfl rfl) ?_; refine wl_v _ (r_len Try.underlying27 (H.ev rfl)) ?_; refine kl H rfl fun a H => ?_
                refine op_unguard _ _ (kg_yes rfl H rfl rfl rfl) ?_; refine wl_v _ (r_eq Try.underlying3 (H.ev rfl) evc (dec_t (by omega))) ?_; refine kl H rfl fun a H => ?_
                refine wl_v _ (r_pick_t (H.ev rfl) (H.ev rfl)) ?_; refine kl H rfl fun a H => ?_
                refine wl_v _ (r_assign (H.ev rfl)) ?_; refine kl H rfl fun a H => ?_
                refine wpList_nil ?_
                refine c_next ?_
                refine wp_ret ?_
                exact k_ret1 H rfl rfl ⟨rfl, hall⟩
              · skip
                refine op_unguard _ _ (kg_yes rfl H rfl rfl rfl) ?_; refine wl_v _ (r_lt Try.underlying3 (H.ev rfl) evc (dec_f (hcc16))) ?_; refine kl H rfl fun a H => ?_
                refine wl_v _ (r_pick_t (H.ev rfl) (H.ev rfl)) ?_; refine kl H rfl fun a H => ?_
                refine wl_v _ (r_move (H.ev rfl)) ?_; refine kl H rfl fun a H => ?_
                refine wl_s (kg_no rfl H rfl rfl rfl) ?_; refine kl H rfl fun a H => ?_
                refine wl_s (kg_no rfl H rfl rfl rfl) ?_; refine kl H rfl fun a H => ?_
                refine wl_s (kg_no rfl H rfl rfl rfl) ?_; refine kl H rfl fun a H => ?_
                refine wl_v _ (r_pick_f (H.ev rfl) evc) ?_; refine kl H rfl fun a H => ?_
                refine wl_v _ (r_move (H.ev rfl)) ?_; refine kl H rfl fun a H => ?_
                refine wl_s (kg_no rfl H rfl rfl rfl) ?_; refine kl H rfl fun a H => ?_
                refine wl_s (kg_no rfl H rfl rfl rfl) ?_; refine kl H rfl fun a H => ?_
                refine wl_s (kg_no rfl H rfl rfl rfl) ?_; refine kl H rfl fun a H => ?_
                refine wl_v _ (r_pick_f (H.ev rfl) evc) ?_; refine kl H rfl fun a H => ?_
                refine wl_v _ (r_move (H.ev rfl)) ?_; refine kl H rfl fun a H => ?_
                refine wl_s (kg_no rfl H rfl rfl rfl) ?_; refine kl H rfl fun a H => ?_
                refine wl_s (kg_no rfl H rfl rfl rfl) ?_; refine kl H rfl fun a H => ?_
                refine wl_s (kg_no rfl H rfl rfl rfl) ?_; refine kl H rfl fun a H => ?_
                refine wl_v _ (r_pick_f (H.ev rfl) evc) ?_; refine kl H rfl fun a H => ?_
                refine wl_v _ (r_assign (H.ev rfl)) ?_; refine kl H rfl fun a H => ?_
                refine wpList_nil ?_
                refine c_next ?_
                refine wp_ret ?_
                exfalso; omega
            · skip
              refine op_unguard _ _ (kg_yes rfl H rfl rfl rfl) ?_; refine wl_v _ (r_ge Try.underlying3 (H.ev rfl) evc (dec_f (hcc15))) ?_; refine kl H rfl fun a H => ?_
              refine wl_v _ (r_pick_t (H.ev rfl) (H.ev rfl)) ?_; refine kl H rfl fun a H => ?_
              refine wl_v _ (r_move (H.ev rfl)) ?_; refine kl H rfl fun a H => ?_
              refine wl_s (kg_no rfl H rfl rfl rfl) ?_; refine kl H rfl fun a H => ?_
              refine wl_s (kg_no rfl H rfl rfl rfl) ?_; refine kl H rfl fun a H => ?_
              refine wl_v _ (r_pick_f (H.ev rfl) evc) ?_; refine kl H rfl fun a H => ?_
              refine wl_v _ (r_move (H.ev rfl)) ?_; refine kl H rfl fun a H => ?_
              refine wl_s (kg_no rfl H rfl rfl rfl) ?_; refine kl H rfl fun a H => ?_
              refine wl_s (kg_no rfl H rfl rfl rfl) ?_; refine kl H rfl fun a H => ?_
              refine wl_s (kg_no rfl H rfl rfl rfl) ?_; refine kl H rfl fun a H => ?_
              refine wl_v _ (r_pick_f (H.ev rfl) evc) ?_; refine kl H rfl fun a H => ?_
              refine wl_v _ (r_move (H.ev rfl)) ?_; refine kl H rfl fun a H => ?_
              refine wl_s (kg_no rfl H rfl rfl rfl) ?_; refine kl H rfl fun a H => ?_
              refine wl_s (kg_no rfl H rfl rfl rfl) ?_; refine kl H rfl fun a H => ?_
              refine wl_s (kg_no rfl H rfl rfl rfl) ?_; refine kl H rfl fun a H => ?_
              refine wl_v _ (r_pick_f (H.ev rfl) evc) ?_; refine kl H rfl fun a H => ?_
              refine wl_v _ (r_move (H.ev rfl)) ?_; refine kl H rfl fun a H => ?_
              refine wl_s (kg_no rfl H rfl rfl rfl) ?_; refine kl H rfl fun a H => ?_
              refine wl_s (kg_no rfl H rfl rfl rfl) ?_; refine kl H rfl fun a H => ?_
              refine wl_s (kg_no rfl H rfl rfl rfl) ?_; refine kl H rfl fun a H => ?_
              refine wl_v _ (r_pick_f (H.ev rfl) evc) ?_; refine kl H rfl fun a H => ?_
              refine wl_v _ (r_assign (H.ev rfl)) ?_; refine kl H rfl fun a H => ?_
              refine wpList_nil ?_
              refine c_next ?_
              refine wp_ret ?_
              exfalso; omega
          · skip
            refine wl_v _ (r_lt Try.underlying3 (H.ev rfl) (H.ev rfl) (dec_f (hcc14))) ?_; refine kl H rfl fun a H => ?_
            refine wl_v _ (r_move (H.ev rfl)) ?_; refine kl H rfl fun a H => ?_
            refine op_unguard _ _ (kg_yes rfl H rfl rfl rfl) ?_; refine wl_v _ (r_fld (q := 0) fld33_0 (H.ev rfl) rfl) ?_; refine kl H rfl fun a H => ?_
            refine op_unguard _ _ (kg_yes rfl H rfl rfl rfl) ?_; refine wl_v _ (r_ld Try.underlying3 rfl (H.ev rfl) ((Block.cell k1 0).trans rfl)) ?_; refine kl H rfl fun a H => ?_
            refine op_unguard _ _ (kg_yes rfl H rfl rfl rfl) ?_; refine wl_v _ (r_fld (q := 0) fld24_0 (H.ev rfl) rfl) ?_; refine kl H rfl fun a H => ?_
            refine op_unguard _ _ (kg_yes rfl H rfl rfl rfl) ?_; refine wl_v _ (r_ld Try.underlying3 rfl (H.ev rfl) ((Block.cell k0 0).trans rfl)) ?_; refine kl H rfl fun a H => ?_
            refine op_unguard _ _ (kg_yes rfl H rfl rfl rfl) ?_; refine wl_v _ (r_sub (q := x.1 - n) Try.underlying3 (H.ev rfl) (H.ev rfl) (by omega) (by omega)) ?_; refine kl H rfl fun a H => ?_
            by_cases hcc17 : (x.1 - n) < 8
            · skip
              refine op_unguard _ _ (kg_yes rfl H rfl rfl rfl) ?_; refine wl_v _ (r_lt Try.underlying3 (H.ev rfl) evc (dec_t (hcc17))) ?_; refine kl H rfl fun a H => ?_
              refine op_unguard _ _ (kg_yes rfl H rfl rfl rfl) ?_; refine wl_v _ (r_move (H.ev rfl)) ?_; refine kl H rfl fun a H => ?_
              refine op_unguard _ _ (kg_yes rfl H rfl rfl rfl) ?_; refine wl_v _ (r_fld (q := 0) fld33_0 (H.ev rfl) rfl) ?_; refine kl H rfl fun a H => ?_
              refine op_unguard _ _ (kg_yes rfl H rfl rfl rfl) ?_; refine wl_v _ (r_ld Try.underlying3 rfl (H.ev rfl) ((Block.cell k1 0).trans rfl)) ?_; refine kl H rfl fun a H => ?_
              by_cases hcc18 : x.1 < 1073741824
              · skip
                refine op_unguard _ _ (kg_yes rfl H rfl rfl rfl) ?_; refine wl_v _ (r_lt Try.underlying3 (H.ev rfl) evc (dec_t (hcc18))) ?_; refine kl H rfl fun a H => ?_
                refine op_unguard _ _ (kg_yes rfl H rfl rfl rfl) ?_; refine wl_v _ (r_pick_t (H.ev rfl) (H.ev rfl)) ?_; refine kl H rfl fun a H => ?_
                refine wl_v _ (r_pick_f (H.ev rfl) (H.ev rfl)) ?_; refine kl H rfl fun a H => ?_
                refine wl_v _ (r_assign (H.ev rfl)) ?_; refine kl H rfl fun a H => ?_
                refine wpList_nil ?_
                refine c_next ?_
                refine wp_seq ?_
                refine wp_region_lit ?_
                refine wl_v _ (r_row (cs := [.int .i64 N, .slice As1 L'.length cs1]) (H.ev rfl) (block_range k2) (by kernel_rfl) s24 rfl) ?_; refine kl H rfl fun a H => ?_
                refine wl_v _ (r_row (cs := [.int .i64 x.1, .int .i64 x.2.1, .int .i64 x.2.2.1, .int .i64 x.2.2.2.1, .int .i64 x.2.2.2.2]) (H.ev rfl) (block_range k1) (by kernel_rfl) s33 rfl) ?_; refine kl H rfl fun a H => ?_
                refine wl_call _ _ _ (take_any _ N (.slice As1 L'.length cs1) L' x rs1 (by omega) hx.1 hx.2) (r_call2 cf12 (H.ev rfl) (H.ev rfl)) ?_; rintro e w9 ⟨⟨s2, o2, rfl, ⟨rs2, fs2⟩, ⟨ro2, fo2⟩⟩, hb⟩; refine ⟨_, rfl, ?_⟩; rw [HT2.out] at rs2 ro2 ⊢; replace k0 := Block.ups k0 hb; replace k1 := Block.ups k1 hb; replace k2 := Block.ups k2 hb; replace rs1 := Row.up rs1 hb; replace hall := hall.trans (hb.mono hall.size); clear hb; clear fs2 fo2; obtain ⟨As2, cs2, hsv, s1, s2, s3, s4⟩ := rs2; have rs2 : IRow _ (.slice As2 L'.length cs2) L' := ⟨As2, cs2, rfl, s1, s2, s3, s4⟩; subst hsv; obtain ⟨Ao2, co2, hov, u1, u2, u3, u4⟩ := ro2; have ro2 : NRow _ (.slice Ao2 0 co2) ([] : List Nt) := ⟨Ao2, co2, rfl, u1, u2, u3, u4⟩; simp only [List.length_nil] at hov; subst hov; clear s1 s2 s3 s4 u1 u2 u3 u4; refine kl H rfl fun a H => ?_
                refine wl_v _ (r_move (H.ev rfl)) ?_; refine kl H rfl fun a H => ?_
                refine wl_v _ (r_extract (v := .agg #[.int .i64 N, .slice As2 L'.length cs2]) (H.ev rfl) rfl) ?_; refine kl H rfl fun a H => ?_
                refine wl_v _ (r_extract (v := .slice Ao2 0 co2) (H.ev rfl) rfl) ?_; refine kl H rfl fun a H => ?_
                refine op_new 24 13 (.tmp 84) #[.int .i64 N, .slice As2 L'.length cs2] _ z24 s24 rfl (by simp [Value.cells, Value.oneCell']) (fun p => (H.put 13 p rfl).ev rfl) (fun p => (H.put 13 p rfl).ev rfl) fun w8 b8 hge hb k8 => ?_; have g8 := Nat.le_trans hall.size hge; replace k0 := Block.ups k0 hb; replace k1 := Block.ups k1 hb; replace k2 := Block.ups k2 hb; replace rs1 := Row.up rs1 hb; replace rs2 := Row.up rs2 hb; replace ro2 := Row.up ro2 hb; replace hall := hall.trans (hb.mono hall.size); clear hb; clear hge; refine kl H rfl fun a H => ?_
                refine wl_v _ (r_assign (H.ev rfl)) ?_; refine kl H rfl fun a H => ?_
                refine wpList_nil ?_
                refine c_next ?_
                refine wp_seq ?_
                refine wp_region_lit ?_
                refine wl_v _ (r_move (H.ev rfl)) ?_; refine kl H rfl fun a H => ?_
                refine wl_v _ (r_move (H.ev rfl)) ?_; refine kl H rfl fun a H => ?_
                refine op_unguard _ _ (kg_yes rfl H rfl rfl rfl) ?_; refine wl_v _ (r_move (H.ev rfl)) ?_; refine kl H rfl fun a H => ?_
                refine op_unguard _ _ (kg_yes rfl H rfl rfl rfl) ?_; refine wl_v _ (r_fld (q := 0) fld24_0 (H.ev rfl) rfl) ?_; refine kl H rfl fun a H => ?_
                refine op_unguard _ _ (kg_yes rfl H rfl rfl rfl) ?_; refine wl_v _ (r_ld Try.underlying3 rfl (H.ev rfl) ((Block.cell k2 0).trans rfl)) ?_; refine kl H rfl fun a H => ?_
                refine op_unguard _ _ (kg_yes rfl H rfl rfl rfl) ?_; refine wl_v _ (r_sub (q := N - 1) Try.underlying3 (H.ev rfl) evc (by omega) (by omega)) ?_; refine kl H rfl fun a H => ?_
                refine op_unguard _ _ (kg_yes rfl H rfl rfl rfl) ?_; refine wl_v _ (r_eq Try.underlying3 (H.ev rfl) (H.ev rfl) (dec_t (by omega))) ?_; refine kl H rfl fun a H => ?_
                refine wl_v _ (r_pick_t (H.ev rfl) (H.ev rfl)) ?_; refine kl H rfl fun a H => ?_
                refine wl_v _ (r_move (H.ev rfl)) ?_; refine kl H rfl fun a H => ?_
                refine op_unguard _ _ (kg_yes rfl H rfl rfl rfl) ?_; refine wl_v _ (r_move (H.ev rfl)) ?_; refine kl H rfl fun a H => ?_
                by_cases hcc19 : ((sk : Nat) : Int) ≥ 0
                · skip
                  refine op_unguard _ _ (kg_yes rfl H rfl rfl rfl) ?_; refine wl_v _ (r_ge Try.underlying3 (H.ev rfl) evc (dec_t (hcc19))) ?_; refine kl H rfl fun a H => ?_
                  refine wl_v _ (r_pick_t (H.ev rfl) (H.ev rfl)) ?_; refine kl H rfl fun a H => ?_
                  refine wl_v _ (r_move (H.ev rfl)) ?_; refine kl H rfl fun a H => ?_
                  refine op_unguard _ _ (kg_yes rfl H rfl rfl rfl) ?_; refine wl_v _ (r_move (H.ev rfl)) ?_; refine kl H rfl fun a H => ?_
                  by_cases hcc20 : ((sk : Nat) : Int) < 128
                  · skip
                    refine op_unguard _ _ (kg_yes rfl H rfl rfl rfl) ?_; refine wl_v _ (r_lt Try.underlying3 (H.ev rfl) evc (dec_t (hcc20))) ?_; refine kl H rfl fun a H => ?_
                    refine wl_v _ (r_pick_t (H.ev rfl) (H.ev rfl)) ?_; refine kl H rfl fun a H => ?_
                    refine wl_v _ (r_move (H.ev rfl)) ?_; refine kl H rfl fun a H => ?_
                    refine op_unguard _ _ (kg_yes rfl H rfl rfl rfl) ?_; refine wl_v _ (r_move (H.ev rfl)) ?_; refine kl H rfl fun a H => ?_
                    refine op_unguard _ _ (kg_yes rfl H rfl rfl rfl) ?_; refine wl_v _ (r_move (H.ev rfl)) ?_; refine kl H rfl fun a H => ?_
                    refine op_unguard _ _ (kg_yes rfl H rfl rfl rfl) ?_; refine wl_v _ (r_beq Try.underlying4 (H.ev rfl) (H.ev rfl) rfl) ?_; refine kl H rfl fun a H => ?_
                    refine wl_v _ (r_pick_t (H.ev rfl) (H.ev rfl)) ?_; refine kl H rfl fun a H => ?_
                    refine wl_v _ (r_move (H.ev rfl)) ?_; refine kl H rfl fun a H => ?_
                    refine op_unguard _ _ (kg_yes rfl H rfl rfl rfl) ?_; refine wl_v _ (r_row (cs := [.int .i64 N, .slice As2 L'.length cs2]) (H.ev rfl) (block_range k8) (by kernel_rfl) s24 rfl) ?_; refine kl H rfl fun a H => ?_
                    refine op_unguard _ _ (kg_yes rfl H rfl rfl rfl) ?_; refine wl_v _ (r_row (cs := [.int .i64 N, .slice As1 L'.length cs1]) (H.ev rfl) (block_range k2) (by kernel_rfl) s24 rfl) ?_; refine kl H rfl fun a H => ?_
                    refine op_unguard _ _ (kg_yes rfl H rfl rfl rfl) ?_; refine wl_call _ _ _ (same_any _ N N _ _ L' L' rs2 rs1 (by omega)) (r_call2 cf10 (H.ev rfl) (H.ev rfl)) ?_; rintro e w9 ⟨rfl, hb⟩; refine ⟨_, rfl, ?_⟩; rw [show sameB N L' N L' = true from same_refl]; replace k0 := Block.ups k0 hb; replace k1 := Block.ups k1 hb; replace k2 := Block.ups k2 hb; replace rs1 := Row.up rs1 hb; replace rs2 := Row.up rs2 hb; replace ro2 := Row.up ro2 hb; replace k8 := Block.ups k8 hb; replace hall := hall.trans (hb.mono hall.size); clear hb; refine kl H rfl fun a H => ?_
                    refine wl_v _ (r_pick_t (H.ev rfl) (H.ev rfl)) ?_; refine kl H rfl fun a H => ?_
                    refine wl_v _ (r_move (H.ev rfl)) ?_; refine kl H rfl fun a H => ?_
                    refine op_unguard _ _ (kg_yes rfl H rfl rfl rfl) ?_; refine wl_v _ (r_move (H.ev rfl)) ?_; refine kl H rfl fun a H => ?_
                    refine op_unguard _ _ (kg_yes rfl H rfl rfl rfl) ?_; refine wl_v _ (r_len Try.underlying27 (H.ev rfl)) ?_; refine kl H rfl fun a H => ?_
                    refine op_unguard _ _ (kg_yes rfl H rfl rfl rfl) ?_; refine wl_v _ (r_eq Try.underlying3 (H.ev rfl) evc (dec_t (by omega))) ?_; refine kl H rfl fun a H => ?_
                    refine wl_v _ (r_pick_t (H.ev rfl) (H.ev rfl)) ?_; refine kl H rfl fun a H => ?_
                    refine wl_v _ (r_assign (H.ev rfl)) ?_; refine kl H rfl fun a H => ?_
                    refine wpList_nil ?_
                    refine c_next ?_
                    refine wp_ret ?_
                    exact k_ret1 H rfl rfl ⟨rfl, hall⟩
                  · skip
                    refine op_unguard _ _ (kg_yes rfl H rfl rfl rfl) ?_; refine wl_v _ (r_lt Try.underlying3 (H.ev rfl) evc (dec_f (hcc20))) ?_; refine kl H rfl fun a H => ?_
                    refine wl_v _ (r_pick_t (H.ev rfl) (H.ev rfl)) ?_; refine kl H rfl fun a H => ?_
                    refine wl_v _ (r_move (H.ev rfl)) ?_; refine kl H rfl fun a H => ?_
                    refine wl_s (kg_no rfl H rfl rfl rfl) ?_; refine kl H rfl fun a H => ?_
                    refine wl_s (kg_no rfl H rfl rfl rfl) ?_; refine kl H rfl fun a H => ?_
                    refine wl_s (kg_no rfl H rfl rfl rfl) ?_; refine kl H rfl fun a H => ?_
                    refine wl_v _ (r_pick_f (H.ev rfl) evc) ?_; refine kl H rfl fun a H => ?_
                    refine wl_v _ (r_move (H.ev rfl)) ?_; refine kl H rfl fun a H => ?_
                    refine wl_s (kg_no rfl H rfl rfl rfl) ?_; refine kl H rfl fun a H => ?_
                    refine wl_s (kg_no rfl H rfl rfl rfl) ?_; refine kl H rfl fun a H => ?_
                    refine wl_s (kg_no rfl H rfl rfl rfl) ?_; refine kl H rfl fun a H => ?_
                    refine wl_v _ (r_pick_f (H.ev rfl) evc) ?_; refine kl H rfl fun a H => ?_
                    refine wl_v _ (r_move (H.ev rfl)) ?_; refine kl H rfl fun a H => ?_
                    refine wl_s (kg_no rfl H rfl rfl rfl) ?_; refine kl H rfl fun a H => ?_
                    refine wl_s (kg_no rfl H rfl rfl rfl) ?_; refine kl H rfl fun a H => ?_
                    refine wl_s (kg_no rfl H rfl rfl rfl) ?_; refine kl H rfl fun a H => ?_
                    refine wl_v _ (r_pick_f (H.ev rfl) evc) ?_; refine kl H rfl fun a H => ?_
                    refine wl_v _ (r_assign (H.ev rfl)) ?_; refine kl H rfl fun a H => ?_
                    refine wpList_nil ?_
                    refine c_next ?_
                    refine wp_ret ?_
                    exfalso; omega
                · skip
                  refine op_unguard _ _ (kg_yes rfl H rfl rfl rfl) ?_; refine wl_v _ (r_ge Try.underlying3 (H.ev rfl) evc (dec_f (hcc19))) ?_; refine kl H rfl fun a H => ?_
                  refine wl_v _ (r_pick_t (H.ev rfl) (H.ev rfl)) ?_; refine kl H rfl fun a H => ?_
                  refine wl_v _ (r_move (H.ev rfl)) ?_; refine kl H rfl fun a H => ?_
                  refine wl_s (kg_no rfl H rfl rfl rfl) ?_; refine kl H rfl fun a H => ?_
                  refine wl_s (kg_no rfl H rfl rfl rfl) ?_; refine kl H rfl fun a H => ?_
                  refine wl_v _ (r_pick_f (H.ev rfl) evc) ?_; refine kl H rfl fun a H => ?_
                  refine wl_v _ (r_move (H.ev rfl)) ?_; refine kl H rfl fun a H => ?_
                  refine wl_s (kg_no rfl H rfl rfl rfl) ?_; refine kl H rfl fun a H => ?_
                  refine wl_s (kg_no rfl H rfl rfl rfl) ?_; refine kl H rfl fun a H => ?_
                  refine wl_s (kg_no rfl H rfl rfl rfl) ?_; refine kl H rfl fun a H => ?_
                  refine wl_v _ (r_pick_f (H.ev rfl) evc) ?_; refine kl H rfl fun a H => ?_
                  refine wl_v _ (r_move (H.ev rfl)) ?_; refine kl H rfl fun a H => ?_
                  refine wl_s (kg_no rfl H rfl rfl rfl) ?_; refine kl H rfl fun a H => ?_
                  refine wl_s (kg_no rfl H rfl rfl rfl) ?_; refine kl H rfl fun a H => ?_
                  refine wl_s (kg_no rfl H rfl rfl rfl) ?_; refine kl H rfl fun a H => ?_
                  refine wl_v _ (r_pick_f (H.ev rfl) evc) ?_; refine kl H rfl fun a H => ?_
                  refine wl_v _ (r_move (H.ev rfl)) ?_; refine kl H rfl fun a H => ?_
                  refine wl_s (kg_no rfl H rfl rfl rfl) ?_; refine kl H rfl fun a H => ?_
                  refine wl_s (kg_no rfl H rfl rfl rfl) ?_; refine kl H rfl fun a H => ?_
                  refine wl_s (kg_no rfl H rfl rfl rfl) ?_; refine kl H rfl fun a H => ?_
                  refine wl_v _ (r_pick_f (H.ev rfl) evc) ?_; refine kl H rfl fun a H => ?_
                  refine wl_v _ (r_assign (H.ev rfl)) ?_; refine kl H rfl fun a H => ?_
                  refine wpList_nil ?_
                  refine c_next ?_
                  refine wp_ret ?_
                  exfalso; omega
              · skip
                refine op_unguard _ _ (kg_yes rfl H rfl rfl rfl) ?_; refine wl_v _ (r_lt Try.underlying3 (H.ev rfl) evc (dec_f (hcc18))) ?_; refine kl H rfl fun a H => ?_
                refine op_unguard _ _ (kg_yes rfl H rfl rfl rfl) ?_; refine wl_v _ (r_pick_t (H.ev rfl) (H.ev rfl)) ?_; refine kl H rfl fun a H => ?_
                refine wl_v _ (r_pick_f (H.ev rfl) (H.ev rfl)) ?_; refine kl H rfl fun a H => ?_
                refine wl_v _ (r_assign (H.ev rfl)) ?_; refine kl H rfl fun a H => ?_
                refine wpList_nil ?_
                refine c_next ?_
                refine wp_seq ?_
                refine wp_region_lit ?_
                refine wl_v _ (r_row (cs := [.int .i64 N, .slice As1 L'.length cs1]) (H.ev rfl) (block_range k2) (by kernel_rfl) s24 rfl) ?_; refine kl H rfl fun a H => ?_
                refine wl_v _ (r_row (cs := [.int .i64 x.1, .int .i64 x.2.1, .int .i64 x.2.2.1, .int .i64 x.2.2.2.1, .int .i64 x.2.2.2.2]) (H.ev rfl) (block_range k1) (by kernel_rfl) s33 rfl) ?_; refine kl H rfl fun a H => ?_
                refine wl_call _ _ _ (take_any _ N (.slice As1 L'.length cs1) L' x rs1 (by omega) hx.1 hx.2) (r_call2 cf12 (H.ev rfl) (H.ev rfl)) ?_; rintro e w9 ⟨⟨s2, o2, rfl, ⟨rs2, fs2⟩, ⟨ro2, fo2⟩⟩, hb⟩; refine ⟨_, rfl, ?_⟩; rw [HT2.out] at rs2 ro2 ⊢; replace k0 := Block.ups k0 hb; replace k1 := Block.ups k1 hb; replace k2 := Block.ups k2 hb; replace rs1 := Row.up rs1 hb; replace hall := hall.trans (hb.mono hall.size); clear hb; clear fs2 fo2; obtain ⟨As2, cs2, hsv, s1, s2, s3, s4⟩ := rs2; have rs2 : IRow _ (.slice As2 L'.length cs2) L' := ⟨As2, cs2, rfl, s1, s2, s3, s4⟩; subst hsv; obtain ⟨Ao2, co2, hov, u1, u2, u3, u4⟩ := ro2; have ro2 : NRow _ (.slice Ao2 0 co2) ([] : List Nt) := ⟨Ao2, co2, rfl, u1, u2, u3, u4⟩; simp only [List.length_nil] at hov; subst hov; clear s1 s2 s3 s4 u1 u2 u3 u4; refine kl H rfl fun a H => ?_
                refine wl_v _ (r_move (H.ev rfl)) ?_; refine kl H rfl fun a H => ?_
                refine wl_v _ (r_extract (v := .agg #[.int .i64 N, .slice As2 L'.length cs2]) (H.ev rfl) rfl) ?_; refine kl H rfl fun a H => ?_
                refine wl_v _ (r_extract (v := .slice Ao2 0 co2) (H.ev rfl) rfl) ?_; refine kl H rfl fun a H => ?_
                refine op_new 24 13 (.tmp 84) #[.int .i64 N, .slice As2 L'.length cs2] _ z24 s24 rfl (by simp [Value.cells, Value.oneCell']) (fun p => (H.put 13 p rfl).ev rfl) (fun p => (H.put 13 p rfl).ev rfl) fun w9 b9 hge hb k9 => ?_; have g9 := Nat.le_trans hall.size hge; replace k0 := Block.ups k0 hb; replace k1 := Block.ups k1 hb; replace k2 := Block.ups k2 hb; replace rs1 := Row.up rs1 hb; replace rs2 := Row.up rs2 hb; replace ro2 := Row.up ro2 hb; replace hall := hall.trans (hb.mono hall.size); clear hb; clear hge; refine kl H rfl fun a H => ?_
                refine wl_v _ (r_assign (H.ev rfl)) ?_; refine kl H rfl fun a H => ?_
                refine wpList_nil ?_
                refine c_next ?_
                refine wp_seq ?_
                refine wp_region_lit ?_
                refine wl_v _ (r_move (H.ev rfl)) ?_; refine kl H rfl fun a H => ?_
                refine wl_v _ (r_move (H.ev rfl)) ?_; refine kl H rfl fun a H => ?_
                refine op_unguard _ _ (kg_yes rfl H rfl rfl rfl) ?_; refine wl_v _ (r_move (H.ev rfl)) ?_; refine kl H rfl fun a H => ?_
                refine op_unguard _ _ (kg_yes rfl H rfl rfl rfl) ?_; refine wl_v _ (r_fld (q := 0) fld24_0 (H.ev rfl) rfl) ?_; refine kl H rfl fun a H => ?_
                refine op_unguard _ _ (kg_yes rfl H rfl rfl rfl) ?_; refine wl_v _ (r_ld Try.underlying3 rfl (H.ev rfl) ((Block.cell k2 0).trans rfl)) ?_; refine kl H rfl fun a H => ?_
                refine op_unguard _ _ (kg_yes rfl H rfl rfl rfl) ?_; refine wl_v _ (r_sub (q := N - 1) Try.underlying3 (H.ev rfl) evc (by omega) (by omega)) ?_; refine kl H rfl fun a H => ?_
                refine op_unguard _ _ (kg_yes rfl H rfl rfl rfl) ?_; refine wl_v _ (r_eq Try.underlying3 (H.ev rfl) (H.ev rfl) (dec_t (by omega))) ?_; refine kl H rfl fun a H => ?_
                refine wl_v _ (r_pick_t (H.ev rfl) (H.ev rfl)) ?_; refine kl H rfl fun a H => ?_
                refine wl_v _ (r_move (H.ev rfl)) ?_; refine kl H rfl fun a H => ?_
                refine op_unguard _ _ (kg_yes rfl H rfl rfl rfl) ?_; refine wl_v _ (r_move (H.ev rfl)) ?_; refine kl H rfl fun a H => ?_
                by_cases hcc21 : ((sk : Nat) : Int) ≥ 0
                · skip
                  refine op_unguard _ _ (kg_yes rfl H rfl rfl rfl) ?_; refine wl_v _ (r_ge Try.underlying3 (H.ev rfl) evc (dec_t (hcc21))) ?_; refine kl H rfl fun a H => ?_
                  refine wl_v _ (r_pick_t (H.ev rfl) (H.ev rfl)) ?_; refine kl H rfl fun a H => ?_
                  refine wl_v _ (r_move (H.ev rfl)) ?_; refine kl H rfl fun a H => ?_
                  refine op_unguard _ _ (kg_yes rfl H rfl rfl rfl) ?_; refine wl_v _ (r_move (H.ev rfl)) ?_; refine kl H rfl fun a H => ?_
                  by_cases hcc22 : ((sk : Nat) : Int) < 128
                  · skip
                    refine op_unguard _ _ (kg_yes rfl H rfl rfl rfl) ?_; refine wl_v _ (r_lt Try.underlying3 (H.ev rfl) evc (dec_t (hcc22))) ?_; refine kl H rfl fun a H => ?_
                    refine wl_v _ (r_pick_t (H.ev rfl) (H.ev rfl)) ?_; refine kl H rfl fun a H => ?_
                    refine wl_v _ (r_move (H.ev rfl)) ?_; refine kl H rfl fun a H => ?_
                    refine op_unguard _ _ (kg_yes rfl H rfl rfl rfl) ?_; refine wl_v _ (r_move (H.ev rfl)) ?_; refine kl H rfl fun a H => ?_
                    refine op_unguard _ _ (kg_yes rfl H rfl rfl rfl) ?_; refine wl_v _ (r_move (H.ev rfl)) ?_; refine kl H rfl fun a H => ?_
                    refine op_unguard _ _ (kg_yes rfl H rfl rfl rfl) ?_; refine wl_v _ (r_beq Try.underlying4 (H.ev rfl) (H.ev rfl) rfl) ?_; refine kl H rfl fun a H => ?_
                    refine wl_v _ (r_pick_t (H.ev rfl) (H.ev rfl)) ?_; refine kl H rfl fun a H => ?_
                    refine wl_v _ (r_move (H.ev rfl)) ?_; refine kl H rfl fun a H => ?_
                    refine wl_s (kg_no rfl H rfl rfl rfl) ?_; refine kl H rfl fun a H => ?_
                    refine wl_s (kg_no rfl H rfl rfl rfl) ?_; refine kl H rfl fun a H => ?_
                    refine wl_s (kg_no rfl H rfl rfl rfl) ?_; refine kl H rfl fun a H => ?_
                    refine wl_v _ (r_pick_f (H.ev rfl) evc) ?_; refine kl H rfl fun a H => ?_
                    refine wl_v _ (r_move (H.ev rfl)) ?_; refine kl H rfl fun a H => ?_
                    refine wl_s (kg_no rfl H rfl rfl rfl) ?_; refine kl H rfl fun a H => ?_
                    refine wl_s (kg_no rfl H rfl rfl rfl) ?_; refine kl H rfl fun a H => ?_
                    refine wl_s (kg_no rfl H rfl rfl rfl) ?_; refine kl H rfl fun a H => ?_
                    refine wl_v _ (r_pick_f (H.ev rfl) evc) ?_; refine kl H rfl fun a H => ?_
                    refine wl_v _ (r_assign (H.ev rfl)) ?_; refine kl H rfl fun a H => ?_
                    refine wpList_nil ?_
                    refine c_next ?_
                    refine wp_ret ?_
                    exfalso; omega
                  · skip
                    refine op_unguard _ _ (kg_yes rfl H rfl rfl rfl) ?_; refine wl_v _ (r_lt Try.underlying3 (H.ev rfl) evc (dec_f (hcc22))) ?_; refine kl H rfl fun a H => ?_
                    refine wl_v _ (r_pick_t (H.ev rfl) (H.ev rfl)) ?_; refine kl H rfl fun a H => ?_
                    refine wl_v _ (r_move (H.ev rfl)) ?_; refine kl H rfl fun a H => ?_
                    refine wl_s (kg_no rfl H rfl rfl rfl) ?_; refine kl H rfl fun a H => ?_
                    refine wl_s (kg_no rfl H rfl rfl rfl) ?_; refine kl H rfl fun a H => ?_
                    refine wl_s (kg_no rfl H rfl rfl rfl) ?_; refine kl H rfl fun a H => ?_
                    refine wl_v _ (r_pick_f (H.ev rfl) evc) ?_; refine kl H rfl fun a H => ?_
                    refine wl_v _ (r_move (H.ev rfl)) ?_; refine kl H rfl fun a H => ?_
                    refine wl_s (kg_no rfl H rfl rfl rfl) ?_; refine kl H rfl fun a H => ?_
                    refine wl_s (kg_no rfl H rfl rfl rfl) ?_; refine kl H rfl fun a H => ?_
                    refine wl_s (kg_no rfl H rfl rfl rfl) ?_; refine kl H rfl fun a H => ?_
                    refine wl_v _ (r_pick_f (H.ev rfl) evc) ?_; refine kl H rfl fun a H => ?_
                    refine wl_v _ (r_move (H.ev rfl)) ?_; refine kl H rfl fun a H => ?_
                    refine wl_s (kg_no rfl H rfl rfl rfl) ?_; refine kl H rfl fun a H => ?_
                    refine wl_s (kg_no rfl H rfl rfl rfl) ?_; refine kl H rfl fun a H => ?_
                    refine wl_s (kg_no rfl H rfl rfl rfl) ?_; refine kl H rfl fun a H => ?_
                    refine wl_v _ (r_pick_f (H.ev rfl) evc) ?_; refine kl H rfl fun a H => ?_
                    refine wl_v _ (r_assign (H.ev rfl)) ?_; refine kl H rfl fun a H => ?_
                    refine wpList_nil ?_
                    refine c_next ?_
                    refine wp_ret ?_
                    exfalso; omega
                · skip
                  refine op_unguard _ _ (kg_yes rfl H rfl rfl rfl) ?_; refine wl_v _ (r_ge Try.underlying3 (H.ev rfl) evc (dec_f (hcc21))) ?_; refine kl H rfl fun a H => ?_
                  refine wl_v _ (r_pick_t (H.ev rfl) (H.ev rfl)) ?_; refine kl H rfl fun a H => ?_
                  refine wl_v _ (r_move (H.ev rfl)) ?_; refine kl H rfl fun a H => ?_
                  refine wl_s (kg_no rfl H rfl rfl rfl) ?_; refine kl H rfl fun a H => ?_
                  refine wl_s (kg_no rfl H rfl rfl rfl) ?_; refine kl H rfl fun a H => ?_
                  refine wl_v _ (r_pick_f (H.ev rfl) evc) ?_; refine kl H rfl fun a H => ?_
                  refine wl_v _ (r_move (H.ev rfl)) ?_; refine kl H rfl fun a H => ?_
                  refine wl_s (kg_no rfl H rfl rfl rfl) ?_; refine kl H rfl fun a H => ?_
                  refine wl_s (kg_no rfl H rfl rfl rfl) ?_; refine kl H rfl fun a H => ?_
                  refine wl_s (kg_no rfl H rfl rfl rfl) ?_; refine kl H rfl fun a H => ?_
                  refine wl_v _ (r_pick_f (H.ev rfl) evc) ?_; refine kl H rfl fun a H => ?_
                  refine wl_v _ (r_move (H.ev rfl)) ?_; refine kl H rfl fun a H => ?_
                  refine wl_s (kg_no rfl H rfl rfl rfl) ?_; refine kl H rfl fun a H => ?_
                  refine wl_s (kg_no rfl H rfl rfl rfl) ?_; refine kl H rfl fun a H => ?_
                  refine wl_s (kg_no rfl H rfl rfl rfl) ?_; refine kl H rfl fun a H => ?_
                  refine wl_v _ (r_pick_f (H.ev rfl) evc) ?_; refine kl H rfl fun a H => ?_
                  refine wl_v _ (r_move (H.ev rfl)) ?_; refine kl H rfl fun a H => ?_
                  refine wl_s (kg_no rfl H rfl rfl rfl) ?_; refine kl H rfl fun a H => ?_
                  refine wl_s (kg_no rfl H rfl rfl rfl) ?_; refine kl H rfl fun a H => ?_
                  refine wl_s (kg_no rfl H rfl rfl rfl) ?_; refine kl H rfl fun a H => ?_
                  refine wl_v _ (r_pick_f (H.ev rfl) evc) ?_; refine kl H rfl fun a H => ?_
                  refine wl_v _ (r_assign (H.ev rfl)) ?_; refine kl H rfl fun a H => ?_
                  refine wpList_nil ?_
                  refine c_next ?_
                  refine wp_ret ?_
                  exfalso; omega
            · skip
              refine op_unguard _ _ (kg_yes rfl H rfl rfl rfl) ?_; refine wl_v _ (r_lt Try.underlying3 (H.ev rfl) evc (dec_f (hcc17))) ?_; refine kl H rfl fun a H => ?_
              refine op_unguard _ _ (kg_yes rfl H rfl rfl rfl) ?_; refine wl_v _ (r_move (H.ev rfl)) ?_; refine kl H rfl fun a H => ?_
              refine wl_s (kg_no rfl H rfl rfl rfl) ?_; refine kl H rfl fun a H => ?_
              refine wl_s (kg_no rfl H rfl rfl rfl) ?_; refine kl H rfl fun a H => ?_
              refine wl_s (kg_no rfl H rfl rfl rfl) ?_; refine kl H rfl fun a H => ?_
              refine op_unguard _ _ (kg_yes rfl H rfl rfl rfl) ?_; refine wl_v _ (r_pick_f (H.ev rfl) evc) ?_; refine kl H rfl fun a H => ?_
              refine wl_v _ (r_pick_f (H.ev rfl) (H.ev rfl)) ?_; refine kl H rfl fun a H => ?_
              refine wl_v _ (r_assign (H.ev rfl)) ?_; refine kl H rfl fun a H => ?_
              refine wpList_nil ?_
              refine c_next ?_
              refine wp_seq ?_
              refine wp_region_lit ?_
              refine wl_v _ (r_row (cs := [.int .i64 N, .slice As1 L'.length cs1]) (H.ev rfl) (block_range k2) (by kernel_rfl) s24 rfl) ?_; refine kl H rfl fun a H => ?_
              refine wl_v _ (r_row (cs := [.int .i64 x.1, .int .i64 x.2.1, .int .i64 x.2.2.1, .int .i64 x.2.2.2.1, .int .i64 x.2.2.2.2]) (H.ev rfl) (block_range k1) (by kernel_rfl) s33 rfl) ?_; refine kl H rfl fun a H => ?_
              refine wl_call _ _ _ (take_any _ N (.slice As1 L'.length cs1) L' x rs1 (by omega) hx.1 hx.2) (r_call2 cf12 (H.ev rfl) (H.ev rfl)) ?_; rintro e w9 ⟨⟨s2, o2, rfl, ⟨rs2, fs2⟩, ⟨ro2, fo2⟩⟩, hb⟩; refine ⟨_, rfl, ?_⟩; rw [HT2.out] at rs2 ro2 ⊢; replace k0 := Block.ups k0 hb; replace k1 := Block.ups k1 hb; replace k2 := Block.ups k2 hb; replace rs1 := Row.up rs1 hb; replace hall := hall.trans (hb.mono hall.size); clear hb; clear fs2 fo2; obtain ⟨As2, cs2, hsv, s1, s2, s3, s4⟩ := rs2; have rs2 : IRow _ (.slice As2 L'.length cs2) L' := ⟨As2, cs2, rfl, s1, s2, s3, s4⟩; subst hsv; obtain ⟨Ao2, co2, hov, u1, u2, u3, u4⟩ := ro2; have ro2 : NRow _ (.slice Ao2 0 co2) ([] : List Nt) := ⟨Ao2, co2, rfl, u1, u2, u3, u4⟩; simp only [List.length_nil] at hov; subst hov; clear s1 s2 s3 s4 u1 u2 u3 u4; refine kl H rfl fun a H => ?_
              refine wl_v _ (r_move (H.ev rfl)) ?_; refine kl H rfl fun a H => ?_
              refine wl_v _ (r_extract (v := .agg #[.int .i64 N, .slice As2 L'.length cs2]) (H.ev rfl) rfl) ?_; refine kl H rfl fun a H => ?_
              refine wl_v _ (r_extract (v := .slice Ao2 0 co2) (H.ev rfl) rfl) ?_; refine kl H rfl fun a H => ?_
              refine op_new 24 13 (.tmp 84) #[.int .i64 N, .slice As2 L'.length cs2] _ z24 s24 rfl (by simp [Value.cells, Value.oneCell']) (fun p => (H.put 13 p rfl).ev rfl) (fun p => (H.put 13 p rfl).ev rfl) fun w10 b10 hge hb k10 => ?_; have g10 := Nat.le_trans hall.size hge; replace k0 := Block.ups k0 hb; replace k1 := Block.ups k1 hb; replace k2 := Block.ups k2 hb; replace rs1 := Row.up rs1 hb; replace rs2 := Row.up rs2 hb; replace ro2 := Row.up ro2 hb; replace hall := hall.trans (hb.mono hall.size); clear hb; clear hge; refine kl H rfl fun a H => ?_
              refine wl_v _ (r_assign (H.ev rfl)) ?_; refine kl H rfl fun a H => ?_
              refine wpList_nil ?_
              refine c_next ?_
              refine wp_seq ?_
              refine wp_region_lit ?_
              refine wl_v _ (r_move (H.ev rfl)) ?_; refine kl H rfl fun a H => ?_
              refine wl_v _ (r_move (H.ev rfl)) ?_; refine kl H rfl fun a H => ?_
              refine op_unguard _ _ (kg_yes rfl H rfl rfl rfl) ?_; refine wl_v _ (r_move (H.ev rfl)) ?_; refine kl H rfl fun a H => ?_
              refine op_unguard _ _ (kg_yes rfl H rfl rfl rfl) ?_; refine wl_v _ (r_fld (q := 0) fld24_0 (H.ev rfl) rfl) ?_; refine kl H rfl fun a H => ?_
              refine op_unguard _ _ (kg_yes rfl H rfl rfl rfl) ?_; refine wl_v _ (r_ld Try.underlying3 rfl (H.ev rfl) ((Block.cell k2 0).trans rfl)) ?_; refine kl H rfl fun a H => ?_
              refine op_unguard _ _ (kg_yes rfl H rfl rfl rfl) ?_; refine wl_v _ (r_sub (q := N - 1) Try.underlying3 (H.ev rfl) evc (by omega) (by omega)) ?_; refine kl H rfl fun a H => ?_
              refine op_unguard _ _ (kg_yes rfl H rfl rfl rfl) ?_; refine wl_v _ (r_eq Try.underlying3 (H.ev rfl) (H.ev rfl) (dec_t (by omega))) ?_; refine kl H rfl fun a H => ?_
              refine wl_v _ (r_pick_t (H.ev rfl) (H.ev rfl)) ?_; refine kl H rfl fun a H => ?_
              refine wl_v _ (r_move (H.ev rfl)) ?_; refine kl H rfl fun a H => ?_
              refine op_unguard _ _ (kg_yes rfl H rfl rfl rfl) ?_; refine wl_v _ (r_move (H.ev rfl)) ?_; refine kl H rfl fun a H => ?_
              by_cases hcc23 : ((sk : Nat) : Int) ≥ 0
              · skip
                refine op_unguard _ _ (kg_yes rfl H rfl rfl rfl) ?_; refine wl_v _ (r_ge Try.underlying3 (H.ev rfl) evc (dec_t (hcc23))) ?_; refine kl H rfl fun a H => ?_
                refine wl_v _ (r_pick_t (H.ev rfl) (H.ev rfl)) ?_; refine kl H rfl fun a H => ?_
                refine wl_v _ (r_move (H.ev rfl)) ?_; refine kl H rfl fun a H => ?_
                refine op_unguard _ _ (kg_yes rfl H rfl rfl rfl) ?_; refine wl_v _ (r_move (H.ev rfl)) ?_; refine kl H rfl fun a H => ?_
                by_cases hcc24 : ((sk : Nat) : Int) < 128
                · skip
                  refine op_unguard _ _ (kg_yes rfl H rfl rfl rfl) ?_; refine wl_v _ (r_lt Try.underlying3 (H.ev rfl) evc (dec_t (hcc24))) ?_; refine kl H rfl fun a H => ?_
                  refine wl_v _ (r_pick_t (H.ev rfl) (H.ev rfl)) ?_; refine kl H rfl fun a H => ?_
                  refine wl_v _ (r_move (H.ev rfl)) ?_; refine kl H rfl fun a H => ?_
                  refine op_unguard _ _ (kg_yes rfl H rfl rfl rfl) ?_; refine wl_v _ (r_move (H.ev rfl)) ?_; refine kl H rfl fun a H => ?_
                  refine op_unguard _ _ (kg_yes rfl H rfl rfl rfl) ?_; refine wl_v _ (r_move (H.ev rfl)) ?_; refine kl H rfl fun a H => ?_
                  refine op_unguard _ _ (kg_yes rfl H rfl rfl rfl) ?_; refine wl_v _ (r_beq Try.underlying4 (H.ev rfl) (H.ev rfl) rfl) ?_; refine kl H rfl fun a H => ?_
                  refine wl_v _ (r_pick_t (H.ev rfl) (H.ev rfl)) ?_; refine kl H rfl fun a H => ?_
                  refine wl_v _ (r_move (H.ev rfl)) ?_; refine kl H rfl fun a H => ?_
                  refine wl_s (kg_no rfl H rfl rfl rfl) ?_; refine kl H rfl fun a H => ?_
                  refine wl_s (kg_no rfl H rfl rfl rfl) ?_; refine kl H rfl fun a H => ?_
                  refine wl_s (kg_no rfl H rfl rfl rfl) ?_; refine kl H rfl fun a H => ?_
                  refine wl_v _ (r_pick_f (H.ev rfl) evc) ?_; refine kl H rfl fun a H => ?_
                  refine wl_v _ (r_move (H.ev rfl)) ?_; refine kl H rfl fun a H => ?_
                  refine wl_s (kg_no rfl H rfl rfl rfl) ?_; refine kl H rfl fun a H => ?_
                  refine wl_s (kg_no rfl H rfl rfl rfl) ?_; refine kl H rfl fun a H => ?_
                  refine wl_s (kg_no rfl H rfl rfl rfl) ?_; refine kl H rfl fun a H => ?_
                  refine wl_v _ (r_pick_f (H.ev rfl) evc) ?_; refine kl H rfl fun a H => ?_
                  refine wl_v _ (r_assign (H.ev rfl)) ?_; refine kl H rfl fun a H => ?_
                  refine wpList_nil ?_
                  refine c_next ?_
                  refine wp_ret ?_
                  exfalso; omega
                · skip
                  refine op_unguard _ _ (kg_yes rfl H rfl rfl rfl) ?_; refine wl_v _ (r_lt Try.underlying3 (H.ev rfl) evc (dec_f (hcc24))) ?_; refine kl H rfl fun a H => ?_
                  refine wl_v _ (r_pick_t (H.ev rfl) (H.ev rfl)) ?_; refine kl H rfl fun a H => ?_
                  refine wl_v _ (r_move (H.ev rfl)) ?_; refine kl H rfl fun a H => ?_
                  refine wl_s (kg_no rfl H rfl rfl rfl) ?_; refine kl H rfl fun a H => ?_
                  refine wl_s (kg_no rfl H rfl rfl rfl) ?_; refine kl H rfl fun a H => ?_
                  refine wl_s (kg_no rfl H rfl rfl rfl) ?_; refine kl H rfl fun a H => ?_
                  refine wl_v _ (r_pick_f (H.ev rfl) evc) ?_; refine kl H rfl fun a H => ?_
                  refine wl_v _ (r_move (H.ev rfl)) ?_; refine kl H rfl fun a H => ?_
                  refine wl_s (kg_no rfl H rfl rfl rfl) ?_; refine kl H rfl fun a H => ?_
                  refine wl_s (kg_no rfl H rfl rfl rfl) ?_; refine kl H rfl fun a H => ?_
                  refine wl_s (kg_no rfl H rfl rfl rfl) ?_; refine kl H rfl fun a H => ?_
                  refine wl_v _ (r_pick_f (H.ev rfl) evc) ?_; refine kl H rfl fun a H => ?_
                  refine wl_v _ (r_move (H.ev rfl)) ?_; refine kl H rfl fun a H => ?_
                  refine wl_s (kg_no rfl H rfl rfl rfl) ?_; refine kl H rfl fun a H => ?_
                  refine wl_s (kg_no rfl H rfl rfl rfl) ?_; refine kl H rfl fun a H => ?_
                  refine wl_s (kg_no rfl H rfl rfl rfl) ?_; refine kl H rfl fun a H => ?_
                  refine wl_v _ (r_pick_f (H.ev rfl) evc) ?_; refine kl H rfl fun a H => ?_
                  refine wl_v _ (r_assign (H.ev rfl)) ?_; refine kl H rfl fun a H => ?_
                  refine wpList_nil ?_
                  refine c_next ?_
                  refine wp_ret ?_
                  exfalso; omega
              · skip
                refine op_unguard _ _ (kg_yes rfl H rfl rfl rfl) ?_; refine wl_v _ (r_ge Try.underlying3 (H.ev rfl) evc (dec_f (hcc23))) ?_; refine kl H rfl fun a H => ?_
                refine wl_v _ (r_pick_t (H.ev rfl) (H.ev rfl)) ?_; refine kl H rfl fun a H => ?_
                refine wl_v _ (r_move (H.ev rfl)) ?_; refine kl H rfl fun a H => ?_
                refine wl_s (kg_no rfl H rfl rfl rfl) ?_; refine kl H rfl fun a H => ?_
                refine wl_s (kg_no rfl H rfl rfl rfl) ?_; refine kl H rfl fun a H => ?_
                refine wl_v _ (r_pick_f (H.ev rfl) evc) ?_; refine kl H rfl fun a H => ?_
                refine wl_v _ (r_move (H.ev rfl)) ?_; refine kl H rfl fun a H => ?_
                refine wl_s (kg_no rfl H rfl rfl rfl) ?_; refine kl H rfl fun a H => ?_
                refine wl_s (kg_no rfl H rfl rfl rfl) ?_; refine kl H rfl fun a H => ?_
                refine wl_s (kg_no rfl H rfl rfl rfl) ?_; refine kl H rfl fun a H => ?_
                refine wl_v _ (r_pick_f (H.ev rfl) evc) ?_; refine kl H rfl fun a H => ?_
                refine wl_v _ (r_move (H.ev rfl)) ?_; refine kl H rfl fun a H => ?_
                refine wl_s (kg_no rfl H rfl rfl rfl) ?_; refine kl H rfl fun a H => ?_
                refine wl_s (kg_no rfl H rfl rfl rfl) ?_; refine kl H rfl fun a H => ?_
                refine wl_s (kg_no rfl H rfl rfl rfl) ?_; refine kl H rfl fun a H => ?_
                refine wl_v _ (r_pick_f (H.ev rfl) evc) ?_; refine kl H rfl fun a H => ?_
                refine wl_v _ (r_move (H.ev rfl)) ?_; refine kl H rfl fun a H => ?_
                refine wl_s (kg_no rfl H rfl rfl rfl) ?_; refine kl H rfl fun a H => ?_
                refine wl_s (kg_no rfl H rfl rfl rfl) ?_; refine kl H rfl fun a H => ?_
                refine wl_s (kg_no rfl H rfl rfl rfl) ?_; refine kl H rfl fun a H => ?_
                refine wl_v _ (r_pick_f (H.ev rfl) evc) ?_; refine kl H rfl fun a H => ?_
                refine wl_v _ (r_assign (H.ev rfl)) ?_; refine kl H rfl fun a H => ?_
                refine wpList_nil ?_
                refine c_next ?_
                refine wp_ret ?_
                exfalso; omega
    · skip
      refine wl_v _ (r_le Try.underlying3 (H.ev rfl) (H.ev rfl) (dec_f (hcc0))) ?_; refine kl H rfl fun a H => ?_
      refine wl_v _ (r_assign (H.ev rfl)) ?_; refine kl H rfl fun a H => ?_
      refine wpList_nil ?_
      refine c_next ?_
      refine wp_seq ?_
      refine wp_seq ?_
      refine wp_region_lit ?_
      refine wl_v _ (r_assign evc) ?_; refine kl H rfl fun a H => ?_
      refine wpList_nil ?_
      refine c_next ?_
      refine wp_block ?_
      refine wp_loop (AkI w b0 b1 b2 n A c L N As1 cs1 L' sk x) (fun a _ => 7 - (intOf (a.eval (.tmp 11))).toNat) ⟨0, false, H.pick [2, 3, 5, 6, 8, 9, 10, 11], by omega, by simp; omega, k0, k1, k2, rs1, hall⟩ ?_
      clear H hall k0 k1 k2 rs1
      rintro a w' ⟨m, hv, H, hm, hvi, k0, k1, k2, rs1, hall⟩
      have H0 := H
      by_cases hm7 : m < 7
      · skip
        cases hv
        · skip
          refine wp_seq ?_
          refine wp_seq ?_
          refine wp_region_lit ?_
          refine wl_v _ (r_move (H.ev rfl)) ?_; refine kl H rfl fun a H => ?_
          refine wl_v _ (r_lt Try.underlying3 (H.ev rfl) evc (dec_t ((by omega)))) ?_; refine kl H rfl fun a H => ?_
          refine wpList_nil ?_
          refine c_next ?_
          refine c_cond_t H rfl ?_
          refine wp_skip ?_
          refine c_next ?_
          refine wp_seq ?_
          refine wp_block ?_
          refine wp_region_lit ?_
          refine wl_v _ (r_move (H.ev rfl)) ?_; refine kl H rfl fun a H => ?_
          refine wl_v _ (r_move (H.ev rfl)) ?_; refine kl H rfl fun a H => ?_
          refine op_unguard _ _ (kg_yes rfl H rfl rfl rfl) ?_; refine wl_v _ (r_move (H.ev rfl)) ?_; refine kl H rfl fun a H => ?_
          refine op_unguard _ _ (kg_yes rfl H rfl rfl rfl) ?_; refine wl_v _ (r_move (H.ev rfl)) ?_; refine kl H rfl fun a H => ?_
          refine op_unguard _ _ (kg_yes rfl H rfl rfl rfl) ?_; refine wl_v (.int .i64 (sk / 2 ^ m : Nat)) (r_shr Try.underlying3 (H.ev rfl) (H.ev rfl) (by omega) hs128) ?_; refine kl H rfl fun a H => ?_
          refine op_unguard _ _ (kg_yes rfl H rfl rfl rfl) ?_; refine wl_v (.int .i64 (sk / 2 ^ m % 2 : Nat)) (r_and1 Try.underlying3 (H.ev rfl) (Nat.lt_of_le_of_lt (Nat.div_le_self _ _) hs128)) ?_; refine kl H rfl fun a H => ?_
          by_cases hcc25 : ((sk / 2 ^ m % 2 : Nat) : Int) = 1
          · skip
            refine op_unguard _ _ (kg_yes rfl H rfl rfl rfl) ?_; refine wl_v _ (r_eq Try.underlying3 (H.ev rfl) evc (dec_t (hcc25))) ?_; refine kl H rfl fun a H => ?_
            refine op_unguard _ _ (kg_yes rfl H rfl rfl rfl) ?_; refine wl_v _ (r_move (H.ev rfl)) ?_; refine kl H rfl fun a H => ?_
            refine op_unguard _ _ (kg_yes rfl H rfl rfl rfl) ?_; refine wl_v _ (r_fld (q := 0) fld33_0 (H.ev rfl) rfl) ?_; refine kl H rfl fun a H => ?_
            refine op_unguard _ _ (kg_yes rfl H rfl rfl rfl) ?_; refine wl_v _ (r_ld Try.underlying3 rfl (H.ev rfl) ((Block.cell k1 0).trans rfl)) ?_; refine kl H rfl fun a H => ?_
            refine op_unguard _ _ (kg_yes rfl H rfl rfl rfl) ?_; refine wl_v _ (r_move (H.ev rfl)) ?_; refine kl H rfl fun a H => ?_
            refine op_unguard _ _ (kg_yes rfl H rfl rfl rfl) ?_; refine wl_v _ (r_add (q := (N - 1) + 2) Try.underlying3 (H.ev rfl) evc (by omega) (by omega)) ?_; refine kl H rfl fun a H => ?_
            refine op_unguard _ _ (kg_yes rfl H rfl rfl rfl) ?_; refine wl_v _ (r_move (H.ev rfl)) ?_; refine kl H rfl fun a H => ?_
            refine op_unguard _ _ (kg_yes rfl H rfl rfl rfl) ?_; refine wl_v _ (r_add (q := ((N - 1) + 2) + ((m : Nat) : Int)) Try.underlying3 (H.ev rfl) (H.ev rfl) (by omega) (by omega)) ?_; refine kl H rfl fun a H => ?_
            by_cases hcc26 : x.1 = (((N - 1) + 2) + ((m : Nat) : Int))
            · skip
              refine op_unguard _ _ (kg_yes rfl H rfl rfl rfl) ?_; refine wl_v _ (r_eq Try.underlying3 (H.ev rfl) (H.ev rfl) (dec_t (hcc26))) ?_; refine kl H rfl fun a H => ?_
              refine op_unguard _ _ (kg_yes rfl H rfl rfl rfl) ?_; refine wl_v _ (r_pick_t (H.ev rfl) (H.ev rfl)) ?_; refine kl H rfl fun a H => ?_
              refine wl_v _ (r_pick_f (H.ev rfl) (H.ev rfl)) ?_; refine kl H rfl fun a H => ?_
              refine wl_v _ (r_assign (H.ev rfl)) ?_; refine kl H rfl fun a H => ?_
              refine wpList_nil ?_
              refine n_block ?_
              refine c_next ?_
              refine wp_region_lit ?_
              refine wl_v _ (r_move (H.ev rfl)) ?_; refine kl H rfl fun a H => ?_
              refine wl_v _ (r_add (q := ((m + 1 : Nat) : Int)) Try.underlying3 (H.ev rfl) evc (by omega) (by omega)) ?_; refine kl H rfl fun a H => ?_
              refine wl_v _ (r_assign (H.ev rfl)) ?_; refine kl H rfl fun a H => ?_
              refine wpList_nil ?_
              refine n_then ⟨⟨m + 1, _, H.pick [2, 3, 5, 6, 8, 9, 10, 11], by omega, hv_here ⟨by omega, by omega⟩, k0, k1, k2, rs1, hall⟩, ?_⟩
              rw [H.ev (j := 11) rfl, H0.ev (j := 11) rfl]
              simp only [intOf]
              omega
            · skip
              refine op_unguard _ _ (kg_yes rfl H rfl rfl rfl) ?_; refine wl_v _ (r_eq Try.underlying3 (H.ev rfl) (H.ev rfl) (dec_f (hcc26))) ?_; refine kl H rfl fun a H => ?_
              refine op_unguard _ _ (kg_yes rfl H rfl rfl rfl) ?_; refine wl_v _ (r_pick_t (H.ev rfl) (H.ev rfl)) ?_; refine kl H rfl fun a H => ?_
              refine wl_v _ (r_pick_f (H.ev rfl) (H.ev rfl)) ?_; refine kl H rfl fun a H => ?_
              refine wl_v _ (r_assign (H.ev rfl)) ?_; refine kl H rfl fun a H => ?_
              refine wpList_nil ?_
              refine n_block ?_
              refine c_next ?_
              refine wp_region_lit ?_
              refine wl_v _ (r_move (H.ev rfl)) ?_; refine kl H rfl fun a H => ?_
              refine wl_v _ (r_add (q := ((m + 1 : Nat) : Int)) Try.underlying3 (H.ev rfl) evc (by omega) (by omega)) ?_; refine kl H rfl fun a H => ?_
              refine wl_v _ (r_assign (H.ev rfl)) ?_; refine kl H rfl fun a H => ?_
              refine wpList_nil ?_
              refine n_then ⟨⟨m + 1, _, H.pick [2, 3, 5, 6, 8, 9, 10, 11], by omega, hv_not hvi (fun e => by omega), k0, k1, k2, rs1, hall⟩, ?_⟩
              rw [H.ev (j := 11) rfl, H0.ev (j := 11) rfl]
              simp only [intOf]
              omega
          · skip
            refine op_unguard _ _ (kg_yes rfl H rfl rfl rfl) ?_; refine wl_v _ (r_eq Try.underlying3 (H.ev rfl) evc (dec_f (hcc25))) ?_; refine kl H rfl fun a H => ?_
            refine op_unguard _ _ (kg_yes rfl H rfl rfl rfl) ?_; refine wl_v _ (r_move (H.ev rfl)) ?_; refine kl H rfl fun a H => ?_
            refine wl_s (kg_no rfl H rfl rfl rfl) ?_; refine kl H rfl fun a H => ?_
            refine wl_s (kg_no rfl H rfl rfl rfl) ?_; refine kl H rfl fun a H => ?_
            refine wl_s (kg_no rfl H rfl rfl rfl) ?_; refine kl H rfl fun a H => ?_
            refine wl_s (kg_no rfl H rfl rfl rfl) ?_; refine kl H rfl fun a H => ?_
            refine wl_s (kg_no rfl H rfl rfl rfl) ?_; refine kl H rfl fun a H => ?_
            refine wl_s (kg_no rfl H rfl rfl rfl) ?_; refine kl H rfl fun a H => ?_
            refine wl_s (kg_no rfl H rfl rfl rfl) ?_; refine kl H rfl fun a H => ?_
            refine op_unguard _ _ (kg_yes rfl H rfl rfl rfl) ?_; refine wl_v _ (r_pick_f (H.ev rfl) evc) ?_; refine kl H rfl fun a H => ?_
            refine wl_v _ (r_pick_f (H.ev rfl) (H.ev rfl)) ?_; refine kl H rfl fun a H => ?_
            refine wl_v _ (r_assign (H.ev rfl)) ?_; refine kl H rfl fun a H => ?_
            refine wpList_nil ?_
            refine n_block ?_
            refine c_next ?_
            refine wp_region_lit ?_
            refine wl_v _ (r_move (H.ev rfl)) ?_; refine kl H rfl fun a H => ?_
            refine wl_v _ (r_add (q := ((m + 1 : Nat) : Int)) Try.underlying3 (H.ev rfl) evc (by omega) (by omega)) ?_; refine kl H rfl fun a H => ?_
            refine wl_v _ (r_assign (H.ev rfl)) ?_; refine kl H rfl fun a H => ?_
            refine wpList_nil ?_
            refine n_then ⟨⟨m + 1, _, H.pick [2, 3, 5, 6, 8, 9, 10, 11], by omega, hv_not hvi (fun e => by omega), k0, k1, k2, rs1, hall⟩, ?_⟩
            rw [H.ev (j := 11) rfl, H0.ev (j := 11) rfl]
            simp only [intOf]
            omega
        · skip
          refine wp_seq ?_
          refine wp_seq ?_
          refine wp_region_lit ?_
          refine wl_v _ (r_move (H.ev rfl)) ?_; refine kl H rfl fun a H => ?_
          refine wl_v _ (r_lt Try.underlying3 (H.ev rfl) evc (dec_t ((by omega)))) ?_; refine kl H rfl fun a H => ?_
          refine wpList_nil ?_
          refine c_next ?_
          refine c_cond_t H rfl ?_
          refine wp_skip ?_
          refine c_next ?_
          refine wp_seq ?_
          refine wp_block ?_
          refine wp_region_lit ?_
          refine wl_v _ (r_move (H.ev rfl)) ?_; refine kl H rfl fun a H => ?_
          refine wl_v _ (r_move (H.ev rfl)) ?_; refine kl H rfl fun a H => ?_
          refine wl_s (kg_no rfl H rfl rfl rfl) ?_; refine kl H rfl fun a H => ?_
          refine wl_s (kg_no rfl H rfl rfl rfl) ?_; refine kl H rfl fun a H => ?_
          refine wl_s (kg_no rfl H rfl rfl rfl) ?_; refine kl H rfl fun a H => ?_
          refine wl_s (kg_no rfl H rfl rfl rfl) ?_; refine kl H rfl fun a H => ?_
          refine wl_s (kg_no rfl H rfl rfl rfl) ?_; refine kl H rfl fun a H => ?_
          refine wl_s (kg_no rfl H rfl rfl rfl) ?_; refine kl H rfl fun a H => ?_
          refine wl_s (kg_un rfl H rfl rfl rfl) ?_; refine kl H rfl fun a H => ?_
          refine wl_s (kg_un rfl H rfl rfl rfl) ?_; refine kl H rfl fun a H => ?_
          refine wl_s (kg_un rfl H rfl rfl rfl) ?_; refine kl H rfl fun a H => ?_
          refine wl_s (kg_un rfl H rfl rfl rfl) ?_; refine kl H rfl fun a H => ?_
          refine wl_s (kg_un rfl H rfl rfl rfl) ?_; refine kl H rfl fun a H => ?_
          refine wl_s (kg_un rfl H rfl rfl rfl) ?_; refine kl H rfl fun a H => ?_
          refine wl_s (kg_un rfl H rfl rfl rfl) ?_; refine kl H rfl fun a H => ?_
          refine wl_s (kg_no rfl H rfl rfl rfl) ?_; refine kl H rfl fun a H => ?_
          refine wl_v _ (r_pick_t (H.ev rfl) evc) ?_; refine kl H rfl fun a H => ?_
          refine wl_v _ (r_assign (H.ev rfl)) ?_; refine kl H rfl fun a H => ?_
          refine wpList_nil ?_
          refine n_block ?_
          refine c_next ?_
          refine wp_region_lit ?_
          refine wl_v _ (r_move (H.ev rfl)) ?_; refine kl H rfl fun a H => ?_
          refine wl_v _ (r_add (q := ((m + 1 : Nat) : Int)) Try.underlying3 (H.ev rfl) evc (by omega) (by omega)) ?_; refine kl H rfl fun a H => ?_
          refine wl_v _ (r_assign (H.ev rfl)) ?_; refine kl H rfl fun a H => ?_
          refine wpList_nil ?_
          refine n_then ⟨⟨m + 1, _, H.pick [2, 3, 5, 6, 8, 9, 10, 11], by omega, hv_true hvi, k0, k1, k2, rs1, hall⟩, ?_⟩
          rw [H.ev (j := 11) rfl, H0.ev (j := 11) rfl]
          simp only [intOf]
          omega
      · skip
        obtain rfl : m = 7 := by omega
        refine wp_seq ?_
        refine wp_seq ?_
        refine wp_region_lit ?_
        refine wl_v _ (r_move (H.ev rfl)) ?_; refine kl H rfl fun a H => ?_
        refine wl_v _ (r_lt Try.underlying3 (H.ev rfl) evc (dec_f (by omega))) ?_; refine kl H rfl fun a H => ?_
        refine wpList_nil ?_
        refine c_next ?_
        refine c_cond_f H rfl ?_
        refine wp_exit ?_
        refine e_then ?_
        refine e_then ?_
        refine e_here ?_
        refine c_next ?_
        refine wp_seq ?_
        have hbm := hv_end HB.out HRT2.out HHM.out hvi
        cases hv
        · skip
          have hno : ¬ (x.1 < n ∨ (x.1 - n < 8 ∧ x.1 < 1073741824)) := fun e => by cases hbm.2 e
          refine wp_region_lit ?_
          refine wl_v _ (r_fld (q := 0) fld33_0 (H.ev rfl) rfl) ?_; refine kl H rfl fun a H => ?_
          refine wl_v _ (r_ld Try.underlying3 rfl (H.ev rfl) ((Block.cell k1 0).trans rfl)) ?_; refine kl H rfl fun a H => ?_
          refine wl_v _ (r_fld (q := 0) fld24_0 (H.ev rfl) rfl) ?_; refine kl H rfl fun a H => ?_
          refine wl_v _ (r_ld Try.underlying3 rfl (H.ev rfl) ((Block.cell k0 0).trans rfl)) ?_; refine kl H rfl fun a H => ?_
          by_cases hcc27 : x.1 < n
          · skip
            refine wl_v _ (r_lt Try.underlying3 (H.ev rfl) (H.ev rfl) (dec_t (hcc27))) ?_; refine kl H rfl fun a H => ?_
            refine wl_v _ (r_move (H.ev rfl)) ?_; refine kl H rfl fun a H => ?_
            refine wl_s (kg_no rfl H rfl rfl rfl) ?_; refine kl H rfl fun a H => ?_
            refine wl_s (kg_no rfl H rfl rfl rfl) ?_; refine kl H rfl fun a H => ?_
            refine wl_s (kg_no rfl H rfl rfl rfl) ?_; refine kl H rfl fun a H => ?_
            refine wl_s (kg_no rfl H rfl rfl rfl) ?_; refine kl H rfl fun a H => ?_
            refine wl_s (kg_no rfl H rfl rfl rfl) ?_; refine kl H rfl fun a H => ?_
            refine wl_s (kg_no rfl H rfl rfl rfl) ?_; refine kl H rfl fun a H => ?_
            refine wl_s (kg_no rfl H rfl rfl rfl) ?_; refine kl H rfl fun a H => ?_
            refine wl_s (kg_un rfl H rfl rfl rfl) ?_; refine kl H rfl fun a H => ?_
            refine wl_s (kg_un rfl H rfl rfl rfl) ?_; refine kl H rfl fun a H => ?_
            refine wl_s (kg_un rfl H rfl rfl rfl) ?_; refine kl H rfl fun a H => ?_
            refine wl_s (kg_no rfl H rfl rfl rfl) ?_; refine kl H rfl fun a H => ?_
            refine wl_v _ (r_pick_t (H.ev rfl) evc) ?_; refine kl H rfl fun a H => ?_
            refine wl_v _ (r_assign (H.ev rfl)) ?_; refine kl H rfl fun a H => ?_
            refine wpList_nil ?_
            refine c_next ?_
            refine wp_seq ?_
            refine wp_region_lit ?_
            refine wl_v _ (r_row (cs := [.int .i64 N, .slice As1 L'.length cs1]) (H.ev rfl) (block_range k2) (by kernel_rfl) s24 rfl) ?_; refine kl H rfl fun a H => ?_
            refine wl_v _ (r_row (cs := [.int .i64 x.1, .int .i64 x.2.1, .int .i64 x.2.2.1, .int .i64 x.2.2.2.1, .int .i64 x.2.2.2.2]) (H.ev rfl) (block_range k1) (by kernel_rfl) s33 rfl) ?_; refine kl H rfl fun a H => ?_
            refine wl_call _ _ _ (take_any _ N (.slice As1 L'.length cs1) L' x rs1 (by omega) hx.1 hx.2) (r_call2 cf12 (H.ev rfl) (H.ev rfl)) ?_; rintro e w9 ⟨⟨s2, o2, rfl, ⟨rs2, fs2⟩, ⟨ro2, fo2⟩⟩, hb⟩; refine ⟨_, rfl, ?_⟩; rw [HT2.out] at rs2 ro2 ⊢; replace k0 := Block.ups k0 hb; replace k1 := Block.ups k1 hb; replace k2 := Block.ups k2 hb; replace rs1 := Row.up rs1 hb; replace hall := hall.trans (hb.mono hall.size); clear hb; clear fs2 fo2; obtain ⟨As2, cs2, hsv, s1, s2, s3, s4⟩ := rs2; have rs2 : IRow _ (.slice As2 L'.length cs2) L' := ⟨As2, cs2, rfl, s1, s2, s3, s4⟩; subst hsv; obtain ⟨Ao2, co2, hov, u1, u2, u3, u4⟩ := ro2; have ro2 : NRow _ (.slice Ao2 0 co2) ([] : List Nt) := ⟨Ao2, co2, rfl, u1, u2, u3, u4⟩; simp only [List.length_nil] at hov; subst hov; clear s1 s2 s3 s4 u1 u2 u3 u4; refine kl H rfl fun a H => ?_
            refine wl_v _ (r_move (H.ev rfl)) ?_; refine kl H rfl fun a H => ?_
            refine wl_v _ (r_extract (v := .agg #[.int .i64 N, .slice As2 L'.length cs2]) (H.ev rfl) rfl) ?_; refine kl H rfl fun a H => ?_
            refine wl_v _ (r_extract (v := .slice Ao2 0 co2) (H.ev rfl) rfl) ?_; refine kl H rfl fun a H => ?_
            refine op_new 24 13 (.tmp 84) #[.int .i64 N, .slice As2 L'.length cs2] _ z24 s24 rfl (by simp [Value.cells, Value.oneCell']) (fun p => (H.put 13 p rfl).ev rfl) (fun p => (H.put 13 p rfl).ev rfl) fun w11 b11 hge hb k11 => ?_; have g11 := Nat.le_trans hall.size hge; replace k0 := Block.ups k0 hb; replace k1 := Block.ups k1 hb; replace k2 := Block.ups k2 hb; replace rs1 := Row.up rs1 hb; replace rs2 := Row.up rs2 hb; replace ro2 := Row.up ro2 hb; replace hall := hall.trans (hb.mono hall.size); clear hb; clear hge; refine kl H rfl fun a H => ?_
            refine wl_v _ (r_assign (H.ev rfl)) ?_; refine kl H rfl fun a H => ?_
            refine wpList_nil ?_
            refine c_next ?_
            refine wp_seq ?_
            refine wp_region_lit ?_
            refine wl_v _ (r_move (H.ev rfl)) ?_; refine kl H rfl fun a H => ?_
            refine wl_v _ (r_move (H.ev rfl)) ?_; refine kl H rfl fun a H => ?_
            refine op_unguard _ _ (kg_yes rfl H rfl rfl rfl) ?_; refine wl_v _ (r_move (H.ev rfl)) ?_; refine kl H rfl fun a H => ?_
            refine op_unguard _ _ (kg_yes rfl H rfl rfl rfl) ?_; refine wl_v _ (r_fld (q := 0) fld24_0 (H.ev rfl) rfl) ?_; refine kl H rfl fun a H => ?_
            refine op_unguard _ _ (kg_yes rfl H rfl rfl rfl) ?_; refine wl_v _ (r_ld Try.underlying3 rfl (H.ev rfl) ((Block.cell k2 0).trans rfl)) ?_; refine kl H rfl fun a H => ?_
            refine op_unguard _ _ (kg_yes rfl H rfl rfl rfl) ?_; refine wl_v _ (r_sub (q := N - 1) Try.underlying3 (H.ev rfl) evc (by omega) (by omega)) ?_; refine kl H rfl fun a H => ?_
            refine op_unguard _ _ (kg_yes rfl H rfl rfl rfl) ?_; refine wl_v _ (r_eq Try.underlying3 (H.ev rfl) (H.ev rfl) (dec_t (by omega))) ?_; refine kl H rfl fun a H => ?_
            refine wl_v _ (r_pick_t (H.ev rfl) (H.ev rfl)) ?_; refine kl H rfl fun a H => ?_
            refine wl_v _ (r_move (H.ev rfl)) ?_; refine kl H rfl fun a H => ?_
            refine op_unguard _ _ (kg_yes rfl H rfl rfl rfl) ?_; refine wl_v _ (r_move (H.ev rfl)) ?_; refine kl H rfl fun a H => ?_
            by_cases hcc28 : ((sk : Nat) : Int) ≥ 0
            · skip
              refine op_unguard _ _ (kg_yes rfl H rfl rfl rfl) ?_; refine wl_v _ (r_ge Try.underlying3 (H.ev rfl) evc (dec_t (hcc28))) ?_; refine kl H rfl fun a H => ?_
              refine wl_v _ (r_pick_t (H.ev rfl) (H.ev rfl)) ?_; refine kl H rfl fun a H => ?_
              refine wl_v _ (r_move (H.ev rfl)) ?_; refine kl H rfl fun a H => ?_
              refine op_unguard _ _ (kg_yes rfl H rfl rfl rfl) ?_; refine wl_v _ (r_move (H.ev rfl)) ?_; refine kl H rfl fun a H => ?_
              by_cases hcc29 : ((sk : Nat) : Int) < 128
              · skip
                refine op_unguard _ _ (kg_yes rfl H rfl rfl rfl) ?_; refine wl_v _ (r_lt Try.underlying3 (H.ev rfl) evc (dec_t (hcc29))) ?_; refine kl H rfl fun a H => ?_
                refine wl_v _ (r_pick_t (H.ev rfl) (H.ev rfl)) ?_; refine kl H rfl fun a H => ?_
                refine wl_v _ (r_move (H.ev rfl)) ?_; refine kl H rfl fun a H => ?_
                refine op_unguard _ _ (kg_yes rfl H rfl rfl rfl) ?_; refine wl_v _ (r_move (H.ev rfl)) ?_; refine kl H rfl fun a H => ?_
                refine op_unguard _ _ (kg_yes rfl H rfl rfl rfl) ?_; refine wl_v _ (r_move (H.ev rfl)) ?_; refine kl H rfl fun a H => ?_
                refine op_unguard _ _ (kg_yes rfl H rfl rfl rfl) ?_; refine wl_v _ (r_beq Try.underlying4 (H.ev rfl) (H.ev rfl) rfl) ?_; refine kl H rfl fun a H => ?_
                refine wl_v _ (r_pick_t (H.ev rfl) (H.ev rfl)) ?_; refine kl H rfl fun a H => ?_
                refine wl_v _ (r_move (H.ev rfl)) ?_; refine kl H rfl fun a H => ?_
                refine wl_s (kg_no rfl H rfl rfl rfl) ?_; refine kl H rfl fun a H => ?_
                refine wl_s (kg_no rfl H rfl rfl rfl) ?_; refine kl H rfl fun a H => ?_
                refine wl_s (kg_no rfl H rfl rfl rfl) ?_; refine kl H rfl fun a H => ?_
                refine wl_v _ (r_pick_f (H.ev rfl) evc) ?_; refine kl H rfl fun a H => ?_
                refine wl_v _ (r_move (H.ev rfl)) ?_; refine kl H rfl fun a H => ?_
                refine wl_s (kg_no rfl H rfl rfl rfl) ?_; refine kl H rfl fun a H => ?_
                refine wl_s (kg_no rfl H rfl rfl rfl) ?_; refine kl H rfl fun a H => ?_
                refine wl_s (kg_no rfl H rfl rfl rfl) ?_; refine kl H rfl fun a H => ?_
                refine wl_v _ (r_pick_f (H.ev rfl) evc) ?_; refine kl H rfl fun a H => ?_
                refine wl_v _ (r_assign (H.ev rfl)) ?_; refine kl H rfl fun a H => ?_
                refine wpList_nil ?_
                refine c_next ?_
                refine wp_ret ?_
                exfalso; omega
              · skip
                refine op_unguard _ _ (kg_yes rfl H rfl rfl rfl) ?_; refine wl_v _ (r_lt Try.underlying3 (H.ev rfl) evc (dec_f (hcc29))) ?_; refine kl H rfl fun a H => ?_
                refine wl_v _ (r_pick_t (H.ev rfl) (H.ev rfl)) ?_; refine kl H rfl fun a H => ?_
                refine wl_v _ (r_move (H.ev rfl)) ?_; refine kl H rfl fun a H => ?_
                refine wl_s (kg_no rfl H rfl rfl rfl) ?_; refine kl H rfl fun a H => ?_
                refine wl_s (kg_no rfl H rfl rfl rfl) ?_; refine kl H rfl fun a H => ?_
                refine wl_s (kg_no rfl H rfl rfl rfl) ?_; refine kl H rfl fun a H => ?_
                refine wl_v _ (r_pick_f (H.ev rfl) evc) ?_; refine kl H rfl fun a H => ?_
                refine wl_v _ (r_move (H.ev rfl)) ?_; refine kl H rfl fun a H => ?_
                refine wl_s (kg_no rfl H rfl rfl rfl) ?_; refine kl H rfl fun a H => ?_
                refine wl_s (kg_no rfl H rfl rfl rfl) ?_; refine kl H rfl fun a H => ?_
                refine wl_s (kg_no rfl H rfl rfl rfl) ?_; refine kl H rfl fun a H => ?_
                refine wl_v _ (r_pick_f (H.ev rfl) evc) ?_; refine kl H rfl fun a H => ?_
                refine wl_v _ (r_move (H.ev rfl)) ?_; refine kl H rfl fun a H => ?_
                refine wl_s (kg_no rfl H rfl rfl rfl) ?_; refine kl H rfl fun a H => ?_
                refine wl_s (kg_no rfl H rfl rfl rfl) ?_; refine kl H rfl fun a H => ?_
                refine wl_s (kg_no rfl H rfl rfl rfl) ?_; refine kl H rfl fun a H => ?_
                refine wl_v _ (r_pick_f (H.ev rfl) evc) ?_; refine kl H rfl fun a H => ?_
                refine wl_v _ (r_assign (H.ev rfl)) ?_; refine kl H rfl fun a H => ?_
                refine wpList_nil ?_
                refine c_next ?_
                refine wp_ret ?_
                exfalso; omega
            · skip
              refine op_unguard _ _ (kg_yes rfl H rfl rfl rfl) ?_; refine wl_v _ (r_ge Try.underlying3 (H.ev rfl) evc (dec_f (hcc28))) ?_; refine kl H rfl fun a H => ?_
              refine wl_v _ (r_pick_t (H.ev rfl) (H.ev rfl)) ?_; refine kl H rfl fun a H => ?_
              refine wl_v _ (r_move (H.ev rfl)) ?_; refine kl H rfl fun a H => ?_
              refine wl_s (kg_no rfl H rfl rfl rfl) ?_; refine kl H rfl fun a H => ?_
              refine wl_s (kg_no rfl H rfl rfl rfl) ?_; refine kl H rfl fun a H => ?_
              refine wl_v _ (r_pick_f (H.ev rfl) evc) ?_; refine kl H rfl fun a H => ?_
              refine wl_v _ (r_move (H.ev rfl)) ?_; refine kl H rfl fun a H => ?_
              refine wl_s (kg_no rfl H rfl rfl rfl) ?_; refine kl H rfl fun a H => ?_
              refine wl_s (kg_no rfl H rfl rfl rfl) ?_; refine kl H rfl fun a H => ?_
              refine wl_s (kg_no rfl H rfl rfl rfl) ?_; refine kl H rfl fun a H => ?_
              refine wl_v _ (r_pick_f (H.ev rfl) evc) ?_; refine kl H rfl fun a H => ?_
              refine wl_v _ (r_move (H.ev rfl)) ?_; refine kl H rfl fun a H => ?_
              refine wl_s (kg_no rfl H rfl rfl rfl) ?_; refine kl H rfl fun a H => ?_
              refine wl_s (kg_no rfl H rfl rfl rfl) ?_; refine kl H rfl fun a H => ?_
              refine wl_s (kg_no rfl H rfl rfl rfl) ?_; refine kl H rfl fun a H => ?_
              refine wl_v _ (r_pick_f (H.ev rfl) evc) ?_; refine kl H rfl fun a H => ?_
              refine wl_v _ (r_move (H.ev rfl)) ?_; refine kl H rfl fun a H => ?_
              refine wl_s (kg_no rfl H rfl rfl rfl) ?_; refine kl H rfl fun a H => ?_
              refine wl_s (kg_no rfl H rfl rfl rfl) ?_; refine kl H rfl fun a H => ?_
              refine wl_s (kg_no rfl H rfl rfl rfl) ?_; refine kl H rfl fun a H => ?_
              refine wl_v _ (r_pick_f (H.ev rfl) evc) ?_; refine kl H rfl fun a H => ?_
              refine wl_v _ (r_assign (H.ev rfl)) ?_; refine kl H rfl fun a H => ?_
              refine wpList_nil ?_
              refine c_next ?_
              refine wp_ret ?_
              exfalso; omega
          · skip
            refine wl_v _ (r_lt Try.underlying3 (H.ev rfl) (H.ev rfl) (dec_f (hcc27))) ?_; refine kl H rfl fun a H => ?_
            refine wl_v _ (r_move (H.ev rfl)) ?_; refine kl H rfl fun a H => ?_
            refine op_unguard _ _ (kg_yes rfl H rfl rfl rfl) ?_; refine wl_v _ (r_fld (q := 0) fld33_0 (H.ev rfl) rfl) ?_; refine kl H rfl fun a H => ?_
            refine op_unguard _ _ (kg_yes rfl H rfl rfl rfl) ?_; refine wl_v _ (r_ld Try.underlying3 rfl (H.ev rfl) ((Block.cell k1 0).trans rfl)) ?_; refine kl H rfl fun a H => ?_
            refine op_unguard _ _ (kg_yes rfl H rfl rfl rfl) ?_; refine wl_v _ (r_fld (q := 0) fld24_0 (H.ev rfl) rfl) ?_; refine kl H rfl fun a H => ?_
            refine op_unguard _ _ (kg_yes rfl H rfl rfl rfl) ?_; refine wl_v _ (r_ld Try.underlying3 rfl (H.ev rfl) ((Block.cell k0 0).trans rfl)) ?_; refine kl H rfl fun a H => ?_
            refine op_unguard _ _ (kg_yes rfl H rfl rfl rfl) ?_; refine wl_v _ (r_sub (q := x.1 - n) Try.underlying3 (H.ev rfl) (H.ev rfl) (by omega) (by omega)) ?_; refine kl H rfl fun a H => ?_
            by_cases hcc30 : (x.1 - n) < 8
            · skip
              refine op_unguard _ _ (kg_yes rfl H rfl rfl rfl) ?_; refine wl_v _ (r_lt Try.underlying3 (H.ev rfl) evc (dec_t (hcc30))) ?_; refine kl H rfl fun a H => ?_
              refine op_unguard _ _ (kg_yes rfl H rfl rfl rfl) ?_; refine wl_v _ (r_move (H.ev rfl)) ?_; refine kl H rfl fun a H => ?_
              refine op_unguard _ _ (kg_yes rfl H rfl rfl rfl) ?_; refine wl_v _ (r_fld (q := 0) fld33_0 (H.ev rfl) rfl) ?_; refine kl H rfl fun a H => ?_
              refine op_unguard _ _ (kg_yes rfl H rfl rfl rfl) ?_; refine wl_v _ (r_ld Try.underlying3 rfl (H.ev rfl) ((Block.cell k1 0).trans rfl)) ?_; refine kl H rfl fun a H => ?_
              by_cases hcc31 : x.1 < 1073741824
              · skip
                refine op_unguard _ _ (kg_yes rfl H rfl rfl rfl) ?_; refine wl_v _ (r_lt Try.underlying3 (H.ev rfl) evc (dec_t (hcc31))) ?_; refine kl H rfl fun a H => ?_
                refine op_unguard _ _ (kg_yes rfl H rfl rfl rfl) ?_; refine wl_v _ (r_pick_t (H.ev rfl) (H.ev rfl)) ?_; refine kl H rfl fun a H => ?_
                refine wl_v _ (r_pick_f (H.ev rfl) (H.ev rfl)) ?_; refine kl H rfl fun a H => ?_
                refine wl_v _ (r_assign (H.ev rfl)) ?_; refine kl H rfl fun a H => ?_
                refine wpList_nil ?_
                refine c_next ?_
                refine wp_seq ?_
                refine wp_region_lit ?_
                refine wl_v _ (r_row (cs := [.int .i64 N, .slice As1 L'.length cs1]) (H.ev rfl) (block_range k2) (by kernel_rfl) s24 rfl) ?_; refine kl H rfl fun a H => ?_
                refine wl_v _ (r_row (cs := [.int .i64 x.1, .int .i64 x.2.1, .int .i64 x.2.2.1, .int .i64 x.2.2.2.1, .int .i64 x.2.2.2.2]) (H.ev rfl) (block_range k1) (by kernel_rfl) s33 rfl) ?_; refine kl H rfl fun a H => ?_
                refine wl_call _ _ _ (take_any _ N (.slice As1 L'.length cs1) L' x rs1 (by omega) hx.1 hx.2) (r_call2 cf12 (H.ev rfl) (H.ev rfl)) ?_; rintro e w9 ⟨⟨s2, o2, rfl, ⟨rs2, fs2⟩, ⟨ro2, fo2⟩⟩, hb⟩; refine ⟨_, rfl, ?_⟩; rw [HT2.out] at rs2 ro2 ⊢; replace k0 := Block.ups k0 hb; replace k1 := Block.ups k1 hb; replace k2 := Block.ups k2 hb; replace rs1 := Row.up rs1 hb; replace hall := hall.trans (hb.mono hall.size); clear hb; clear fs2 fo2; obtain ⟨As2, cs2, hsv, s1, s2, s3, s4⟩ := rs2; have rs2 : IRow _ (.slice As2 L'.length cs2) L' := ⟨As2, cs2, rfl, s1, s2, s3, s4⟩; subst hsv; obtain ⟨Ao2, co2, hov, u1, u2, u3, u4⟩ := ro2; have ro2 : NRow _ (.slice Ao2 0 co2) ([] : List Nt) := ⟨Ao2, co2, rfl, u1, u2, u3, u4⟩; simp only [List.length_nil] at hov; subst hov; clear s1 s2 s3 s4 u1 u2 u3 u4; refine kl H rfl fun a H => ?_
                refine wl_v _ (r_move (H.ev rfl)) ?_; refine kl H rfl fun a H => ?_
                refine wl_v _ (r_extract (v := .agg #[.int .i64 N, .slice As2 L'.length cs2]) (H.ev rfl) rfl) ?_; refine kl H rfl fun a H => ?_
                refine wl_v _ (r_extract (v := .slice Ao2 0 co2) (H.ev rfl) rfl) ?_; refine kl H rfl fun a H => ?_
                refine op_new 24 13 (.tmp 84) #[.int .i64 N, .slice As2 L'.length cs2] _ z24 s24 rfl (by simp [Value.cells, Value.oneCell']) (fun p => (H.put 13 p rfl).ev rfl) (fun p => (H.put 13 p rfl).ev rfl) fun w12 b12 hge hb k12 => ?_; have g12 := Nat.le_trans hall.size hge; replace k0 := Block.ups k0 hb; replace k1 := Block.ups k1 hb; replace k2 := Block.ups k2 hb; replace rs1 := Row.up rs1 hb; replace rs2 := Row.up rs2 hb; replace ro2 := Row.up ro2 hb; replace hall := hall.trans (hb.mono hall.size); clear hb; clear hge; refine kl H rfl fun a H => ?_
                refine wl_v _ (r_assign (H.ev rfl)) ?_; refine kl H rfl fun a H => ?_
                refine wpList_nil ?_
                refine c_next ?_
                refine wp_seq ?_
                refine wp_region_lit ?_
                refine wl_v _ (r_move (H.ev rfl)) ?_; refine kl H rfl fun a H => ?_
                refine wl_v _ (r_move (H.ev rfl)) ?_; refine kl H rfl fun a H => ?_
                refine op_unguard _ _ (kg_yes rfl H rfl rfl rfl) ?_; refine wl_v _ (r_move (H.ev rfl)) ?_; refine kl H rfl fun a H => ?_
                refine op_unguard _ _ (kg_yes rfl H rfl rfl rfl) ?_; refine wl_v _ (r_fld (q := 0) fld24_0 (H.ev rfl) rfl) ?_; refine kl H rfl fun a H => ?_
                refine op_unguard _ _ (kg_yes rfl H rfl rfl rfl) ?_; refine wl_v _ (r_ld Try.underlying3 rfl (H.ev rfl) ((Block.cell k2 0).trans rfl)) ?_; refine kl H rfl fun a H => ?_
                refine op_unguard _ _ (kg_yes rfl H rfl rfl rfl) ?_; refine wl_v _ (r_sub (q := N - 1) Try.underlying3 (H.ev rfl) evc (by omega) (by omega)) ?_; refine kl H rfl fun a H => ?_
                refine op_unguard _ _ (kg_yes rfl H rfl rfl rfl) ?_; refine wl_v _ (r_eq Try.underlying3 (H.ev rfl) (H.ev rfl) (dec_t (by omega))) ?_; refine kl H rfl fun a H => ?_
                refine wl_v _ (r_pick_t (H.ev rfl) (H.ev rfl)) ?_; refine kl H rfl fun a H => ?_
                refine wl_v _ (r_move (H.ev rfl)) ?_; refine kl H rfl fun a H => ?_
                refine op_unguard _ _ (kg_yes rfl H rfl rfl rfl) ?_; refine wl_v _ (r_move (H.ev rfl)) ?_; refine kl H rfl fun a H => ?_
                by_cases hcc32 : ((sk : Nat) : Int) ≥ 0
                · skip
                  refine op_unguard _ _ (kg_yes rfl H rfl rfl rfl) ?_; refine wl_v _ (r_ge Try.underlying3 (H.ev rfl) evc (dec_t (hcc32))) ?_; refine kl H rfl fun a H => ?_
                  refine wl_v _ (r_pick_t (H.ev rfl) (H.ev rfl)) ?_; refine kl H rfl fun a H => ?_
                  refine wl_v _ (r_move (H.ev rfl)) ?_; refine kl H rfl fun a H => ?_
                  refine op_unguard _ _ (kg_yes rfl H rfl rfl rfl) ?_; refine wl_v _ (r_move (H.ev rfl)) ?_; refine kl H rfl fun a H => ?_
                  by_cases hcc33 : ((sk : Nat) : Int) < 128
                  · skip
                    refine op_unguard _ _ (kg_yes rfl H rfl rfl rfl) ?_; refine wl_v _ (r_lt Try.underlying3 (H.ev rfl) evc (dec_t (hcc33))) ?_; refine kl H rfl fun a H => ?_
                    refine wl_v _ (r_pick_t (H.ev rfl) (H.ev rfl)) ?_; refine kl H rfl fun a H => ?_
                    refine wl_v _ (r_move (H.ev rfl)) ?_; refine kl H rfl fun a H => ?_
                    refine op_unguard _ _ (kg_yes rfl H rfl rfl rfl) ?_; refine wl_v _ (r_move (H.ev rfl)) ?_; refine kl H rfl fun a H => ?_
                    refine op_unguard _ _ (kg_yes rfl H rfl rfl rfl) ?_; refine wl_v _ (r_move (H.ev rfl)) ?_; refine kl H rfl fun a H => ?_
                    refine op_unguard _ _ (kg_yes rfl H rfl rfl rfl) ?_; refine wl_v _ (r_beq Try.underlying4 (H.ev rfl) (H.ev rfl) rfl) ?_; refine kl H rfl fun a H => ?_
                    refine wl_v _ (r_pick_t (H.ev rfl) (H.ev rfl)) ?_; refine kl H rfl fun a H => ?_
                    refine wl_v _ (r_move (H.ev rfl)) ?_; refine kl H rfl fun a H => ?_
                    refine wl_s (kg_no rfl H rfl rfl rfl) ?_; refine kl H rfl fun a H => ?_
                    refine wl_s (kg_no rfl H rfl rfl rfl) ?_; refine kl H rfl fun a H => ?_
                    refine wl_s (kg_no rfl H rfl rfl rfl) ?_; refine kl H rfl fun a H => ?_
                    refine wl_v _ (r_pick_f (H.ev rfl) evc) ?_; refine kl H rfl fun a H => ?_
                    refine wl_v _ (r_move (H.ev rfl)) ?_; refine kl H rfl fun a H => ?_
                    refine wl_s (kg_no rfl H rfl rfl rfl) ?_; refine kl H rfl fun a H => ?_
                    refine wl_s (kg_no rfl H rfl rfl rfl) ?_; refine kl H rfl fun a H => ?_
                    refine wl_s (kg_no rfl H rfl rfl rfl) ?_; refine kl H rfl fun a H => ?_
                    refine wl_v _ (r_pick_f (H.ev rfl) evc) ?_; refine kl H rfl fun a H => ?_
                    refine wl_v _ (r_assign (H.ev rfl)) ?_; refine kl H rfl fun a H => ?_
                    refine wpList_nil ?_
                    refine c_next ?_
                    refine wp_ret ?_
                    exfalso; omega
                  · skip
                    refine op_unguard _ _ (kg_yes rfl H rfl rfl rfl) ?_; refine wl_v _ (r_lt Try.underlying3 (H.ev rfl) evc (dec_f (hcc33))) ?_; refine kl H rfl fun a H => ?_
                    refine wl_v _ (r_pick_t (H.ev rfl) (H.ev rfl)) ?_; refine kl H rfl fun a H => ?_
                    refine wl_v _ (r_move (H.ev rfl)) ?_; refine kl H rfl fun a H => ?_
                    refine wl_s (kg_no rfl H rfl rfl rfl) ?_; refine kl H rfl fun a H => ?_
                    refine wl_s (kg_no rfl H rfl rfl rfl) ?_; refine kl H rfl fun a H => ?_
                    refine wl_s (kg_no rfl H rfl rfl rfl) ?_; refine kl H rfl fun a H => ?_
                    refine wl_v _ (r_pick_f (H.ev rfl) evc) ?_; refine kl H rfl fun a H => ?_
                    refine wl_v _ (r_move (H.ev rfl)) ?_; refine kl H rfl fun a H => ?_
                    refine wl_s (kg_no rfl H rfl rfl rfl) ?_; refine kl H rfl fun a H => ?_
                    refine wl_s (kg_no rfl H rfl rfl rfl) ?_; refine kl H rfl fun a H => ?_
                    refine wl_s (kg_no rfl H rfl rfl rfl) ?_; refine kl H rfl fun a H => ?_
                    refine wl_v _ (r_pick_f (H.ev rfl) evc) ?_; refine kl H rfl fun a H => ?_
                    refine wl_v _ (r_move (H.ev rfl)) ?_; refine kl H rfl fun a H => ?_
                    refine wl_s (kg_no rfl H rfl rfl rfl) ?_; refine kl H rfl fun a H => ?_
                    refine wl_s (kg_no rfl H rfl rfl rfl) ?_; refine kl H rfl fun a H => ?_
                    refine wl_s (kg_no rfl H rfl rfl rfl) ?_; refine kl H rfl fun a H => ?_
                    refine wl_v _ (r_pick_f (H.ev rfl) evc) ?_; refine kl H rfl fun a H => ?_
                    refine wl_v _ (r_assign (H.ev rfl)) ?_; refine kl H rfl fun a H => ?_
                    refine wpList_nil ?_
                    refine c_next ?_
                    refine wp_ret ?_
                    exfalso; omega
                · skip
                  refine op_unguard _ _ (kg_yes rfl H rfl rfl rfl) ?_; refine wl_v _ (r_ge Try.underlying3 (H.ev rfl) evc (dec_f (hcc32))) ?_; refine kl H rfl fun a H => ?_
                  refine wl_v _ (r_pick_t (H.ev rfl) (H.ev rfl)) ?_; refine kl H rfl fun a H => ?_
                  refine wl_v _ (r_move (H.ev rfl)) ?_; refine kl H rfl fun a H => ?_
                  refine wl_s (kg_no rfl H rfl rfl rfl) ?_; refine kl H rfl fun a H => ?_
                  refine wl_s (kg_no rfl H rfl rfl rfl) ?_; refine kl H rfl fun a H => ?_
                  refine wl_v _ (r_pick_f (H.ev rfl) evc) ?_; refine kl H rfl fun a H => ?_
                  refine wl_v _ (r_move (H.ev rfl)) ?_; refine kl H rfl fun a H => ?_
                  refine wl_s (kg_no rfl H rfl rfl rfl) ?_; refine kl H rfl fun a H => ?_
                  refine wl_s (kg_no rfl H rfl rfl rfl) ?_; refine kl H rfl fun a H => ?_
                  refine wl_s (kg_no rfl H rfl rfl rfl) ?_; refine kl H rfl fun a H => ?_
                  refine wl_v _ (r_pick_f (H.ev rfl) evc) ?_; refine kl H rfl fun a H => ?_
                  refine wl_v _ (r_move (H.ev rfl)) ?_; refine kl H rfl fun a H => ?_
                  refine wl_s (kg_no rfl H rfl rfl rfl) ?_; refine kl H rfl fun a H => ?_
                  refine wl_s (kg_no rfl H rfl rfl rfl) ?_; refine kl H rfl fun a H => ?_
                  refine wl_s (kg_no rfl H rfl rfl rfl) ?_; refine kl H rfl fun a H => ?_
                  refine wl_v _ (r_pick_f (H.ev rfl) evc) ?_; refine kl H rfl fun a H => ?_
                  refine wl_v _ (r_move (H.ev rfl)) ?_; refine kl H rfl fun a H => ?_
                  refine wl_s (kg_no rfl H rfl rfl rfl) ?_; refine kl H rfl fun a H => ?_
                  refine wl_s (kg_no rfl H rfl rfl rfl) ?_; refine kl H rfl fun a H => ?_
                  refine wl_s (kg_no rfl H rfl rfl rfl) ?_; refine kl H rfl fun a H => ?_
                  refine wl_v _ (r_pick_f (H.ev rfl) evc) ?_; refine kl H rfl fun a H => ?_
                  refine wl_v _ (r_assign (H.ev rfl)) ?_; refine kl H rfl fun a H => ?_
                  refine wpList_nil ?_
                  refine c_next ?_
                  refine wp_ret ?_
                  exfalso; omega
              · skip
                refine op_unguard _ _ (kg_yes rfl H rfl rfl rfl) ?_; refine wl_v _ (r_lt Try.underlying3 (H.ev rfl) evc (dec_f (hcc31))) ?_; refine kl H rfl fun a H => ?_
                refine op_unguard _ _ (kg_yes rfl H rfl rfl rfl) ?_; refine wl_v _ (r_pick_t (H.ev rfl) (H.ev rfl)) ?_; refine kl H rfl fun a H => ?_
                refine wl_v _ (r_pick_f (H.ev rfl) (H.ev rfl)) ?_; refine kl H rfl fun a H => ?_
                refine wl_v _ (r_assign (H.ev rfl)) ?_; refine kl H rfl fun a H => ?_
                refine wpList_nil ?_
                refine c_next ?_
                refine wp_seq ?_
                refine wp_region_lit ?_
                refine wl_v _ (r_row (cs := [.int .i64 N, .slice As1 L'.length cs1]) (H.ev rfl) (block_range k2) (by kernel_rfl) s24 rfl) ?_; refine kl H rfl fun a H => ?_
                refine wl_v _ (r_row (cs := [.int .i64 x.1, .int .i64 x.2.1, .int .i64 x.2.2.1, .int .i64 x.2.2.2.1, .int .i64 x.2.2.2.2]) (H.ev rfl) (block_range k1) (by kernel_rfl) s33 rfl) ?_; refine kl H rfl fun a H => ?_
                refine wl_call _ _ _ (take_any _ N (.slice As1 L'.length cs1) L' x rs1 (by omega) hx.1 hx.2) (r_call2 cf12 (H.ev rfl) (H.ev rfl)) ?_; rintro e w9 ⟨⟨s2, o2, rfl, ⟨rs2, fs2⟩, ⟨ro2, fo2⟩⟩, hb⟩; refine ⟨_, rfl, ?_⟩; rw [HT2.out] at rs2 ro2 ⊢; replace k0 := Block.ups k0 hb; replace k1 := Block.ups k1 hb; replace k2 := Block.ups k2 hb; replace rs1 := Row.up rs1 hb; replace hall := hall.trans (hb.mono hall.size); clear hb; clear fs2 fo2; obtain ⟨As2, cs2, hsv, s1, s2, s3, s4⟩ := rs2; have rs2 : IRow _ (.slice As2 L'.length cs2) L' := ⟨As2, cs2, rfl, s1, s2, s3, s4⟩; subst hsv; obtain ⟨Ao2, co2, hov, u1, u2, u3, u4⟩ := ro2; have ro2 : NRow _ (.slice Ao2 0 co2) ([] : List Nt) := ⟨Ao2, co2, rfl, u1, u2, u3, u4⟩; simp only [List.length_nil] at hov; subst hov; clear s1 s2 s3 s4 u1 u2 u3 u4; refine kl H rfl fun a H => ?_
                refine wl_v _ (r_move (H.ev rfl)) ?_; refine kl H rfl fun a H => ?_
                refine wl_v _ (r_extract (v := .agg #[.int .i64 N, .slice As2 L'.length cs2]) (H.ev rfl) rfl) ?_; refine kl H rfl fun a H => ?_
                refine wl_v _ (r_extract (v := .slice Ao2 0 co2) (H.ev rfl) rfl) ?_; refine kl H rfl fun a H => ?_
                refine op_new 24 13 (.tmp 84) #[.int .i64 N, .slice As2 L'.length cs2] _ z24 s24 rfl (by simp [Value.cells, Value.oneCell']) (fun p => (H.put 13 p rfl).ev rfl) (fun p => (H.put 13 p rfl).ev rfl) fun w13 b13 hge hb k13 => ?_; have g13 := Nat.le_trans hall.size hge; replace k0 := Block.ups k0 hb; replace k1 := Block.ups k1 hb; replace k2 := Block.ups k2 hb; replace rs1 := Row.up rs1 hb; replace rs2 := Row.up rs2 hb; replace ro2 := Row.up ro2 hb; replace hall := hall.trans (hb.mono hall.size); clear hb; clear hge; refine kl H rfl fun a H => ?_
                refine wl_v _ (r_assign (H.ev rfl)) ?_; refine kl H rfl fun a H => ?_
                refine wpList_nil ?_
                refine c_next ?_
                refine wp_seq ?_
                refine wp_region_lit ?_
                refine wl_v _ (r_move (H.ev rfl)) ?_; refine kl H rfl fun a H => ?_
                refine wl_v _ (r_move (H.ev rfl)) ?_; refine kl H rfl fun a H => ?_
                refine op_unguard _ _ (kg_yes rfl H rfl rfl rfl) ?_; refine wl_v _ (r_move (H.ev rfl)) ?_; refine kl H rfl fun a H => ?_
                refine op_unguard _ _ (kg_yes rfl H rfl rfl rfl) ?_; refine wl_v _ (r_fld (q := 0) fld24_0 (H.ev rfl) rfl) ?_; refine kl H rfl fun a H => ?_
                refine op_unguard _ _ (kg_yes rfl H rfl rfl rfl) ?_; refine wl_v _ (r_ld Try.underlying3 rfl (H.ev rfl) ((Block.cell k2 0).trans rfl)) ?_; refine kl H rfl fun a H => ?_
                refine op_unguard _ _ (kg_yes rfl H rfl rfl rfl) ?_; refine wl_v _ (r_sub (q := N - 1) Try.underlying3 (H.ev rfl) evc (by omega) (by omega)) ?_; refine kl H rfl fun a H => ?_
                refine op_unguard _ _ (kg_yes rfl H rfl rfl rfl) ?_; refine wl_v _ (r_eq Try.underlying3 (H.ev rfl) (H.ev rfl) (dec_t (by omega))) ?_; refine kl H rfl fun a H => ?_
                refine wl_v _ (r_pick_t (H.ev rfl) (H.ev rfl)) ?_; refine kl H rfl fun a H => ?_
                refine wl_v _ (r_move (H.ev rfl)) ?_; refine kl H rfl fun a H => ?_
                refine op_unguard _ _ (kg_yes rfl H rfl rfl rfl) ?_; refine wl_v _ (r_move (H.ev rfl)) ?_; refine kl H rfl fun a H => ?_
                by_cases hcc34 : ((sk : Nat) : Int) ≥ 0
                · skip
                  refine op_unguard _ _ (kg_yes rfl H rfl rfl rfl) ?_; refine wl_v _ (r_ge Try.underlying3 (H.ev rfl) evc (dec_t (hcc34))) ?_; refine kl H rfl fun a H => ?_
                  refine wl_v _ (r_pick_t (H.ev rfl) (H.ev rfl)) ?_; refine kl H rfl fun a H => ?_
                  refine wl_v _ (r_move (H.ev rfl)) ?_; refine kl H rfl fun a H => ?_
                  refine op_unguard _ _ (kg_yes rfl H rfl rfl rfl) ?_; refine wl_v _ (r_move (H.ev rfl)) ?_; refine kl H rfl fun a H => ?_
                  by_cases hcc35 : ((sk : Nat) : Int) < 128
                  · skip
                    refine op_unguard _ _ (kg_yes rfl H rfl rfl rfl) ?_; refine wl_v _ (r_lt Try.underlying3 (H.ev rfl) evc (dec_t (hcc35))) ?_; refine kl H rfl fun a H => ?_
                    refine wl_v _ (r_pick_t (H.ev rfl) (H.ev rfl)) ?_; refine kl H rfl fun a H => ?_
                    refine wl_v _ (r_move (H.ev rfl)) ?_; refine kl H rfl fun a H => ?_
                    refine op_unguard _ _ (kg_yes rfl H rfl rfl rfl) ?_; refine wl_v _ (r_move (H.ev rfl)) ?_; refine kl H rfl fun a H => ?_
                    refine op_unguard _ _ (kg_yes rfl H rfl rfl rfl) ?_; refine wl_v _ (r_move (H.ev rfl)) ?_; refine kl H rfl fun a H => ?_
                    refine op_unguard _ _ (kg_yes rfl H rfl rfl rfl) ?_; refine wl_v _ (r_beq Try.underlying4 (H.ev rfl) (H.ev rfl) rfl) ?_; refine kl H rfl fun a H => ?_
                    refine wl_v _ (r_pick_t (H.ev rfl) (H.ev rfl)) ?_; refine kl H rfl fun a H => ?_
                    refine wl_v _ (r_move (H.ev rfl)) ?_; refine kl H rfl fun a H => ?_
                    refine op_unguard _ _ (kg_yes rfl H rfl rfl rfl) ?_; refine wl_v _ (r_row (cs := [.int .i64 N, .slice As2 L'.length cs2]) (H.ev rfl) (block_range k13) (by kernel_rfl) s24 rfl) ?_; refine kl H rfl fun a H => ?_
                    refine op_unguard _ _ (kg_yes rfl H rfl rfl rfl) ?_; refine wl_v _ (r_row (cs := [.int .i64 N, .slice As1 L'.length cs1]) (H.ev rfl) (block_range k2) (by kernel_rfl) s24 rfl) ?_; refine kl H rfl fun a H => ?_
                    refine op_unguard _ _ (kg_yes rfl H rfl rfl rfl) ?_; refine wl_call _ _ _ (same_any _ N N _ _ L' L' rs2 rs1 (by omega)) (r_call2 cf10 (H.ev rfl) (H.ev rfl)) ?_; rintro e w9 ⟨rfl, hb⟩; refine ⟨_, rfl, ?_⟩; rw [show sameB N L' N L' = true from same_refl]; replace k0 := Block.ups k0 hb; replace k1 := Block.ups k1 hb; replace k2 := Block.ups k2 hb; replace rs1 := Row.up rs1 hb; replace rs2 := Row.up rs2 hb; replace ro2 := Row.up ro2 hb; replace k13 := Block.ups k13 hb; replace hall := hall.trans (hb.mono hall.size); clear hb; refine kl H rfl fun a H => ?_
                    refine wl_v _ (r_pick_t (H.ev rfl) (H.ev rfl)) ?_; refine kl H rfl fun a H => ?_
                    refine wl_v _ (r_move (H.ev rfl)) ?_; refine kl H rfl fun a H => ?_
                    refine op_unguard _ _ (kg_yes rfl H rfl rfl rfl) ?_; refine wl_v _ (r_move (H.ev rfl)) ?_; refine kl H rfl fun a H => ?_
                    refine op_unguard _ _ (kg_yes rfl H rfl rfl rfl) ?_; refine wl_v _ (r_len Try.underlying27 (H.ev rfl)) ?_; refine kl H rfl fun a H => ?_
                    refine op_unguard _ _ (kg_yes rfl H rfl rfl rfl) ?_; refine wl_v _ (r_eq Try.underlying3 (H.ev rfl) evc (dec_t (by omega))) ?_; refine kl H rfl fun a H => ?_
                    refine wl_v _ (r_pick_t (H.ev rfl) (H.ev rfl)) ?_; refine kl H rfl fun a H => ?_
                    refine wl_v _ (r_assign (H.ev rfl)) ?_; refine kl H rfl fun a H => ?_
                    refine wpList_nil ?_
                    refine c_next ?_
                    refine wp_ret ?_
                    exact k_ret1 H rfl rfl ⟨rfl, hall⟩
                  · skip
                    refine op_unguard _ _ (kg_yes rfl H rfl rfl rfl) ?_; refine wl_v _ (r_lt Try.underlying3 (H.ev rfl) evc (dec_f (hcc35))) ?_; refine kl H rfl fun a H => ?_
                    refine wl_v _ (r_pick_t (H.ev rfl) (H.ev rfl)) ?_; refine kl H rfl fun a H => ?_
                    refine wl_v _ (r_move (H.ev rfl)) ?_; refine kl H rfl fun a H => ?_
                    refine wl_s (kg_no rfl H rfl rfl rfl) ?_; refine kl H rfl fun a H => ?_
                    refine wl_s (kg_no rfl H rfl rfl rfl) ?_; refine kl H rfl fun a H => ?_
                    refine wl_s (kg_no rfl H rfl rfl rfl) ?_; refine kl H rfl fun a H => ?_
                    refine wl_v _ (r_pick_f (H.ev rfl) evc) ?_; refine kl H rfl fun a H => ?_
                    refine wl_v _ (r_move (H.ev rfl)) ?_; refine kl H rfl fun a H => ?_
                    refine wl_s (kg_no rfl H rfl rfl rfl) ?_; refine kl H rfl fun a H => ?_
                    refine wl_s (kg_no rfl H rfl rfl rfl) ?_; refine kl H rfl fun a H => ?_
                    refine wl_s (kg_no rfl H rfl rfl rfl) ?_; refine kl H rfl fun a H => ?_
                    refine wl_v _ (r_pick_f (H.ev rfl) evc) ?_; refine kl H rfl fun a H => ?_
                    refine wl_v _ (r_move (H.ev rfl)) ?_; refine kl H rfl fun a H => ?_
                    refine wl_s (kg_no rfl H rfl rfl rfl) ?_; refine kl H rfl fun a H => ?_
                    refine wl_s (kg_no rfl H rfl rfl rfl) ?_; refine kl H rfl fun a H => ?_
                    refine wl_s (kg_no rfl H rfl rfl rfl) ?_; refine kl H rfl fun a H => ?_
                    refine wl_v _ (r_pick_f (H.ev rfl) evc) ?_; refine kl H rfl fun a H => ?_
                    refine wl_v _ (r_assign (H.ev rfl)) ?_; refine kl H rfl fun a H => ?_
                    refine wpList_nil ?_
                    refine c_next ?_
                    refine wp_ret ?_
                    exfalso; omega
                · skip
                  refine op_unguard _ _ (kg_yes rfl H rfl rfl rfl) ?_; refine wl_v _ (r_ge Try.underlying3 (H.ev rfl) evc (dec_f (hcc34))) ?_; refine kl H rfl fun a H => ?_
                  refine wl_v _ (r_pick_t (H.ev rfl) (H.ev rfl)) ?_; refine kl H rfl fun a H => ?_
                  refine wl_v _ (r_move (H.ev rfl)) ?_; refine kl H rfl fun a H => ?_
                  refine wl_s (kg_no rfl H rfl rfl rfl) ?_; refine kl H rfl fun a H => ?_
                  refine wl_s (kg_no rfl H rfl rfl rfl) ?_; refine kl H rfl fun a H => ?_
                  refine wl_v _ (r_pick_f (H.ev rfl) evc) ?_; refine kl H rfl fun a H => ?_
                  refine wl_v _ (r_move (H.ev rfl)) ?_; refine kl H rfl fun a H => ?_
                  refine wl_s (kg_no rfl H rfl rfl rfl) ?_; refine kl H rfl fun a H => ?_
                  refine wl_s (kg_no rfl H rfl rfl rfl) ?_; refine kl H rfl fun a H => ?_
                  refine wl_s (kg_no rfl H rfl rfl rfl) ?_; refine kl H rfl fun a H => ?_
                  refine wl_v _ (r_pick_f (H.ev rfl) evc) ?_; refine kl H rfl fun a H => ?_
                  refine wl_v _ (r_move (H.ev rfl)) ?_; refine kl H rfl fun a H => ?_
                  refine wl_s (kg_no rfl H rfl rfl rfl) ?_; refine kl H rfl fun a H => ?_
                  refine wl_s (kg_no rfl H rfl rfl rfl) ?_; refine kl H rfl fun a H => ?_
                  refine wl_s (kg_no rfl H rfl rfl rfl) ?_; refine kl H rfl fun a H => ?_
                  refine wl_v _ (r_pick_f (H.ev rfl) evc) ?_; refine kl H rfl fun a H => ?_
                  refine wl_v _ (r_move (H.ev rfl)) ?_; refine kl H rfl fun a H => ?_
                  refine wl_s (kg_no rfl H rfl rfl rfl) ?_; refine kl H rfl fun a H => ?_
                  refine wl_s (kg_no rfl H rfl rfl rfl) ?_; refine kl H rfl fun a H => ?_
                  refine wl_s (kg_no rfl H rfl rfl rfl) ?_; refine kl H rfl fun a H => ?_
                  refine wl_v _ (r_pick_f (H.ev rfl) evc) ?_; refine kl H rfl fun a H => ?_
                  refine wl_v _ (r_assign (H.ev rfl)) ?_; refine kl H rfl fun a H => ?_
                  refine wpList_nil ?_
                  refine c_next ?_
                  refine wp_ret ?_
                  exfalso; omega
            · skip
              refine op_unguard _ _ (kg_yes rfl H rfl rfl rfl) ?_; refine wl_v _ (r_lt Try.underlying3 (H.ev rfl) evc (dec_f (hcc30))) ?_; refine kl H rfl fun a H => ?_
              refine op_unguard _ _ (kg_yes rfl H rfl rfl rfl) ?_; refine wl_v _ (r_move (H.ev rfl)) ?_; refine kl H rfl fun a H => ?_
              refine wl_s (kg_no rfl H rfl rfl rfl) ?_; refine kl H rfl fun a H => ?_
              refine wl_s (kg_no rfl H rfl rfl rfl) ?_; refine kl H rfl fun a H => ?_
              refine wl_s (kg_no rfl H rfl rfl rfl) ?_; refine kl H rfl fun a H => ?_
              refine op_unguard _ _ (kg_yes rfl H rfl rfl rfl) ?_; refine wl_v _ (r_pick_f (H.ev rfl) evc) ?_; refine kl H rfl fun a H => ?_
              refine wl_v _ (r_pick_f (H.ev rfl) (H.ev rfl)) ?_; refine kl H rfl fun a H => ?_
              refine wl_v _ (r_assign (H.ev rfl)) ?_; refine kl H rfl fun a H => ?_
              refine wpList_nil ?_
              refine c_next ?_
              refine wp_seq ?_
              refine wp_region_lit ?_
              refine wl_v _ (r_row (cs := [.int .i64 N, .slice As1 L'.length cs1]) (H.ev rfl) (block_range k2) (by kernel_rfl) s24 rfl) ?_; refine kl H rfl fun a H => ?_
              refine wl_v _ (r_row (cs := [.int .i64 x.1, .int .i64 x.2.1, .int .i64 x.2.2.1, .int .i64 x.2.2.2.1, .int .i64 x.2.2.2.2]) (H.ev rfl) (block_range k1) (by kernel_rfl) s33 rfl) ?_; refine kl H rfl fun a H => ?_
              refine wl_call _ _ _ (take_any _ N (.slice As1 L'.length cs1) L' x rs1 (by omega) hx.1 hx.2) (r_call2 cf12 (H.ev rfl) (H.ev rfl)) ?_; rintro e w9 ⟨⟨s2, o2, rfl, ⟨rs2, fs2⟩, ⟨ro2, fo2⟩⟩, hb⟩; refine ⟨_, rfl, ?_⟩; rw [HT2.out] at rs2 ro2 ⊢; replace k0 := Block.ups k0 hb; replace k1 := Block.ups k1 hb; replace k2 := Block.ups k2 hb; replace rs1 := Row.up rs1 hb; replace hall := hall.trans (hb.mono hall.size); clear hb; clear fs2 fo2; obtain ⟨As2, cs2, hsv, s1, s2, s3, s4⟩ := rs2; have rs2 : IRow _ (.slice As2 L'.length cs2) L' := ⟨As2, cs2, rfl, s1, s2, s3, s4⟩; subst hsv; obtain ⟨Ao2, co2, hov, u1, u2, u3, u4⟩ := ro2; have ro2 : NRow _ (.slice Ao2 0 co2) ([] : List Nt) := ⟨Ao2, co2, rfl, u1, u2, u3, u4⟩; simp only [List.length_nil] at hov; subst hov; clear s1 s2 s3 s4 u1 u2 u3 u4; refine kl H rfl fun a H => ?_
              refine wl_v _ (r_move (H.ev rfl)) ?_; refine kl H rfl fun a H => ?_
              refine wl_v _ (r_extract (v := .agg #[.int .i64 N, .slice As2 L'.length cs2]) (H.ev rfl) rfl) ?_; refine kl H rfl fun a H => ?_
              refine wl_v _ (r_extract (v := .slice Ao2 0 co2) (H.ev rfl) rfl) ?_; refine kl H rfl fun a H => ?_
              refine op_new 24 13 (.tmp 84) #[.int .i64 N, .slice As2 L'.length cs2] _ z24 s24 rfl (by simp [Value.cells, Value.oneCell']) (fun p => (H.put 13 p rfl).ev rfl) (fun p => (H.put 13 p rfl).ev rfl) fun w14 b14 hge hb k14 => ?_; have g14 := Nat.le_trans hall.size hge; replace k0 := Block.ups k0 hb; replace k1 := Block.ups k1 hb; replace k2 := Block.ups k2 hb; replace rs1 := Row.up rs1 hb; replace rs2 := Row.up rs2 hb; replace ro2 := Row.up ro2 hb; replace hall := hall.trans (hb.mono hall.size); clear hb; clear hge; refine kl H rfl fun a H => ?_
              refine wl_v _ (r_assign (H.ev rfl)) ?_; refine kl H rfl fun a H => ?_
              refine wpList_nil ?_
              refine c_next ?_
              refine wp_seq ?_
              refine wp_region_lit ?_
              refine wl_v _ (r_move (H.ev rfl)) ?_; refine kl H rfl fun a H => ?_
              refine wl_v _ (r_move (H.ev rfl)) ?_; refine kl H rfl fun a H => ?_
              refine op_unguard _ _ (kg_yes rfl H rfl rfl rfl) ?_; refine wl_v _ (r_move (H.ev rfl)) ?_; refine kl H rfl fun a H => ?_
              refine op_unguard _ _ (kg_yes rfl H rfl rfl rfl) ?_; refine wl_v _ (r_fld (q := 0) fld24_0 (H.ev rfl) rfl) ?_; refine kl H rfl fun a H => ?_
              refine op_unguard _ _ (kg_yes rfl H rfl rfl rfl) ?_; refine wl_v _ (r_ld Try.underlying3 rfl (H.ev rfl) ((Block.cell k2 0).trans rfl)) ?_; refine kl H rfl fun a H => ?_
              refine op_unguard _ _ (kg_yes rfl H rfl rfl rfl) ?_; refine wl_v _ (r_sub (q := N - 1) Try.underlying3 (H.ev rfl) evc (by omega) (by omega)) ?_; refine kl H rfl fun a H => ?_
              refine op_unguard _ _ (kg_yes rfl H rfl rfl rfl) ?_; refine wl_v _ (r_eq Try.underlying3 (H.ev rfl) (H.ev rfl) (dec_t (by omega))) ?_; refine kl H rfl fun a H => ?_
              refine wl_v _ (r_pick_t (H.ev rfl) (H.ev rfl)) ?_; refine kl H rfl fun a H => ?_
              refine wl_v _ (r_move (H.ev rfl)) ?_; refine kl H rfl fun a H => ?_
              refine op_unguard _ _ (kg_yes rfl H rfl rfl rfl) ?_; refine wl_v _ (r_move (H.ev rfl)) ?_; refine kl H rfl fun a H => ?_
              by_cases hcc36 : ((sk : Nat) : Int) ≥ 0
              · skip
                refine op_unguard _ _ (kg_yes rfl H rfl rfl rfl) ?_; refine wl_v _ (r_ge Try.underlying3 (H.ev rfl) evc (dec_t (hcc36))) ?_; refine kl H rfl fun a H => ?_
                refine wl_v _ (r_pick_t (H.ev rfl) (H.ev rfl)) ?_; refine kl H rfl fun a H => ?_
                refine wl_v _ (r_move (H.ev rfl)) ?_; refine kl H rfl fun a H => ?_
                refine op_unguard _ _ (kg_yes rfl H rfl rfl rfl) ?_; refine wl_v _ (r_move (H.ev rfl)) ?_; refine kl H rfl fun a H => ?_
                by_cases hcc37 : ((sk : Nat) : Int) < 128
                · skip
                  refine op_unguard _ _ (kg_yes rfl H rfl rfl rfl) ?_; refine wl_v _ (r_lt Try.underlying3 (H.ev rfl) evc (dec_t (hcc37))) ?_; refine kl H rfl fun a H => ?_
                  refine wl_v _ (r_pick_t (H.ev rfl) (H.ev rfl)) ?_; refine kl H rfl fun a H => ?_
                  refine wl_v _ (r_move (H.ev rfl)) ?_; refine kl H rfl fun a H => ?_
                  refine op_unguard _ _ (kg_yes rfl H rfl rfl rfl) ?_; refine wl_v _ (r_move (H.ev rfl)) ?_; refine kl H rfl fun a H => ?_
                  refine op_unguard _ _ (kg_yes rfl H rfl rfl rfl) ?_; refine wl_v _ (r_move (H.ev rfl)) ?_; refine kl H rfl fun a H => ?_
                  refine op_unguard _ _ (kg_yes rfl H rfl rfl rfl) ?_; refine wl_v _ (r_beq Try.underlying4 (H.ev rfl) (H.ev rfl) rfl) ?_; refine kl H rfl fun a H => ?_
                  refine wl_v _ (r_pick_t (H.ev rfl) (H.ev rfl)) ?_; refine kl H rfl fun a H => ?_
                  refine wl_v _ (r_move (H.ev rfl)) ?_; refine kl H rfl fun a H => ?_
                  refine op_unguard _ _ (kg_yes rfl H rfl rfl rfl) ?_; refine wl_v _ (r_row (cs := [.int .i64 N, .slice As2 L'.length cs2]) (H.ev rfl) (block_range k14) (by kernel_rfl) s24 rfl) ?_; refine kl H rfl fun a H => ?_
                  refine op_unguard _ _ (kg_yes rfl H rfl rfl rfl) ?_; refine wl_v _ (r_row (cs := [.int .i64 N, .slice As1 L'.length cs1]) (H.ev rfl) (block_range k2) (by kernel_rfl) s24 rfl) ?_; refine kl H rfl fun a H => ?_
                  refine op_unguard _ _ (kg_yes rfl H rfl rfl rfl) ?_; refine wl_call _ _ _ (same_any _ N N _ _ L' L' rs2 rs1 (by omega)) (r_call2 cf10 (H.ev rfl) (H.ev rfl)) ?_; rintro e w9 ⟨rfl, hb⟩; refine ⟨_, rfl, ?_⟩; rw [show sameB N L' N L' = true from same_refl]; replace k0 := Block.ups k0 hb; replace k1 := Block.ups k1 hb; replace k2 := Block.ups k2 hb; replace rs1 := Row.up rs1 hb; replace rs2 := Row.up rs2 hb; replace ro2 := Row.up ro2 hb; replace k14 := Block.ups k14 hb; replace hall := hall.trans (hb.mono hall.size); clear hb; refine kl H rfl fun a H => ?_
                  refine wl_v _ (r_pick_t (H.ev rfl) (H.ev rfl)) ?_; refine kl H rfl fun a H => ?_
                  refine wl_v _ (r_move (H.ev rfl)) ?_; refine kl H rfl fun a H => ?_
                  refine op_unguard _ _ (kg_yes rfl H rfl rfl rfl) ?_; refine wl_v _ (r_move (H.ev rfl)) ?_; refine kl H rfl fun a H => ?_
                  refine op_unguard _ _ (kg_yes rfl H rfl rfl rfl) ?_; refine wl_v _ (r_len Try.underlying27 (H.ev rfl)) ?_; refine kl H rfl fun a H => ?_
                  refine op_unguard _ _ (kg_yes rfl H rfl rfl rfl) ?_; refine wl_v _ (r_eq Try.underlying3 (H.ev rfl) evc (dec_t (by omega))) ?_; refine kl H rfl fun a H => ?_
                  refine wl_v _ (r_pick_t (H.ev rfl) (H.ev rfl)) ?_; refine kl H rfl fun a H => ?_
                  refine wl_v _ (r_assign (H.ev rfl)) ?_; refine kl H rfl fun a H => ?_
                  refine wpList_nil ?_
                  refine c_next ?_
                  refine wp_ret ?_
                  exact k_ret1 H rfl rfl ⟨rfl, hall⟩
                · skip
                  refine op_unguard _ _ (kg_yes rfl H rfl rfl rfl) ?_; refine wl_v _ (r_lt Try.underlying3 (H.ev rfl) evc (dec_f (hcc37))) ?_; refine kl H rfl fun a H => ?_
                  refine wl_v _ (r_pick_t (H.ev rfl) (H.ev rfl)) ?_; refine kl H rfl fun a H => ?_
                  refine wl_v _ (r_move (H.ev rfl)) ?_; refine kl H rfl fun a H => ?_
                  refine wl_s (kg_no rfl H rfl rfl rfl) ?_; refine kl H rfl fun a H => ?_
                  refine wl_s (kg_no rfl H rfl rfl rfl) ?_; refine kl H rfl fun a H => ?_
                  refine wl_s (kg_no rfl H rfl rfl rfl) ?_; refine kl H rfl fun a H => ?_
                  refine wl_v _ (r_pick_f (H.ev rfl) evc) ?_; refine kl H rfl fun a H => ?_
                  refine wl_v _ (r_move (H.ev rfl)) ?_; refine kl H rfl fun a H => ?_
                  refine wl_s (kg_no rfl H rfl rfl rfl) ?_; refine kl H rfl fun a H => ?_
                  refine wl_s (kg_no rfl H rfl rfl rfl) ?_; refine kl H rfl fun a H => ?_
                  refine wl_s (kg_no rfl H rfl rfl rfl) ?_; refine kl H rfl fun a H => ?_
                  refine wl_v _ (r_pick_f (H.ev rfl) evc) ?_; refine kl H rfl fun a H => ?_
                  refine wl_v _ (r_move (H.ev rfl)) ?_; refine kl H rfl fun a H => ?_
                  refine wl_s (kg_no rfl H rfl rfl rfl) ?_; refine kl H rfl fun a H => ?_
                  refine wl_s (kg_no rfl H rfl rfl rfl) ?_; refine kl H rfl fun a H => ?_
                  refine wl_s (kg_no rfl H rfl rfl rfl) ?_; refine kl H rfl fun a H => ?_
                  refine wl_v _ (r_pick_f (H.ev rfl) evc) ?_; refine kl H rfl fun a H => ?_
                  refine wl_v _ (r_assign (H.ev rfl)) ?_; refine kl H rfl fun a H => ?_
                  refine wpList_nil ?_
                  refine c_next ?_
                  refine wp_ret ?_
                  exfalso; omega
              · skip
                refine op_unguard _ _ (kg_yes rfl H rfl rfl rfl) ?_; refine wl_v _ (r_ge Try.underlying3 (H.ev rfl) evc (dec_f (hcc36))) ?_; refine kl H rfl fun a H => ?_
                refine wl_v _ (r_pick_t (H.ev rfl) (H.ev rfl)) ?_; refine kl H rfl fun a H => ?_
                refine wl_v _ (r_move (H.ev rfl)) ?_; refine kl H rfl fun a H => ?_
                refine wl_s (kg_no rfl H rfl rfl rfl) ?_; refine kl H rfl fun a H => ?_
                refine wl_s (kg_no rfl H rfl rfl rfl) ?_; refine kl H rfl fun a H => ?_
                refine wl_v _ (r_pick_f (H.ev rfl) evc) ?_; refine kl H rfl fun a H => ?_
                refine wl_v _ (r_move (H.ev rfl)) ?_; refine kl H rfl fun a H => ?_
                refine wl_s (kg_no rfl H rfl rfl rfl) ?_; refine kl H rfl fun a H => ?_
                refine wl_s (kg_no rfl H rfl rfl rfl) ?_; refine kl H rfl fun a H => ?_
                refine wl_s (kg_no rfl H rfl rfl rfl) ?_; refine kl H rfl fun a H => ?_
                refine wl_v _ (r_pick_f (H.ev rfl) evc) ?_; refine kl H rfl fun a H => ?_
                refine wl_v _ (r_move (H.ev rfl)) ?_; refine kl H rfl fun a H => ?_
                refine wl_s (kg_no rfl H rfl rfl rfl) ?_; refine kl H rfl fun a H => ?_
                refine wl_s (kg_no rfl H rfl rfl rfl) ?_; refine kl H rfl fun a H => ?_
                refine wl_s (kg_no rfl H rfl rfl rfl) ?_; refine kl H rfl fun a H => ?_
                refine wl_v _ (r_pick_f (H.ev rfl) evc) ?_; refine kl H rfl fun a H => ?_
                refine wl_v _ (r_move (H.ev rfl)) ?_; refine kl H rfl fun a H => ?_
                refine wl_s (kg_no rfl H rfl rfl rfl) ?_; refine kl H rfl fun a H => ?_
                refine wl_s (kg_no rfl H rfl rfl rfl) ?_; refine kl H rfl fun a H => ?_
                refine wl_s (kg_no rfl H rfl rfl rfl) ?_; refine kl H rfl fun a H => ?_
                refine wl_v _ (r_pick_f (H.ev rfl) evc) ?_; refine kl H rfl fun a H => ?_
                refine wl_v _ (r_assign (H.ev rfl)) ?_; refine kl H rfl fun a H => ?_
                refine wpList_nil ?_
                refine c_next ?_
                refine wp_ret ?_
                exfalso; omega
        · skip
          have hyes := hbm.1 rfl
          refine wp_region_lit ?_
          refine wl_v _ (r_fld (q := 0) fld33_0 (H.ev rfl) rfl) ?_; refine kl H rfl fun a H => ?_
          refine wl_v _ (r_ld Try.underlying3 rfl (H.ev rfl) ((Block.cell k1 0).trans rfl)) ?_; refine kl H rfl fun a H => ?_
          refine wl_v _ (r_fld (q := 0) fld24_0 (H.ev rfl) rfl) ?_; refine kl H rfl fun a H => ?_
          refine wl_v _ (r_ld Try.underlying3 rfl (H.ev rfl) ((Block.cell k0 0).trans rfl)) ?_; refine kl H rfl fun a H => ?_
          by_cases hcc38 : x.1 < n
          · skip
            refine wl_v _ (r_lt Try.underlying3 (H.ev rfl) (H.ev rfl) (dec_t (hcc38))) ?_; refine kl H rfl fun a H => ?_
            refine wl_v _ (r_move (H.ev rfl)) ?_; refine kl H rfl fun a H => ?_
            refine wl_s (kg_no rfl H rfl rfl rfl) ?_; refine kl H rfl fun a H => ?_
            refine wl_s (kg_no rfl H rfl rfl rfl) ?_; refine kl H rfl fun a H => ?_
            refine wl_s (kg_no rfl H rfl rfl rfl) ?_; refine kl H rfl fun a H => ?_
            refine wl_s (kg_no rfl H rfl rfl rfl) ?_; refine kl H rfl fun a H => ?_
            refine wl_s (kg_no rfl H rfl rfl rfl) ?_; refine kl H rfl fun a H => ?_
            refine wl_s (kg_no rfl H rfl rfl rfl) ?_; refine kl H rfl fun a H => ?_
            refine wl_s (kg_no rfl H rfl rfl rfl) ?_; refine kl H rfl fun a H => ?_
            refine wl_s (kg_un rfl H rfl rfl rfl) ?_; refine kl H rfl fun a H => ?_
            refine wl_s (kg_un rfl H rfl rfl rfl) ?_; refine kl H rfl fun a H => ?_
            refine wl_s (kg_un rfl H rfl rfl rfl) ?_; refine kl H rfl fun a H => ?_
            refine wl_s (kg_no rfl H rfl rfl rfl) ?_; refine kl H rfl fun a H => ?_
            refine wl_v _ (r_pick_t (H.ev rfl) evc) ?_; refine kl H rfl fun a H => ?_
            refine wl_v _ (r_assign (H.ev rfl)) ?_; refine kl H rfl fun a H => ?_
            refine wpList_nil ?_
            refine c_next ?_
            refine wp_seq ?_
            refine wp_region_lit ?_
            refine wl_v _ (r_row (cs := [.int .i64 N, .slice As1 L'.length cs1]) (H.ev rfl) (block_range k2) (by kernel_rfl) s24 rfl) ?_; refine kl H rfl fun a H => ?_
            refine wl_v _ (r_row (cs := [.int .i64 x.1, .int .i64 x.2.1, .int .i64 x.2.2.1, .int .i64 x.2.2.2.1, .int .i64 x.2.2.2.2]) (H.ev rfl) (block_range k1) (by kernel_rfl) s33 rfl) ?_; refine kl H rfl fun a H => ?_
            refine wl_call _ _ _ (take_any _ N (.slice As1 L'.length cs1) L' x rs1 (by omega) hx.1 hx.2) (r_call2 cf12 (H.ev rfl) (H.ev rfl)) ?_; rintro e w9 ⟨⟨s2, o2, rfl, ⟨rs2, fs2⟩, ⟨ro2, fo2⟩⟩, hb⟩; refine ⟨_, rfl, ?_⟩; rw [HT2.out] at rs2 ro2 ⊢; replace k0 := Block.ups k0 hb; replace k1 := Block.ups k1 hb; replace k2 := Block.ups k2 hb; replace rs1 := Row.up rs1 hb; replace hall := hall.trans (hb.mono hall.size); clear hb; clear fs2 fo2; obtain ⟨As2, cs2, hsv, s1, s2, s3, s4⟩ := rs2; have rs2 : IRow _ (.slice As2 L'.length cs2) L' := ⟨As2, cs2, rfl, s1, s2, s3, s4⟩; subst hsv; obtain ⟨Ao2, co2, hov, u1, u2, u3, u4⟩ := ro2; have ro2 : NRow _ (.slice Ao2 0 co2) ([] : List Nt) := ⟨Ao2, co2, rfl, u1, u2, u3, u4⟩; simp only [List.length_nil] at hov; subst hov; clear s1 s2 s3 s4 u1 u2 u3 u4; refine kl H rfl fun a H => ?_
            refine wl_v _ (r_move (H.ev rfl)) ?_; refine kl H rfl fun a H => ?_
            refine wl_v _ (r_extract (v := .agg #[.int .i64 N, .slice As2 L'.length cs2]) (H.ev rfl) rfl) ?_; refine kl H rfl fun a H => ?_
            refine wl_v _ (r_extract (v := .slice Ao2 0 co2) (H.ev rfl) rfl) ?_; refine kl H rfl fun a H => ?_
            refine op_new 24 13 (.tmp 84) #[.int .i64 N, .slice As2 L'.length cs2] _ z24 s24 rfl (by simp [Value.cells, Value.oneCell']) (fun p => (H.put 13 p rfl).ev rfl) (fun p => (H.put 13 p rfl).ev rfl) fun w15 b15 hge hb k15 => ?_; have g15 := Nat.le_trans hall.size hge; replace k0 := Block.ups k0 hb; replace k1 := Block.ups k1 hb; replace k2 := Block.ups k2 hb; replace rs1 := Row.up rs1 hb; replace rs2 := Row.up rs2 hb; replace ro2 := Row.up ro2 hb; replace hall := hall.trans (hb.mono hall.size); clear hb; clear hge; refine kl H rfl fun a H => ?_
            refine wl_v _ (r_assign (H.ev rfl)) ?_; refine kl H rfl fun a H => ?_
            refine wpList_nil ?_
            refine c_next ?_
            refine wp_seq ?_
            refine wp_region_lit ?_
            refine wl_v _ (r_move (H.ev rfl)) ?_; refine kl H rfl fun a H => ?_
            refine wl_v _ (r_move (H.ev rfl)) ?_; refine kl H rfl fun a H => ?_
            refine op_unguard _ _ (kg_yes rfl H rfl rfl rfl) ?_; refine wl_v _ (r_move (H.ev rfl)) ?_; refine kl H rfl fun a H => ?_
            refine op_unguard _ _ (kg_yes rfl H rfl rfl rfl) ?_; refine wl_v _ (r_fld (q := 0) fld24_0 (H.ev rfl) rfl) ?_; refine kl H rfl fun a H => ?_
            refine op_unguard _ _ (kg_yes rfl H rfl rfl rfl) ?_; refine wl_v _ (r_ld Try.underlying3 rfl (H.ev rfl) ((Block.cell k2 0).trans rfl)) ?_; refine kl H rfl fun a H => ?_
            refine op_unguard _ _ (kg_yes rfl H rfl rfl rfl) ?_; refine wl_v _ (r_sub (q := N - 1) Try.underlying3 (H.ev rfl) evc (by omega) (by omega)) ?_; refine kl H rfl fun a H => ?_
            refine op_unguard _ _ (kg_yes rfl H rfl rfl rfl) ?_; refine wl_v _ (r_eq Try.underlying3 (H.ev rfl) (H.ev rfl) (dec_t (by omega))) ?_; refine kl H rfl fun a H => ?_
            refine wl_v _ (r_pick_t (H.ev rfl) (H.ev rfl)) ?_; refine kl H rfl fun a H => ?_
            refine wl_v _ (r_move (H.ev rfl)) ?_; refine kl H rfl fun a H => ?_
            refine op_unguard _ _ (kg_yes rfl H rfl rfl rfl) ?_; refine wl_v _ (r_move (H.ev rfl)) ?_; refine kl H rfl fun a H => ?_
            by_cases hcc39 : ((sk : Nat) : Int) ≥ 0
            · skip
              refine op_unguard _ _ (kg_yes rfl H rfl rfl rfl) ?_; refine wl_v _ (r_ge Try.underlying3 (H.ev rfl) evc (dec_t (hcc39))) ?_; refine kl H rfl fun a H => ?_
              refine wl_v _ (r_pick_t (H.ev rfl) (H.ev rfl)) ?_; refine kl H rfl fun a H => ?_
              refine wl_v _ (r_move (H.ev rfl)) ?_; refine kl H rfl fun a H => ?_
              refine op_unguard _ _ (kg_yes rfl H rfl rfl rfl) ?_; refine wl_v _ (r_move (H.ev rfl)) ?_; refine kl H rfl fun a H => ?_
              by_cases hcc40 : ((sk : Nat) : Int) < 128
              · skip
                refine op_unguard _ _ (kg_yes rfl H rfl rfl rfl) ?_; refine wl_v _ (r_lt Try.underlying3 (H.ev rfl) evc (dec_t (hcc40))) ?_; refine kl H rfl fun a H => ?_
                refine wl_v _ (r_pick_t (H.ev rfl) (H.ev rfl)) ?_; refine kl H rfl fun a H => ?_
                refine wl_v _ (r_move (H.ev rfl)) ?_; refine kl H rfl fun a H => ?_
                refine op_unguard _ _ (kg_yes rfl H rfl rfl rfl) ?_; refine wl_v _ (r_move (H.ev rfl)) ?_; refine kl H rfl fun a H => ?_
                refine op_unguard _ _ (kg_yes rfl H rfl rfl rfl) ?_; refine wl_v _ (r_move (H.ev rfl)) ?_; refine kl H rfl fun a H => ?_
                refine op_unguard _ _ (kg_yes rfl H rfl rfl rfl) ?_; refine wl_v _ (r_beq Try.underlying4 (H.ev rfl) (H.ev rfl) rfl) ?_; refine kl H rfl fun a H => ?_
                refine wl_v _ (r_pick_t (H.ev rfl) (H.ev rfl)) ?_; refine kl H rfl fun a H => ?_
                refine wl_v _ (r_move (H.ev rfl)) ?_; refine kl H rfl fun a H => ?_
                refine op_unguard _ _ (kg_yes rfl H rfl rfl rfl) ?_; refine wl_v _ (r_row (cs := [.int .i64 N, .slice As2 L'.length cs2]) (H.ev rfl) (block_range k15) (by kernel_rfl) s24 rfl) ?_; refine kl H rfl fun a H => ?_
                refine op_unguard _ _ (kg_yes rfl H rfl rfl rfl) ?_; refine wl_v _ (r_row (cs := [.int .i64 N, .slice As1 L'.length cs1]) (H.ev rfl) (block_range k2) (by kernel_rfl) s24 rfl) ?_; refine kl H rfl fun a H => ?_
                refine op_unguard _ _ (kg_yes rfl H rfl rfl rfl) ?_; refine wl_call _ _ _ (same_any _ N N _ _ L' L' rs2 rs1 (by omega)) (r_call2 cf10 (H.ev rfl) (H.ev rfl)) ?_; rintro e w9 ⟨rfl, hb⟩; refine ⟨_, rfl, ?_⟩; rw [show sameB N L' N L' = true from same_refl]; replace k0 := Block.ups k0 hb; replace k1 := Block.ups k1 hb; replace k2 := Block.ups k2 hb; replace rs1 := Row.up rs1 hb; replace rs2 := Row.up rs2 hb; replace ro2 := Row.up ro2 hb; replace k15 := Block.ups k15 hb; replace hall := hall.trans (hb.mono hall.size); clear hb; refine kl H rfl fun a H => ?_
                refine wl_v _ (r_pick_t (H.ev rfl) (H.ev rfl)) ?_; refine kl H rfl fun a H => ?_
                refine wl_v _ (r_move (H.ev rfl)) ?_; refine kl H rfl fun a H => ?_
                refine op_unguard _ _ (kg_yes rfl H rfl rfl rfl) ?_; refine wl_v _ (r_move (H.ev rfl)) ?_; refine kl H rfl fun a H => ?_
                refine op_unguard _ _ (kg_yes rfl H rfl rfl rfl) ?_; refine wl_v _ (r_len Try.underlying27 (H.ev rfl)) ?_; refine kl H rfl fun a H => ?_
                refine op_unguard _ _ (kg_yes rfl H rfl rfl rfl) ?_; refine wl_v _ (r_eq Try.underlying3 (H.ev rfl) evc (dec_t (by omega))) ?_; refine kl H rfl fun a H => ?_
                refine wl_v _ (r_pick_t (H.ev rfl) (H.ev rfl)) ?_; refine kl H rfl fun a H => ?_
                refine wl_v _ (r_assign (H.ev rfl)) ?_; refine kl H rfl fun a H => ?_
                refine wpList_nil ?_
                refine c_next ?_
                refine wp_ret ?_
                exact k_ret1 H rfl rfl ⟨rfl, hall⟩
              · skip
                refine op_unguard _ _ (kg_yes rfl H rfl rfl rfl) ?_; refine wl_v _ (r_lt Try.underlying3 (H.ev rfl) evc (dec_f (hcc40))) ?_; refine kl H rfl fun a H => ?_
                refine wl_v _ (r_pick_t (H.ev rfl) (H.ev rfl)) ?_; refine kl H rfl fun a H => ?_
                refine wl_v _ (r_move (H.ev rfl)) ?_; refine kl H rfl fun a H => ?_
                refine wl_s (kg_no rfl H rfl rfl rfl) ?_; refine kl H rfl fun a H => ?_
                refine wl_s (kg_no rfl H rfl rfl rfl) ?_; refine kl H rfl fun a H => ?_
                refine wl_s (kg_no rfl H rfl rfl rfl) ?_; refine kl H rfl fun a H => ?_
                refine wl_v _ (r_pick_f (H.ev rfl) evc) ?_; refine kl H rfl fun a H => ?_
                refine wl_v _ (r_move (H.ev rfl)) ?_; refine kl H rfl fun a H => ?_
                refine wl_s (kg_no rfl H rfl rfl rfl) ?_; refine kl H rfl fun a H => ?_
                refine wl_s (kg_no rfl H rfl rfl rfl) ?_; refine kl H rfl fun a H => ?_
                refine wl_s (kg_no rfl H rfl rfl rfl) ?_; refine kl H rfl fun a H => ?_
                refine wl_v _ (r_pick_f (H.ev rfl) evc) ?_; refine kl H rfl fun a H => ?_
                refine wl_v _ (r_move (H.ev rfl)) ?_; refine kl H rfl fun a H => ?_
                refine wl_s (kg_no rfl H rfl rfl rfl) ?_; refine kl H rfl fun a H => ?_
                refine wl_s (kg_no rfl H rfl rfl rfl) ?_; refine kl H rfl fun a H => ?_
                refine wl_s (kg_no rfl H rfl rfl rfl) ?_; refine kl H rfl fun a H => ?_
                refine wl_v _ (r_pick_f (H.ev rfl) evc) ?_; refine kl H rfl fun a H => ?_
                refine wl_v _ (r_assign (H.ev rfl)) ?_; refine kl H rfl fun a H => ?_
                refine wpList_nil ?_
                refine c_next ?_
                refine wp_ret ?_
                exfalso; omega
            · skip
              refine op_unguard _ _ (kg_yes rfl H rfl rfl rfl) ?_; refine wl_v _ (r_ge Try.underlying3 (H.ev rfl) evc (dec_f (hcc39))) ?_; refine kl H rfl fun a H => ?_
              refine wl_v _ (r_pick_t (H.ev rfl) (H.ev rfl)) ?_; refine kl H rfl fun a H => ?_
              refine wl_v _ (r_move (H.ev rfl)) ?_; refine kl H rfl fun a H => ?_
              refine wl_s (kg_no rfl H rfl rfl rfl) ?_; refine kl H rfl fun a H => ?_
              refine wl_s (kg_no rfl H rfl rfl rfl) ?_; refine kl H rfl fun a H => ?_
              refine wl_v _ (r_pick_f (H.ev rfl) evc) ?_; refine kl H rfl fun a H => ?_
              refine wl_v _ (r_move (H.ev rfl)) ?_; refine kl H rfl fun a H => ?_
              refine wl_s (kg_no rfl H rfl rfl rfl) ?_; refine kl H rfl fun a H => ?_
              refine wl_s (kg_no rfl H rfl rfl rfl) ?_; refine kl H rfl fun a H => ?_
              refine wl_s (kg_no rfl H rfl rfl rfl) ?_; refine kl H rfl fun a H => ?_
              refine wl_v _ (r_pick_f (H.ev rfl) evc) ?_; refine kl H rfl fun a H => ?_
              refine wl_v _ (r_move (H.ev rfl)) ?_; refine kl H rfl fun a H => ?_
              refine wl_s (kg_no rfl H rfl rfl rfl) ?_; refine kl H rfl fun a H => ?_
              refine wl_s (kg_no rfl H rfl rfl rfl) ?_; refine kl H rfl fun a H => ?_
              refine wl_s (kg_no rfl H rfl rfl rfl) ?_; refine kl H rfl fun a H => ?_
              refine wl_v _ (r_pick_f (H.ev rfl) evc) ?_; refine kl H rfl fun a H => ?_
              refine wl_v _ (r_move (H.ev rfl)) ?_; refine kl H rfl fun a H => ?_
              refine wl_s (kg_no rfl H rfl rfl rfl) ?_; refine kl H rfl fun a H => ?_
              refine wl_s (kg_no rfl H rfl rfl rfl) ?_; refine kl H rfl fun a H => ?_
              refine wl_s (kg_no rfl H rfl rfl rfl) ?_; refine kl H rfl fun a H => ?_
              refine wl_v _ (r_pick_f (H.ev rfl) evc) ?_; refine kl H rfl fun a H => ?_
              refine wl_v _ (r_assign (H.ev rfl)) ?_; refine kl H rfl fun a H => ?_
              refine wpList_nil ?_
              refine c_next ?_
              refine wp_ret ?_
              exfalso; omega
          · skip
            refine wl_v _ (r_lt Try.underlying3 (H.ev rfl) (H.ev rfl) (dec_f (hcc38))) ?_; refine kl H rfl fun a H => ?_
            refine wl_v _ (r_move (H.ev rfl)) ?_; refine kl H rfl fun a H => ?_
            refine op_unguard _ _ (kg_yes rfl H rfl rfl rfl) ?_; refine wl_v _ (r_fld (q := 0) fld33_0 (H.ev rfl) rfl) ?_; refine kl H rfl fun a H => ?_
            refine op_unguard _ _ (kg_yes rfl H rfl rfl rfl) ?_; refine wl_v _ (r_ld Try.underlying3 rfl (H.ev rfl) ((Block.cell k1 0).trans rfl)) ?_; refine kl H rfl fun a H => ?_
            refine op_unguard _ _ (kg_yes rfl H rfl rfl rfl) ?_; refine wl_v _ (r_fld (q := 0) fld24_0 (H.ev rfl) rfl) ?_; refine kl H rfl fun a H => ?_
            refine op_unguard _ _ (kg_yes rfl H rfl rfl rfl) ?_; refine wl_v _ (r_ld Try.underlying3 rfl (H.ev rfl) ((Block.cell k0 0).trans rfl)) ?_; refine kl H rfl fun a H => ?_
            refine op_unguard _ _ (kg_yes rfl H rfl rfl rfl) ?_; refine wl_v _ (r_sub (q := x.1 - n) Try.underlying3 (H.ev rfl) (H.ev rfl) (by omega) (by omega)) ?_; refine kl H rfl fun a H => ?_
            by_cases hcc41 : (x.1 - n) < 8
            · skip
              refine op_unguard _ _ (kg_yes rfl H rfl rfl rfl) ?_; refine wl_v _ (r_lt Try.underlying3 (H.ev rfl) evc (dec_t (hcc41))) ?_; refine kl H rfl fun a H => ?_
              refine op_unguard _ _ (kg_yes rfl H rfl rfl rfl) ?_; refine wl_v _ (r_move (H.ev rfl)) ?_; refine kl H rfl fun a H => ?_
              refine op_unguard _ _ (kg_yes rfl H rfl rfl rfl) ?_; refine wl_v _ (r_fld (q := 0) fld33_0 (H.ev rfl) rfl) ?_; refine kl H rfl fun a H => ?_
              refine op_unguard _ _ (kg_yes rfl H rfl rfl rfl) ?_; refine wl_v _ (r_ld Try.underlying3 rfl (H.ev rfl) ((Block.cell k1 0).trans rfl)) ?_; refine kl H rfl fun a H => ?_
              by_cases hcc42 : x.1 < 1073741824
              · skip
                refine op_unguard _ _ (kg_yes rfl H rfl rfl rfl) ?_; refine wl_v _ (r_lt Try.underlying3 (H.ev rfl) evc (dec_t (hcc42))) ?_; refine kl H rfl fun a H => ?_
                refine op_unguard _ _ (kg_yes rfl H rfl rfl rfl) ?_; refine wl_v _ (r_pick_t (H.ev rfl) (H.ev rfl)) ?_; refine kl H rfl fun a H => ?_
                refine wl_v _ (r_pick_f (H.ev rfl) (H.ev rfl)) ?_; refine kl H rfl fun a H => ?_
                refine wl_v _ (r_assign (H.ev rfl)) ?_; refine kl H rfl fun a H => ?_
                refine wpList_nil ?_
                refine c_next ?_
                refine wp_seq ?_
                refine wp_region_lit ?_
                refine wl_v _ (r_row (cs := [.int .i64 N, .slice As1 L'.length cs1]) (H.ev rfl) (block_range k2) (by kernel_rfl) s24 rfl) ?_; refine kl H rfl fun a H => ?_
                refine wl_v _ (r_row (cs := [.int .i64 x.1, .int .i64 x.2.1, .int .i64 x.2.2.1, .int .i64 x.2.2.2.1, .int .i64 x.2.2.2.2]) (H.ev rfl) (block_range k1) (by kernel_rfl) s33 rfl) ?_; refine kl H rfl fun a H => ?_
                refine wl_call _ _ _ (take_any _ N (.slice As1 L'.length cs1) L' x rs1 (by omega) hx.1 hx.2) (r_call2 cf12 (H.ev rfl) (H.ev rfl)) ?_; rintro e w9 ⟨⟨s2, o2, rfl, ⟨rs2, fs2⟩, ⟨ro2, fo2⟩⟩, hb⟩; refine ⟨_, rfl, ?_⟩; rw [HT2.out] at rs2 ro2 ⊢; replace k0 := Block.ups k0 hb; replace k1 := Block.ups k1 hb; replace k2 := Block.ups k2 hb; replace rs1 := Row.up rs1 hb; replace hall := hall.trans (hb.mono hall.size); clear hb; clear fs2 fo2; obtain ⟨As2, cs2, hsv, s1, s2, s3, s4⟩ := rs2; have rs2 : IRow _ (.slice As2 L'.length cs2) L' := ⟨As2, cs2, rfl, s1, s2, s3, s4⟩; subst hsv; obtain ⟨Ao2, co2, hov, u1, u2, u3, u4⟩ := ro2; have ro2 : NRow _ (.slice Ao2 0 co2) ([] : List Nt) := ⟨Ao2, co2, rfl, u1, u2, u3, u4⟩; simp only [List.length_nil] at hov; subst hov; clear s1 s2 s3 s4 u1 u2 u3 u4; refine kl H rfl fun a H => ?_
                refine wl_v _ (r_move (H.ev rfl)) ?_; refine kl H rfl fun a H => ?_
                refine wl_v _ (r_extract (v := .agg #[.int .i64 N, .slice As2 L'.length cs2]) (H.ev rfl) rfl) ?_; refine kl H rfl fun a H => ?_
                refine wl_v _ (r_extract (v := .slice Ao2 0 co2) (H.ev rfl) rfl) ?_; refine kl H rfl fun a H => ?_
                refine op_new 24 13 (.tmp 84) #[.int .i64 N, .slice As2 L'.length cs2] _ z24 s24 rfl (by simp [Value.cells, Value.oneCell']) (fun p => (H.put 13 p rfl).ev rfl) (fun p => (H.put 13 p rfl).ev rfl) fun w16 b16 hge hb k16 => ?_; have g16 := Nat.le_trans hall.size hge; replace k0 := Block.ups k0 hb; replace k1 := Block.ups k1 hb; replace k2 := Block.ups k2 hb; replace rs1 := Row.up rs1 hb; replace rs2 := Row.up rs2 hb; replace ro2 := Row.up ro2 hb; replace hall := hall.trans (hb.mono hall.size); clear hb; clear hge; refine kl H rfl fun a H => ?_
                refine wl_v _ (r_assign (H.ev rfl)) ?_; refine kl H rfl fun a H => ?_
                refine wpList_nil ?_
                refine c_next ?_
                refine wp_seq ?_
                refine wp_region_lit ?_
                refine wl_v _ (r_move (H.ev rfl)) ?_; refine kl H rfl fun a H => ?_
                refine wl_v _ (r_move (H.ev rfl)) ?_; refine kl H rfl fun a H => ?_
                refine op_unguard _ _ (kg_yes rfl H rfl rfl rfl) ?_; refine wl_v _ (r_move (H.ev rfl)) ?_; refine kl H rfl fun a H => ?_
                refine op_unguard _ _ (kg_yes rfl H rfl rfl rfl) ?_; refine wl_v _ (r_fld (q := 0) fld24_0 (H.ev rfl) rfl) ?_; refine kl H rfl fun a H => ?_
                refine op_unguard _ _ (kg_yes rfl H rfl rfl rfl) ?_; refine wl_v _ (r_ld Try.underlying3 rfl (H.ev rfl) ((Block.cell k2 0).trans rfl)) ?_; refine kl H rfl fun a H => ?_
                refine op_unguard _ _ (kg_yes rfl H rfl rfl rfl) ?_; refine wl_v _ (r_sub (q := N - 1) Try.underlying3 (H.ev rfl) evc (by omega) (by omega)) ?_; refine kl H rfl fun a H => ?_
                refine op_unguard _ _ (kg_yes rfl H rfl rfl rfl) ?_; refine wl_v _ (r_eq Try.underlying3 (H.ev rfl) (H.ev rfl) (dec_t (by omega))) ?_; refine kl H rfl fun a H => ?_
                refine wl_v _ (r_pick_t (H.ev rfl) (H.ev rfl)) ?_; refine kl H rfl fun a H => ?_
                refine wl_v _ (r_move (H.ev rfl)) ?_; refine kl H rfl fun a H => ?_
                refine op_unguard _ _ (kg_yes rfl H rfl rfl rfl) ?_; refine wl_v _ (r_move (H.ev rfl)) ?_; refine kl H rfl fun a H => ?_
                by_cases hcc43 : ((sk : Nat) : Int) ≥ 0
                · skip
                  refine op_unguard _ _ (kg_yes rfl H rfl rfl rfl) ?_; refine wl_v _ (r_ge Try.underlying3 (H.ev rfl) evc (dec_t (hcc43))) ?_; refine kl H rfl fun a H => ?_
                  refine wl_v _ (r_pick_t (H.ev rfl) (H.ev rfl)) ?_; refine kl H rfl fun a H => ?_
                  refine wl_v _ (r_move (H.ev rfl)) ?_; refine kl H rfl fun a H => ?_
                  refine op_unguard _ _ (kg_yes rfl H rfl rfl rfl) ?_; refine wl_v _ (r_move (H.ev rfl)) ?_; refine kl H rfl fun a H => ?_
                  by_cases hcc44 : ((sk : Nat) : Int) < 128
                  · skip
                    refine op_unguard _ _ (kg_yes rfl H rfl rfl rfl) ?_; refine wl_v _ (r_lt Try.underlying3 (H.ev rfl) evc (dec_t (hcc44))) ?_; refine kl H rfl fun a H => ?_
                    refine wl_v _ (r_pick_t (H.ev rfl) (H.ev rfl)) ?_; refine kl H rfl fun a H => ?_
                    refine wl_v _ (r_move (H.ev rfl)) ?_; refine kl H rfl fun a H => ?_
                    refine op_unguard _ _ (kg_yes rfl H rfl rfl rfl) ?_; refine wl_v _ (r_move (H.ev rfl)) ?_; refine kl H rfl fun a H => ?_
                    refine op_unguard _ _ (kg_yes rfl H rfl rfl rfl) ?_; refine wl_v _ (r_move (H.ev rfl)) ?_; refine kl H rfl fun a H => ?_
                    refine op_unguard _ _ (kg_yes rfl H rfl rfl rfl) ?_; refine wl_v _ (r_beq Try.underlying4 (H.ev rfl) (H.ev rfl) rfl) ?_; refine kl H rfl fun a H => ?_
                    refine wl_v _ (r_pick_t (H.ev rfl) (H.ev rfl)) ?_; refine kl H rfl fun a H => ?_
                    refine wl_v _ (r_move (H.ev rfl)) ?_; refine kl H rfl fun a H => ?_
                    refine op_unguard _ _ (kg_yes rfl H rfl rfl rfl) ?_; refine wl_v _ (r_row (cs := [.int .i64 N, .slice As2 L'.length cs2]) (H.ev rfl) (block_range k16) (by kernel_rfl) s24 rfl) ?_; refine kl H rfl fun a H => ?_
                    refine op_unguard _ _ (kg_yes rfl H rfl rfl rfl) ?_; refine wl_v _ (r_row (cs := [.int .i64 N, .slice As1 L'.length cs1]) (H.ev rfl) (block_range k2) (by kernel_rfl) s24 rfl) ?_; refine kl H rfl fun a H => ?_
                    refine op_unguard _ _ (kg_yes rfl H rfl rfl rfl) ?_; refine wl_call _ _ _ (same_any _ N N _ _ L' L' rs2 rs1 (by omega)) (r_call2 cf10 (H.ev rfl) (H.ev rfl)) ?_; rintro e w9 ⟨rfl, hb⟩; refine ⟨_, rfl, ?_⟩; rw [show sameB N L' N L' = true from same_refl]; replace k0 := Block.ups k0 hb; replace k1 := Block.ups k1 hb; replace k2 := Block.ups k2 hb; replace rs1 := Row.up rs1 hb; replace rs2 := Row.up rs2 hb; replace ro2 := Row.up ro2 hb; replace k16 := Block.ups k16 hb; replace hall := hall.trans (hb.mono hall.size); clear hb; refine kl H rfl fun a H => ?_
                    refine wl_v _ (r_pick_t (H.ev rfl) (H.ev rfl)) ?_; refine kl H rfl fun a H => ?_
                    refine wl_v _ (r_move (H.ev rfl)) ?_; refine kl H rfl fun a H => ?_
                    refine op_unguard _ _ (kg_yes rfl H rfl rfl rfl) ?_; refine wl_v _ (r_move (H.ev rfl)) ?_; refine kl H rfl fun a H => ?_
                    refine op_unguard _ _ (kg_yes rfl H rfl rfl rfl) ?_; refine wl_v _ (r_len Try.underlying27 (H.ev rfl)) ?_; refine kl H rfl fun a H => ?_
                    refine op_unguard _ _ (kg_yes rfl H rfl rfl rfl) ?_; refine wl_v _ (r_eq Try.underlying3 (H.ev rfl) evc (dec_t (by omega))) ?_; refine kl H rfl fun a H => ?_
                    refine wl_v _ (r_pick_t (H.ev rfl) (H.ev rfl)) ?_; refine kl H rfl fun a H => ?_
                    refine wl_v _ (r_assign (H.ev rfl)) ?_; refine kl H rfl fun a H => ?_
                    refine wpList_nil ?_
                    refine c_next ?_
                    refine wp_ret ?_
                    exact k_ret1 H rfl rfl ⟨rfl, hall⟩
                  · skip
                    refine op_unguard _ _ (kg_yes rfl H rfl rfl rfl) ?_; refine wl_v _ (r_lt Try.underlying3 (H.ev rfl) evc (dec_f (hcc44))) ?_; refine kl H rfl fun a H => ?_
                    refine wl_v _ (r_pick_t (H.ev rfl) (H.ev rfl)) ?_; refine kl H rfl fun a H => ?_
                    refine wl_v _ (r_move (H.ev rfl)) ?_; refine kl H rfl fun a H => ?_
                    refine wl_s (kg_no rfl H rfl rfl rfl) ?_; refine kl H rfl fun a H => ?_
                    refine wl_s (kg_no rfl H rfl rfl rfl) ?_; refine kl H rfl fun a H => ?_
                    refine wl_s (kg_no rfl H rfl rfl rfl) ?_; refine kl H rfl fun a H => ?_
                    refine wl_v _ (r_pick_f (H.ev rfl) evc) ?_; refine kl H rfl fun a H => ?_
                    refine wl_v _ (r_move (H.ev rfl)) ?_; refine kl H rfl fun a H => ?_
                    refine wl_s (kg_no rfl H rfl rfl rfl) ?_; refine kl H rfl fun a H => ?_
                    refine wl_s (kg_no rfl H rfl rfl rfl) ?_; refine kl H rfl fun a H => ?_
                    refine wl_s (kg_no rfl H rfl rfl rfl) ?_; refine kl H rfl fun a H => ?_
                    refine wl_v _ (r_pick_f (H.ev rfl) evc) ?_; refine kl H rfl fun a H => ?_
                    refine wl_v _ (r_move (H.ev rfl)) ?_; refine kl H rfl fun a H => ?_
                    refine wl_s (kg_no rfl H rfl rfl rfl) ?_; refine kl H rfl fun a H => ?_
                    refine wl_s (kg_no rfl H rfl rfl rfl) ?_; refine kl H rfl fun a H => ?_
                    refine wl_s (kg_no rfl H rfl rfl rfl) ?_; refine kl H rfl fun a H => ?_
                    refine wl_v _ (r_pick_f (H.ev rfl) evc) ?_; refine kl H rfl fun a H => ?_
                    refine wl_v _ (r_assign (H.ev rfl)) ?_; refine kl H rfl fun a H => ?_
                    refine wpList_nil ?_
                    refine c_next ?_
                    refine wp_ret ?_
                    exfalso; omega
                · skip
                  refine op_unguard _ _ (kg_yes rfl H rfl rfl rfl) ?_; refine wl_v _ (r_ge Try.underlying3 (H.ev rfl) evc (dec_f (hcc43))) ?_; refine kl H rfl fun a H => ?_
                  refine wl_v _ (r_pick_t (H.ev rfl) (H.ev rfl)) ?_; refine kl H rfl fun a H => ?_
                  refine wl_v _ (r_move (H.ev rfl)) ?_; refine kl H rfl fun a H => ?_
                  refine wl_s (kg_no rfl H rfl rfl rfl) ?_; refine kl H rfl fun a H => ?_
                  refine wl_s (kg_no rfl H rfl rfl rfl) ?_; refine kl H rfl fun a H => ?_
                  refine wl_v _ (r_pick_f (H.ev rfl) evc) ?_; refine kl H rfl fun a H => ?_
                  refine wl_v _ (r_move (H.ev rfl)) ?_; refine kl H rfl fun a H => ?_
                  refine wl_s (kg_no rfl H rfl rfl rfl) ?_; refine kl H rfl fun a H => ?_
                  refine wl_s (kg_no rfl H rfl rfl rfl) ?_; refine kl H rfl fun a H => ?_
                  refine wl_s (kg_no rfl H rfl rfl rfl) ?_; refine kl H rfl fun a H => ?_
                  refine wl_v _ (r_pick_f (H.ev rfl) evc) ?_; refine kl H rfl fun a H => ?_
                  refine wl_v _ (r_move (H.ev rfl)) ?_; refine kl H rfl fun a H => ?_
                  refine wl_s (kg_no rfl H rfl rfl rfl) ?_; refine kl H rfl fun a H => ?_
                  refine wl_s (kg_no rfl H rfl rfl rfl) ?_; refine kl H rfl fun a H => ?_
                  refine wl_s (kg_no rfl H rfl rfl rfl) ?_; refine kl H rfl fun a H => ?_
                  refine wl_v _ (r_pick_f (H.ev rfl) evc) ?_; refine kl H rfl fun a H => ?_
                  refine wl_v _ (r_move (H.ev rfl)) ?_; refine kl H rfl fun a H => ?_
                  refine wl_s (kg_no rfl H rfl rfl rfl) ?_; refine kl H rfl fun a H => ?_
                  refine wl_s (kg_no rfl H rfl rfl rfl) ?_; refine kl H rfl fun a H => ?_
                  refine wl_s (kg_no rfl H rfl rfl rfl) ?_; refine kl H rfl fun a H => ?_
                  refine wl_v _ (r_pick_f (H.ev rfl) evc) ?_; refine kl H rfl fun a H => ?_
                  refine wl_v _ (r_assign (H.ev rfl)) ?_; refine kl H rfl fun a H => ?_
                  refine wpList_nil ?_
                  refine c_next ?_
                  refine wp_ret ?_
                  exfalso; omega
              · skip
                refine op_unguard _ _ (kg_yes rfl H rfl rfl rfl) ?_; refine wl_v _ (r_lt Try.underlying3 (H.ev rfl) evc (dec_f (hcc42))) ?_; refine kl H rfl fun a H => ?_
                refine op_unguard _ _ (kg_yes rfl H rfl rfl rfl) ?_; refine wl_v _ (r_pick_t (H.ev rfl) (H.ev rfl)) ?_; refine kl H rfl fun a H => ?_
                refine wl_v _ (r_pick_f (H.ev rfl) (H.ev rfl)) ?_; refine kl H rfl fun a H => ?_
                refine wl_v _ (r_assign (H.ev rfl)) ?_; refine kl H rfl fun a H => ?_
                refine wpList_nil ?_
                refine c_next ?_
                refine wp_seq ?_
                refine wp_region_lit ?_
                refine wl_v _ (r_row (cs := [.int .i64 N, .slice As1 L'.length cs1]) (H.ev rfl) (block_range k2) (by kernel_rfl) s24 rfl) ?_; refine kl H rfl fun a H => ?_
                refine wl_v _ (r_row (cs := [.int .i64 x.1, .int .i64 x.2.1, .int .i64 x.2.2.1, .int .i64 x.2.2.2.1, .int .i64 x.2.2.2.2]) (H.ev rfl) (block_range k1) (by kernel_rfl) s33 rfl) ?_; refine kl H rfl fun a H => ?_
                refine wl_call _ _ _ (take_any _ N (.slice As1 L'.length cs1) L' x rs1 (by omega) hx.1 hx.2) (r_call2 cf12 (H.ev rfl) (H.ev rfl)) ?_; rintro e w9 ⟨⟨s2, o2, rfl, ⟨rs2, fs2⟩, ⟨ro2, fo2⟩⟩, hb⟩; refine ⟨_, rfl, ?_⟩; rw [HT2.out] at rs2 ro2 ⊢; replace k0 := Block.ups k0 hb; replace k1 := Block.ups k1 hb; replace k2 := Block.ups k2 hb; replace rs1 := Row.up rs1 hb; replace hall := hall.trans (hb.mono hall.size); clear hb; clear fs2 fo2; obtain ⟨As2, cs2, hsv, s1, s2, s3, s4⟩ := rs2; have rs2 : IRow _ (.slice As2 L'.length cs2) L' := ⟨As2, cs2, rfl, s1, s2, s3, s4⟩; subst hsv; obtain ⟨Ao2, co2, hov, u1, u2, u3, u4⟩ := ro2; have ro2 : NRow _ (.slice Ao2 0 co2) ([] : List Nt) := ⟨Ao2, co2, rfl, u1, u2, u3, u4⟩; simp only [List.length_nil] at hov; subst hov; clear s1 s2 s3 s4 u1 u2 u3 u4; refine kl H rfl fun a H => ?_
                refine wl_v _ (r_move (H.ev rfl)) ?_; refine kl H rfl fun a H => ?_
                refine wl_v _ (r_extract (v := .agg #[.int .i64 N, .slice As2 L'.length cs2]) (H.ev rfl) rfl) ?_; refine kl H rfl fun a H => ?_
                refine wl_v _ (r_extract (v := .slice Ao2 0 co2) (H.ev rfl) rfl) ?_; refine kl H rfl fun a H => ?_
                refine op_new 24 13 (.tmp 84) #[.int .i64 N, .slice As2 L'.length cs2] _ z24 s24 rfl (by simp [Value.cells, Value.oneCell']) (fun p => (H.put 13 p rfl).ev rfl) (fun p => (H.put 13 p rfl).ev rfl) fun w17 b17 hge hb k17 => ?_; have g17 := Nat.le_trans hall.size hge; replace k0 := Block.ups k0 hb; replace k1 := Block.ups k1 hb; replace k2 := Block.ups k2 hb; replace rs1 := Row.up rs1 hb; replace rs2 := Row.up rs2 hb; replace ro2 := Row.up ro2 hb; replace hall := hall.trans (hb.mono hall.size); clear hb; clear hge; refine kl H rfl fun a H => ?_
                refine wl_v _ (r_assign (H.ev rfl)) ?_; refine kl H rfl fun a H => ?_
                refine wpList_nil ?_
                refine c_next ?_
                refine wp_seq ?_
                refine wp_region_lit ?_
                refine wl_v _ (r_move (H.ev rfl)) ?_; refine kl H rfl fun a H => ?_
                refine wl_v _ (r_move (H.ev rfl)) ?_; refine kl H rfl fun a H => ?_
                refine op_unguard _ _ (kg_yes rfl H rfl rfl rfl) ?_; refine wl_v _ (r_move (H.ev rfl)) ?_; refine kl H rfl fun a H => ?_
                refine op_unguard _ _ (kg_yes rfl H rfl rfl rfl) ?_; refine wl_v _ (r_fld (q := 0) fld24_0 (H.ev rfl) rfl) ?_; refine kl H rfl fun a H => ?_
                refine op_unguard _ _ (kg_yes rfl H rfl rfl rfl) ?_; refine wl_v _ (r_ld Try.underlying3 rfl (H.ev rfl) ((Block.cell k2 0).trans rfl)) ?_; refine kl H rfl fun a H => ?_
                refine op_unguard _ _ (kg_yes rfl H rfl rfl rfl) ?_; refine wl_v _ (r_sub (q := N - 1) Try.underlying3 (H.ev rfl) evc (by omega) (by omega)) ?_; refine kl H rfl fun a H => ?_
                refine op_unguard _ _ (kg_yes rfl H rfl rfl rfl) ?_; refine wl_v _ (r_eq Try.underlying3 (H.ev rfl) (H.ev rfl) (dec_t (by omega))) ?_; refine kl H rfl fun a H => ?_
                refine wl_v _ (r_pick_t (H.ev rfl) (H.ev rfl)) ?_; refine kl H rfl fun a H => ?_
                refine wl_v _ (r_move (H.ev rfl)) ?_; refine kl H rfl fun a H => ?_
                refine op_unguard _ _ (kg_yes rfl H rfl rfl rfl) ?_; refine wl_v _ (r_move (H.ev rfl)) ?_; refine kl H rfl fun a H => ?_
                by_cases hcc45 : ((sk : Nat) : Int) ≥ 0
                · skip
                  refine op_unguard _ _ (kg_yes rfl H rfl rfl rfl) ?_; refine wl_v _ (r_ge Try.underlying3 (H.ev rfl) evc (dec_t (hcc45))) ?_; refine kl H rfl fun a H => ?_
                  refine wl_v _ (r_pick_t (H.ev rfl) (H.ev rfl)) ?_; refine kl H rfl fun a H => ?_
                  refine wl_v _ (r_move (H.ev rfl)) ?_; refine kl H rfl fun a H => ?_
                  refine op_unguard _ _ (kg_yes rfl H rfl rfl rfl) ?_; refine wl_v _ (r_move (H.ev rfl)) ?_; refine kl H rfl fun a H => ?_
                  by_cases hcc46 : ((sk : Nat) : Int) < 128
                  · skip
                    refine op_unguard _ _ (kg_yes rfl H rfl rfl rfl) ?_; refine wl_v _ (r_lt Try.underlying3 (H.ev rfl) evc (dec_t (hcc46))) ?_; refine kl H rfl fun a H => ?_
                    refine wl_v _ (r_pick_t (H.ev rfl) (H.ev rfl)) ?_; refine kl H rfl fun a H => ?_
                    refine wl_v _ (r_move (H.ev rfl)) ?_; refine kl H rfl fun a H => ?_
                    refine op_unguard _ _ (kg_yes rfl H rfl rfl rfl) ?_; refine wl_v _ (r_move (H.ev rfl)) ?_; refine kl H rfl fun a H => ?_
                    refine op_unguard _ _ (kg_yes rfl H rfl rfl rfl) ?_; refine wl_v _ (r_move (H.ev rfl)) ?_; refine kl H rfl fun a H => ?_
                    refine op_unguard _ _ (kg_yes rfl H rfl rfl rfl) ?_; refine wl_v _ (r_beq Try.underlying4 (H.ev rfl) (H.ev rfl) rfl) ?_; refine kl H rfl fun a H => ?_
                    refine wl_v _ (r_pick_t (H.ev rfl) (H.ev rfl)) ?_; refine kl H rfl fun a H => ?_
                    refine wl_v _ (r_move (H.ev rfl)) ?_; refine kl H rfl fun a H => ?_
                    refine wl_s (kg_no rfl H rfl rfl rfl) ?_; refine kl H rfl fun a H => ?_
                    refine wl_s (kg_no rfl H rfl rfl rfl) ?_; refine kl H rfl fun a H => ?_
                    refine wl_s (kg_no rfl H rfl rfl rfl) ?_; refine kl H rfl fun a H => ?_
                    refine wl_v _ (r_pick_f (H.ev rfl) evc) ?_; refine kl H rfl fun a H => ?_
                    refine wl_v _ (r_move (H.ev rfl)) ?_; refine kl H rfl fun a H => ?_
                    refine wl_s (kg_no rfl H rfl rfl rfl) ?_; refine kl H rfl fun a H => ?_
                    refine wl_s (kg_no rfl H rfl rfl rfl) ?_; refine kl H rfl fun a H => ?_
                    refine wl_s (kg_no rfl H rfl rfl rfl) ?_; refine kl H rfl fun a H => ?_
                    refine wl_v _ (r_pick_f (H.ev rfl) evc) ?_; refine kl H rfl fun a H => ?_
                    refine wl_v _ (r_assign (H.ev rfl)) ?_; refine kl H rfl fun a H => ?_
                    refine wpList_nil ?_
                    refine c_next ?_
                    refine wp_ret ?_
                    exfalso; omega
                  · skip
                    refine op_unguard _ _ (kg_yes rfl H rfl rfl rfl) ?_; refine wl_v _ (r_lt Try.underlying3 (H.ev rfl) evc (dec_f (hcc46))) ?_; refine kl H rfl fun a H => ?_
                    refine wl_v _ (r_pick_t (H.ev rfl) (H.ev rfl)) ?_; refine kl H rfl fun a H => ?_
                    refine wl_v _ (r_move (H.ev rfl)) ?_; refine kl H rfl fun a H => ?_
                    refine wl_s (kg_no rfl H rfl rfl rfl) ?_; refine kl H rfl fun a H => ?_
                    refine wl_s (kg_no rfl H rfl rfl rfl) ?_; refine kl H rfl fun a H => ?_
                    refine wl_s (kg_no rfl H rfl rfl rfl) ?_; refine kl H rfl fun a H => ?_
                    refine wl_v _ (r_pick_f (H.ev rfl) evc) ?_; refine kl H rfl fun a H => ?_
                    refine wl_v _ (r_move (H.ev rfl)) ?_; refine kl H rfl fun a H => ?_
                    refine wl_s (kg_no rfl H rfl rfl rfl) ?_; refine kl H rfl fun a H => ?_
                    refine wl_s (kg_no rfl H rfl rfl rfl) ?_; refine kl H rfl fun a H => ?_
                    refine wl_s (kg_no rfl H rfl rfl rfl) ?_; refine kl H rfl fun a H => ?_
                    refine wl_v _ (r_pick_f (H.ev rfl) evc) ?_; refine kl H rfl fun a H => ?_
                    refine wl_v _ (r_move (H.ev rfl)) ?_; refine kl H rfl fun a H => ?_
                    refine wl_s (kg_no rfl H rfl rfl rfl) ?_; refine kl H rfl fun a H => ?_
                    refine wl_s (kg_no rfl H rfl rfl rfl) ?_; refine kl H rfl fun a H => ?_
                    refine wl_s (kg_no rfl H rfl rfl rfl) ?_; refine kl H rfl fun a H => ?_
                    refine wl_v _ (r_pick_f (H.ev rfl) evc) ?_; refine kl H rfl fun a H => ?_
                    refine wl_v _ (r_assign (H.ev rfl)) ?_; refine kl H rfl fun a H => ?_
                    refine wpList_nil ?_
                    refine c_next ?_
                    refine wp_ret ?_
                    exfalso; omega
                · skip
                  refine op_unguard _ _ (kg_yes rfl H rfl rfl rfl) ?_; refine wl_v _ (r_ge Try.underlying3 (H.ev rfl) evc (dec_f (hcc45))) ?_; refine kl H rfl fun a H => ?_
                  refine wl_v _ (r_pick_t (H.ev rfl) (H.ev rfl)) ?_; refine kl H rfl fun a H => ?_
                  refine wl_v _ (r_move (H.ev rfl)) ?_; refine kl H rfl fun a H => ?_
                  refine wl_s (kg_no rfl H rfl rfl rfl) ?_; refine kl H rfl fun a H => ?_
                  refine wl_s (kg_no rfl H rfl rfl rfl) ?_; refine kl H rfl fun a H => ?_
                  refine wl_v _ (r_pick_f (H.ev rfl) evc) ?_; refine kl H rfl fun a H => ?_
                  refine wl_v _ (r_move (H.ev rfl)) ?_; refine kl H rfl fun a H => ?_
                  refine wl_s (kg_no rfl H rfl rfl rfl) ?_; refine kl H rfl fun a H => ?_
                  refine wl_s (kg_no rfl H rfl rfl rfl) ?_; refine kl H rfl fun a H => ?_
                  refine wl_s (kg_no rfl H rfl rfl rfl) ?_; refine kl H rfl fun a H => ?_
                  refine wl_v _ (r_pick_f (H.ev rfl) evc) ?_; refine kl H rfl fun a H => ?_
                  refine wl_v _ (r_move (H.ev rfl)) ?_; refine kl H rfl fun a H => ?_
                  refine wl_s (kg_no rfl H rfl rfl rfl) ?_; refine kl H rfl fun a H => ?_
                  refine wl_s (kg_no rfl H rfl rfl rfl) ?_; refine kl H rfl fun a H => ?_
                  refine wl_s (kg_no rfl H rfl rfl rfl) ?_; refine kl H rfl fun a H => ?_
                  refine wl_v _ (r_pick_f (H.ev rfl) evc) ?_; refine kl H rfl fun a H => ?_
                  refine wl_v _ (r_move (H.ev rfl)) ?_; refine kl H rfl fun a H => ?_
                  refine wl_s (kg_no rfl H rfl rfl rfl) ?_; refine kl H rfl fun a H => ?_
                  refine wl_s (kg_no rfl H rfl rfl rfl) ?_; refine kl H rfl fun a H => ?_
                  refine wl_s (kg_no rfl H rfl rfl rfl) ?_; refine kl H rfl fun a H => ?_
                  refine wl_v _ (r_pick_f (H.ev rfl) evc) ?_; refine kl H rfl fun a H => ?_
                  refine wl_v _ (r_assign (H.ev rfl)) ?_; refine kl H rfl fun a H => ?_
                  refine wpList_nil ?_
                  refine c_next ?_
                  refine wp_ret ?_
                  exfalso; omega
            · skip
              refine op_unguard _ _ (kg_yes rfl H rfl rfl rfl) ?_; refine wl_v _ (r_lt Try.underlying3 (H.ev rfl) evc (dec_f (hcc41))) ?_; refine kl H rfl fun a H => ?_
              refine op_unguard _ _ (kg_yes rfl H rfl rfl rfl) ?_; refine wl_v _ (r_move (H.ev rfl)) ?_; refine kl H rfl fun a H => ?_
              refine wl_s (kg_no rfl H rfl rfl rfl) ?_; refine kl H rfl fun a H => ?_
              refine wl_s (kg_no rfl H rfl rfl rfl) ?_; refine kl H rfl fun a H => ?_
              refine wl_s (kg_no rfl H rfl rfl rfl) ?_; refine kl H rfl fun a H => ?_
              refine op_unguard _ _ (kg_yes rfl H rfl rfl rfl) ?_; refine wl_v _ (r_pick_f (H.ev rfl) evc) ?_; refine kl H rfl fun a H => ?_
              refine wl_v _ (r_pick_f (H.ev rfl) (H.ev rfl)) ?_; refine kl H rfl fun a H => ?_
              refine wl_v _ (r_assign (H.ev rfl)) ?_; refine kl H rfl fun a H => ?_
              refine wpList_nil ?_
              refine c_next ?_
              refine wp_seq ?_
              refine wp_region_lit ?_
              refine wl_v _ (r_row (cs := [.int .i64 N, .slice As1 L'.length cs1]) (H.ev rfl) (block_range k2) (by kernel_rfl) s24 rfl) ?_; refine kl H rfl fun a H => ?_
              refine wl_v _ (r_row (cs := [.int .i64 x.1, .int .i64 x.2.1, .int .i64 x.2.2.1, .int .i64 x.2.2.2.1, .int .i64 x.2.2.2.2]) (H.ev rfl) (block_range k1) (by kernel_rfl) s33 rfl) ?_; refine kl H rfl fun a H => ?_
              refine wl_call _ _ _ (take_any _ N (.slice As1 L'.length cs1) L' x rs1 (by omega) hx.1 hx.2) (r_call2 cf12 (H.ev rfl) (H.ev rfl)) ?_; rintro e w9 ⟨⟨s2, o2, rfl, ⟨rs2, fs2⟩, ⟨ro2, fo2⟩⟩, hb⟩; refine ⟨_, rfl, ?_⟩; rw [HT2.out] at rs2 ro2 ⊢; replace k0 := Block.ups k0 hb; replace k1 := Block.ups k1 hb; replace k2 := Block.ups k2 hb; replace rs1 := Row.up rs1 hb; replace hall := hall.trans (hb.mono hall.size); clear hb; clear fs2 fo2; obtain ⟨As2, cs2, hsv, s1, s2, s3, s4⟩ := rs2; have rs2 : IRow _ (.slice As2 L'.length cs2) L' := ⟨As2, cs2, rfl, s1, s2, s3, s4⟩; subst hsv; obtain ⟨Ao2, co2, hov, u1, u2, u3, u4⟩ := ro2; have ro2 : NRow _ (.slice Ao2 0 co2) ([] : List Nt) := ⟨Ao2, co2, rfl, u1, u2, u3, u4⟩; simp only [List.length_nil] at hov; subst hov; clear s1 s2 s3 s4 u1 u2 u3 u4; refine kl H rfl fun a H => ?_
              refine wl_v _ (r_move (H.ev rfl)) ?_; refine kl H rfl fun a H => ?_
              refine wl_v _ (r_extract (v := .agg #[.int .i64 N, .slice As2 L'.length cs2]) (H.ev rfl) rfl) ?_; refine kl H rfl fun a H => ?_
              refine wl_v _ (r_extract (v := .slice Ao2 0 co2) (H.ev rfl) rfl) ?_; refine kl H rfl fun a H => ?_
              refine op_new 24 13 (.tmp 84) #[.int .i64 N, .slice As2 L'.length cs2] _ z24 s24 rfl (by simp [Value.cells, Value.oneCell']) (fun p => (H.put 13 p rfl).ev rfl) (fun p => (H.put 13 p rfl).ev rfl) fun w18 b18 hge hb k18 => ?_; have g18 := Nat.le_trans hall.size hge; replace k0 := Block.ups k0 hb; replace k1 := Block.ups k1 hb; replace k2 := Block.ups k2 hb; replace rs1 := Row.up rs1 hb; replace rs2 := Row.up rs2 hb; replace ro2 := Row.up ro2 hb; replace hall := hall.trans (hb.mono hall.size); clear hb; clear hge; refine kl H rfl fun a H => ?_
              refine wl_v _ (r_assign (H.ev rfl)) ?_; refine kl H rfl fun a H => ?_
              refine wpList_nil ?_
              refine c_next ?_
              refine wp_seq ?_
              refine wp_region_lit ?_
              refine wl_v _ (r_move (H.ev rfl)) ?_; refine kl H rfl fun a H => ?_
              refine wl_v _ (r_move (H.ev rfl)) ?_; refine kl H rfl fun a H => ?_
              refine op_unguard _ _ (kg_yes rfl H rfl rfl rfl) ?_; refine wl_v _ (r_move (H.ev rfl)) ?_; refine kl H rfl fun a H => ?_
              refine op_unguard _ _ (kg_yes rfl H rfl rfl rfl) ?_; refine wl_v _ (r_fld (q := 0) fld24_0 (H.ev rfl) rfl) ?_; refine kl H rfl fun a H => ?_
              refine op_unguard _ _ (kg_yes rfl H rfl rfl rfl) ?_; refine wl_v _ (r_ld Try.underlying3 rfl (H.ev rfl) ((Block.cell k2 0).trans rfl)) ?_; refine kl H rfl fun a H => ?_
              refine op_unguard _ _ (kg_yes rfl H rfl rfl rfl) ?_; refine wl_v _ (r_sub (q := N - 1) Try.underlying3 (H.ev rfl) evc (by omega) (by omega)) ?_; refine kl H rfl fun a H => ?_
              refine op_unguard _ _ (kg_yes rfl H rfl rfl rfl) ?_; refine wl_v _ (r_eq Try.underlying3 (H.ev rfl) (H.ev rfl) (dec_t (by omega))) ?_; refine kl H rfl fun a H => ?_
              refine wl_v _ (r_pick_t (H.ev rfl) (H.ev rfl)) ?_; refine kl H rfl fun a H => ?_
              refine wl_v _ (r_move (H.ev rfl)) ?_; refine kl H rfl fun a H => ?_
              refine op_unguard _ _ (kg_yes rfl H rfl rfl rfl) ?_; refine wl_v _ (r_move (H.ev rfl)) ?_; refine kl H rfl fun a H => ?_
              by_cases hcc47 : ((sk : Nat) : Int) ≥ 0
              · skip
                refine op_unguard _ _ (kg_yes rfl H rfl rfl rfl) ?_; refine wl_v _ (r_ge Try.underlying3 (H.ev rfl) evc (dec_t (hcc47))) ?_; refine kl H rfl fun a H => ?_
                refine wl_v _ (r_pick_t (H.ev rfl) (H.ev rfl)) ?_; refine kl H rfl fun a H => ?_
                refine wl_v _ (r_move (H.ev rfl)) ?_; refine kl H rfl fun a H => ?_
                refine op_unguard _ _ (kg_yes rfl H rfl rfl rfl) ?_; refine wl_v _ (r_move (H.ev rfl)) ?_; refine kl H rfl fun a H => ?_
                by_cases hcc48 : ((sk : Nat) : Int) < 128
                · skip
                  refine op_unguard _ _ (kg_yes rfl H rfl rfl rfl) ?_; refine wl_v _ (r_lt Try.underlying3 (H.ev rfl) evc (dec_t (hcc48))) ?_; refine kl H rfl fun a H => ?_
                  refine wl_v _ (r_pick_t (H.ev rfl) (H.ev rfl)) ?_; refine kl H rfl fun a H => ?_
                  refine wl_v _ (r_move (H.ev rfl)) ?_; refine kl H rfl fun a H => ?_
                  refine op_unguard _ _ (kg_yes rfl H rfl rfl rfl) ?_; refine wl_v _ (r_move (H.ev rfl)) ?_; refine kl H rfl fun a H => ?_
                  refine op_unguard _ _ (kg_yes rfl H rfl rfl rfl) ?_; refine wl_v _ (r_move (H.ev rfl)) ?_; refine kl H rfl fun a H => ?_
                  refine op_unguard _ _ (kg_yes rfl H rfl rfl rfl) ?_; refine wl_v _ (r_beq Try.underlying4 (H.ev rfl) (H.ev rfl) rfl) ?_; refine kl H rfl fun a H => ?_
                  refine wl_v _ (r_pick_t (H.ev rfl) (H.ev rfl)) ?_; refine kl H rfl fun a H => ?_
                  refine wl_v _ (r_move (H.ev rfl)) ?_; refine kl H rfl fun a H => ?_
                  refine wl_s (kg_no rfl H rfl rfl rfl) ?_; refine kl H rfl fun a H => ?_
                  refine wl_s (kg_no rfl H rfl rfl rfl) ?_; refine kl H rfl fun a H => ?_
                  refine wl_s (kg_no rfl H rfl rfl rfl) ?_; refine kl H rfl fun a H => ?_
                  refine wl_v _ (r_pick_f (H.ev rfl) evc) ?_; refine kl H rfl fun a H => ?_
                  refine wl_v _ (r_move (H.ev rfl)) ?_; refine kl H rfl fun a H => ?_
                  refine wl_s (kg_no rfl H rfl rfl rfl) ?_; refine kl H rfl fun a H => ?_
                  refine wl_s (kg_no rfl H rfl rfl rfl) ?_; refine kl H rfl fun a H => ?_
                  refine wl_s (kg_no rfl H rfl rfl rfl) ?_; refine kl H rfl fun a H => ?_
                  refine wl_v _ (r_pick_f (H.ev rfl) evc) ?_; refine kl H rfl fun a H => ?_
                  refine wl_v _ (r_assign (H.ev rfl)) ?_; refine kl H rfl fun a H => ?_
                  refine wpList_nil ?_
                  refine c_next ?_
                  refine wp_ret ?_
                  exfalso; omega
                · skip
                  refine op_unguard _ _ (kg_yes rfl H rfl rfl rfl) ?_; refine wl_v _ (r_lt Try.underlying3 (H.ev rfl) evc (dec_f (hcc48))) ?_; refine kl H rfl fun a H => ?_
                  refine wl_v _ (r_pick_t (H.ev rfl) (H.ev rfl)) ?_; refine kl H rfl fun a H => ?_
                  refine wl_v _ (r_move (H.ev rfl)) ?_; refine kl H rfl fun a H => ?_
                  refine wl_s (kg_no rfl H rfl rfl rfl) ?_; refine kl H rfl fun a H => ?_
                  refine wl_s (kg_no rfl H rfl rfl rfl) ?_; refine kl H rfl fun a H => ?_
                  refine wl_s (kg_no rfl H rfl rfl rfl) ?_; refine kl H rfl fun a H => ?_
                  refine wl_v _ (r_pick_f (H.ev rfl) evc) ?_; refine kl H rfl fun a H => ?_
                  refine wl_v _ (r_move (H.ev rfl)) ?_; refine kl H rfl fun a H => ?_
                  refine wl_s (kg_no rfl H rfl rfl rfl) ?_; refine kl H rfl fun a H => ?_
                  refine wl_s (kg_no rfl H rfl rfl rfl) ?_; refine kl H rfl fun a H => ?_
                  refine wl_s (kg_no rfl H rfl rfl rfl) ?_; refine kl H rfl fun a H => ?_
                  refine wl_v _ (r_pick_f (H.ev rfl) evc) ?_; refine kl H rfl fun a H => ?_
                  refine wl_v _ (r_move (H.ev rfl)) ?_; refine kl H rfl fun a H => ?_
                  refine wl_s (kg_no rfl H rfl rfl rfl) ?_; refine kl H rfl fun a H => ?_
                  refine wl_s (kg_no rfl H rfl rfl rfl) ?_; refine kl H rfl fun a H => ?_
                  refine wl_s (kg_no rfl H rfl rfl rfl) ?_; refine kl H rfl fun a H => ?_
                  refine wl_v _ (r_pick_f (H.ev rfl) evc) ?_; refine kl H rfl fun a H => ?_
                  refine wl_v _ (r_assign (H.ev rfl)) ?_; refine kl H rfl fun a H => ?_
                  refine wpList_nil ?_
                  refine c_next ?_
                  refine wp_ret ?_
                  exfalso; omega
              · skip
                refine op_unguard _ _ (kg_yes rfl H rfl rfl rfl) ?_; refine wl_v _ (r_ge Try.underlying3 (H.ev rfl) evc (dec_f (hcc47))) ?_; refine kl H rfl fun a H => ?_
                refine wl_v _ (r_pick_t (H.ev rfl) (H.ev rfl)) ?_; refine kl H rfl fun a H => ?_
                refine wl_v _ (r_move (H.ev rfl)) ?_; refine kl H rfl fun a H => ?_
                refine wl_s (kg_no rfl H rfl rfl rfl) ?_; refine kl H rfl fun a H => ?_
                refine wl_s (kg_no rfl H rfl rfl rfl) ?_; refine kl H rfl fun a H => ?_
                refine wl_v _ (r_pick_f (H.ev rfl) evc) ?_; refine kl H rfl fun a H => ?_
                refine wl_v _ (r_move (H.ev rfl)) ?_; refine kl H rfl fun a H => ?_
                refine wl_s (kg_no rfl H rfl rfl rfl) ?_; refine kl H rfl fun a H => ?_
                refine wl_s (kg_no rfl H rfl rfl rfl) ?_; refine kl H rfl fun a H => ?_
                refine wl_s (kg_no rfl H rfl rfl rfl) ?_; refine kl H rfl fun a H => ?_
                refine wl_v _ (r_pick_f (H.ev rfl) evc) ?_; refine kl H rfl fun a H => ?_
                refine wl_v _ (r_move (H.ev rfl)) ?_; refine kl H rfl fun a H => ?_
                refine wl_s (kg_no rfl H rfl rfl rfl) ?_; refine kl H rfl fun a H => ?_
                refine wl_s (kg_no rfl H rfl rfl rfl) ?_; refine kl H rfl fun a H => ?_
                refine wl_s (kg_no rfl H rfl rfl rfl) ?_; refine kl H rfl fun a H => ?_
                refine wl_v _ (r_pick_f (H.ev rfl) evc) ?_; refine kl H rfl fun a H => ?_
                refine wl_v _ (r_move (H.ev rfl)) ?_; refine kl H rfl fun a H => ?_
                refine wl_s (kg_no rfl H rfl rfl rfl) ?_; refine kl H rfl fun a H => ?_
                refine wl_s (kg_no rfl H rfl rfl rfl) ?_; refine kl H rfl fun a H => ?_
                refine wl_s (kg_no rfl H rfl rfl rfl) ?_; refine kl H rfl fun a H => ?_
                refine wl_v _ (r_pick_f (H.ev rfl) evc) ?_; refine kl H rfl fun a H => ?_
                refine wl_v _ (r_assign (H.ev rfl)) ?_; refine kl H rfl fun a H => ?_
                refine wpList_nil ?_
                refine c_next ?_
                refine wp_ret ?_
                exfalso; omega
theorem acks_all (w : World) (m0 : Int) (A0 : Option Addr) (n0 c0 : Nat) (L0 : List Int) (L1 : List Int) (hn0 : L0.length = n0 * 5) (hnc0 : n0 ≤ c0) (hcm0 : c0 ≤ maxLen) (hh0 : Holds w A0 (L0.map (Value.int .i64))) (hz0 : A0 = none → c0 = 0) (hn1 : L1.length = 5) (hw1 : WF L1) (hb : n0 ≤ 9223372036854775807) :
    Calls Try.prog 4 #[.agg #[.int .i64 m0, .slice A0 n0 c0], .agg (ints L1)] w fun e w' => e = .returned (.bool true) ∧ Below w.heap.size w w' := by
  obtain ⟨L, h, rfl, _⟩ := irow_in hn0 hnc0 hcm0 hh0 hz0
  obtain ⟨x, rfl, hx⟩ := item_in hn1 hw1
  exact acks_walk w m0 _ L x h hb hx
theorem recvAcks_it1 : intTy Try.prog 3 33 = true := by kernel_rfl
theorem recvAcks_c1 : Try.prog.cellsOf 33 = 5 := by kernel_rfl
set_option maxRecDepth 100000 in
theorem recvAcks_lifted (os : Os) (started : os.Started) (H : Type) (enc : TypeId × Value → H) :
    ReturnsInHanded {} Try.checked os 4 .any (Rows.recvAcksSpec.pre6 enc Try.prog Try.f4 Rows.recvAcksRow.domain false) (Rows.recvAcksSpec.post enc Try.prog Try.f4 false true false false) := by
  refine returnsInHanded_of_change (C := Try.checked) own started (by kernel_rfl) Try.func4
    (ChangeSpec.witness6 (enc := enc) (C := Try.checked) false ⟨#[], #[.agg #[.int .i64 0, .slice none 0 0], .agg (ints (List.replicate 5 0))], []⟩ 8 (by kernel_rfl) (by kernel_rfl) (by kernel_rfl) (by kernel_rfl)) ?_
  intro W base args ds gs before hval0 hW hcnd _
  have hval : ∀ (j : Nat) t v, Try.f4.params[j]? = some t → args[j]? = some v → Value.okWide Try.prog W .any base t v := hval0
  have hW' := hW
  obtain ⟨p, q, hA0, hV, rfl, hfz, hnd⟩ := hW
  have hA : DataW.TrodAll enc Try.prog W 0 (fun _ => true) true Try.f4.params.toList args.toList ds p := hA0
  rw [Try.params4] at hA hval
  obtain ⟨v0, vs0, d0, ds0, p0, q0, hargs, rfl, rfl, h0, r0⟩ := trodAll_cons hA
  obtain ⟨v1, vs1, d1, ds1, p1, q1, rfl, rfl, rfl, h1, r1⟩ := trodAll_cons r0
  obtain ⟨rfl, rfl, rfl⟩ := trodAll_nil r1
  obtain rfl : args = #[v0, v1] := by cases args; simp_all
  obtain ⟨rfl, rfl⟩ := trodVars_none hV
  have k0 := h0
  have lt0 : ∀ x ∈ p0, x.block < W.heap.size := by obtain ⟨m, hm⟩ := k0; exact DataW.trod_lt m _ _ _ hm
  have k1 := h1
  have lt1 : ∀ x ∈ p1, x.block < W.heap.size := by obtain ⟨m, hm⟩ := k1; exact DataW.trod_lt m _ _ _ hm
  obtain ⟨m0, A0, n0, c0, L0, rfl, hm0, hn0, hw0, hnc0, hcm0, hh0, hz0⟩ := open_is 4 5 Try.underlying24 rfl rfl Try.underlying3 co3 rfl rfl co22 co24 Try.underlying22 it33 co33 (by omega) (hval 0 24 v0 rfl rfl) h0
  have hb0 : n0 ≤ 9223372036854775807 := by unfold maxLen at hcm0; omega
  obtain ⟨B1, rfl, hB1, hw1⟩ := open_agg_ints 3 5 recvAcks_it1 (by rw [Try.underlying33]) recvAcks_c1 (hval 1 33 v1 rfl rfl) h1
  clear hA0 hval0
  refine (acks_all W m0 A0 n0 c0 L0 B1 hn0 hnc0 hcm0 hh0 hz0 hB1 hw1 hb0).mono fun e W' ⟨he, bel⟩ => ?_
  subst he
  exact ⟨_, rfl, _, _, _, [], _, [], hW', trodAll_mk1 (shut_bool Try.underlying4 _), (trodAll_cons_mk (Below.trod laidOut (by kernel_rfl) (of_decide_eq_true (by kernel_rfl)) k0 bel lt0) (trodAll_cons_mk (Below.trod laidOut (by kernel_rfl) (of_decide_eq_true (by kernel_rfl)) k1 bel lt1) trodAll_mk0)), rfl, bel.frame _, fun h => by cases h⟩

theorem recvAcks_holds : Rows.RecvAcksSaid :=
  OpenClaim.holds_of_wide 4 Try.f4 rfl rfl rfl rfl rfl rfl rfl ⟨rfl, rfl, rfl, rfl, rfl⟩ rfl rfl rfl rfl rfl (by kernel_rfl) Try.func4 (by kernel_rfl)
    (of_decide_eq_true (by kernel_rfl)) (by unfold Func.isWrapper; first | (rw [if_pos (by decide +kernel)]; kernel_rfl) | (rw [if_neg (by decide +kernel)]; exact ⟨rfl, rfl⟩))
    (fun os started H enc _ => recvAcks_lifted os started H enc)
#print axioms recvAcks_holds
end Go.Proofs.Ythfdjlhplcmicaa
