/- Fanout: FanoutMarks, proved: what is added is there, once, and what is struck, or dropped, is not, and all else stays in order. -/
import Derived.Test.YtpegfbdepgmbjaaOs
namespace Go.Proofs.Ytpegfbdepgmbjaa
open Go.RowKit Go.ChangeShapes Go.WideShapes Go.ChangeAt Go.Maps
set_option linter.unusedVariables false
set_option linter.unusedSimpArgs false

theorem same_self {L : List Mk} {t : Int} : sameB L t L t = true := dec_t ⟨rfl, rfl⟩
theorem keep_mwf {L : List Mk} (p : Mk → Bool) (h : ∀ y ∈ L, MWF y) : ∀ y ∈ keepF p L, MWF y := fun y hy => h y (List.mem_filter.1 hy).1
theorem keep_right {L : List Mk} (p : Mk → Bool) (h : rightF L = true) : rightF (keepF p L) = true := by
  obtain ⟨h1, h2⟩ := of_decide_eq_true h
  exact dec_t ⟨h1.sublist List.filter_sublist, Nat.le_trans (keep_len p L) h2⟩
theorem count_one : ∀ {L : List Mk} {m : Mk}, L.Nodup → m ∈ L → (keepF (fun y => decide (y = m)) L).length + 1 = L.length
  | [], _, _, h => by cases h
  | a :: L, m, hn, hm => by
    rw [List.nodup_cons] at hn
    by_cases e : a = m
    · subst e
      have : keepF (fun y => decide (y = a)) (a :: L) = L := by
        unfold keepF
        rw [List.filter_cons]
        simp only [decide_true, Bool.not_true, Bool.false_eq_true, if_false]
        rw [List.filter_eq_self]
        intro y hy
        simp only [Bool.not_eq_true', decide_eq_false_iff_not]
        rintro rfl
        exact hn.1 hy
      rw [this]; rfl
    · have hm' : m ∈ L := by
        rcases List.mem_cons.1 hm with h | h
        · exact absurd h.symm e
        · exact h
      have ih := count_one hn.2 hm'
      have : keepF (fun y => decide (y = m)) (a :: L) = a :: keepF (fun y => decide (y = m)) L := by
        unfold keepF
        rw [List.filter_cons]
        simp [e]
      rw [this]
      simp only [List.length_cons]
      omega
theorem keep_not {L : List Mk} {m : Mk} (h : m ∉ L) : keepF (fun y => decide (y = m)) L = L := by
  unfold keepF
  rw [List.filter_eq_self]
  intro y hy
  simp only [Bool.not_eq_true', decide_eq_false_iff_not]
  rintro rfl
  exact h hy
theorem marks_law (t : Int) {L : List Mk} {s u : Int} (hr : rightF L = true) (hl : L.length ≤ 511) (hw : ∀ y ∈ L, MWF y) (hs : (Lit.int .i64 s).wf = true) (hu : (Lit.int .i64 u).wf = true) :
    ∃ (LA LD LI : List Mk) (ba : Bool), addF L (s, u) = (LA, ba) ∧ addF LA (s, u) = (LA, false) ∧ keepF (fun y => decide (y = (s, u))) LA = LD ∧ keepF (fun y => decide (y = (s, u))) L = LD ∧ keepF (fun y => decide (y.1 = s)) LA = LI ∧ LA.length ≤ 512 ∧ LD.length + 1 = LA.length ∧ LI.length + 1 ≤ LA.length ∧
      nextF LI t [s] = ((LI, t), ((0, 0), false)) ∧ rightF LA = true ∧ rightF LD = true ∧ rightF LI = true ∧ (∀ y ∈ LA, MWF y) ∧ (∀ y ∈ LD, MWF y) ∧ (∀ y ∈ LI, MWF y) ∧ sameB LA t L t = !ba ∧ ((ba = false ∧ LD.length + 1 = L.length) ∨ (ba = true ∧ LD.length = L.length)) := by
  obtain ⟨hnd, h512⟩ := of_decide_eq_true hr
  have key : ∃ (LA : List Mk) (ba : Bool), addF L (s, u) = (LA, ba) ∧ (s, u) ∈ LA ∧ rightF LA = true ∧ (∀ y ∈ LA, MWF y) ∧ keepF (fun y => decide (y = (s, u))) LA = keepF (fun y => decide (y = (s, u))) L ∧ sameB LA t L t = !ba ∧ ((ba = false ∧ LA = L) ∨ (ba = true ∧ (s, u) ∉ L)) := by
    by_cases hm : (s, u) ∈ L
    · exact ⟨L, false, if_pos (.inl hm), hm, hr, hw, rfl, same_self, .inl ⟨rfl, rfl⟩⟩
    · refine ⟨L ++ [(s, u)], true, if_neg (fun e => e.elim hm (by omega)), by simp, dec_t ⟨?_, by simp; omega⟩, ?_, ?_, ?_, .inr ⟨rfl, hm⟩⟩
      · rw [List.nodup_append]
        refine ⟨hnd, by simp, fun a ha b hb => ?_⟩
        rw [List.mem_singleton.1 hb]
        rintro rfl
        exact hm ha
      · intro y hy
        rcases List.mem_append.1 hy with h | h
        · exact hw y h
        · rw [List.mem_singleton.1 h]; exact ⟨hs, hu⟩
      · unfold keepF
        rw [List.filter_append]
        simp
      · refine dec_f fun e => ?_
        have := congrArg List.length e.2
        simp at this
  obtain ⟨LA, ba, k1, k2, k3, k4, k5, k6, k7⟩ := key
  obtain ⟨hndA, hA512⟩ := of_decide_eq_true k3
  have hD := count_one hndA k2
  have hin : (keepF (fun y => decide (y.1 = s)) LA).length + 1 ≤ LA.length := by
    have hlt : (keepF (fun y => decide (y.1 = s)) LA).length < LA.length := by
      unfold keepF
      rw [List.length_filter_lt_length_iff_exists]
      exact ⟨(s, u), k2, by simp⟩
    omega
  refine ⟨LA, _, _, ba, k1, if_pos (.inl k2), rfl, k5.symm, rfl, hA512, hD, hin, next_no ?_, k3, keep_right _ k3, keep_right _ k3, k4, keep_mwf _ k4, keep_mwf _ k4, k6, ?_⟩
  · unfold idsF keepF
    rw [List.map_eq_nil_iff, List.filter_eq_nil_iff]
    intro y hy
    have := (List.mem_filter.1 hy).2
    simp at this ⊢
    exact this
  · rcases k7 with ⟨rfl, rfl⟩ | ⟨rfl, hm⟩
    · exact .inl ⟨rfl, hD⟩
    · exact .inr ⟨rfl, by rw [k5, keep_not hm]⟩
set_option maxHeartbeats 8000000 in
theorem marks_walk (w : World) (t s u : Int) (v : Value) (L : List Mk) (h0 : MRow w v L) (hn : L.length ≤ 9223372036854775807) (hw : ∀ y ∈ L, MWF y) (ht : -9223372036854775808 ≤ t ∧ t ≤ 9223372036854775807) (hs : (Lit.int .i64 s).wf = true) (hu : (Lit.int .i64 u).wf = true) :
    Calls Try.prog 4 #[.agg #[v, .int .i64 t], .int .i64 s, .int .i64 u] w fun e w' => e = .returned (.bool true) ∧ Below w.heap.size w w' := by
  obtain ⟨A, c, rfl, h1, h2, h3, hh⟩ := h0
  have h : Hid (MRow w (.slice A L.length c) L) := Lib.hid ⟨A, c, rfl, h1, h2, h3, hh⟩
  clear hh
  replace hw := Lib.hid hw
  have hall := Below.refl w.heap.size w
  cases hrt : rightF L
  · skip
    refine K_enter 140 Try.func4 rfl rfl fun a H => ?_
    replace H := H.pick [0, 1, 2]
    refine wp_seq ?_
    refine wp_region_lit ?_
    refine op_box 24 _ #[.slice A L.length c, .int .i64 t] (H.ev rfl) fun w0 b0 hge hb k0 => ?_; have g0 := Nat.le_trans hall.size hge; replace hall := hall.trans (hb.mono hall.size); clear hb; clear hge; refine kl H rfl fun a H => ?_
    refine wl_v _ (r_assign evc) ?_; refine kl H rfl fun a H => ?_
    refine wpList_nil ?_
    refine c_next ?_
    refine wp_seq ?_
    refine wp_region_lit ?_
    refine wl_call _ _ _ (small_any _) (r_call0 cf7) ?_; rintro e w9 ⟨rfl, hb⟩; refine ⟨_, rfl, ?_⟩; replace k0 := Block.ups k0 hb; replace hall := hall.trans (hb.mono hall.size); clear hb; refine kl H rfl fun a H => ?_
    refine wl_v _ (r_assign (H.ev rfl)) ?_; refine kl H rfl fun a H => ?_
    refine wpList_nil ?_
    refine c_next ?_
    refine wp_seq ?_
    refine wp_seq ?_
    refine wp_region_lit ?_
    refine wl_v _ (r_fld (q := 0) fld24_0 (H.ev rfl) rfl) ?_; refine kl H rfl fun a H => ?_
    refine wl_v _ (r_ld Try.underlying22 rfl (H.ev rfl) ((Block.cell k0 0).trans rfl)) ?_; refine kl H rfl fun a H => ?_
    refine wl_v _ (r_len Try.underlying22 (H.ev rfl)) ?_; refine kl H rfl fun a H => ?_
    by_cases hcc0 : ((L.length : Nat) : Int) > 511
    · skip
      refine wl_v _ (r_gt Try.underlying3 (H.ev rfl) evc (dec_t (hcc0))) ?_; refine kl H rfl fun a H => ?_
      refine wl_v _ (r_move (H.ev rfl)) ?_; refine kl H rfl fun a H => ?_
      refine wl_s (kg_no rfl H rfl rfl rfl) ?_; refine kl H rfl fun a H => ?_
      refine wl_s (kg_no rfl H rfl rfl rfl) ?_; refine kl H rfl fun a H => ?_
      refine wl_s (kg_no rfl H rfl rfl rfl) ?_; refine kl H rfl fun a H => ?_
      refine wl_v _ (r_pick_t (H.ev rfl) evc) ?_; refine kl H rfl fun a H => ?_
      refine wpList_nil ?_
      refine c_next ?_
      refine c_cond_t H rfl ?_
      refine wp_seq ?_
      refine wp_region_lit ?_
      refine wl_v _ (r_move (H.ev rfl)) ?_; refine kl H rfl fun a H => ?_
      refine wl_v _ (r_assign (H.ev rfl)) ?_; refine kl H rfl fun a H => ?_
      refine wpList_nil ?_
      refine c_next ?_
      refine wp_ret ?_
      refine r_then ?_
      exact k_ret1 H rfl rfl ⟨rfl, hall⟩
    · skip
      refine wl_v _ (r_gt Try.underlying3 (H.ev rfl) evc (dec_f (hcc0))) ?_; refine kl H rfl fun a H => ?_
      refine wl_v _ (r_move (H.ev rfl)) ?_; refine kl H rfl fun a H => ?_
      refine op_unguard _ _ (kg_yes rfl H rfl rfl rfl) ?_; refine wl_v _ (r_row (cs := [.slice A L.length c, .int .i64 t]) (H.ev rfl) (block_range k0) (by kernel_rfl) s24 rfl) ?_; refine kl H rfl fun a H => ?_
      refine op_unguard _ _ (kg_yes rfl H rfl rfl rfl) ?_; refine wl_call _ _ _ (right_lit _ t _ L false hrt (Row.up h.out hall) (by omega) hw.out) (r_call1 cf8 (H.ev rfl)) ?_; rintro e w9 ⟨rfl, hb⟩; refine ⟨_, rfl, ?_⟩; replace k0 := Block.ups k0 hb; replace hall := hall.trans (hb.mono hall.size); clear hb; refine kl H rfl fun a H => ?_
      refine op_unguard _ _ (kg_yes rfl H rfl rfl rfl) ?_; refine wl_v _ (r_not (H.ev rfl) rfl) ?_; refine kl H rfl fun a H => ?_
      refine wl_v _ (r_pick_f (H.ev rfl) (H.ev rfl)) ?_; refine kl H rfl fun a H => ?_
      refine wpList_nil ?_
      refine c_next ?_
      refine c_cond_t H rfl ?_
      refine wp_seq ?_
      refine wp_region_lit ?_
      refine wl_v _ (r_move (H.ev rfl)) ?_; refine kl H rfl fun a H => ?_
      refine wl_v _ (r_assign (H.ev rfl)) ?_; refine kl H rfl fun a H => ?_
      refine wpList_nil ?_
      refine c_next ?_
      refine wp_ret ?_
      refine r_then ?_
      exact k_ret1 H rfl rfl ⟨rfl, hall⟩
  · skip
    by_cases hlen : L.length ≤ 511
    · skip
      obtain ⟨LA, LD, LI, ba, hA1, hA2, hD1, hD2, hI1, hAl, hDl, hIl, hN, hRA, hRD, hRI, hWA, hWD, hWI, hS, hm⟩ := marks_law t hrt hlen hw.out hs hu
      replace hA1 := Lib.hid hA1
      replace hA2 := Lib.hid hA2
      replace hD1 := Lib.hid hD1
      replace hD2 := Lib.hid hD2
      replace hI1 := Lib.hid hI1
      replace hN := Lib.hid hN
      replace hRA := Lib.hid hRA
      replace hRD := Lib.hid hRD
      replace hRI := Lib.hid hRI
      replace hWA := Lib.hid hWA
      replace hWD := Lib.hid hWD
      replace hWI := Lib.hid hWI
      replace hS := Lib.hid hS
      obtain ⟨nd, hnd⟩ : ∃ nd : Int, ((LA.length : Nat) : Int) - ((LI.length : Nat) : Int) = nd := ⟨_, rfl⟩
      rcases hm with ⟨rfl, hm⟩ | ⟨rfl, hm⟩
      · skip
        refine K_enter 140 Try.func4 rfl rfl fun a H => ?_
        replace H := H.pick [0, 1, 2]
        refine wp_seq ?_
        refine wp_region_lit ?_
        refine op_box 24 _ #[.slice A L.length c, .int .i64 t] (H.ev rfl) fun w0 b0 hge hb k0 => ?_; have g0 := Nat.le_trans hall.size hge; replace hall := hall.trans (hb.mono hall.size); clear hb; clear hge; refine kl H rfl fun a H => ?_
        refine wl_v _ (r_assign evc) ?_; refine kl H rfl fun a H => ?_
        refine wpList_nil ?_
        refine c_next ?_
        refine wp_seq ?_
        refine wp_region_lit ?_
        refine wl_call _ _ _ (small_any _) (r_call0 cf7) ?_; rintro e w9 ⟨rfl, hb⟩; refine ⟨_, rfl, ?_⟩; replace k0 := Block.ups k0 hb; replace hall := hall.trans (hb.mono hall.size); clear hb; refine kl H rfl fun a H => ?_
        refine wl_v _ (r_assign (H.ev rfl)) ?_; refine kl H rfl fun a H => ?_
        refine wpList_nil ?_
        refine c_next ?_
        refine wp_seq ?_
        refine wp_seq ?_
        refine wp_region_lit ?_
        refine wl_v _ (r_fld (q := 0) fld24_0 (H.ev rfl) rfl) ?_; refine kl H rfl fun a H => ?_
        refine wl_v _ (r_ld Try.underlying22 rfl (H.ev rfl) ((Block.cell k0 0).trans rfl)) ?_; refine kl H rfl fun a H => ?_
        refine wl_v _ (r_len Try.underlying22 (H.ev rfl)) ?_; refine kl H rfl fun a H => ?_
        refine wl_v _ (r_gt Try.underlying3 (H.ev rfl) evc (dec_f (by omega))) ?_; refine kl H rfl fun a H => ?_
        refine wl_v _ (r_move (H.ev rfl)) ?_; refine kl H rfl fun a H => ?_
        refine op_unguard _ _ (kg_yes rfl H rfl rfl rfl) ?_; refine wl_v _ (r_row (cs := [.slice A L.length c, .int .i64 t]) (H.ev rfl) (block_range k0) (by kernel_rfl) s24 rfl) ?_; refine kl H rfl fun a H => ?_
        refine op_unguard _ _ (kg_yes rfl H rfl rfl rfl) ?_; refine wl_call _ _ _ (right_lit _ t _ L true hrt (Row.up h.out hall) (by omega) hw.out) (r_call1 cf8 (H.ev rfl)) ?_; rintro e w9 ⟨rfl, hb⟩; refine ⟨_, rfl, ?_⟩; replace k0 := Block.ups k0 hb; replace hall := hall.trans (hb.mono hall.size); clear hb; refine kl H rfl fun a H => ?_
        refine op_unguard _ _ (kg_yes rfl H rfl rfl rfl) ?_; refine wl_v _ (r_not (H.ev rfl) rfl) ?_; refine kl H rfl fun a H => ?_
        refine wl_v _ (r_pick_f (H.ev rfl) (H.ev rfl)) ?_; refine kl H rfl fun a H => ?_
        refine wpList_nil ?_
        refine c_next ?_
        refine c_cond_f H rfl ?_
        refine wp_skip ?_
        refine c_next ?_
        refine wp_seq ?_
        refine wp_region_lit ?_
        refine wl_v _ (r_row (cs := [.slice A L.length c, .int .i64 t]) (H.ev rfl) (block_range k0) (by kernel_rfl) s24 rfl) ?_; refine kl H rfl fun a H => ?_
        refine wl_v _ (r_move (H.ev rfl)) ?_; refine kl H rfl fun a H => ?_
        refine wl_v _ (r_move (H.ev rfl)) ?_; refine kl H rfl fun a H => ?_
        refine wl_call _ _ _ (add_lit _ t _ L s u LA LA.length false hA1.out rfl (Row.up h.out hall) (by omega)) (r_call3 cf10 (H.ev rfl) (H.ev rfl) (H.ev rfl)) ?_; rintro e w9 ⟨⟨A0, c0, rfl, ho0⟩, hb⟩; refine ⟨_, rfl, ?_⟩; replace k0 := Block.ups k0 hb; replace hall := hall.trans (hb.mono hall.size); clear hb; refine kl H rfl fun a H => ?_
        refine wl_v _ (r_move (H.ev rfl)) ?_; refine kl H rfl fun a H => ?_
        refine wl_v _ (r_extract (v := .agg #[.slice A0 LA.length c0, .int .i64 t]) (H.ev rfl) rfl) ?_; refine kl H rfl fun a H => ?_
        refine wl_v _ (r_extract (v := .bool false) (H.ev rfl) rfl) ?_; refine kl H rfl fun a H => ?_
        refine op_new 24 8 (.tmp 37) #[.slice A0 LA.length c0, .int .i64 t] _ z24 s24 rfl (by simp [Value.cells, Value.oneCell']) (fun p => (H.put 8 p rfl).ev rfl) (fun p => (H.put 8 p rfl).ev rfl) fun w1 b1 hge hb k1 => ?_; have g1 := Nat.le_trans hall.size hge; have d0_1 : b0 < b1 := Nat.lt_of_lt_of_le k0.lt hge; have hq0_1 := own_lt ho0 hge; replace k0 := Block.ups k0 hb; replace ho0 := ROwn.up ho0 hb; replace hall := hall.trans (hb.mono hall.size); clear hb; clear hge; refine kl H rfl fun a H => ?_
        refine wl_v _ (r_assign (H.ev rfl)) ?_; refine kl H rfl fun a H => ?_
        refine wpList_nil ?_
        refine c_next ?_
        refine wp_seq ?_
        refine wp_region_lit ?_
        refine wl_v _ (r_row (cs := [.slice A0 LA.length c0, .int .i64 t]) (H.ev rfl) (block_range k1) (by kernel_rfl) s24 rfl) ?_; refine kl H rfl fun a H => ?_
        refine wl_v _ (r_move (H.ev rfl)) ?_; refine kl H rfl fun a H => ?_
        refine wl_v _ (r_move (H.ev rfl)) ?_; refine kl H rfl fun a H => ?_
        refine wl_call _ _ _ (add_lit _ t _ LA s u LA LA.length false hA2.out rfl (MOwn.row ho0) (by omega)) (r_call3 cf10 (H.ev rfl) (H.ev rfl) (H.ev rfl)) ?_; rintro e w9 ⟨⟨A1, c1, rfl, ho1⟩, hb⟩; refine ⟨_, rfl, ?_⟩; replace k0 := Block.ups k0 hb; replace ho0 := ROwn.up ho0 hb; replace k1 := Block.ups k1 hb; replace hall := hall.trans (hb.mono hall.size); clear hb; refine kl H rfl fun a H => ?_
        refine wl_v _ (r_move (H.ev rfl)) ?_; refine kl H rfl fun a H => ?_
        refine wl_v _ (r_extract (v := .agg #[.slice A1 LA.length c1, .int .i64 t]) (H.ev rfl) rfl) ?_; refine kl H rfl fun a H => ?_
        refine wl_v _ (r_extract (v := .bool false) (H.ev rfl) rfl) ?_; refine kl H rfl fun a H => ?_
        refine op_new 24 10 (.tmp 44) #[.slice A1 LA.length c1, .int .i64 t] _ z24 s24 rfl (by simp [Value.cells, Value.oneCell']) (fun p => (H.put 10 p rfl).ev rfl) (fun p => (H.put 10 p rfl).ev rfl) fun w2 b2 hge hb k2 => ?_; have g2 := Nat.le_trans hall.size hge; have d0_2 : b0 < b2 := Nat.lt_of_lt_of_le k0.lt hge; have d1_2 : b1 < b2 := Nat.lt_of_lt_of_le k1.lt hge; have hq0_2 := own_lt ho0 hge; have hq1_2 := own_lt ho1 hge; replace k0 := Block.ups k0 hb; replace ho0 := ROwn.up ho0 hb; replace k1 := Block.ups k1 hb; replace ho1 := ROwn.up ho1 hb; replace hall := hall.trans (hb.mono hall.size); clear hb; clear hge; refine kl H rfl fun a H => ?_
        refine wl_v _ (r_assign (H.ev rfl)) ?_; refine kl H rfl fun a H => ?_
        refine wpList_nil ?_
        refine c_next ?_
        refine wp_seq ?_
        refine wp_region_lit ?_
        refine wl_v _ (r_row (cs := [.slice A0 LA.length c0, .int .i64 t]) (H.ev rfl) (block_range k1) (by kernel_rfl) s24 rfl) ?_; refine kl H rfl fun a H => ?_
        refine wl_v _ (r_move (H.ev rfl)) ?_; refine kl H rfl fun a H => ?_
        refine wl_v _ (r_move (H.ev rfl)) ?_; refine kl H rfl fun a H => ?_
        refine wl_call _ _ _ (strike_lit _ t _ LA s u LD LD.length true hD1.out rfl (dec_t (by omega)) (MOwn.row ho0) (by omega)) (r_call3 cf11 (H.ev rfl) (H.ev rfl) (H.ev rfl)) ?_; rintro e w9 ⟨⟨A2, c2, rfl, ho2⟩, hb⟩; refine ⟨_, rfl, ?_⟩; replace k0 := Block.ups k0 hb; replace ho0 := ROwn.up ho0 hb; replace k1 := Block.ups k1 hb; replace ho1 := ROwn.up ho1 hb; replace k2 := Block.ups k2 hb; replace hall := hall.trans (hb.mono hall.size); clear hb; refine kl H rfl fun a H => ?_
        refine wl_v _ (r_move (H.ev rfl)) ?_; refine kl H rfl fun a H => ?_
        refine wl_v _ (r_extract (v := .agg #[.slice A2 LD.length c2, .int .i64 t]) (H.ev rfl) rfl) ?_; refine kl H rfl fun a H => ?_
        refine wl_v _ (r_extract (v := .bool true) (H.ev rfl) rfl) ?_; refine kl H rfl fun a H => ?_
        refine op_new 24 12 (.tmp 51) #[.slice A2 LD.length c2, .int .i64 t] _ z24 s24 rfl (by simp [Value.cells, Value.oneCell']) (fun p => (H.put 12 p rfl).ev rfl) (fun p => (H.put 12 p rfl).ev rfl) fun w3 b3 hge hb k3 => ?_; have g3 := Nat.le_trans hall.size hge; have d0_3 : b0 < b3 := Nat.lt_of_lt_of_le k0.lt hge; have d1_3 : b1 < b3 := Nat.lt_of_lt_of_le k1.lt hge; have d2_3 : b2 < b3 := Nat.lt_of_lt_of_le k2.lt hge; have hq0_3 := own_lt ho0 hge; have hq1_3 := own_lt ho1 hge; have hq2_3 := own_lt ho2 hge; replace k0 := Block.ups k0 hb; replace ho0 := ROwn.up ho0 hb; replace k1 := Block.ups k1 hb; replace ho1 := ROwn.up ho1 hb; replace k2 := Block.ups k2 hb; replace ho2 := ROwn.up ho2 hb; replace hall := hall.trans (hb.mono hall.size); clear hb; clear hge; refine kl H rfl fun a H => ?_
        refine wl_v _ (r_assign (H.ev rfl)) ?_; refine kl H rfl fun a H => ?_
        refine wpList_nil ?_
        refine c_next ?_
        refine wp_seq ?_
        refine wp_region_lit ?_
        refine wl_v _ (r_row (cs := [.slice A L.length c, .int .i64 t]) (H.ev rfl) (block_range k0) (by kernel_rfl) s24 rfl) ?_; refine kl H rfl fun a H => ?_
        refine wl_v _ (r_move (H.ev rfl)) ?_; refine kl H rfl fun a H => ?_
        refine wl_v _ (r_move (H.ev rfl)) ?_; refine kl H rfl fun a H => ?_
        refine wl_call _ _ _ (strike_lit _ t _ L s u LD LD.length true hD2.out rfl (dec_t (by omega)) (Row.up h.out hall) (by omega)) (r_call3 cf11 (H.ev rfl) (H.ev rfl) (H.ev rfl)) ?_; rintro e w9 ⟨⟨A3, c3, rfl, ho3⟩, hb⟩; refine ⟨_, rfl, ?_⟩; replace k0 := Block.ups k0 hb; replace ho0 := ROwn.up ho0 hb; replace k1 := Block.ups k1 hb; replace ho1 := ROwn.up ho1 hb; replace k2 := Block.ups k2 hb; replace ho2 := ROwn.up ho2 hb; replace k3 := Block.ups k3 hb; replace hall := hall.trans (hb.mono hall.size); clear hb; refine kl H rfl fun a H => ?_
        refine wl_v _ (r_move (H.ev rfl)) ?_; refine kl H rfl fun a H => ?_
        refine wl_v _ (r_extract (v := .agg #[.slice A3 LD.length c3, .int .i64 t]) (H.ev rfl) rfl) ?_; refine kl H rfl fun a H => ?_
        refine wl_v _ (r_extract (v := .bool true) (H.ev rfl) rfl) ?_; refine kl H rfl fun a H => ?_
        refine op_new 24 14 (.tmp 58) #[.slice A3 LD.length c3, .int .i64 t] _ z24 s24 rfl (by simp [Value.cells, Value.oneCell']) (fun p => (H.put 14 p rfl).ev rfl) (fun p => (H.put 14 p rfl).ev rfl) fun w4 b4 hge hb k4 => ?_; have g4 := Nat.le_trans hall.size hge; have d0_4 : b0 < b4 := Nat.lt_of_lt_of_le k0.lt hge; have d1_4 : b1 < b4 := Nat.lt_of_lt_of_le k1.lt hge; have d2_4 : b2 < b4 := Nat.lt_of_lt_of_le k2.lt hge; have d3_4 : b3 < b4 := Nat.lt_of_lt_of_le k3.lt hge; have hq0_4 := own_lt ho0 hge; have hq1_4 := own_lt ho1 hge; have hq2_4 := own_lt ho2 hge; have hq3_4 := own_lt ho3 hge; replace k0 := Block.ups k0 hb; replace ho0 := ROwn.up ho0 hb; replace k1 := Block.ups k1 hb; replace ho1 := ROwn.up ho1 hb; replace k2 := Block.ups k2 hb; replace ho2 := ROwn.up ho2 hb; replace k3 := Block.ups k3 hb; replace ho3 := ROwn.up ho3 hb; replace hall := hall.trans (hb.mono hall.size); clear hb; clear hge; refine kl H rfl fun a H => ?_
        refine wl_v _ (r_assign (H.ev rfl)) ?_; refine kl H rfl fun a H => ?_
        refine wpList_nil ?_
        refine c_next ?_
        refine wp_seq ?_
        refine wp_region_lit ?_
        refine wl_v _ (r_row (cs := [.slice A0 LA.length c0, .int .i64 t]) (H.ev rfl) (block_range k1) (by kernel_rfl) s24 rfl) ?_; refine kl H rfl fun a H => ?_
        refine wl_v _ (r_move (H.ev rfl)) ?_; refine kl H rfl fun a H => ?_
        refine wl_call _ _ _ (drop_lit _ t _ LA s LI LI.length nd hI1.out rfl (by omega) (MOwn.row ho0) (by omega)) (r_call2 cf12 (H.ev rfl) (H.ev rfl)) ?_; rintro e w9 ⟨⟨A4, c4, rfl, ho4⟩, hb⟩; refine ⟨_, rfl, ?_⟩; replace k0 := Block.ups k0 hb; replace ho0 := ROwn.up ho0 hb; replace k1 := Block.ups k1 hb; replace ho1 := ROwn.up ho1 hb; replace k2 := Block.ups k2 hb; replace ho2 := ROwn.up ho2 hb; replace k3 := Block.ups k3 hb; replace ho3 := ROwn.up ho3 hb; replace k4 := Block.ups k4 hb; replace hall := hall.trans (hb.mono hall.size); clear hb; refine kl H rfl fun a H => ?_
        refine wl_v _ (r_move (H.ev rfl)) ?_; refine kl H rfl fun a H => ?_
        refine wl_v _ (r_extract (v := .agg #[.slice A4 LI.length c4, .int .i64 t]) (H.ev rfl) rfl) ?_; refine kl H rfl fun a H => ?_
        refine wl_v _ (r_extract (v := .int .i64 nd) (H.ev rfl) rfl) ?_; refine kl H rfl fun a H => ?_
        refine op_new 24 16 (.tmp 64) #[.slice A4 LI.length c4, .int .i64 t] _ z24 s24 rfl (by simp [Value.cells, Value.oneCell']) (fun p => (H.put 16 p rfl).ev rfl) (fun p => (H.put 16 p rfl).ev rfl) fun w5 b5 hge hb k5 => ?_; have g5 := Nat.le_trans hall.size hge; have d0_5 : b0 < b5 := Nat.lt_of_lt_of_le k0.lt hge; have d1_5 : b1 < b5 := Nat.lt_of_lt_of_le k1.lt hge; have d2_5 : b2 < b5 := Nat.lt_of_lt_of_le k2.lt hge; have d3_5 : b3 < b5 := Nat.lt_of_lt_of_le k3.lt hge; have d4_5 : b4 < b5 := Nat.lt_of_lt_of_le k4.lt hge; have hq0_5 := own_lt ho0 hge; have hq1_5 := own_lt ho1 hge; have hq2_5 := own_lt ho2 hge; have hq3_5 := own_lt ho3 hge; have hq4_5 := own_lt ho4 hge; replace k0 := Block.ups k0 hb; replace ho0 := ROwn.up ho0 hb; replace k1 := Block.ups k1 hb; replace ho1 := ROwn.up ho1 hb; replace k2 := Block.ups k2 hb; replace ho2 := ROwn.up ho2 hb; replace k3 := Block.ups k3 hb; replace ho3 := ROwn.up ho3 hb; replace k4 := Block.ups k4 hb; replace ho4 := ROwn.up ho4 hb; replace hall := hall.trans (hb.mono hall.size); clear hb; clear hge; refine kl H rfl fun a H => ?_
        refine wl_v _ (r_assign (H.ev rfl)) ?_; refine kl H rfl fun a H => ?_
        refine wpList_nil ?_
        refine c_next ?_
        refine wp_seq ?_
        refine wp_region_lit ?_
        refine wl_v _ (r_row (cs := [.slice A4 LI.length c4, .int .i64 t]) (H.ev rfl) (block_range k5) (by kernel_rfl) s24 rfl) ?_; refine kl H rfl fun a H => ?_
        refine wl_v _ (r_move (H.ev rfl)) ?_; refine kl H rfl fun a H => ?_
        refine op_litv 25 1 #[(0, .int .i64 s)] 3 #[.int .i64 s] (by simp [evc, H.ev (j := 68) rfl]) (fun w => by kernel_rfl) fun w6 b6 hge hb k6 => ?_; have g6 := Nat.le_trans hall.size hge; have d0_6 : b0 < b6 := Nat.lt_of_lt_of_le k0.lt hge; have d1_6 : b1 < b6 := Nat.lt_of_lt_of_le k1.lt hge; have d2_6 : b2 < b6 := Nat.lt_of_lt_of_le k2.lt hge; have d3_6 : b3 < b6 := Nat.lt_of_lt_of_le k3.lt hge; have d4_6 : b4 < b6 := Nat.lt_of_lt_of_le k4.lt hge; have d5_6 : b5 < b6 := Nat.lt_of_lt_of_le k5.lt hge; have hq0_6 := own_lt ho0 hge; have hq1_6 := own_lt ho1 hge; have hq2_6 := own_lt ho2 hge; have hq3_6 := own_lt ho3 hge; have hq4_6 := own_lt ho4 hge; replace k0 := Block.ups k0 hb; replace ho0 := ROwn.up ho0 hb; replace k1 := Block.ups k1 hb; replace ho1 := ROwn.up ho1 hb; replace k2 := Block.ups k2 hb; replace ho2 := ROwn.up ho2 hb; replace k3 := Block.ups k3 hb; replace ho3 := ROwn.up ho3 hb; replace k4 := Block.ups k4 hb; replace ho4 := ROwn.up ho4 hb; replace k5 := Block.ups k5 hb; replace hall := hall.trans (hb.mono hall.size); clear hb; clear hge; refine kl H rfl fun a H => ?_
        refine wl_call _ _ _ (next_lit _ t _ _ LI [s] LI LI.length t 0 0 false hN.out rfl (MOwn.row ho4) (lit_rowI k6 rfl (by simp [maxLen])) (by omega) (by simp) ht (mwf_max hWI.out)) (r_call2 cf9 (H.ev rfl) (H.ev rfl)) ?_; rintro e w9 ⟨⟨A5, c5, rfl, ho5⟩, hb⟩; refine ⟨_, rfl, ?_⟩; replace k0 := Block.ups k0 hb; replace ho0 := ROwn.up ho0 hb; replace k1 := Block.ups k1 hb; replace ho1 := ROwn.up ho1 hb; replace k2 := Block.ups k2 hb; replace ho2 := ROwn.up ho2 hb; replace k3 := Block.ups k3 hb; replace ho3 := ROwn.up ho3 hb; replace k4 := Block.ups k4 hb; replace ho4 := ROwn.up ho4 hb; replace k5 := Block.ups k5 hb; replace k6 := Block.ups k6 hb; replace hall := hall.trans (hb.mono hall.size); clear hb; refine kl H rfl fun a H => ?_
        refine wl_v _ (r_move (H.ev rfl)) ?_; refine kl H rfl fun a H => ?_
        refine wl_v _ (r_extract (v := .agg #[.slice A5 LI.length c5, .int .i64 t]) (H.ev rfl) rfl) ?_; refine kl H rfl fun a H => ?_
        refine wl_v _ (r_extract (v := .agg #[.int .i64 0, .int .i64 0]) (H.ev rfl) rfl) ?_; refine kl H rfl fun a H => ?_
        refine wl_v _ (r_extract (v := .bool false) (H.ev rfl) rfl) ?_; refine kl H rfl fun a H => ?_
        refine op_alloc 24 #[.slice none 0 0, .int .i64 0] z24 fun w7 b7 hge hb k7 => ?_; have g7 := Nat.le_trans hall.size hge; have d0_7 : b0 < b7 := Nat.lt_of_lt_of_le k0.lt hge; have d1_7 : b1 < b7 := Nat.lt_of_lt_of_le k1.lt hge; have d2_7 : b2 < b7 := Nat.lt_of_lt_of_le k2.lt hge; have d3_7 : b3 < b7 := Nat.lt_of_lt_of_le k3.lt hge; have d4_7 : b4 < b7 := Nat.lt_of_lt_of_le k4.lt hge; have d5_7 : b5 < b7 := Nat.lt_of_lt_of_le k5.lt hge; have d6_7 : b6 < b7 := Nat.lt_of_lt_of_le k6.lt hge; have hq0_7 := own_lt ho0 hge; have hq1_7 := own_lt ho1 hge; have hq2_7 := own_lt ho2 hge; have hq3_7 := own_lt ho3 hge; have hq4_7 := own_lt ho4 hge; have hq5_7 := own_lt ho5 hge; replace k0 := Block.ups k0 hb; replace ho0 := ROwn.up ho0 hb; replace k1 := Block.ups k1 hb; replace ho1 := ROwn.up ho1 hb; replace k2 := Block.ups k2 hb; replace ho2 := ROwn.up ho2 hb; replace k3 := Block.ups k3 hb; replace ho3 := ROwn.up ho3 hb; replace k4 := Block.ups k4 hb; replace ho4 := ROwn.up ho4 hb; replace k5 := Block.ups k5 hb; replace k6 := Block.ups k6 hb; replace ho5 := ROwn.up ho5 hb; replace hall := hall.trans (hb.mono hall.size); clear hb; clear hge; refine kl H rfl fun a H => ?_
        refine op_alloc 29 #[.int .i64 0, .int .i64 0] z29 fun w8 b8 hge hb k8 => ?_; have g8 := Nat.le_trans hall.size hge; have d0_8 : b0 < b8 := Nat.lt_of_lt_of_le k0.lt hge; have d1_8 : b1 < b8 := Nat.lt_of_lt_of_le k1.lt hge; have d2_8 : b2 < b8 := Nat.lt_of_lt_of_le k2.lt hge; have d3_8 : b3 < b8 := Nat.lt_of_lt_of_le k3.lt hge; have d4_8 : b4 < b8 := Nat.lt_of_lt_of_le k4.lt hge; have d5_8 : b5 < b8 := Nat.lt_of_lt_of_le k5.lt hge; have d6_8 : b6 < b8 := Nat.lt_of_lt_of_le k6.lt hge; have d7_8 : b7 < b8 := Nat.lt_of_lt_of_le k7.lt hge; have hq0_8 := own_lt ho0 hge; have hq1_8 := own_lt ho1 hge; have hq2_8 := own_lt ho2 hge; have hq3_8 := own_lt ho3 hge; have hq4_8 := own_lt ho4 hge; have hq5_8 := own_lt ho5 hge; replace k0 := Block.ups k0 hb; replace ho0 := ROwn.up ho0 hb; replace k1 := Block.ups k1 hb; replace ho1 := ROwn.up ho1 hb; replace k2 := Block.ups k2 hb; replace ho2 := ROwn.up ho2 hb; replace k3 := Block.ups k3 hb; replace ho3 := ROwn.up ho3 hb; replace k4 := Block.ups k4 hb; replace ho4 := ROwn.up ho4 hb; replace k5 := Block.ups k5 hb; replace k6 := Block.ups k6 hb; replace ho5 := ROwn.up ho5 hb; replace k7 := Block.ups k7 hb; replace hall := hall.trans (hb.mono hall.size); clear hb; clear hge; refine kl H rfl fun a H => ?_
        refine op_store1 24 (.tmp 18) (.tmp 71) b7 0 24 (.agg #[.slice A5 LI.length c5, .int .i64 t]) _ (H.ev rfl) (H.ev rfl) k7 s24 (by simp [Value.cells]) (by simp [Value.cells, Value.oneCell']) fun w' hb ho kq => ?_; clear k7; have k7 : Block _ b7 24 #[.slice A5 LI.length c5, .int .i64 t] := kq; clear kq; replace k0 := block_same k0 (ho _ (by omega)); replace ho0 := ROwn.upD ho0 hq0_7 (hb _ (Nat.le_refl _)); replace k1 := block_same k1 (ho _ (by omega)); replace ho1 := ROwn.upD ho1 hq1_7 (hb _ (Nat.le_refl _)); replace k2 := block_same k2 (ho _ (by omega)); replace ho2 := ROwn.upD ho2 hq2_7 (hb _ (Nat.le_refl _)); replace k3 := block_same k3 (ho _ (by omega)); replace ho3 := ROwn.upD ho3 hq3_7 (hb _ (Nat.le_refl _)); replace k4 := block_same k4 (ho _ (by omega)); replace ho4 := ROwn.upD ho4 hq4_7 (hb _ (Nat.le_refl _)); replace k5 := block_same k5 (ho _ (by omega)); replace k6 := block_same k6 (ho _ (by omega)); replace ho5 := ROwn.upD ho5 hq5_7 (hb _ (Nat.le_refl _)); replace k8 := block_same k8 (ho _ (by omega)); replace hall := hall.trans (hb _ g7); clear hb ho; refine kl0 H fun a H => ?_
        refine op_store1 29 (.tmp 19) (.tmp 72) b8 0 29 (.agg #[.int .i64 0, .int .i64 0]) _ (H.ev rfl) (H.ev rfl) k8 s29 (by simp [Value.cells]) (ints_one [0, 0]) fun w' hb ho kq => ?_; clear k8; have k8 : Block _ b8 29 #[.int .i64 0, .int .i64 0] := kq; clear kq; replace k0 := block_same k0 (ho _ (by omega)); replace ho0 := ROwn.upD ho0 hq0_8 (hb _ (Nat.le_refl _)); replace k1 := block_same k1 (ho _ (by omega)); replace ho1 := ROwn.upD ho1 hq1_8 (hb _ (Nat.le_refl _)); replace k2 := block_same k2 (ho _ (by omega)); replace ho2 := ROwn.upD ho2 hq2_8 (hb _ (Nat.le_refl _)); replace k3 := block_same k3 (ho _ (by omega)); replace ho3 := ROwn.upD ho3 hq3_8 (hb _ (Nat.le_refl _)); replace k4 := block_same k4 (ho _ (by omega)); replace ho4 := ROwn.upD ho4 hq4_8 (hb _ (Nat.le_refl _)); replace k5 := block_same k5 (ho _ (by omega)); replace k6 := block_same k6 (ho _ (by omega)); replace ho5 := ROwn.upD ho5 hq5_8 (hb _ (Nat.le_refl _)); replace k7 := block_same k7 (ho _ (by omega)); replace hall := hall.trans (hb _ g8); clear hb ho; refine kl0 H fun a H => ?_
        refine wl_v _ (r_assign (H.ev rfl)) ?_; refine kl H rfl fun a H => ?_
        refine wpList_nil ?_
        refine c_next ?_
        refine wp_seq ?_
        refine wp_region_lit ?_
        refine wl_v _ (r_move (H.ev rfl)) ?_; refine kl H rfl fun a H => ?_
        refine wl_v _ (r_move (H.ev rfl)) ?_; refine kl H rfl fun a H => ?_
        refine op_unguard _ _ (kg_yes rfl H rfl rfl rfl) ?_; refine wl_v _ (r_move (H.ev rfl)) ?_; refine kl H rfl fun a H => ?_
        refine op_unguard _ _ (kg_yes rfl H rfl rfl rfl) ?_; refine wl_v _ (r_not (H.ev rfl) rfl) ?_; refine kl H rfl fun a H => ?_
        refine wl_v _ (r_pick_t (H.ev rfl) (H.ev rfl)) ?_; refine kl H rfl fun a H => ?_
        refine wl_v _ (r_move (H.ev rfl)) ?_; refine kl H rfl fun a H => ?_
        refine op_unguard _ _ (kg_yes rfl H rfl rfl rfl) ?_; refine wl_v _ (r_row (cs := [.slice A1 LA.length c1, .int .i64 t]) (H.ev rfl) (block_range k2) (by kernel_rfl) s24 rfl) ?_; refine kl H rfl fun a H => ?_
        refine op_unguard _ _ (kg_yes rfl H rfl rfl rfl) ?_; refine wl_v _ (r_row (cs := [.slice A0 LA.length c0, .int .i64 t]) (H.ev rfl) (block_range k1) (by kernel_rfl) s24 rfl) ?_; refine kl H rfl fun a H => ?_
        refine op_unguard _ _ (kg_yes rfl H rfl rfl rfl) ?_; refine wl_call _ _ _ (same_lit _ t t _ _ LA LA true same_self (MOwn.row ho1) (MOwn.row ho0) (by omega)) (r_call2 cf13 (H.ev rfl) (H.ev rfl)) ?_; rintro e w9 ⟨rfl, hb⟩; refine ⟨_, rfl, ?_⟩; replace k0 := Block.ups k0 hb; replace ho0 := ROwn.up ho0 hb; replace k1 := Block.ups k1 hb; replace ho1 := ROwn.up ho1 hb; replace k2 := Block.ups k2 hb; replace ho2 := ROwn.up ho2 hb; replace k3 := Block.ups k3 hb; replace ho3 := ROwn.up ho3 hb; replace k4 := Block.ups k4 hb; replace ho4 := ROwn.up ho4 hb; replace k5 := Block.ups k5 hb; replace k6 := Block.ups k6 hb; replace ho5 := ROwn.up ho5 hb; replace k7 := Block.ups k7 hb; replace k8 := Block.ups k8 hb; replace hall := hall.trans (hb.mono hall.size); clear hb; refine kl H rfl fun a H => ?_
        refine wl_v _ (r_pick_t (H.ev rfl) (H.ev rfl)) ?_; refine kl H rfl fun a H => ?_
        refine wl_v _ (r_move (H.ev rfl)) ?_; refine kl H rfl fun a H => ?_
        refine op_unguard _ _ (kg_yes rfl H rfl rfl rfl) ?_; refine wl_v _ (r_move (H.ev rfl)) ?_; refine kl H rfl fun a H => ?_
        refine wl_v _ (r_pick_t (H.ev rfl) (H.ev rfl)) ?_; refine kl H rfl fun a H => ?_
        refine wl_v _ (r_move (H.ev rfl)) ?_; refine kl H rfl fun a H => ?_
        refine op_unguard _ _ (kg_yes rfl H rfl rfl rfl) ?_; refine wl_v _ (r_row (cs := [.slice A2 LD.length c2, .int .i64 t]) (H.ev rfl) (block_range k3) (by kernel_rfl) s24 rfl) ?_; refine kl H rfl fun a H => ?_
        refine op_unguard _ _ (kg_yes rfl H rfl rfl rfl) ?_; refine wl_v _ (r_row (cs := [.slice A3 LD.length c3, .int .i64 t]) (H.ev rfl) (block_range k4) (by kernel_rfl) s24 rfl) ?_; refine kl H rfl fun a H => ?_
        refine op_unguard _ _ (kg_yes rfl H rfl rfl rfl) ?_; refine wl_call _ _ _ (same_lit _ t t _ _ LD LD true same_self (MOwn.row ho2) (MOwn.row ho3) (by omega)) (r_call2 cf13 (H.ev rfl) (H.ev rfl)) ?_; rintro e w9 ⟨rfl, hb⟩; refine ⟨_, rfl, ?_⟩; replace k0 := Block.ups k0 hb; replace ho0 := ROwn.up ho0 hb; replace k1 := Block.ups k1 hb; replace ho1 := ROwn.up ho1 hb; replace k2 := Block.ups k2 hb; replace ho2 := ROwn.up ho2 hb; replace k3 := Block.ups k3 hb; replace ho3 := ROwn.up ho3 hb; replace k4 := Block.ups k4 hb; replace ho4 := ROwn.up ho4 hb; replace k5 := Block.ups k5 hb; replace k6 := Block.ups k6 hb; replace ho5 := ROwn.up ho5 hb; replace k7 := Block.ups k7 hb; replace k8 := Block.ups k8 hb; replace hall := hall.trans (hb.mono hall.size); clear hb; refine kl H rfl fun a H => ?_
        refine wl_v _ (r_pick_t (H.ev rfl) (H.ev rfl)) ?_; refine kl H rfl fun a H => ?_
        refine wl_v _ (r_move (H.ev rfl)) ?_; refine kl H rfl fun a H => ?_
        refine op_unguard _ _ (kg_yes rfl H rfl rfl rfl) ?_; refine wl_v _ (r_move (H.ev rfl)) ?_; refine kl H rfl fun a H => ?_
        refine op_unguard _ _ (kg_yes rfl H rfl rfl rfl) ?_; refine wl_v _ (r_row (cs := [.slice A0 LA.length c0, .int .i64 t]) (H.ev rfl) (block_range k1) (by kernel_rfl) s24 rfl) ?_; refine kl H rfl fun a H => ?_
        refine op_unguard _ _ (kg_yes rfl H rfl rfl rfl) ?_; refine wl_v _ (r_row (cs := [.slice A L.length c, .int .i64 t]) (H.ev rfl) (block_range k0) (by kernel_rfl) s24 rfl) ?_; refine kl H rfl fun a H => ?_
        refine op_unguard _ _ (kg_yes rfl H rfl rfl rfl) ?_; refine wl_call _ _ _ (same_lit _ t t _ _ LA L true hS.out (MOwn.row ho0) (Row.up h.out hall) (by omega)) (r_call2 cf13 (H.ev rfl) (H.ev rfl)) ?_; rintro e w9 ⟨rfl, hb⟩; refine ⟨_, rfl, ?_⟩; replace k0 := Block.ups k0 hb; replace ho0 := ROwn.up ho0 hb; replace k1 := Block.ups k1 hb; replace ho1 := ROwn.up ho1 hb; replace k2 := Block.ups k2 hb; replace ho2 := ROwn.up ho2 hb; replace k3 := Block.ups k3 hb; replace ho3 := ROwn.up ho3 hb; replace k4 := Block.ups k4 hb; replace ho4 := ROwn.up ho4 hb; replace k5 := Block.ups k5 hb; replace k6 := Block.ups k6 hb; replace ho5 := ROwn.up ho5 hb; replace k7 := Block.ups k7 hb; replace k8 := Block.ups k8 hb; replace hall := hall.trans (hb.mono hall.size); clear hb; refine kl H rfl fun a H => ?_
        refine op_unguard _ _ (kg_yes rfl H rfl rfl rfl) ?_; refine wl_v _ (r_beq Try.underlying4 (H.ev rfl) (H.ev rfl) rfl) ?_; refine kl H rfl fun a H => ?_
        refine wl_v _ (r_pick_t (H.ev rfl) (H.ev rfl)) ?_; refine kl H rfl fun a H => ?_
        refine wl_v _ (r_move (H.ev rfl)) ?_; refine kl H rfl fun a H => ?_
        refine op_unguard _ _ (kg_yes rfl H rfl rfl rfl) ?_; refine wl_v _ (r_fld (q := 0) fld24_0 (H.ev rfl) rfl) ?_; refine kl H rfl fun a H => ?_
        refine op_unguard _ _ (kg_yes rfl H rfl rfl rfl) ?_; refine wl_v _ (r_ld Try.underlying22 rfl (H.ev rfl) ((Block.cell k3 0).trans rfl)) ?_; refine kl H rfl fun a H => ?_
        refine op_unguard _ _ (kg_yes rfl H rfl rfl rfl) ?_; refine wl_v _ (r_len Try.underlying22 (H.ev rfl)) ?_; refine kl H rfl fun a H => ?_
        refine op_unguard _ _ (kg_yes rfl H rfl rfl rfl) ?_; refine wl_v _ (r_fld (q := 0) fld24_0 (H.ev rfl) rfl) ?_; refine kl H rfl fun a H => ?_
        refine op_unguard _ _ (kg_yes rfl H rfl rfl rfl) ?_; refine wl_v _ (r_ld Try.underlying22 rfl (H.ev rfl) ((Block.cell k1 0).trans rfl)) ?_; refine kl H rfl fun a H => ?_
        refine op_unguard _ _ (kg_yes rfl H rfl rfl rfl) ?_; refine wl_v _ (r_len Try.underlying22 (H.ev rfl)) ?_; refine kl H rfl fun a H => ?_
        refine op_unguard _ _ (kg_yes rfl H rfl rfl rfl) ?_; refine wl_v _ (r_sub (q := ((LA.length : Nat) : Int) - 1) Try.underlying3 (H.ev rfl) evc (by omega) (by omega)) ?_; refine kl H rfl fun a H => ?_
        by_cases hcc1 : ((LD.length : Nat) : Int) = (((LA.length : Nat) : Int) - 1)
        · skip
          refine op_unguard _ _ (kg_yes rfl H rfl rfl rfl) ?_; refine wl_v _ (r_eq Try.underlying3 (H.ev rfl) (H.ev rfl) (dec_t (hcc1))) ?_; refine kl H rfl fun a H => ?_
          refine wl_v _ (r_pick_t (H.ev rfl) (H.ev rfl)) ?_; refine kl H rfl fun a H => ?_
          refine wl_v _ (r_move (H.ev rfl)) ?_; refine kl H rfl fun a H => ?_
          refine op_unguard _ _ (kg_yes rfl H rfl rfl rfl) ?_; refine wl_v _ (r_move (H.ev rfl)) ?_; refine kl H rfl fun a H => ?_
          by_cases hcc2 : nd ≥ 1
          · skip
            refine op_unguard _ _ (kg_yes rfl H rfl rfl rfl) ?_; refine wl_v _ (r_ge Try.underlying3 (H.ev rfl) evc (dec_t (hcc2))) ?_; refine kl H rfl fun a H => ?_
            refine wl_v _ (r_pick_t (H.ev rfl) (H.ev rfl)) ?_; refine kl H rfl fun a H => ?_
            refine wl_v _ (r_move (H.ev rfl)) ?_; refine kl H rfl fun a H => ?_
            refine op_unguard _ _ (kg_yes rfl H rfl rfl rfl) ?_; refine wl_v _ (r_fld (q := 0) fld24_0 (H.ev rfl) rfl) ?_; refine kl H rfl fun a H => ?_
            refine op_unguard _ _ (kg_yes rfl H rfl rfl rfl) ?_; refine wl_v _ (r_ld Try.underlying22 rfl (H.ev rfl) ((Block.cell k5 0).trans rfl)) ?_; refine kl H rfl fun a H => ?_
            refine op_unguard _ _ (kg_yes rfl H rfl rfl rfl) ?_; refine wl_v _ (r_len Try.underlying22 (H.ev rfl)) ?_; refine kl H rfl fun a H => ?_
            refine op_unguard _ _ (kg_yes rfl H rfl rfl rfl) ?_; refine wl_v _ (r_fld (q := 0) fld24_0 (H.ev rfl) rfl) ?_; refine kl H rfl fun a H => ?_
            refine op_unguard _ _ (kg_yes rfl H rfl rfl rfl) ?_; refine wl_v _ (r_ld Try.underlying22 rfl (H.ev rfl) ((Block.cell k1 0).trans rfl)) ?_; refine kl H rfl fun a H => ?_
            refine op_unguard _ _ (kg_yes rfl H rfl rfl rfl) ?_; refine wl_v _ (r_len Try.underlying22 (H.ev rfl)) ?_; refine kl H rfl fun a H => ?_
            refine op_unguard _ _ (kg_yes rfl H rfl rfl rfl) ?_; refine wl_v _ (r_move (H.ev rfl)) ?_; refine kl H rfl fun a H => ?_
            refine op_unguard _ _ (kg_yes rfl H rfl rfl rfl) ?_; refine wl_v _ (r_sub (q := ((LA.length : Nat) : Int) - nd) Try.underlying3 (H.ev rfl) (H.ev rfl) (by omega) (by omega)) ?_; refine kl H rfl fun a H => ?_
            by_cases hcc3 : ((LI.length : Nat) : Int) = (((LA.length : Nat) : Int) - nd)
            · skip
              refine op_unguard _ _ (kg_yes rfl H rfl rfl rfl) ?_; refine wl_v _ (r_eq Try.underlying3 (H.ev rfl) (H.ev rfl) (dec_t (hcc3))) ?_; refine kl H rfl fun a H => ?_
              refine wl_v _ (r_pick_t (H.ev rfl) (H.ev rfl)) ?_; refine kl H rfl fun a H => ?_
              refine wl_v _ (r_move (H.ev rfl)) ?_; refine kl H rfl fun a H => ?_
              refine op_unguard _ _ (kg_yes rfl H rfl rfl rfl) ?_; refine wl_v _ (r_move (H.ev rfl)) ?_; refine kl H rfl fun a H => ?_
              refine op_unguard _ _ (kg_yes rfl H rfl rfl rfl) ?_; refine wl_v _ (r_not (H.ev rfl) rfl) ?_; refine kl H rfl fun a H => ?_
              refine wl_v _ (r_pick_t (H.ev rfl) (H.ev rfl)) ?_; refine kl H rfl fun a H => ?_
              refine wl_v _ (r_move (H.ev rfl)) ?_; refine kl H rfl fun a H => ?_
              refine op_unguard _ _ (kg_yes rfl H rfl rfl rfl) ?_; refine wl_v _ (r_row (cs := [.slice A0 LA.length c0, .int .i64 t]) (H.ev rfl) (block_range k1) (by kernel_rfl) s24 rfl) ?_; refine kl H rfl fun a H => ?_
              refine op_unguard _ _ (kg_yes rfl H rfl rfl rfl) ?_; refine wl_call _ _ _ (right_lit _ t _ LA true hRA.out (MOwn.row ho0) (by omega) hWA.out) (r_call1 cf8 (H.ev rfl)) ?_; rintro e w9 ⟨rfl, hb⟩; refine ⟨_, rfl, ?_⟩; replace k0 := Block.ups k0 hb; replace ho0 := ROwn.up ho0 hb; replace k1 := Block.ups k1 hb; replace ho1 := ROwn.up ho1 hb; replace k2 := Block.ups k2 hb; replace ho2 := ROwn.up ho2 hb; replace k3 := Block.ups k3 hb; replace ho3 := ROwn.up ho3 hb; replace k4 := Block.ups k4 hb; replace ho4 := ROwn.up ho4 hb; replace k5 := Block.ups k5 hb; replace k6 := Block.ups k6 hb; replace ho5 := ROwn.up ho5 hb; replace k7 := Block.ups k7 hb; replace k8 := Block.ups k8 hb; replace hall := hall.trans (hb.mono hall.size); clear hb; refine kl H rfl fun a H => ?_
              refine wl_v _ (r_pick_t (H.ev rfl) (H.ev rfl)) ?_; refine kl H rfl fun a H => ?_
              refine wl_v _ (r_move (H.ev rfl)) ?_; refine kl H rfl fun a H => ?_
              refine op_unguard _ _ (kg_yes rfl H rfl rfl rfl) ?_; refine wl_v _ (r_row (cs := [.slice A2 LD.length c2, .int .i64 t]) (H.ev rfl) (block_range k3) (by kernel_rfl) s24 rfl) ?_; refine kl H rfl fun a H => ?_
              refine op_unguard _ _ (kg_yes rfl H rfl rfl rfl) ?_; refine wl_call _ _ _ (right_lit _ t _ LD true hRD.out (MOwn.row ho2) (by omega) hWD.out) (r_call1 cf8 (H.ev rfl)) ?_; rintro e w9 ⟨rfl, hb⟩; refine ⟨_, rfl, ?_⟩; replace k0 := Block.ups k0 hb; replace ho0 := ROwn.up ho0 hb; replace k1 := Block.ups k1 hb; replace ho1 := ROwn.up ho1 hb; replace k2 := Block.ups k2 hb; replace ho2 := ROwn.up ho2 hb; replace k3 := Block.ups k3 hb; replace ho3 := ROwn.up ho3 hb; replace k4 := Block.ups k4 hb; replace ho4 := ROwn.up ho4 hb; replace k5 := Block.ups k5 hb; replace k6 := Block.ups k6 hb; replace ho5 := ROwn.up ho5 hb; replace k7 := Block.ups k7 hb; replace k8 := Block.ups k8 hb; replace hall := hall.trans (hb.mono hall.size); clear hb; refine kl H rfl fun a H => ?_
              refine wl_v _ (r_pick_t (H.ev rfl) (H.ev rfl)) ?_; refine kl H rfl fun a H => ?_
              refine wl_v _ (r_move (H.ev rfl)) ?_; refine kl H rfl fun a H => ?_
              refine op_unguard _ _ (kg_yes rfl H rfl rfl rfl) ?_; refine wl_v _ (r_row (cs := [.slice A4 LI.length c4, .int .i64 t]) (H.ev rfl) (block_range k5) (by kernel_rfl) s24 rfl) ?_; refine kl H rfl fun a H => ?_
              refine op_unguard _ _ (kg_yes rfl H rfl rfl rfl) ?_; refine wl_call _ _ _ (right_lit _ t _ LI true hRI.out (MOwn.row ho4) (by omega) hWI.out) (r_call1 cf8 (H.ev rfl)) ?_; rintro e w9 ⟨rfl, hb⟩; refine ⟨_, rfl, ?_⟩; replace k0 := Block.ups k0 hb; replace ho0 := ROwn.up ho0 hb; replace k1 := Block.ups k1 hb; replace ho1 := ROwn.up ho1 hb; replace k2 := Block.ups k2 hb; replace ho2 := ROwn.up ho2 hb; replace k3 := Block.ups k3 hb; replace ho3 := ROwn.up ho3 hb; replace k4 := Block.ups k4 hb; replace ho4 := ROwn.up ho4 hb; replace k5 := Block.ups k5 hb; replace k6 := Block.ups k6 hb; replace ho5 := ROwn.up ho5 hb; replace k7 := Block.ups k7 hb; replace k8 := Block.ups k8 hb; replace hall := hall.trans (hb.mono hall.size); clear hb; refine kl H rfl fun a H => ?_
              refine wl_v _ (r_pick_t (H.ev rfl) (H.ev rfl)) ?_; refine kl H rfl fun a H => ?_
              refine wl_v _ (r_assign (H.ev rfl)) ?_; refine kl H rfl fun a H => ?_
              refine wpList_nil ?_
              refine c_next ?_
              refine wp_ret ?_
              exact k_ret1 H rfl rfl ⟨rfl, hall⟩
            · skip
              refine op_unguard _ _ (kg_yes rfl H rfl rfl rfl) ?_; refine wl_v _ (r_eq Try.underlying3 (H.ev rfl) (H.ev rfl) (dec_f (hcc3))) ?_; refine kl H rfl fun a H => ?_
              refine wl_v _ (r_pick_t (H.ev rfl) (H.ev rfl)) ?_; refine kl H rfl fun a H => ?_
              refine wl_v _ (r_move (H.ev rfl)) ?_; refine kl H rfl fun a H => ?_
              refine wl_s (kg_no rfl H rfl rfl rfl) ?_; refine kl H rfl fun a H => ?_
              refine wl_s (kg_no rfl H rfl rfl rfl) ?_; refine kl H rfl fun a H => ?_
              refine wl_v _ (r_pick_f (H.ev rfl) evc) ?_; refine kl H rfl fun a H => ?_
              refine wl_v _ (r_move (H.ev rfl)) ?_; refine kl H rfl fun a H => ?_
              refine wl_s (kg_no rfl H rfl rfl rfl) ?_; refine kl H rfl fun a H => ?_
              refine wl_s (kg_no rfl H rfl rfl rfl) ?_; refine kl H rfl fun a H => ?_
              refine wl_v _ (r_pick_f (H.ev rfl) evc) ?_; refine kl H rfl fun a H => ?_
              refine wl_v _ (r_move (H.ev rfl)) ?_; refine kl H rfl fun a H => ?_
              refine wl_s (kg_no rfl H rfl rfl rfl) ?_; refine kl H rfl fun a H => ?_
              refine wl_s (kg_no rfl H rfl rfl rfl) ?_; refine kl H rfl fun a H => ?_
              refine wl_v _ (r_pick_f (H.ev rfl) evc) ?_; refine kl H rfl fun a H => ?_
              refine wl_v _ (r_move (H.ev rfl)) ?_; refine kl H rfl fun a H => ?_
              refine wl_s (kg_no rfl H rfl rfl rfl) ?_; refine kl H rfl fun a H => ?_
              refine wl_s (kg_no rfl H rfl rfl rfl) ?_; refine kl H rfl fun a H => ?_
              refine wl_v _ (r_pick_f (H.ev rfl) evc) ?_; refine kl H rfl fun a H => ?_
              refine wl_v _ (r_assign (H.ev rfl)) ?_; refine kl H rfl fun a H => ?_
              refine wpList_nil ?_
              refine c_next ?_
              refine wp_ret ?_
              exfalso; omega
          · skip
            refine op_unguard _ _ (kg_yes rfl H rfl rfl rfl) ?_; refine wl_v _ (r_ge Try.underlying3 (H.ev rfl) evc (dec_f (hcc2))) ?_; refine kl H rfl fun a H => ?_
            refine wl_v _ (r_pick_t (H.ev rfl) (H.ev rfl)) ?_; refine kl H rfl fun a H => ?_
            refine wl_v _ (r_move (H.ev rfl)) ?_; refine kl H rfl fun a H => ?_
            refine wl_s (kg_no rfl H rfl rfl rfl) ?_; refine kl H rfl fun a H => ?_
            refine wl_s (kg_no rfl H rfl rfl rfl) ?_; refine kl H rfl fun a H => ?_
            refine wl_s (kg_no rfl H rfl rfl rfl) ?_; refine kl H rfl fun a H => ?_
            refine wl_s (kg_no rfl H rfl rfl rfl) ?_; refine kl H rfl fun a H => ?_
            refine wl_s (kg_no rfl H rfl rfl rfl) ?_; refine kl H rfl fun a H => ?_
            refine wl_s (kg_no rfl H rfl rfl rfl) ?_; refine kl H rfl fun a H => ?_
            refine wl_s (kg_no rfl H rfl rfl rfl) ?_; refine kl H rfl fun a H => ?_
            refine wl_s (kg_no rfl H rfl rfl rfl) ?_; refine kl H rfl fun a H => ?_
            refine wl_s (kg_no rfl H rfl rfl rfl) ?_; refine kl H rfl fun a H => ?_
            refine wl_v _ (r_pick_f (H.ev rfl) evc) ?_; refine kl H rfl fun a H => ?_
            refine wl_v _ (r_move (H.ev rfl)) ?_; refine kl H rfl fun a H => ?_
            refine wl_s (kg_no rfl H rfl rfl rfl) ?_; refine kl H rfl fun a H => ?_
            refine wl_s (kg_no rfl H rfl rfl rfl) ?_; refine kl H rfl fun a H => ?_
            refine wl_v _ (r_pick_f (H.ev rfl) evc) ?_; refine kl H rfl fun a H => ?_
            refine wl_v _ (r_move (H.ev rfl)) ?_; refine kl H rfl fun a H => ?_
            refine wl_s (kg_no rfl H rfl rfl rfl) ?_; refine kl H rfl fun a H => ?_
            refine wl_s (kg_no rfl H rfl rfl rfl) ?_; refine kl H rfl fun a H => ?_
            refine wl_v _ (r_pick_f (H.ev rfl) evc) ?_; refine kl H rfl fun a H => ?_
            refine wl_v _ (r_move (H.ev rfl)) ?_; refine kl H rfl fun a H => ?_
            refine wl_s (kg_no rfl H rfl rfl rfl) ?_; refine kl H rfl fun a H => ?_
            refine wl_s (kg_no rfl H rfl rfl rfl) ?_; refine kl H rfl fun a H => ?_
            refine wl_v _ (r_pick_f (H.ev rfl) evc) ?_; refine kl H rfl fun a H => ?_
            refine wl_v _ (r_move (H.ev rfl)) ?_; refine kl H rfl fun a H => ?_
            refine wl_s (kg_no rfl H rfl rfl rfl) ?_; refine kl H rfl fun a H => ?_
            refine wl_s (kg_no rfl H rfl rfl rfl) ?_; refine kl H rfl fun a H => ?_
            refine wl_v _ (r_pick_f (H.ev rfl) evc) ?_; refine kl H rfl fun a H => ?_
            refine wl_v _ (r_assign (H.ev rfl)) ?_; refine kl H rfl fun a H => ?_
            refine wpList_nil ?_
            refine c_next ?_
            refine wp_ret ?_
            exfalso; omega
        · skip
          refine op_unguard _ _ (kg_yes rfl H rfl rfl rfl) ?_; refine wl_v _ (r_eq Try.underlying3 (H.ev rfl) (H.ev rfl) (dec_f (hcc1))) ?_; refine kl H rfl fun a H => ?_
          refine wl_v _ (r_pick_t (H.ev rfl) (H.ev rfl)) ?_; refine kl H rfl fun a H => ?_
          refine wl_v _ (r_move (H.ev rfl)) ?_; refine kl H rfl fun a H => ?_
          refine wl_s (kg_no rfl H rfl rfl rfl) ?_; refine kl H rfl fun a H => ?_
          refine wl_s (kg_no rfl H rfl rfl rfl) ?_; refine kl H rfl fun a H => ?_
          refine wl_v _ (r_pick_f (H.ev rfl) evc) ?_; refine kl H rfl fun a H => ?_
          refine wl_v _ (r_move (H.ev rfl)) ?_; refine kl H rfl fun a H => ?_
          refine wl_s (kg_no rfl H rfl rfl rfl) ?_; refine kl H rfl fun a H => ?_
          refine wl_s (kg_no rfl H rfl rfl rfl) ?_; refine kl H rfl fun a H => ?_
          refine wl_s (kg_no rfl H rfl rfl rfl) ?_; refine kl H rfl fun a H => ?_
          refine wl_s (kg_no rfl H rfl rfl rfl) ?_; refine kl H rfl fun a H => ?_
          refine wl_s (kg_no rfl H rfl rfl rfl) ?_; refine kl H rfl fun a H => ?_
          refine wl_s (kg_no rfl H rfl rfl rfl) ?_; refine kl H rfl fun a H => ?_
          refine wl_s (kg_no rfl H rfl rfl rfl) ?_; refine kl H rfl fun a H => ?_
          refine wl_s (kg_no rfl H rfl rfl rfl) ?_; refine kl H rfl fun a H => ?_
          refine wl_s (kg_no rfl H rfl rfl rfl) ?_; refine kl H rfl fun a H => ?_
          refine wl_v _ (r_pick_f (H.ev rfl) evc) ?_; refine kl H rfl fun a H => ?_
          refine wl_v _ (r_move (H.ev rfl)) ?_; refine kl H rfl fun a H => ?_
          refine wl_s (kg_no rfl H rfl rfl rfl) ?_; refine kl H rfl fun a H => ?_
          refine wl_s (kg_no rfl H rfl rfl rfl) ?_; refine kl H rfl fun a H => ?_
          refine wl_v _ (r_pick_f (H.ev rfl) evc) ?_; refine kl H rfl fun a H => ?_
          refine wl_v _ (r_move (H.ev rfl)) ?_; refine kl H rfl fun a H => ?_
          refine wl_s (kg_no rfl H rfl rfl rfl) ?_; refine kl H rfl fun a H => ?_
          refine wl_s (kg_no rfl H rfl rfl rfl) ?_; refine kl H rfl fun a H => ?_
          refine wl_v _ (r_pick_f (H.ev rfl) evc) ?_; refine kl H rfl fun a H => ?_
          refine wl_v _ (r_move (H.ev rfl)) ?_; refine kl H rfl fun a H => ?_
          refine wl_s (kg_no rfl H rfl rfl rfl) ?_; refine kl H rfl fun a H => ?_
          refine wl_s (kg_no rfl H rfl rfl rfl) ?_; refine kl H rfl fun a H => ?_
          refine wl_v _ (r_pick_f (H.ev rfl) evc) ?_; refine kl H rfl fun a H => ?_
          refine wl_v _ (r_move (H.ev rfl)) ?_; refine kl H rfl fun a H => ?_
          refine wl_s (kg_no rfl H rfl rfl rfl) ?_; refine kl H rfl fun a H => ?_
          refine wl_s (kg_no rfl H rfl rfl rfl) ?_; refine kl H rfl fun a H => ?_
          refine wl_v _ (r_pick_f (H.ev rfl) evc) ?_; refine kl H rfl fun a H => ?_
          refine wl_v _ (r_assign (H.ev rfl)) ?_; refine kl H rfl fun a H => ?_
          refine wpList_nil ?_
          refine c_next ?_
          refine wp_ret ?_
          exfalso; omega
      · skip
        refine K_enter 140 Try.func4 rfl rfl fun a H => ?_
        replace H := H.pick [0, 1, 2]
        refine wp_seq ?_
        refine wp_region_lit ?_
        refine op_box 24 _ #[.slice A L.length c, .int .i64 t] (H.ev rfl) fun w0 b0 hge hb k0 => ?_; have g0 := Nat.le_trans hall.size hge; replace hall := hall.trans (hb.mono hall.size); clear hb; clear hge; refine kl H rfl fun a H => ?_
        refine wl_v _ (r_assign evc) ?_; refine kl H rfl fun a H => ?_
        refine wpList_nil ?_
        refine c_next ?_
        refine wp_seq ?_
        refine wp_region_lit ?_
        refine wl_call _ _ _ (small_any _) (r_call0 cf7) ?_; rintro e w9 ⟨rfl, hb⟩; refine ⟨_, rfl, ?_⟩; replace k0 := Block.ups k0 hb; replace hall := hall.trans (hb.mono hall.size); clear hb; refine kl H rfl fun a H => ?_
        refine wl_v _ (r_assign (H.ev rfl)) ?_; refine kl H rfl fun a H => ?_
        refine wpList_nil ?_
        refine c_next ?_
        refine wp_seq ?_
        refine wp_seq ?_
        refine wp_region_lit ?_
        refine wl_v _ (r_fld (q := 0) fld24_0 (H.ev rfl) rfl) ?_; refine kl H rfl fun a H => ?_
        refine wl_v _ (r_ld Try.underlying22 rfl (H.ev rfl) ((Block.cell k0 0).trans rfl)) ?_; refine kl H rfl fun a H => ?_
        refine wl_v _ (r_len Try.underlying22 (H.ev rfl)) ?_; refine kl H rfl fun a H => ?_
        refine wl_v _ (r_gt Try.underlying3 (H.ev rfl) evc (dec_f (by omega))) ?_; refine kl H rfl fun a H => ?_
        refine wl_v _ (r_move (H.ev rfl)) ?_; refine kl H rfl fun a H => ?_
        refine op_unguard _ _ (kg_yes rfl H rfl rfl rfl) ?_; refine wl_v _ (r_row (cs := [.slice A L.length c, .int .i64 t]) (H.ev rfl) (block_range k0) (by kernel_rfl) s24 rfl) ?_; refine kl H rfl fun a H => ?_
        refine op_unguard _ _ (kg_yes rfl H rfl rfl rfl) ?_; refine wl_call _ _ _ (right_lit _ t _ L true hrt (Row.up h.out hall) (by omega) hw.out) (r_call1 cf8 (H.ev rfl)) ?_; rintro e w9 ⟨rfl, hb⟩; refine ⟨_, rfl, ?_⟩; replace k0 := Block.ups k0 hb; replace hall := hall.trans (hb.mono hall.size); clear hb; refine kl H rfl fun a H => ?_
        refine op_unguard _ _ (kg_yes rfl H rfl rfl rfl) ?_; refine wl_v _ (r_not (H.ev rfl) rfl) ?_; refine kl H rfl fun a H => ?_
        refine wl_v _ (r_pick_f (H.ev rfl) (H.ev rfl)) ?_; refine kl H rfl fun a H => ?_
        refine wpList_nil ?_
        refine c_next ?_
        refine c_cond_f H rfl ?_
        refine wp_skip ?_
        refine c_next ?_
        refine wp_seq ?_
        refine wp_region_lit ?_
        refine wl_v _ (r_row (cs := [.slice A L.length c, .int .i64 t]) (H.ev rfl) (block_range k0) (by kernel_rfl) s24 rfl) ?_; refine kl H rfl fun a H => ?_
        refine wl_v _ (r_move (H.ev rfl)) ?_; refine kl H rfl fun a H => ?_
        refine wl_v _ (r_move (H.ev rfl)) ?_; refine kl H rfl fun a H => ?_
        refine wl_call _ _ _ (add_lit _ t _ L s u LA LA.length true hA1.out rfl (Row.up h.out hall) (by omega)) (r_call3 cf10 (H.ev rfl) (H.ev rfl) (H.ev rfl)) ?_; rintro e w9 ⟨⟨A0, c0, rfl, ho0⟩, hb⟩; refine ⟨_, rfl, ?_⟩; replace k0 := Block.ups k0 hb; replace hall := hall.trans (hb.mono hall.size); clear hb; refine kl H rfl fun a H => ?_
        refine wl_v _ (r_move (H.ev rfl)) ?_; refine kl H rfl fun a H => ?_
        refine wl_v _ (r_extract (v := .agg #[.slice A0 LA.length c0, .int .i64 t]) (H.ev rfl) rfl) ?_; refine kl H rfl fun a H => ?_
        refine wl_v _ (r_extract (v := .bool true) (H.ev rfl) rfl) ?_; refine kl H rfl fun a H => ?_
        refine op_new 24 8 (.tmp 37) #[.slice A0 LA.length c0, .int .i64 t] _ z24 s24 rfl (by simp [Value.cells, Value.oneCell']) (fun p => (H.put 8 p rfl).ev rfl) (fun p => (H.put 8 p rfl).ev rfl) fun w1 b1 hge hb k1 => ?_; have g1 := Nat.le_trans hall.size hge; have d0_1 : b0 < b1 := Nat.lt_of_lt_of_le k0.lt hge; have hq0_1 := own_lt ho0 hge; replace k0 := Block.ups k0 hb; replace ho0 := ROwn.up ho0 hb; replace hall := hall.trans (hb.mono hall.size); clear hb; clear hge; refine kl H rfl fun a H => ?_
        refine wl_v _ (r_assign (H.ev rfl)) ?_; refine kl H rfl fun a H => ?_
        refine wpList_nil ?_
        refine c_next ?_
        refine wp_seq ?_
        refine wp_region_lit ?_
        refine wl_v _ (r_row (cs := [.slice A0 LA.length c0, .int .i64 t]) (H.ev rfl) (block_range k1) (by kernel_rfl) s24 rfl) ?_; refine kl H rfl fun a H => ?_
        refine wl_v _ (r_move (H.ev rfl)) ?_; refine kl H rfl fun a H => ?_
        refine wl_v _ (r_move (H.ev rfl)) ?_; refine kl H rfl fun a H => ?_
        refine wl_call _ _ _ (add_lit _ t _ LA s u LA LA.length false hA2.out rfl (MOwn.row ho0) (by omega)) (r_call3 cf10 (H.ev rfl) (H.ev rfl) (H.ev rfl)) ?_; rintro e w9 ⟨⟨A1, c1, rfl, ho1⟩, hb⟩; refine ⟨_, rfl, ?_⟩; replace k0 := Block.ups k0 hb; replace ho0 := ROwn.up ho0 hb; replace k1 := Block.ups k1 hb; replace hall := hall.trans (hb.mono hall.size); clear hb; refine kl H rfl fun a H => ?_
        refine wl_v _ (r_move (H.ev rfl)) ?_; refine kl H rfl fun a H => ?_
        refine wl_v _ (r_extract (v := .agg #[.slice A1 LA.length c1, .int .i64 t]) (H.ev rfl) rfl) ?_; refine kl H rfl fun a H => ?_
        refine wl_v _ (r_extract (v := .bool false) (H.ev rfl) rfl) ?_; refine kl H rfl fun a H => ?_
        refine op_new 24 10 (.tmp 44) #[.slice A1 LA.length c1, .int .i64 t] _ z24 s24 rfl (by simp [Value.cells, Value.oneCell']) (fun p => (H.put 10 p rfl).ev rfl) (fun p => (H.put 10 p rfl).ev rfl) fun w2 b2 hge hb k2 => ?_; have g2 := Nat.le_trans hall.size hge; have d0_2 : b0 < b2 := Nat.lt_of_lt_of_le k0.lt hge; have d1_2 : b1 < b2 := Nat.lt_of_lt_of_le k1.lt hge; have hq0_2 := own_lt ho0 hge; have hq1_2 := own_lt ho1 hge; replace k0 := Block.ups k0 hb; replace ho0 := ROwn.up ho0 hb; replace k1 := Block.ups k1 hb; replace ho1 := ROwn.up ho1 hb; replace hall := hall.trans (hb.mono hall.size); clear hb; clear hge; refine kl H rfl fun a H => ?_
        refine wl_v _ (r_assign (H.ev rfl)) ?_; refine kl H rfl fun a H => ?_
        refine wpList_nil ?_
        refine c_next ?_
        refine wp_seq ?_
        refine wp_region_lit ?_
        refine wl_v _ (r_row (cs := [.slice A0 LA.length c0, .int .i64 t]) (H.ev rfl) (block_range k1) (by kernel_rfl) s24 rfl) ?_; refine kl H rfl fun a H => ?_
        refine wl_v _ (r_move (H.ev rfl)) ?_; refine kl H rfl fun a H => ?_
        refine wl_v _ (r_move (H.ev rfl)) ?_; refine kl H rfl fun a H => ?_
        refine wl_call _ _ _ (strike_lit _ t _ LA s u LD LD.length true hD1.out rfl (dec_t (by omega)) (MOwn.row ho0) (by omega)) (r_call3 cf11 (H.ev rfl) (H.ev rfl) (H.ev rfl)) ?_; rintro e w9 ⟨⟨A2, c2, rfl, ho2⟩, hb⟩; refine ⟨_, rfl, ?_⟩; replace k0 := Block.ups k0 hb; replace ho0 := ROwn.up ho0 hb; replace k1 := Block.ups k1 hb; replace ho1 := ROwn.up ho1 hb; replace k2 := Block.ups k2 hb; replace hall := hall.trans (hb.mono hall.size); clear hb; refine kl H rfl fun a H => ?_
        refine wl_v _ (r_move (H.ev rfl)) ?_; refine kl H rfl fun a H => ?_
        refine wl_v _ (r_extract (v := .agg #[.slice A2 LD.length c2, .int .i64 t]) (H.ev rfl) rfl) ?_; refine kl H rfl fun a H => ?_
        refine wl_v _ (r_extract (v := .bool true) (H.ev rfl) rfl) ?_; refine kl H rfl fun a H => ?_
        refine op_new 24 12 (.tmp 51) #[.slice A2 LD.length c2, .int .i64 t] _ z24 s24 rfl (by simp [Value.cells, Value.oneCell']) (fun p => (H.put 12 p rfl).ev rfl) (fun p => (H.put 12 p rfl).ev rfl) fun w3 b3 hge hb k3 => ?_; have g3 := Nat.le_trans hall.size hge; have d0_3 : b0 < b3 := Nat.lt_of_lt_of_le k0.lt hge; have d1_3 : b1 < b3 := Nat.lt_of_lt_of_le k1.lt hge; have d2_3 : b2 < b3 := Nat.lt_of_lt_of_le k2.lt hge; have hq0_3 := own_lt ho0 hge; have hq1_3 := own_lt ho1 hge; have hq2_3 := own_lt ho2 hge; replace k0 := Block.ups k0 hb; replace ho0 := ROwn.up ho0 hb; replace k1 := Block.ups k1 hb; replace ho1 := ROwn.up ho1 hb; replace k2 := Block.ups k2 hb; replace ho2 := ROwn.up ho2 hb; replace hall := hall.trans (hb.mono hall.size); clear hb; clear hge; refine kl H rfl fun a H => ?_
        refine wl_v _ (r_assign (H.ev rfl)) ?_; refine kl H rfl fun a H => ?_
        refine wpList_nil ?_
        refine c_next ?_
        refine wp_seq ?_
        refine wp_region_lit ?_
        refine wl_v _ (r_row (cs := [.slice A L.length c, .int .i64 t]) (H.ev rfl) (block_range k0) (by kernel_rfl) s24 rfl) ?_; refine kl H rfl fun a H => ?_
        refine wl_v _ (r_move (H.ev rfl)) ?_; refine kl H rfl fun a H => ?_
        refine wl_v _ (r_move (H.ev rfl)) ?_; refine kl H rfl fun a H => ?_
        refine wl_call _ _ _ (strike_lit _ t _ L s u LD LD.length false hD2.out rfl (dec_f (by omega)) (Row.up h.out hall) (by omega)) (r_call3 cf11 (H.ev rfl) (H.ev rfl) (H.ev rfl)) ?_; rintro e w9 ⟨⟨A3, c3, rfl, ho3⟩, hb⟩; refine ⟨_, rfl, ?_⟩; replace k0 := Block.ups k0 hb; replace ho0 := ROwn.up ho0 hb; replace k1 := Block.ups k1 hb; replace ho1 := ROwn.up ho1 hb; replace k2 := Block.ups k2 hb; replace ho2 := ROwn.up ho2 hb; replace k3 := Block.ups k3 hb; replace hall := hall.trans (hb.mono hall.size); clear hb; refine kl H rfl fun a H => ?_
        refine wl_v _ (r_move (H.ev rfl)) ?_; refine kl H rfl fun a H => ?_
        refine wl_v _ (r_extract (v := .agg #[.slice A3 LD.length c3, .int .i64 t]) (H.ev rfl) rfl) ?_; refine kl H rfl fun a H => ?_
        refine wl_v _ (r_extract (v := .bool false) (H.ev rfl) rfl) ?_; refine kl H rfl fun a H => ?_
        refine op_new 24 14 (.tmp 58) #[.slice A3 LD.length c3, .int .i64 t] _ z24 s24 rfl (by simp [Value.cells, Value.oneCell']) (fun p => (H.put 14 p rfl).ev rfl) (fun p => (H.put 14 p rfl).ev rfl) fun w4 b4 hge hb k4 => ?_; have g4 := Nat.le_trans hall.size hge; have d0_4 : b0 < b4 := Nat.lt_of_lt_of_le k0.lt hge; have d1_4 : b1 < b4 := Nat.lt_of_lt_of_le k1.lt hge; have d2_4 : b2 < b4 := Nat.lt_of_lt_of_le k2.lt hge; have d3_4 : b3 < b4 := Nat.lt_of_lt_of_le k3.lt hge; have hq0_4 := own_lt ho0 hge; have hq1_4 := own_lt ho1 hge; have hq2_4 := own_lt ho2 hge; have hq3_4 := own_lt ho3 hge; replace k0 := Block.ups k0 hb; replace ho0 := ROwn.up ho0 hb; replace k1 := Block.ups k1 hb; replace ho1 := ROwn.up ho1 hb; replace k2 := Block.ups k2 hb; replace ho2 := ROwn.up ho2 hb; replace k3 := Block.ups k3 hb; replace ho3 := ROwn.up ho3 hb; replace hall := hall.trans (hb.mono hall.size); clear hb; clear hge; refine kl H rfl fun a H => ?_
        refine wl_v _ (r_assign (H.ev rfl)) ?_; refine kl H rfl fun a H => ?_
        refine wpList_nil ?_
        refine c_next ?_
        refine wp_seq ?_
        refine wp_region_lit ?_
        refine wl_v _ (r_row (cs := [.slice A0 LA.length c0, .int .i64 t]) (H.ev rfl) (block_range k1) (by kernel_rfl) s24 rfl) ?_; refine kl H rfl fun a H => ?_
        refine wl_v _ (r_move (H.ev rfl)) ?_; refine kl H rfl fun a H => ?_
        refine wl_call _ _ _ (drop_lit _ t _ LA s LI LI.length nd hI1.out rfl (by omega) (MOwn.row ho0) (by omega)) (r_call2 cf12 (H.ev rfl) (H.ev rfl)) ?_; rintro e w9 ⟨⟨A4, c4, rfl, ho4⟩, hb⟩; refine ⟨_, rfl, ?_⟩; replace k0 := Block.ups k0 hb; replace ho0 := ROwn.up ho0 hb; replace k1 := Block.ups k1 hb; replace ho1 := ROwn.up ho1 hb; replace k2 := Block.ups k2 hb; replace ho2 := ROwn.up ho2 hb; replace k3 := Block.ups k3 hb; replace ho3 := ROwn.up ho3 hb; replace k4 := Block.ups k4 hb; replace hall := hall.trans (hb.mono hall.size); clear hb; refine kl H rfl fun a H => ?_
        refine wl_v _ (r_move (H.ev rfl)) ?_; refine kl H rfl fun a H => ?_
        refine wl_v _ (r_extract (v := .agg #[.slice A4 LI.length c4, .int .i64 t]) (H.ev rfl) rfl) ?_; refine kl H rfl fun a H => ?_
        refine wl_v _ (r_extract (v := .int .i64 nd) (H.ev rfl) rfl) ?_; refine kl H rfl fun a H => ?_
        refine op_new 24 16 (.tmp 64) #[.slice A4 LI.length c4, .int .i64 t] _ z24 s24 rfl (by simp [Value.cells, Value.oneCell']) (fun p => (H.put 16 p rfl).ev rfl) (fun p => (H.put 16 p rfl).ev rfl) fun w5 b5 hge hb k5 => ?_; have g5 := Nat.le_trans hall.size hge; have d0_5 : b0 < b5 := Nat.lt_of_lt_of_le k0.lt hge; have d1_5 : b1 < b5 := Nat.lt_of_lt_of_le k1.lt hge; have d2_5 : b2 < b5 := Nat.lt_of_lt_of_le k2.lt hge; have d3_5 : b3 < b5 := Nat.lt_of_lt_of_le k3.lt hge; have d4_5 : b4 < b5 := Nat.lt_of_lt_of_le k4.lt hge; have hq0_5 := own_lt ho0 hge; have hq1_5 := own_lt ho1 hge; have hq2_5 := own_lt ho2 hge; have hq3_5 := own_lt ho3 hge; have hq4_5 := own_lt ho4 hge; replace k0 := Block.ups k0 hb; replace ho0 := ROwn.up ho0 hb; replace k1 := Block.ups k1 hb; replace ho1 := ROwn.up ho1 hb; replace k2 := Block.ups k2 hb; replace ho2 := ROwn.up ho2 hb; replace k3 := Block.ups k3 hb; replace ho3 := ROwn.up ho3 hb; replace k4 := Block.ups k4 hb; replace ho4 := ROwn.up ho4 hb; replace hall := hall.trans (hb.mono hall.size); clear hb; clear hge; refine kl H rfl fun a H => ?_
        refine wl_v _ (r_assign (H.ev rfl)) ?_; refine kl H rfl fun a H => ?_
        refine wpList_nil ?_
        refine c_next ?_
        refine wp_seq ?_
        refine wp_region_lit ?_
        refine wl_v _ (r_row (cs := [.slice A4 LI.length c4, .int .i64 t]) (H.ev rfl) (block_range k5) (by kernel_rfl) s24 rfl) ?_; refine kl H rfl fun a H => ?_
        refine wl_v _ (r_move (H.ev rfl)) ?_; refine kl H rfl fun a H => ?_
        refine op_litv 25 1 #[(0, .int .i64 s)] 3 #[.int .i64 s] (by simp [evc, H.ev (j := 68) rfl]) (fun w => by kernel_rfl) fun w6 b6 hge hb k6 => ?_; have g6 := Nat.le_trans hall.size hge; have d0_6 : b0 < b6 := Nat.lt_of_lt_of_le k0.lt hge; have d1_6 : b1 < b6 := Nat.lt_of_lt_of_le k1.lt hge; have d2_6 : b2 < b6 := Nat.lt_of_lt_of_le k2.lt hge; have d3_6 : b3 < b6 := Nat.lt_of_lt_of_le k3.lt hge; have d4_6 : b4 < b6 := Nat.lt_of_lt_of_le k4.lt hge; have d5_6 : b5 < b6 := Nat.lt_of_lt_of_le k5.lt hge; have hq0_6 := own_lt ho0 hge; have hq1_6 := own_lt ho1 hge; have hq2_6 := own_lt ho2 hge; have hq3_6 := own_lt ho3 hge; have hq4_6 := own_lt ho4 hge; replace k0 := Block.ups k0 hb; replace ho0 := ROwn.up ho0 hb; replace k1 := Block.ups k1 hb; replace ho1 := ROwn.up ho1 hb; replace k2 := Block.ups k2 hb; replace ho2 := ROwn.up ho2 hb; replace k3 := Block.ups k3 hb; replace ho3 := ROwn.up ho3 hb; replace k4 := Block.ups k4 hb; replace ho4 := ROwn.up ho4 hb; replace k5 := Block.ups k5 hb; replace hall := hall.trans (hb.mono hall.size); clear hb; clear hge; refine kl H rfl fun a H => ?_
        refine wl_call _ _ _ (next_lit _ t _ _ LI [s] LI LI.length t 0 0 false hN.out rfl (MOwn.row ho4) (lit_rowI k6 rfl (by simp [maxLen])) (by omega) (by simp) ht (mwf_max hWI.out)) (r_call2 cf9 (H.ev rfl) (H.ev rfl)) ?_; rintro e w9 ⟨⟨A5, c5, rfl, ho5⟩, hb⟩; refine ⟨_, rfl, ?_⟩; replace k0 := Block.ups k0 hb; replace ho0 := ROwn.up ho0 hb; replace k1 := Block.ups k1 hb; replace ho1 := ROwn.up ho1 hb; replace k2 := Block.ups k2 hb; replace ho2 := ROwn.up ho2 hb; replace k3 := Block.ups k3 hb; replace ho3 := ROwn.up ho3 hb; replace k4 := Block.ups k4 hb; replace ho4 := ROwn.up ho4 hb; replace k5 := Block.ups k5 hb; replace k6 := Block.ups k6 hb; replace hall := hall.trans (hb.mono hall.size); clear hb; refine kl H rfl fun a H => ?_
        refine wl_v _ (r_move (H.ev rfl)) ?_; refine kl H rfl fun a H => ?_
        refine wl_v _ (r_extract (v := .agg #[.slice A5 LI.length c5, .int .i64 t]) (H.ev rfl) rfl) ?_; refine kl H rfl fun a H => ?_
        refine wl_v _ (r_extract (v := .agg #[.int .i64 0, .int .i64 0]) (H.ev rfl) rfl) ?_; refine kl H rfl fun a H => ?_
        refine wl_v _ (r_extract (v := .bool false) (H.ev rfl) rfl) ?_; refine kl H rfl fun a H => ?_
        refine op_alloc 24 #[.slice none 0 0, .int .i64 0] z24 fun w7 b7 hge hb k7 => ?_; have g7 := Nat.le_trans hall.size hge; have d0_7 : b0 < b7 := Nat.lt_of_lt_of_le k0.lt hge; have d1_7 : b1 < b7 := Nat.lt_of_lt_of_le k1.lt hge; have d2_7 : b2 < b7 := Nat.lt_of_lt_of_le k2.lt hge; have d3_7 : b3 < b7 := Nat.lt_of_lt_of_le k3.lt hge; have d4_7 : b4 < b7 := Nat.lt_of_lt_of_le k4.lt hge; have d5_7 : b5 < b7 := Nat.lt_of_lt_of_le k5.lt hge; have d6_7 : b6 < b7 := Nat.lt_of_lt_of_le k6.lt hge; have hq0_7 := own_lt ho0 hge; have hq1_7 := own_lt ho1 hge; have hq2_7 := own_lt ho2 hge; have hq3_7 := own_lt ho3 hge; have hq4_7 := own_lt ho4 hge; have hq5_7 := own_lt ho5 hge; replace k0 := Block.ups k0 hb; replace ho0 := ROwn.up ho0 hb; replace k1 := Block.ups k1 hb; replace ho1 := ROwn.up ho1 hb; replace k2 := Block.ups k2 hb; replace ho2 := ROwn.up ho2 hb; replace k3 := Block.ups k3 hb; replace ho3 := ROwn.up ho3 hb; replace k4 := Block.ups k4 hb; replace ho4 := ROwn.up ho4 hb; replace k5 := Block.ups k5 hb; replace k6 := Block.ups k6 hb; replace ho5 := ROwn.up ho5 hb; replace hall := hall.trans (hb.mono hall.size); clear hb; clear hge; refine kl H rfl fun a H => ?_
        refine op_alloc 29 #[.int .i64 0, .int .i64 0] z29 fun w8 b8 hge hb k8 => ?_; have g8 := Nat.le_trans hall.size hge; have d0_8 : b0 < b8 := Nat.lt_of_lt_of_le k0.lt hge; have d1_8 : b1 < b8 := Nat.lt_of_lt_of_le k1.lt hge; have d2_8 : b2 < b8 := Nat.lt_of_lt_of_le k2.lt hge; have d3_8 : b3 < b8 := Nat.lt_of_lt_of_le k3.lt hge; have d4_8 : b4 < b8 := Nat.lt_of_lt_of_le k4.lt hge; have d5_8 : b5 < b8 := Nat.lt_of_lt_of_le k5.lt hge; have d6_8 : b6 < b8 := Nat.lt_of_lt_of_le k6.lt hge; have d7_8 : b7 < b8 := Nat.lt_of_lt_of_le k7.lt hge; have hq0_8 := own_lt ho0 hge; have hq1_8 := own_lt ho1 hge; have hq2_8 := own_lt ho2 hge; have hq3_8 := own_lt ho3 hge; have hq4_8 := own_lt ho4 hge; have hq5_8 := own_lt ho5 hge; replace k0 := Block.ups k0 hb; replace ho0 := ROwn.up ho0 hb; replace k1 := Block.ups k1 hb; replace ho1 := ROwn.up ho1 hb; replace k2 := Block.ups k2 hb; replace ho2 := ROwn.up ho2 hb; replace k3 := Block.ups k3 hb; replace ho3 := ROwn.up ho3 hb; replace k4 := Block.ups k4 hb; replace ho4 := ROwn.up ho4 hb; replace k5 := Block.ups k5 hb; replace k6 := Block.ups k6 hb; replace ho5 := ROwn.up ho5 hb; replace k7 := Block.ups k7 hb; replace hall := hall.trans (hb.mono hall.size); clear hb; clear hge; refine kl H rfl fun a H => ?_
        refine op_store1 24 (.tmp 18) (.tmp 71) b7 0 24 (.agg #[.slice A5 LI.length c5, .int .i64 t]) _ (H.ev rfl) (H.ev rfl) k7 s24 (by simp [Value.cells]) (by simp [Value.cells, Value.oneCell']) fun w' hb ho kq => ?_; clear k7; have k7 : Block _ b7 24 #[.slice A5 LI.length c5, .int .i64 t] := kq; clear kq; replace k0 := block_same k0 (ho _ (by omega)); replace ho0 := ROwn.upD ho0 hq0_7 (hb _ (Nat.le_refl _)); replace k1 := block_same k1 (ho _ (by omega)); replace ho1 := ROwn.upD ho1 hq1_7 (hb _ (Nat.le_refl _)); replace k2 := block_same k2 (ho _ (by omega)); replace ho2 := ROwn.upD ho2 hq2_7 (hb _ (Nat.le_refl _)); replace k3 := block_same k3 (ho _ (by omega)); replace ho3 := ROwn.upD ho3 hq3_7 (hb _ (Nat.le_refl _)); replace k4 := block_same k4 (ho _ (by omega)); replace ho4 := ROwn.upD ho4 hq4_7 (hb _ (Nat.le_refl _)); replace k5 := block_same k5 (ho _ (by omega)); replace k6 := block_same k6 (ho _ (by omega)); replace ho5 := ROwn.upD ho5 hq5_7 (hb _ (Nat.le_refl _)); replace k8 := block_same k8 (ho _ (by omega)); replace hall := hall.trans (hb _ g7); clear hb ho; refine kl0 H fun a H => ?_
        refine op_store1 29 (.tmp 19) (.tmp 72) b8 0 29 (.agg #[.int .i64 0, .int .i64 0]) _ (H.ev rfl) (H.ev rfl) k8 s29 (by simp [Value.cells]) (ints_one [0, 0]) fun w' hb ho kq => ?_; clear k8; have k8 : Block _ b8 29 #[.int .i64 0, .int .i64 0] := kq; clear kq; replace k0 := block_same k0 (ho _ (by omega)); replace ho0 := ROwn.upD ho0 hq0_8 (hb _ (Nat.le_refl _)); replace k1 := block_same k1 (ho _ (by omega)); replace ho1 := ROwn.upD ho1 hq1_8 (hb _ (Nat.le_refl _)); replace k2 := block_same k2 (ho _ (by omega)); replace ho2 := ROwn.upD ho2 hq2_8 (hb _ (Nat.le_refl _)); replace k3 := block_same k3 (ho _ (by omega)); replace ho3 := ROwn.upD ho3 hq3_8 (hb _ (Nat.le_refl _)); replace k4 := block_same k4 (ho _ (by omega)); replace ho4 := ROwn.upD ho4 hq4_8 (hb _ (Nat.le_refl _)); replace k5 := block_same k5 (ho _ (by omega)); replace k6 := block_same k6 (ho _ (by omega)); replace ho5 := ROwn.upD ho5 hq5_8 (hb _ (Nat.le_refl _)); replace k7 := block_same k7 (ho _ (by omega)); replace hall := hall.trans (hb _ g8); clear hb ho; refine kl0 H fun a H => ?_
        refine wl_v _ (r_assign (H.ev rfl)) ?_; refine kl H rfl fun a H => ?_
        refine wpList_nil ?_
        refine c_next ?_
        refine wp_seq ?_
        refine wp_region_lit ?_
        refine wl_v _ (r_move (H.ev rfl)) ?_; refine kl H rfl fun a H => ?_
        refine wl_v _ (r_move (H.ev rfl)) ?_; refine kl H rfl fun a H => ?_
        refine op_unguard _ _ (kg_yes rfl H rfl rfl rfl) ?_; refine wl_v _ (r_move (H.ev rfl)) ?_; refine kl H rfl fun a H => ?_
        refine op_unguard _ _ (kg_yes rfl H rfl rfl rfl) ?_; refine wl_v _ (r_not (H.ev rfl) rfl) ?_; refine kl H rfl fun a H => ?_
        refine wl_v _ (r_pick_t (H.ev rfl) (H.ev rfl)) ?_; refine kl H rfl fun a H => ?_
        refine wl_v _ (r_move (H.ev rfl)) ?_; refine kl H rfl fun a H => ?_
        refine op_unguard _ _ (kg_yes rfl H rfl rfl rfl) ?_; refine wl_v _ (r_row (cs := [.slice A1 LA.length c1, .int .i64 t]) (H.ev rfl) (block_range k2) (by kernel_rfl) s24 rfl) ?_; refine kl H rfl fun a H => ?_
        refine op_unguard _ _ (kg_yes rfl H rfl rfl rfl) ?_; refine wl_v _ (r_row (cs := [.slice A0 LA.length c0, .int .i64 t]) (H.ev rfl) (block_range k1) (by kernel_rfl) s24 rfl) ?_; refine kl H rfl fun a H => ?_
        refine op_unguard _ _ (kg_yes rfl H rfl rfl rfl) ?_; refine wl_call _ _ _ (same_lit _ t t _ _ LA LA true same_self (MOwn.row ho1) (MOwn.row ho0) (by omega)) (r_call2 cf13 (H.ev rfl) (H.ev rfl)) ?_; rintro e w9 ⟨rfl, hb⟩; refine ⟨_, rfl, ?_⟩; replace k0 := Block.ups k0 hb; replace ho0 := ROwn.up ho0 hb; replace k1 := Block.ups k1 hb; replace ho1 := ROwn.up ho1 hb; replace k2 := Block.ups k2 hb; replace ho2 := ROwn.up ho2 hb; replace k3 := Block.ups k3 hb; replace ho3 := ROwn.up ho3 hb; replace k4 := Block.ups k4 hb; replace ho4 := ROwn.up ho4 hb; replace k5 := Block.ups k5 hb; replace k6 := Block.ups k6 hb; replace ho5 := ROwn.up ho5 hb; replace k7 := Block.ups k7 hb; replace k8 := Block.ups k8 hb; replace hall := hall.trans (hb.mono hall.size); clear hb; refine kl H rfl fun a H => ?_
        refine wl_v _ (r_pick_t (H.ev rfl) (H.ev rfl)) ?_; refine kl H rfl fun a H => ?_
        refine wl_v _ (r_move (H.ev rfl)) ?_; refine kl H rfl fun a H => ?_
        refine op_unguard _ _ (kg_yes rfl H rfl rfl rfl) ?_; refine wl_v _ (r_move (H.ev rfl)) ?_; refine kl H rfl fun a H => ?_
        refine wl_v _ (r_pick_t (H.ev rfl) (H.ev rfl)) ?_; refine kl H rfl fun a H => ?_
        refine wl_v _ (r_move (H.ev rfl)) ?_; refine kl H rfl fun a H => ?_
        refine op_unguard _ _ (kg_yes rfl H rfl rfl rfl) ?_; refine wl_v _ (r_row (cs := [.slice A2 LD.length c2, .int .i64 t]) (H.ev rfl) (block_range k3) (by kernel_rfl) s24 rfl) ?_; refine kl H rfl fun a H => ?_
        refine op_unguard _ _ (kg_yes rfl H rfl rfl rfl) ?_; refine wl_v _ (r_row (cs := [.slice A3 LD.length c3, .int .i64 t]) (H.ev rfl) (block_range k4) (by kernel_rfl) s24 rfl) ?_; refine kl H rfl fun a H => ?_
        refine op_unguard _ _ (kg_yes rfl H rfl rfl rfl) ?_; refine wl_call _ _ _ (same_lit _ t t _ _ LD LD true same_self (MOwn.row ho2) (MOwn.row ho3) (by omega)) (r_call2 cf13 (H.ev rfl) (H.ev rfl)) ?_; rintro e w9 ⟨rfl, hb⟩; refine ⟨_, rfl, ?_⟩; replace k0 := Block.ups k0 hb; replace ho0 := ROwn.up ho0 hb; replace k1 := Block.ups k1 hb; replace ho1 := ROwn.up ho1 hb; replace k2 := Block.ups k2 hb; replace ho2 := ROwn.up ho2 hb; replace k3 := Block.ups k3 hb; replace ho3 := ROwn.up ho3 hb; replace k4 := Block.ups k4 hb; replace ho4 := ROwn.up ho4 hb; replace k5 := Block.ups k5 hb; replace k6 := Block.ups k6 hb; replace ho5 := ROwn.up ho5 hb; replace k7 := Block.ups k7 hb; replace k8 := Block.ups k8 hb; replace hall := hall.trans (hb.mono hall.size); clear hb; refine kl H rfl fun a H => ?_
        refine wl_v _ (r_pick_t (H.ev rfl) (H.ev rfl)) ?_; refine kl H rfl fun a H => ?_
        refine wl_v _ (r_move (H.ev rfl)) ?_; refine kl H rfl fun a H => ?_
        refine op_unguard _ _ (kg_yes rfl H rfl rfl rfl) ?_; refine wl_v _ (r_move (H.ev rfl)) ?_; refine kl H rfl fun a H => ?_
        refine op_unguard _ _ (kg_yes rfl H rfl rfl rfl) ?_; refine wl_v _ (r_row (cs := [.slice A0 LA.length c0, .int .i64 t]) (H.ev rfl) (block_range k1) (by kernel_rfl) s24 rfl) ?_; refine kl H rfl fun a H => ?_
        refine op_unguard _ _ (kg_yes rfl H rfl rfl rfl) ?_; refine wl_v _ (r_row (cs := [.slice A L.length c, .int .i64 t]) (H.ev rfl) (block_range k0) (by kernel_rfl) s24 rfl) ?_; refine kl H rfl fun a H => ?_
        refine op_unguard _ _ (kg_yes rfl H rfl rfl rfl) ?_; refine wl_call _ _ _ (same_lit _ t t _ _ LA L false hS.out (MOwn.row ho0) (Row.up h.out hall) (by omega)) (r_call2 cf13 (H.ev rfl) (H.ev rfl)) ?_; rintro e w9 ⟨rfl, hb⟩; refine ⟨_, rfl, ?_⟩; replace k0 := Block.ups k0 hb; replace ho0 := ROwn.up ho0 hb; replace k1 := Block.ups k1 hb; replace ho1 := ROwn.up ho1 hb; replace k2 := Block.ups k2 hb; replace ho2 := ROwn.up ho2 hb; replace k3 := Block.ups k3 hb; replace ho3 := ROwn.up ho3 hb; replace k4 := Block.ups k4 hb; replace ho4 := ROwn.up ho4 hb; replace k5 := Block.ups k5 hb; replace k6 := Block.ups k6 hb; replace ho5 := ROwn.up ho5 hb; replace k7 := Block.ups k7 hb; replace k8 := Block.ups k8 hb; replace hall := hall.trans (hb.mono hall.size); clear hb; refine kl H rfl fun a H => ?_
        refine op_unguard _ _ (kg_yes rfl H rfl rfl rfl) ?_; refine wl_v _ (r_beq Try.underlying4 (H.ev rfl) (H.ev rfl) rfl) ?_; refine kl H rfl fun a H => ?_
        refine wl_v _ (r_pick_t (H.ev rfl) (H.ev rfl)) ?_; refine kl H rfl fun a H => ?_
        refine wl_v _ (r_move (H.ev rfl)) ?_; refine kl H rfl fun a H => ?_
        refine op_unguard _ _ (kg_yes rfl H rfl rfl rfl) ?_; refine wl_v _ (r_fld (q := 0) fld24_0 (H.ev rfl) rfl) ?_; refine kl H rfl fun a H => ?_
        refine op_unguard _ _ (kg_yes rfl H rfl rfl rfl) ?_; refine wl_v _ (r_ld Try.underlying22 rfl (H.ev rfl) ((Block.cell k3 0).trans rfl)) ?_; refine kl H rfl fun a H => ?_
        refine op_unguard _ _ (kg_yes rfl H rfl rfl rfl) ?_; refine wl_v _ (r_len Try.underlying22 (H.ev rfl)) ?_; refine kl H rfl fun a H => ?_
        refine op_unguard _ _ (kg_yes rfl H rfl rfl rfl) ?_; refine wl_v _ (r_fld (q := 0) fld24_0 (H.ev rfl) rfl) ?_; refine kl H rfl fun a H => ?_
        refine op_unguard _ _ (kg_yes rfl H rfl rfl rfl) ?_; refine wl_v _ (r_ld Try.underlying22 rfl (H.ev rfl) ((Block.cell k1 0).trans rfl)) ?_; refine kl H rfl fun a H => ?_
        refine op_unguard _ _ (kg_yes rfl H rfl rfl rfl) ?_; refine wl_v _ (r_len Try.underlying22 (H.ev rfl)) ?_; refine kl H rfl fun a H => ?_
        refine op_unguard _ _ (kg_yes rfl H rfl rfl rfl) ?_; refine wl_v _ (r_sub (q := ((LA.length : Nat) : Int) - 1) Try.underlying3 (H.ev rfl) evc (by omega) (by omega)) ?_; refine kl H rfl fun a H => ?_
        by_cases hcc4 : ((LD.length : Nat) : Int) = (((LA.length : Nat) : Int) - 1)
        · skip
          refine op_unguard _ _ (kg_yes rfl H rfl rfl rfl) ?_; refine wl_v _ (r_eq Try.underlying3 (H.ev rfl) (H.ev rfl) (dec_t (hcc4))) ?_; refine kl H rfl fun a H => ?_
          refine wl_v _ (r_pick_t (H.ev rfl) (H.ev rfl)) ?_; refine kl H rfl fun a H => ?_
          refine wl_v _ (r_move (H.ev rfl)) ?_; refine kl H rfl fun a H => ?_
          refine op_unguard _ _ (kg_yes rfl H rfl rfl rfl) ?_; refine wl_v _ (r_move (H.ev rfl)) ?_; refine kl H rfl fun a H => ?_
          by_cases hcc5 : nd ≥ 1
          · skip
            refine op_unguard _ _ (kg_yes rfl H rfl rfl rfl) ?_; refine wl_v _ (r_ge Try.underlying3 (H.ev rfl) evc (dec_t (hcc5))) ?_; refine kl H rfl fun a H => ?_
            refine wl_v _ (r_pick_t (H.ev rfl) (H.ev rfl)) ?_; refine kl H rfl fun a H => ?_
            refine wl_v _ (r_move (H.ev rfl)) ?_; refine kl H rfl fun a H => ?_
            refine op_unguard _ _ (kg_yes rfl H rfl rfl rfl) ?_; refine wl_v _ (r_fld (q := 0) fld24_0 (H.ev rfl) rfl) ?_; refine kl H rfl fun a H => ?_
            refine op_unguard _ _ (kg_yes rfl H rfl rfl rfl) ?_; refine wl_v _ (r_ld Try.underlying22 rfl (H.ev rfl) ((Block.cell k5 0).trans rfl)) ?_; refine kl H rfl fun a H => ?_
            refine op_unguard _ _ (kg_yes rfl H rfl rfl rfl) ?_; refine wl_v _ (r_len Try.underlying22 (H.ev rfl)) ?_; refine kl H rfl fun a H => ?_
            refine op_unguard _ _ (kg_yes rfl H rfl rfl rfl) ?_; refine wl_v _ (r_fld (q := 0) fld24_0 (H.ev rfl) rfl) ?_; refine kl H rfl fun a H => ?_
            refine op_unguard _ _ (kg_yes rfl H rfl rfl rfl) ?_; refine wl_v _ (r_ld Try.underlying22 rfl (H.ev rfl) ((Block.cell k1 0).trans rfl)) ?_; refine kl H rfl fun a H => ?_
            refine op_unguard _ _ (kg_yes rfl H rfl rfl rfl) ?_; refine wl_v _ (r_len Try.underlying22 (H.ev rfl)) ?_; refine kl H rfl fun a H => ?_
            refine op_unguard _ _ (kg_yes rfl H rfl rfl rfl) ?_; refine wl_v _ (r_move (H.ev rfl)) ?_; refine kl H rfl fun a H => ?_
            refine op_unguard _ _ (kg_yes rfl H rfl rfl rfl) ?_; refine wl_v _ (r_sub (q := ((LA.length : Nat) : Int) - nd) Try.underlying3 (H.ev rfl) (H.ev rfl) (by omega) (by omega)) ?_; refine kl H rfl fun a H => ?_
            by_cases hcc6 : ((LI.length : Nat) : Int) = (((LA.length : Nat) : Int) - nd)
            · skip
              refine op_unguard _ _ (kg_yes rfl H rfl rfl rfl) ?_; refine wl_v _ (r_eq Try.underlying3 (H.ev rfl) (H.ev rfl) (dec_t (hcc6))) ?_; refine kl H rfl fun a H => ?_
              refine wl_v _ (r_pick_t (H.ev rfl) (H.ev rfl)) ?_; refine kl H rfl fun a H => ?_
              refine wl_v _ (r_move (H.ev rfl)) ?_; refine kl H rfl fun a H => ?_
              refine op_unguard _ _ (kg_yes rfl H rfl rfl rfl) ?_; refine wl_v _ (r_move (H.ev rfl)) ?_; refine kl H rfl fun a H => ?_
              refine op_unguard _ _ (kg_yes rfl H rfl rfl rfl) ?_; refine wl_v _ (r_not (H.ev rfl) rfl) ?_; refine kl H rfl fun a H => ?_
              refine wl_v _ (r_pick_t (H.ev rfl) (H.ev rfl)) ?_; refine kl H rfl fun a H => ?_
              refine wl_v _ (r_move (H.ev rfl)) ?_; refine kl H rfl fun a H => ?_
              refine op_unguard _ _ (kg_yes rfl H rfl rfl rfl) ?_; refine wl_v _ (r_row (cs := [.slice A0 LA.length c0, .int .i64 t]) (H.ev rfl) (block_range k1) (by kernel_rfl) s24 rfl) ?_; refine kl H rfl fun a H => ?_
              refine op_unguard _ _ (kg_yes rfl H rfl rfl rfl) ?_; refine wl_call _ _ _ (right_lit _ t _ LA true hRA.out (MOwn.row ho0) (by omega) hWA.out) (r_call1 cf8 (H.ev rfl)) ?_; rintro e w9 ⟨rfl, hb⟩; refine ⟨_, rfl, ?_⟩; replace k0 := Block.ups k0 hb; replace ho0 := ROwn.up ho0 hb; replace k1 := Block.ups k1 hb; replace ho1 := ROwn.up ho1 hb; replace k2 := Block.ups k2 hb; replace ho2 := ROwn.up ho2 hb; replace k3 := Block.ups k3 hb; replace ho3 := ROwn.up ho3 hb; replace k4 := Block.ups k4 hb; replace ho4 := ROwn.up ho4 hb; replace k5 := Block.ups k5 hb; replace k6 := Block.ups k6 hb; replace ho5 := ROwn.up ho5 hb; replace k7 := Block.ups k7 hb; replace k8 := Block.ups k8 hb; replace hall := hall.trans (hb.mono hall.size); clear hb; refine kl H rfl fun a H => ?_
              refine wl_v _ (r_pick_t (H.ev rfl) (H.ev rfl)) ?_; refine kl H rfl fun a H => ?_
              refine wl_v _ (r_move (H.ev rfl)) ?_; refine kl H rfl fun a H => ?_
              refine op_unguard _ _ (kg_yes rfl H rfl rfl rfl) ?_; refine wl_v _ (r_row (cs := [.slice A2 LD.length c2, .int .i64 t]) (H.ev rfl) (block_range k3) (by kernel_rfl) s24 rfl) ?_; refine kl H rfl fun a H => ?_
              refine op_unguard _ _ (kg_yes rfl H rfl rfl rfl) ?_; refine wl_call _ _ _ (right_lit _ t _ LD true hRD.out (MOwn.row ho2) (by omega) hWD.out) (r_call1 cf8 (H.ev rfl)) ?_; rintro e w9 ⟨rfl, hb⟩; refine ⟨_, rfl, ?_⟩; replace k0 := Block.ups k0 hb; replace ho0 := ROwn.up ho0 hb; replace k1 := Block.ups k1 hb; replace ho1 := ROwn.up ho1 hb; replace k2 := Block.ups k2 hb; replace ho2 := ROwn.up ho2 hb; replace k3 := Block.ups k3 hb; replace ho3 := ROwn.up ho3 hb; replace k4 := Block.ups k4 hb; replace ho4 := ROwn.up ho4 hb; replace k5 := Block.ups k5 hb; replace k6 := Block.ups k6 hb; replace ho5 := ROwn.up ho5 hb; replace k7 := Block.ups k7 hb; replace k8 := Block.ups k8 hb; replace hall := hall.trans (hb.mono hall.size); clear hb; refine kl H rfl fun a H => ?_
              refine wl_v _ (r_pick_t (H.ev rfl) (H.ev rfl)) ?_; refine kl H rfl fun a H => ?_
              refine wl_v _ (r_move (H.ev rfl)) ?_; refine kl H rfl fun a H => ?_
              refine op_unguard _ _ (kg_yes rfl H rfl rfl rfl) ?_; refine wl_v _ (r_row (cs := [.slice A4 LI.length c4, .int .i64 t]) (H.ev rfl) (block_range k5) (by kernel_rfl) s24 rfl) ?_; refine kl H rfl fun a H => ?_
              refine op_unguard _ _ (kg_yes rfl H rfl rfl rfl) ?_; refine wl_call _ _ _ (right_lit _ t _ LI true hRI.out (MOwn.row ho4) (by omega) hWI.out) (r_call1 cf8 (H.ev rfl)) ?_; rintro e w9 ⟨rfl, hb⟩; refine ⟨_, rfl, ?_⟩; replace k0 := Block.ups k0 hb; replace ho0 := ROwn.up ho0 hb; replace k1 := Block.ups k1 hb; replace ho1 := ROwn.up ho1 hb; replace k2 := Block.ups k2 hb; replace ho2 := ROwn.up ho2 hb; replace k3 := Block.ups k3 hb; replace ho3 := ROwn.up ho3 hb; replace k4 := Block.ups k4 hb; replace ho4 := ROwn.up ho4 hb; replace k5 := Block.ups k5 hb; replace k6 := Block.ups k6 hb; replace ho5 := ROwn.up ho5 hb; replace k7 := Block.ups k7 hb; replace k8 := Block.ups k8 hb; replace hall := hall.trans (hb.mono hall.size); clear hb; refine kl H rfl fun a H => ?_
              refine wl_v _ (r_pick_t (H.ev rfl) (H.ev rfl)) ?_; refine kl H rfl fun a H => ?_
              refine wl_v _ (r_assign (H.ev rfl)) ?_; refine kl H rfl fun a H => ?_
              refine wpList_nil ?_
              refine c_next ?_
              refine wp_ret ?_
              exact k_ret1 H rfl rfl ⟨rfl, hall⟩
            · skip
              refine op_unguard _ _ (kg_yes rfl H rfl rfl rfl) ?_; refine wl_v _ (r_eq Try.underlying3 (H.ev rfl) (H.ev rfl) (dec_f (hcc6))) ?_; refine kl H rfl fun a H => ?_
              refine wl_v _ (r_pick_t (H.ev rfl) (H.ev rfl)) ?_; refine kl H rfl fun a H => ?_
              refine wl_v _ (r_move (H.ev rfl)) ?_; refine kl H rfl fun a H => ?_
              refine wl_s (kg_no rfl H rfl rfl rfl) ?_; refine kl H rfl fun a H => ?_
              refine wl_s (kg_no rfl H rfl rfl rfl) ?_; refine kl H rfl fun a H => ?_
              refine wl_v _ (r_pick_f (H.ev rfl) evc) ?_; refine kl H rfl fun a H => ?_
              refine wl_v _ (r_move (H.ev rfl)) ?_; refine kl H rfl fun a H => ?_
              refine wl_s (kg_no rfl H rfl rfl rfl) ?_; refine kl H rfl fun a H => ?_
              refine wl_s (kg_no rfl H rfl rfl rfl) ?_; refine kl H rfl fun a H => ?_
              refine wl_v _ (r_pick_f (H.ev rfl) evc) ?_; refine kl H rfl fun a H => ?_
              refine wl_v _ (r_move (H.ev rfl)) ?_; refine kl H rfl fun a H => ?_
              refine wl_s (kg_no rfl H rfl rfl rfl) ?_; refine kl H rfl fun a H => ?_
              refine wl_s (kg_no rfl H rfl rfl rfl) ?_; refine kl H rfl fun a H => ?_
              refine wl_v _ (r_pick_f (H.ev rfl) evc) ?_; refine kl H rfl fun a H => ?_
              refine wl_v _ (r_move (H.ev rfl)) ?_; refine kl H rfl fun a H => ?_
              refine wl_s (kg_no rfl H rfl rfl rfl) ?_; refine kl H rfl fun a H => ?_
              refine wl_s (kg_no rfl H rfl rfl rfl) ?_; refine kl H rfl fun a H => ?_
              refine wl_v _ (r_pick_f (H.ev rfl) evc) ?_; refine kl H rfl fun a H => ?_
              refine wl_v _ (r_assign (H.ev rfl)) ?_; refine kl H rfl fun a H => ?_
              refine wpList_nil ?_
              refine c_next ?_
              refine wp_ret ?_
              exfalso; omega
          · skip
            refine op_unguard _ _ (kg_yes rfl H rfl rfl rfl) ?_; refine wl_v _ (r_ge Try.underlying3 (H.ev rfl) evc (dec_f (hcc5))) ?_; refine kl H rfl fun a H => ?_
            refine wl_v _ (r_pick_t (H.ev rfl) (H.ev rfl)) ?_; refine kl H rfl fun a H => ?_
            refine wl_v _ (r_move (H.ev rfl)) ?_; refine kl H rfl fun a H => ?_
            refine wl_s (kg_no rfl H rfl rfl rfl) ?_; refine kl H rfl fun a H => ?_
            refine wl_s (kg_no rfl H rfl rfl rfl) ?_; refine kl H rfl fun a H => ?_
            refine wl_s (kg_no rfl H rfl rfl rfl) ?_; refine kl H rfl fun a H => ?_
            refine wl_s (kg_no rfl H rfl rfl rfl) ?_; refine kl H rfl fun a H => ?_
            refine wl_s (kg_no rfl H rfl rfl rfl) ?_; refine kl H rfl fun a H => ?_
            refine wl_s (kg_no rfl H rfl rfl rfl) ?_; refine kl H rfl fun a H => ?_
            refine wl_s (kg_no rfl H rfl rfl rfl) ?_; refine kl H rfl fun a H => ?_
            refine wl_s (kg_no rfl H rfl rfl rfl) ?_; refine kl H rfl fun a H => ?_
            refine wl_s (kg_no rfl H rfl rfl rfl) ?_; refine kl H rfl fun a H => ?_
            refine wl_v _ (r_pick_f (H.ev rfl) evc) ?_; refine kl H rfl fun a H => ?_
            refine wl_v _ (r_move (H.ev rfl)) ?_; refine kl H rfl fun a H => ?_
            refine wl_s (kg_no rfl H rfl rfl rfl) ?_; refine kl H rfl fun a H => ?_
            refine wl_s (kg_no rfl H rfl rfl rfl) ?_; refine kl H rfl fun a H => ?_
            refine wl_v _ (r_pick_f (H.ev rfl) evc) ?_; refine kl H rfl fun a H => ?_
            refine wl_v _ (r_move (H.ev rfl)) ?_; refine kl H rfl fun a H => ?_
            refine wl_s (kg_no rfl H rfl rfl rfl) ?_; refine kl H rfl fun a H => ?_
            refine wl_s (kg_no rfl H rfl rfl rfl) ?_; refine kl H rfl fun a H => ?_
            refine wl_v _ (r_pick_f (H.ev rfl) evc) ?_; refine kl H rfl fun a H => ?_
            refine wl_v _ (r_move (H.ev rfl)) ?_; refine kl H rfl fun a H => ?_
            refine wl_s (kg_no rfl H rfl rfl rfl) ?_; refine kl H rfl fun a H => ?_
            refine wl_s (kg_no rfl H rfl rfl rfl) ?_; refine kl H rfl fun a H => ?_
            refine wl_v _ (r_pick_f (H.ev rfl) evc) ?_; refine kl H rfl fun a H => ?_
            refine wl_v _ (r_move (H.ev rfl)) ?_; refine kl H rfl fun a H => ?_
            refine wl_s (kg_no rfl H rfl rfl rfl) ?_; refine kl H rfl fun a H => ?_
            refine wl_s (kg_no rfl H rfl rfl rfl) ?_; refine kl H rfl fun a H => ?_
            refine wl_v _ (r_pick_f (H.ev rfl) evc) ?_; refine kl H rfl fun a H => ?_
            refine wl_v _ (r_assign (H.ev rfl)) ?_; refine kl H rfl fun a H => ?_
            refine wpList_nil ?_
            refine c_next ?_
            refine wp_ret ?_
            exfalso; omega
        · skip
          refine op_unguard _ _ (kg_yes rfl H rfl rfl rfl) ?_; refine wl_v _ (r_eq Try.underlying3 (H.ev rfl) (H.ev rfl) (dec_f (hcc4))) ?_; refine kl H rfl fun a H => ?_
          refine wl_v _ (r_pick_t (H.ev rfl) (H.ev rfl)) ?_; refine kl H rfl fun a H => ?_
          refine wl_v _ (r_move (H.ev rfl)) ?_; refine kl H rfl fun a H => ?_
          refine wl_s (kg_no rfl H rfl rfl rfl) ?_; refine kl H rfl fun a H => ?_
          refine wl_s (kg_no rfl H rfl rfl rfl) ?_; refine kl H rfl fun a H => ?_
          refine wl_v _ (r_pick_f (H.ev rfl) evc) ?_; refine kl H rfl fun a H => ?_
          refine wl_v _ (r_move (H.ev rfl)) ?_; refine kl H rfl fun a H => ?_
          refine wl_s (kg_no rfl H rfl rfl rfl) ?_; refine kl H rfl fun a H => ?_
          refine wl_s (kg_no rfl H rfl rfl rfl) ?_; refine kl H rfl fun a H => ?_
          refine wl_s (kg_no rfl H rfl rfl rfl) ?_; refine kl H rfl fun a H => ?_
          refine wl_s (kg_no rfl H rfl rfl rfl) ?_; refine kl H rfl fun a H => ?_
          refine wl_s (kg_no rfl H rfl rfl rfl) ?_; refine kl H rfl fun a H => ?_
          refine wl_s (kg_no rfl H rfl rfl rfl) ?_; refine kl H rfl fun a H => ?_
          refine wl_s (kg_no rfl H rfl rfl rfl) ?_; refine kl H rfl fun a H => ?_
          refine wl_s (kg_no rfl H rfl rfl rfl) ?_; refine kl H rfl fun a H => ?_
          refine wl_s (kg_no rfl H rfl rfl rfl) ?_; refine kl H rfl fun a H => ?_
          refine wl_v _ (r_pick_f (H.ev rfl) evc) ?_; refine kl H rfl fun a H => ?_
          refine wl_v _ (r_move (H.ev rfl)) ?_; refine kl H rfl fun a H => ?_
          refine wl_s (kg_no rfl H rfl rfl rfl) ?_; refine kl H rfl fun a H => ?_
          refine wl_s (kg_no rfl H rfl rfl rfl) ?_; refine kl H rfl fun a H => ?_
          refine wl_v _ (r_pick_f (H.ev rfl) evc) ?_; refine kl H rfl fun a H => ?_
          refine wl_v _ (r_move (H.ev rfl)) ?_; refine kl H rfl fun a H => ?_
          refine wl_s (kg_no rfl H rfl rfl rfl) ?_; refine kl H rfl fun a H => ?_
          refine wl_s (kg_no rfl H rfl rfl rfl) ?_; refine kl H rfl fun a H => ?_
          refine wl_v _ (r_pick_f (H.ev rfl) evc) ?_; refine kl H rfl fun a H => ?_
          refine wl_v _ (r_move (H.ev rfl)) ?_; refine kl H rfl fun a H => ?_
          refine wl_s (kg_no rfl H rfl rfl rfl) ?_; refine kl H rfl fun a H => ?_
          refine wl_s (kg_no rfl H rfl rfl rfl) ?_; refine kl H rfl fun a H => ?_
          refine wl_v _ (r_pick_f (H.ev rfl) evc) ?_; refine kl H rfl fun a H => ?_
          refine wl_v _ (r_move (H.ev rfl)) ?_; refine kl H rfl fun a H => ?_
          refine wl_s (kg_no rfl H rfl rfl rfl) ?_; refine kl H rfl fun a H => ?_
          refine wl_s (kg_no rfl H rfl rfl rfl) ?_; refine kl H rfl fun a H => ?_
          refine wl_v _ (r_pick_f (H.ev rfl) evc) ?_; refine kl H rfl fun a H => ?_
          refine wl_v _ (r_assign (H.ev rfl)) ?_; refine kl H rfl fun a H => ?_
          refine wpList_nil ?_
          refine c_next ?_
          refine wp_ret ?_
          exfalso; omega
    · skip
      refine K_enter 140 Try.func4 rfl rfl fun a H => ?_
      replace H := H.pick [0, 1, 2]
      refine wp_seq ?_
      refine wp_region_lit ?_
      refine op_box 24 _ #[.slice A L.length c, .int .i64 t] (H.ev rfl) fun w0 b0 hge hb k0 => ?_; have g0 := Nat.le_trans hall.size hge; replace hall := hall.trans (hb.mono hall.size); clear hb; clear hge; refine kl H rfl fun a H => ?_
      refine wl_v _ (r_assign evc) ?_; refine kl H rfl fun a H => ?_
      refine wpList_nil ?_
      refine c_next ?_
      refine wp_seq ?_
      refine wp_region_lit ?_
      refine wl_call _ _ _ (small_any _) (r_call0 cf7) ?_; rintro e w9 ⟨rfl, hb⟩; refine ⟨_, rfl, ?_⟩; replace k0 := Block.ups k0 hb; replace hall := hall.trans (hb.mono hall.size); clear hb; refine kl H rfl fun a H => ?_
      refine wl_v _ (r_assign (H.ev rfl)) ?_; refine kl H rfl fun a H => ?_
      refine wpList_nil ?_
      refine c_next ?_
      refine wp_seq ?_
      refine wp_seq ?_
      refine wp_region_lit ?_
      refine wl_v _ (r_fld (q := 0) fld24_0 (H.ev rfl) rfl) ?_; refine kl H rfl fun a H => ?_
      refine wl_v _ (r_ld Try.underlying22 rfl (H.ev rfl) ((Block.cell k0 0).trans rfl)) ?_; refine kl H rfl fun a H => ?_
      refine wl_v _ (r_len Try.underlying22 (H.ev rfl)) ?_; refine kl H rfl fun a H => ?_
      refine wl_v _ (r_gt Try.underlying3 (H.ev rfl) evc (dec_t (by omega))) ?_; refine kl H rfl fun a H => ?_
      refine wl_v _ (r_move (H.ev rfl)) ?_; refine kl H rfl fun a H => ?_
      refine wl_s (kg_no rfl H rfl rfl rfl) ?_; refine kl H rfl fun a H => ?_
      refine wl_s (kg_no rfl H rfl rfl rfl) ?_; refine kl H rfl fun a H => ?_
      refine wl_s (kg_no rfl H rfl rfl rfl) ?_; refine kl H rfl fun a H => ?_
      refine wl_v _ (r_pick_t (H.ev rfl) evc) ?_; refine kl H rfl fun a H => ?_
      refine wpList_nil ?_
      refine c_next ?_
      refine c_cond_t H rfl ?_
      refine wp_seq ?_
      refine wp_region_lit ?_
      refine wl_v _ (r_move (H.ev rfl)) ?_; refine kl H rfl fun a H => ?_
      refine wl_v _ (r_assign (H.ev rfl)) ?_; refine kl H rfl fun a H => ?_
      refine wpList_nil ?_
      refine c_next ?_
      refine wp_ret ?_
      refine r_then ?_
      exact k_ret1 H rfl rfl ⟨rfl, hall⟩
theorem marks_all (w : World) (m0 : Int) (A0 : Option Addr) (n0 c0 : Nat) (L0 : List Int) (u1 u2 : Int) (hm0 : (Lit.int .i64 m0).wf = true) (hn0 : L0.length = n0 * 2) (hw0 : WF L0) (hnc0 : n0 ≤ c0) (hcm0 : c0 ≤ maxLen) (hh0 : Holds w A0 (L0.map (Value.int .i64))) (hz0 : A0 = none → c0 = 0) (hb : n0 ≤ 9223372036854775807) (wu1 : (Lit.int .i64 u1).wf = true) (wu2 : (Lit.int .i64 u2).wf = true) :
    Calls Try.prog 4 #[.agg #[.slice A0 n0 c0, .int .i64 m0], .int .i64 u1, .int .i64 u2] w fun e w' => e = .returned (.bool true) ∧ Below w.heap.size w w' := by
  obtain ⟨L, h, rfl, hw⟩ := mrow_in hn0 hw0 hnc0 hcm0 hh0 hz0
  exact marks_walk w m0 u1 u2 _ L h hb hw (wf_int hm0) wu1 wu2
set_option maxRecDepth 100000 in
theorem fanoutMarks_lifted (os : Os) (started : os.Started) (H : Type) (enc : TypeId × Value → H) :
    ReturnsInHanded {} Try.checked os 4 .any (Rows.fanoutMarksSpec.pre6 enc Try.prog Try.f4 Rows.fanoutMarksRow.domain false) (Rows.fanoutMarksSpec.post enc Try.prog Try.f4 false true false false) := by
  refine returnsInHanded_of_change (C := Try.checked) own started (by kernel_rfl) Try.func4
    (ChangeSpec.witness6 (enc := enc) (C := Try.checked) false ⟨#[], #[.agg #[.slice none 0 0, .int .i64 0], .int .i64 0, .int .i64 0], []⟩ 8 (by kernel_rfl) (by kernel_rfl) (by kernel_rfl) (by kernel_rfl)) ?_
  intro W base args ds gs before hval0 hW hcnd _
  have hval : ∀ (j : Nat) t v, Try.f4.params[j]? = some t → args[j]? = some v → Value.okWide Try.prog W .any base t v := hval0
  have hW' := hW
  obtain ⟨p, q, hA0, hV, rfl, hfz, hnd⟩ := hW
  have hA : DataW.TrodAll enc Try.prog W 0 (fun _ => true) true Try.f4.params.toList args.toList ds p := hA0
  rw [Try.params4] at hA hval
  obtain ⟨v0, vs0, d0, ds0, p0, q0, hargs, rfl, rfl, h0, r0⟩ := trodAll_cons hA
  obtain ⟨v1, vs1, d1, ds1, p1, q1, rfl, rfl, rfl, h1, r1⟩ := trodAll_cons r0
  obtain ⟨v2, vs2, d2, ds2, p2, q2, rfl, rfl, rfl, h2, r2⟩ := trodAll_cons r1
  obtain ⟨rfl, rfl, rfl⟩ := trodAll_nil r2
  obtain rfl : args = #[v0, v1, v2] := by cases args; simp_all
  obtain ⟨rfl, rfl⟩ := trodVars_none hV
  have k0 := h0
  have lt0 : ∀ x ∈ p0, x.block < W.heap.size := by obtain ⟨m, hm⟩ := k0; exact DataW.trod_lt m _ _ _ hm
  obtain ⟨m0, A0, n0, c0, L0, rfl, hm0, hn0, hw0, hnc0, hcm0, hh0, hz0⟩ := open_si 2 2 Try.underlying24 rfl rfl Try.underlying3 co3 rfl rfl co22 co24 Try.underlying22 it29 co29 (by omega) (hval 0 24 v0 rfl rfl) h0
  have hb0 : n0 ≤ 9223372036854775807 := by unfold maxLen at hcm0; omega
  obtain ⟨u1, rfl, rfl, rfl, wu1⟩ := open_int Try.underlying3 (hval 1 3 v1 rfl rfl) h1
  obtain ⟨u2, rfl, rfl, rfl, wu2⟩ := open_int Try.underlying3 (hval 2 3 v2 rfl rfl) h2
  clear hA0 hval0
  refine (marks_all W m0 A0 n0 c0 L0 u1 u2 hm0 hn0 hw0 hnc0 hcm0 hh0 hz0 hb0 wu1 wu2).mono fun e W' ⟨he, bel⟩ => ?_
  subst he
  exact ⟨_, rfl, _, _, _, [], _, [], hW', trodAll_mk1 (shut_bool Try.underlying4 _), (trodAll_cons_mk (Below.trod laidOut (by kernel_rfl) (of_decide_eq_true (by kernel_rfl)) k0 bel lt0) (trodAll_cons_mk (shut_int Try.underlying3 wu1) (trodAll_cons_mk (shut_int Try.underlying3 wu2) trodAll_mk0))), rfl, bel.frame _, fun h => by cases h⟩

theorem fanoutMarks_holds : Rows.FanoutMarksSaid :=
  OpenClaim.holds_of_wide 4 Try.f4 rfl rfl rfl rfl rfl rfl rfl ⟨rfl, rfl, rfl, rfl, rfl⟩ rfl rfl rfl rfl rfl (by kernel_rfl) Try.func4 (by kernel_rfl)
    (of_decide_eq_true (by kernel_rfl)) (by unfold Func.isWrapper; first | (rw [if_pos (by decide +kernel)]; kernel_rfl) | (rw [if_neg (by decide +kernel)]; exact ⟨rfl, rfl⟩))
    (fun os started H enc _ => fanoutMarks_lifted os started H enc)
#print axioms fanoutMarks_holds
end Go.Proofs.Ytpegfbdepgmbjaa
