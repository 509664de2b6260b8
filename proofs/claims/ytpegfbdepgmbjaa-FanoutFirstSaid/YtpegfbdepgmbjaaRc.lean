/- Fanout: FanoutFirst, proved: what is told next is the first mark of a session that is ready, and all other marks stay, in order. -/
import Derived.Test.YtpegfbdepgmbjaaPl
namespace Go.Proofs.Ytpegfbdepgmbjaa
open Go.RowKit Go.ChangeShapes Go.WideShapes Go.ChangeAt Go.Maps
set_option linter.unusedVariables false
set_option linter.unusedSimpArgs false

theorem mrow_at {w : World} {c k : Nat} {A : Option Addr} {M : List Mk} (h : MRow w (.slice A M.length c) M) (hk : k < M.length) : ∃ b o, A = some ⟨b, o, none⟩ ∧ w.rangeAt b (o + k * 2) (IV (encM M[k])) := by
  obtain ⟨A', c', e, _, _, _, hh⟩ := h
  injection e with e1 e2 e3
  subst e1
  obtain ⟨b, o, hA, hr⟩ := flat_some encM_len hh (by omega) hk
  exact ⟨b, o, hA, hr⟩
section
variable {R : List Int} {k : Nat} {x m : Int}
theorem in_next (hx : R[k]? = some x) : m ∈ R.take (k + 1) ↔ m ∈ R.take k ∨ x = m := by
  obtain ⟨hk, rfl⟩ := List.getElem?_eq_some_iff.1 hx
  rw [List.take_succ_eq_append_getElem hk, List.mem_append, List.mem_singleton, eq_comm]
theorem in_true (h : true = true ↔ m ∈ R.take k) (hx : R[k]? = some x) : true = true ↔ m ∈ R.take (k + 1) := by
  rw [in_next hx]
  exact ⟨fun e => .inl (h.1 e), fun _ => rfl⟩
theorem in_here (hx : R[k]? = some x) (e : x = m) : true = true ↔ m ∈ R.take (k + 1) := by
  rw [in_next hx]
  exact ⟨fun _ => .inr e, fun _ => rfl⟩
theorem in_not (h : false = true ↔ m ∈ R.take k) (hx : R[k]? = some x) (e : ¬ x = m) : false = true ↔ m ∈ R.take (k + 1) := by
  rw [in_next hx]
  exact ⟨fun h => (by cases h), fun h2 => h2.elim h.2 (fun h3 => absurd h3 e)⟩
end
theorem next_len {M M2 : List Mk} {t tt m1 m2 : Int} {R : List Int} {b : Bool} (hx : nextF M t R = ((M2, tt), ((m1, m2), b))) : M2.length ≤ M.length := by
  rcases next_facts hx with ⟨_, rfl, _⟩ | ⟨_, j, hj, rfl, _⟩
  · exact Nat.le_refl _
  · have := erase_len hj; omega
/-- what is wanted of the first k marks -/
def Want (L : List Mk) (j k : Nat) (gb : Bool) (Wl : List Mk) : Prop := (gb = false ∧ k ≤ j ∧ Wl = L.take k) ∨ (gb = true ∧ j < k ∧ Wl = (L.eraseIdx j).take (k - 1))
section
variable {L Wl : List Mk} {j k : Nat} {gb : Bool} {y : Mk}
theorem want_len (hj : j < L.length) (hk : k ≤ L.length) (h : Want L j k gb Wl) : Wl.length ≤ L.length := by
  rcases h with ⟨_, _, rfl⟩ | ⟨_, _, rfl⟩
  · simp; omega
  · simp only [List.length_take, List.length_eraseIdx_of_lt hj]; omega
theorem want_lt (h : Wl = L.take k) (hy : L[k]? = some y) (hk : k < j) : Want L j (k + 1) false (Wl ++ [y]) := by
  obtain ⟨hl, rfl⟩ := List.getElem?_eq_some_iff.1 hy
  exact .inl ⟨rfl, by omega, by rw [h, List.take_succ_eq_append_getElem hl]⟩
theorem want_eq (h : Wl = L.take j) (hj : j < L.length) : Want L j (j + 1) true Wl := .inr ⟨rfl, by omega, by
  rw [h, Nat.add_sub_cancel, List.eraseIdx_eq_take_drop_succ, List.take_append_of_le_length (by simp; omega), List.take_take, Nat.min_self]⟩
theorem want_gt (h : Wl = (L.eraseIdx j).take (k - 1)) (hy : L[k]? = some y) (hk : j < k) : Want L j (k + 1) true (Wl ++ [y]) := by
  obtain ⟨hl, e⟩ := List.getElem?_eq_some_iff.1 hy
  refine .inr ⟨rfl, by omega, ?_⟩
  have hkl : k - 1 < (L.eraseIdx j).length := by rw [List.length_eraseIdx_of_lt (by omega)]; omega
  have he : (L.eraseIdx j)[k - 1] = y := by
    rw [List.getElem_eraseIdx_of_ge hkl (by omega)]
    rw [← e]
    congr 1; omega
  rw [h, Nat.add_sub_cancel]
  conv => rhs; rw [show k = (k - 1) + 1 by omega, List.take_succ_eq_append_getElem hkl, he]
theorem want_end (hj : j < L.length) (h : Want L j L.length gb Wl) : gb = true ∧ Wl = L.eraseIdx j := by
  rcases h with ⟨_, h, _⟩ | ⟨e, _, h⟩
  · omega
  · refine ⟨e, ?_⟩
    rw [h, List.take_of_length_le (by rw [List.length_eraseIdx_of_lt hj]; omega)]
end
def SFs (W : World) (bm : Nat) (m1 m2 : Int) (w : World) : Prop := Below W.heap.size W w ∧ Block w bm 29 #[.int .i64 m1, .int .i64 m2]
def SFt (W : World) (b0 bm : Nat) (s : Value) (t m1 m2 : Int) (w : World) : Prop := Below W.heap.size W w ∧ Block w b0 24 #[s, .int .i64 t] ∧ Block w bm 29 #[.int .i64 m1, .int .i64 m2]
def Fi1 (W : World) (b0 bg bm : Nat) (t tt m1 m2 : Int) (A : Option Addr) (c : Nat) (L : List Mk) (A1 : Option Addr) (c1 : Nat) (M2 : List Mk) (Ar : Option Addr) (cr : Nat) (R : List Int) (b : Bool) (a : Act) (w : World) : Prop :=
  ∃ (k : Nat) (sb : Bool), Kn a 116 [(1, .slice Ar R.length cr), (2, .pointer (some ⟨b0, 0, none⟩)), (5, .bool true), (6, .pointer (some ⟨bg, 0, none⟩)), (7, .pointer (some ⟨bm, 0, none⟩)), (8, .bool b), (9, .bool sb), (10, .int .i64 (k : Nat))] ∧ k ≤ R.length ∧ (sb = true ↔ m1 ∈ R.take k) ∧ Block w b0 24 #[.slice A L.length c, .int .i64 t] ∧ Block w bg 24 #[.slice A1 M2.length c1, .int .i64 tt] ∧ Block w bm 29 #[.int .i64 m1, .int .i64 m2] ∧ MOwn w W.heap.size (.slice A1 M2.length c1) M2 ∧ Below W.heap.size W w
def Fi2 (W : World) (D b0 bg bm : Nat) (t tt m1 m2 : Int) (A : Option Addr) (c : Nat) (L : List Mk) (A1 : Option Addr) (c1 : Nat) (M2 : List Mk) (j : Nat) (a : Act) (w : World) : Prop :=
  ∃ (k : Nat) (Wl : List Mk) (A5 : Option Addr) (c5 : Nat) (gb : Bool), Kn a 116 [(2, .pointer (some ⟨b0, 0, none⟩)), (5, .bool true), (6, .pointer (some ⟨bg, 0, none⟩)), (7, .pointer (some ⟨bm, 0, none⟩)), (9, .bool true), (11, .slice A5 Wl.length c5), (12, .bool gb), (13, .int .i64 (k : Nat))] ∧
    k ≤ L.length ∧ Want L j k gb Wl ∧ MOwn w D (.slice A5 Wl.length c5) Wl ∧ Block w b0 24 #[.slice A L.length c, .int .i64 t] ∧ Block w bg 24 #[.slice A1 M2.length c1, .int .i64 tt] ∧ Block w bm 29 #[.int .i64 m1, .int .i64 m2] ∧ MOwn w W.heap.size (.slice A1 M2.length c1) M2 ∧ D ≤ w.heap.size ∧ Below W.heap.size W w
set_option maxHeartbeats 8000000 in
theorem first_walk (w : World) (t : Int) (v vr : Value) (L : List Mk) (R : List Int) (h0 : MRow w v L) (hR0 : IRow w vr R) (hn : L.length ≤ 9223372036854775807) (hRn : R.length ≤ 9223372036854775807) (hw : ∀ y ∈ L, MWF y) (ht : -9223372036854775808 ≤ t ∧ t ≤ 9223372036854775807) :
    Calls Try.prog 5 #[.agg #[v, .int .i64 t], vr] w fun e w' => e = .returned (.bool true) ∧ Below w.heap.size w w' := by
  obtain ⟨A, c, rfl, h1, h2, h3, hh⟩ := h0
  have h : Hid (MRow w (.slice A L.length c) L) := Lib.hid ⟨A, c, rfl, h1, h2, h3, hh⟩
  clear hh
  obtain ⟨Ar, cr, rfl, r1, r2, r3, rr⟩ := hR0
  have hR : Hid (IRow w (.slice Ar R.length cr) R) := Lib.hid ⟨Ar, cr, rfl, r1, r2, r3, rr⟩
  clear rr
  replace hw := Lib.hid hw
  have hall := Below.refl w.heap.size w
  cases hrt : rightF L
  · skip
    refine K_enter 116 Try.func5 rfl rfl fun a H => ?_
    replace H := H.pick [0, 1]
    refine wp_seq ?_
    refine wp_region_lit ?_
    refine op_box 24 _ #[.slice A L.length c, .int .i64 t] (H.ev rfl) fun w0 b0 hge hb k0 => ?_; have g0 := Nat.le_trans hall.size hge; replace hall := hall.trans (hb.mono hall.size); clear hb; clear hge; refine kl H rfl fun a H => ?_
    refine wl_v _ (r_assign evc) ?_; refine kl H rfl fun a H => ?_
    refine wpList_nil ?_
    refine c_next ?_
    refine wp_seq ?_
    refine wp_region_lit ?_
    refine wl_call _ _ _ (small_any _) (r_call0 cf7) ?_; rintro e w9 ⟨rfl, hb⟩; refine ⟨_, rfl, ?_⟩; replace k0 := Block.ups k0 hb; replace hall := hall.trans (hb.mono hall.size); clear hb; refine kl H rfl fun a H => ?_
    refine wl_v _ (r_assign (H.ev rfl)) ?_; refine kl H rfl fun a H => ?_
    refine wpList_nil ?_
    refine c_next ?_
    refine wp_seq ?_
    refine wp_seq ?_
    refine wp_region_lit ?_
    refine wl_v _ (r_fld (q := 0) fld24_0 (H.ev rfl) rfl) ?_; refine kl H rfl fun a H => ?_
    refine wl_v _ (r_ld Try.underlying22 rfl (H.ev rfl) ((Block.cell k0 0).trans rfl)) ?_; refine kl H rfl fun a H => ?_
    refine wl_v _ (r_len Try.underlying22 (H.ev rfl)) ?_; refine kl H rfl fun a H => ?_
    by_cases hcc0 : ((L.length : Nat) : Int) > 200
    · skip
      refine wl_v _ (r_gt Try.underlying3 (H.ev rfl) evc (dec_t (hcc0))) ?_; refine kl H rfl fun a H => ?_
      refine wl_v _ (r_move (H.ev rfl)) ?_; refine kl H rfl fun a H => ?_
      refine wl_s (kg_no rfl H rfl rfl rfl) ?_; refine kl H rfl fun a H => ?_
      refine wl_s (kg_no rfl H rfl rfl rfl) ?_; refine kl H rfl fun a H => ?_
      refine wl_s (kg_no rfl H rfl rfl rfl) ?_; refine kl H rfl fun a H => ?_
      refine wl_v _ (r_pick_t (H.ev rfl) evc) ?_; refine kl H rfl fun a H => ?_
      refine wl_v _ (r_move (H.ev rfl)) ?_; refine kl H rfl fun a H => ?_
      refine wl_s (kg_no rfl H rfl rfl rfl) ?_; refine kl H rfl fun a H => ?_
      refine wl_s (kg_no rfl H rfl rfl rfl) ?_; refine kl H rfl fun a H => ?_
      refine wl_s (kg_no rfl H rfl rfl rfl) ?_; refine kl H rfl fun a H => ?_
      refine wl_v _ (r_pick_t (H.ev rfl) evc) ?_; refine kl H rfl fun a H => ?_
      refine wpList_nil ?_
      refine c_next ?_
      refine c_cond_t H rfl ?_
      refine wp_seq ?_
      refine wp_region_lit ?_
      refine wl_v _ (r_move (H.ev rfl)) ?_; refine kl H rfl fun a H => ?_
      refine wl_v _ (r_assign (H.ev rfl)) ?_; refine kl H rfl fun a H => ?_
      refine wpList_nil ?_
      refine c_next ?_
      refine wp_ret ?_
      refine r_then ?_
      exact k_ret1 H rfl rfl ⟨rfl, hall⟩
    · skip
      refine wl_v _ (r_gt Try.underlying3 (H.ev rfl) evc (dec_f (hcc0))) ?_; refine kl H rfl fun a H => ?_
      refine wl_v _ (r_move (H.ev rfl)) ?_; refine kl H rfl fun a H => ?_
      refine op_unguard _ _ (kg_yes rfl H rfl rfl rfl) ?_; refine wl_v _ (r_move (H.ev rfl)) ?_; refine kl H rfl fun a H => ?_
      refine op_unguard _ _ (kg_yes rfl H rfl rfl rfl) ?_; refine wl_v _ (r_len Try.underlying25 (H.ev rfl)) ?_; refine kl H rfl fun a H => ?_
      by_cases hcc1 : ((R.length : Nat) : Int) > 50
      · skip
        refine op_unguard _ _ (kg_yes rfl H rfl rfl rfl) ?_; refine wl_v _ (r_gt Try.underlying3 (H.ev rfl) evc (dec_t (hcc1))) ?_; refine kl H rfl fun a H => ?_
        refine wl_v _ (r_pick_f (H.ev rfl) (H.ev rfl)) ?_; refine kl H rfl fun a H => ?_
        refine wl_v _ (r_move (H.ev rfl)) ?_; refine kl H rfl fun a H => ?_
        refine wl_s (kg_no rfl H rfl rfl rfl) ?_; refine kl H rfl fun a H => ?_
        refine wl_s (kg_no rfl H rfl rfl rfl) ?_; refine kl H rfl fun a H => ?_
        refine wl_s (kg_no rfl H rfl rfl rfl) ?_; refine kl H rfl fun a H => ?_
        refine wl_v _ (r_pick_t (H.ev rfl) evc) ?_; refine kl H rfl fun a H => ?_
        refine wpList_nil ?_
        refine c_next ?_
        refine c_cond_t H rfl ?_
        refine wp_seq ?_
        refine wp_region_lit ?_
        refine wl_v _ (r_move (H.ev rfl)) ?_; refine kl H rfl fun a H => ?_
        refine wl_v _ (r_assign (H.ev rfl)) ?_; refine kl H rfl fun a H => ?_
        refine wpList_nil ?_
        refine c_next ?_
        refine wp_ret ?_
        refine r_then ?_
        exact k_ret1 H rfl rfl ⟨rfl, hall⟩
      · skip
        refine op_unguard _ _ (kg_yes rfl H rfl rfl rfl) ?_; refine wl_v _ (r_gt Try.underlying3 (H.ev rfl) evc (dec_f (hcc1))) ?_; refine kl H rfl fun a H => ?_
        refine wl_v _ (r_pick_f (H.ev rfl) (H.ev rfl)) ?_; refine kl H rfl fun a H => ?_
        refine wl_v _ (r_move (H.ev rfl)) ?_; refine kl H rfl fun a H => ?_
        refine op_unguard _ _ (kg_yes rfl H rfl rfl rfl) ?_; refine wl_v _ (r_row (cs := [.slice A L.length c, .int .i64 t]) (H.ev rfl) (block_range k0) (by kernel_rfl) s24 rfl) ?_; refine kl H rfl fun a H => ?_
        refine op_unguard _ _ (kg_yes rfl H rfl rfl rfl) ?_; refine wl_call _ _ _ (right_lit _ t _ L false hrt (Row.up h.out hall) (by omega) hw.out) (r_call1 cf8 (H.ev rfl)) ?_; rintro e w9 ⟨rfl, hb⟩; refine ⟨_, rfl, ?_⟩; replace k0 := Block.ups k0 hb; replace hall := hall.trans (hb.mono hall.size); clear hb; refine kl H rfl fun a H => ?_
        refine op_unguard _ _ (kg_yes rfl H rfl rfl rfl) ?_; refine wl_v _ (r_not (H.ev rfl) rfl) ?_; refine kl H rfl fun a H => ?_
        refine wl_v _ (r_pick_f (H.ev rfl) (H.ev rfl)) ?_; refine kl H rfl fun a H => ?_
        refine wpList_nil ?_
        refine c_next ?_
        refine c_cond_t H rfl ?_
        refine wp_seq ?_
        refine wp_region_lit ?_
        refine wl_v _ (r_move (H.ev rfl)) ?_; refine kl H rfl fun a H => ?_
        refine wl_v _ (r_assign (H.ev rfl)) ?_; refine kl H rfl fun a H => ?_
        refine wpList_nil ?_
        refine c_next ?_
        refine wp_ret ?_
        refine r_then ?_
        exact k_ret1 H rfl rfl ⟨rfl, hall⟩
  · skip
    refine K_enter 116 Try.func5 rfl rfl fun a H => ?_
    replace H := H.pick [0, 1]
    refine wp_seq ?_
    refine wp_region_lit ?_
    refine op_box 24 _ #[.slice A L.length c, .int .i64 t] (H.ev rfl) fun w0 b0 hge hb k0 => ?_; have g0 := Nat.le_trans hall.size hge; replace hall := hall.trans (hb.mono hall.size); clear hb; clear hge; refine kl H rfl fun a H => ?_
    refine wl_v _ (r_assign evc) ?_; refine kl H rfl fun a H => ?_
    refine wpList_nil ?_
    refine c_next ?_
    refine wp_seq ?_
    refine wp_region_lit ?_
    refine wl_call _ _ _ (small_any _) (r_call0 cf7) ?_; rintro e w9 ⟨rfl, hb⟩; refine ⟨_, rfl, ?_⟩; replace k0 := Block.ups k0 hb; replace hall := hall.trans (hb.mono hall.size); clear hb; refine kl H rfl fun a H => ?_
    refine wl_v _ (r_assign (H.ev rfl)) ?_; refine kl H rfl fun a H => ?_
    refine wpList_nil ?_
    refine c_next ?_
    refine wp_seq ?_
    refine wp_seq ?_
    refine wp_region_lit ?_
    refine wl_v _ (r_fld (q := 0) fld24_0 (H.ev rfl) rfl) ?_; refine kl H rfl fun a H => ?_
    refine wl_v _ (r_ld Try.underlying22 rfl (H.ev rfl) ((Block.cell k0 0).trans rfl)) ?_; refine kl H rfl fun a H => ?_
    refine wl_v _ (r_len Try.underlying22 (H.ev rfl)) ?_; refine kl H rfl fun a H => ?_
    by_cases hcc2 : ((L.length : Nat) : Int) > 200
    · skip
      refine wl_v _ (r_gt Try.underlying3 (H.ev rfl) evc (dec_t (hcc2))) ?_; refine kl H rfl fun a H => ?_
      refine wl_v _ (r_move (H.ev rfl)) ?_; refine kl H rfl fun a H => ?_
      refine wl_s (kg_no rfl H rfl rfl rfl) ?_; refine kl H rfl fun a H => ?_
      refine wl_s (kg_no rfl H rfl rfl rfl) ?_; refine kl H rfl fun a H => ?_
      refine wl_s (kg_no rfl H rfl rfl rfl) ?_; refine kl H rfl fun a H => ?_
      refine wl_v _ (r_pick_t (H.ev rfl) evc) ?_; refine kl H rfl fun a H => ?_
      refine wl_v _ (r_move (H.ev rfl)) ?_; refine kl H rfl fun a H => ?_
      refine wl_s (kg_no rfl H rfl rfl rfl) ?_; refine kl H rfl fun a H => ?_
      refine wl_s (kg_no rfl H rfl rfl rfl) ?_; refine kl H rfl fun a H => ?_
      refine wl_s (kg_no rfl H rfl rfl rfl) ?_; refine kl H rfl fun a H => ?_
      refine wl_v _ (r_pick_t (H.ev rfl) evc) ?_; refine kl H rfl fun a H => ?_
      refine wpList_nil ?_
      refine c_next ?_
      refine c_cond_t H rfl ?_
      refine wp_seq ?_
      refine wp_region_lit ?_
      refine wl_v _ (r_move (H.ev rfl)) ?_; refine kl H rfl fun a H => ?_
      refine wl_v _ (r_assign (H.ev rfl)) ?_; refine kl H rfl fun a H => ?_
      refine wpList_nil ?_
      refine c_next ?_
      refine wp_ret ?_
      refine r_then ?_
      exact k_ret1 H rfl rfl ⟨rfl, hall⟩
    · skip
      refine wl_v _ (r_gt Try.underlying3 (H.ev rfl) evc (dec_f (hcc2))) ?_; refine kl H rfl fun a H => ?_
      refine wl_v _ (r_move (H.ev rfl)) ?_; refine kl H rfl fun a H => ?_
      refine op_unguard _ _ (kg_yes rfl H rfl rfl rfl) ?_; refine wl_v _ (r_move (H.ev rfl)) ?_; refine kl H rfl fun a H => ?_
      refine op_unguard _ _ (kg_yes rfl H rfl rfl rfl) ?_; refine wl_v _ (r_len Try.underlying25 (H.ev rfl)) ?_; refine kl H rfl fun a H => ?_
      by_cases hcc3 : ((R.length : Nat) : Int) > 50
      · skip
        refine op_unguard _ _ (kg_yes rfl H rfl rfl rfl) ?_; refine wl_v _ (r_gt Try.underlying3 (H.ev rfl) evc (dec_t (hcc3))) ?_; refine kl H rfl fun a H => ?_
        refine wl_v _ (r_pick_f (H.ev rfl) (H.ev rfl)) ?_; refine kl H rfl fun a H => ?_
        refine wl_v _ (r_move (H.ev rfl)) ?_; refine kl H rfl fun a H => ?_
        refine wl_s (kg_no rfl H rfl rfl rfl) ?_; refine kl H rfl fun a H => ?_
        refine wl_s (kg_no rfl H rfl rfl rfl) ?_; refine kl H rfl fun a H => ?_
        refine wl_s (kg_no rfl H rfl rfl rfl) ?_; refine kl H rfl fun a H => ?_
        refine wl_v _ (r_pick_t (H.ev rfl) evc) ?_; refine kl H rfl fun a H => ?_
        refine wpList_nil ?_
        refine c_next ?_
        refine c_cond_t H rfl ?_
        refine wp_seq ?_
        refine wp_region_lit ?_
        refine wl_v _ (r_move (H.ev rfl)) ?_; refine kl H rfl fun a H => ?_
        refine wl_v _ (r_assign (H.ev rfl)) ?_; refine kl H rfl fun a H => ?_
        refine wpList_nil ?_
        refine c_next ?_
        refine wp_ret ?_
        refine r_then ?_
        exact k_ret1 H rfl rfl ⟨rfl, hall⟩
      · skip
        refine op_unguard _ _ (kg_yes rfl H rfl rfl rfl) ?_; refine wl_v _ (r_gt Try.underlying3 (H.ev rfl) evc (dec_f (hcc3))) ?_; refine kl H rfl fun a H => ?_
        refine wl_v _ (r_pick_f (H.ev rfl) (H.ev rfl)) ?_; refine kl H rfl fun a H => ?_
        refine wl_v _ (r_move (H.ev rfl)) ?_; refine kl H rfl fun a H => ?_
        refine op_unguard _ _ (kg_yes rfl H rfl rfl rfl) ?_; refine wl_v _ (r_row (cs := [.slice A L.length c, .int .i64 t]) (H.ev rfl) (block_range k0) (by kernel_rfl) s24 rfl) ?_; refine kl H rfl fun a H => ?_
        refine op_unguard _ _ (kg_yes rfl H rfl rfl rfl) ?_; refine wl_call _ _ _ (right_lit _ t _ L true hrt (Row.up h.out hall) (by omega) hw.out) (r_call1 cf8 (H.ev rfl)) ?_; rintro e w9 ⟨rfl, hb⟩; refine ⟨_, rfl, ?_⟩; replace k0 := Block.ups k0 hb; replace hall := hall.trans (hb.mono hall.size); clear hb; refine kl H rfl fun a H => ?_
        refine op_unguard _ _ (kg_yes rfl H rfl rfl rfl) ?_; refine wl_v _ (r_not (H.ev rfl) rfl) ?_; refine kl H rfl fun a H => ?_
        refine wl_v _ (r_pick_f (H.ev rfl) (H.ev rfl)) ?_; refine kl H rfl fun a H => ?_
        refine wpList_nil ?_
        refine c_next ?_
        refine c_cond_f H rfl ?_
        refine wp_skip ?_
        refine c_next ?_
        refine wp_seq ?_
        obtain ⟨⟨⟨M2, tt⟩, ⟨m1, m2⟩, b⟩, hx⟩ : ∃ q, nextF L t R = q := ⟨_, rfl⟩
        have hfc := Lib.hid (next_facts hx)
        have hM2l := next_len hx
        replace hx := Lib.hid hx
        cases b
        · skip
          refine wp_region_lit ?_
          refine wl_v _ (r_row (cs := [.slice A L.length c, .int .i64 t]) (H.ev rfl) (block_range k0) (by kernel_rfl) s24 rfl) ?_; refine kl H rfl fun a H => ?_
          refine wl_v _ (r_move (H.ev rfl)) ?_; refine kl H rfl fun a H => ?_
          refine wl_call _ _ _ (next_lit _ t _ _ L R M2 M2.length tt m1 m2 false hx.out rfl (Row.up h.out hall) (IRow.up hR.out hall) (by omega) (by omega) ht (mwf_max hw.out)) (r_call2 cf9 (H.ev rfl) (H.ev rfl)) ?_; rintro e w9 ⟨⟨A0, c0, rfl, ho0⟩, hb⟩; refine ⟨_, rfl, ?_⟩; have hWs := hall.size; replace k0 := Block.ups k0 hb; replace hall := hall.trans (hb.mono hall.size); clear hb; replace ho0 := ROwn.base ho0 hWs; clear hWs; refine kl H rfl fun a H => ?_
          refine wl_v _ (r_move (H.ev rfl)) ?_; refine kl H rfl fun a H => ?_
          refine wl_v _ (r_extract (v := .agg #[.slice A0 M2.length c0, .int .i64 tt]) (H.ev rfl) rfl) ?_; refine kl H rfl fun a H => ?_
          refine wl_v _ (r_extract (v := .agg #[.int .i64 m1, .int .i64 m2]) (H.ev rfl) rfl) ?_; refine kl H rfl fun a H => ?_
          refine wl_v _ (r_extract (v := .bool false) (H.ev rfl) rfl) ?_; refine kl H rfl fun a H => ?_
          refine op_alloc 24 #[.slice none 0 0, .int .i64 0] z24 fun w1 b1 hge hb k1 => ?_; have g1 := Nat.le_trans hall.size hge; have d0_1 : b0 < b1 := Nat.lt_of_lt_of_le k0.lt hge; have hq0_1 := own_lt ho0 hge; replace k0 := Block.ups k0 hb; replace ho0 := ROwn.up ho0 hb; replace hall := hall.trans (hb.mono hall.size); clear hb; clear hge; refine kl H rfl fun a H => ?_
          refine op_alloc 29 #[.int .i64 0, .int .i64 0] z29 fun w2 b2 hge hb k2 => ?_; have g2 := Nat.le_trans hall.size hge; have d0_2 : b0 < b2 := Nat.lt_of_lt_of_le k0.lt hge; have d1_2 : b1 < b2 := Nat.lt_of_lt_of_le k1.lt hge; have hq0_2 := own_lt ho0 hge; replace k0 := Block.ups k0 hb; replace ho0 := ROwn.up ho0 hb; replace k1 := Block.ups k1 hb; replace hall := hall.trans (hb.mono hall.size); clear hb; clear hge; refine kl H rfl fun a H => ?_
          refine op_store1 24 (.tmp 6) (.tmp 34) b1 0 24 (.agg #[.slice A0 M2.length c0, .int .i64 tt]) _ (H.ev rfl) (H.ev rfl) k1 s24 (by simp [Value.cells]) (by simp [Value.cells, Value.oneCell']) fun w' hb ho kq => ?_; clear k1; have k1 : Block _ b1 24 #[.slice A0 M2.length c0, .int .i64 tt] := kq; clear kq; replace k0 := block_same k0 (ho _ (by omega)); replace ho0 := ROwn.upD ho0 hq0_1 (hb _ (Nat.le_refl _)); replace k2 := block_same k2 (ho _ (by omega)); replace hall := hall.trans (hb _ g1); clear hb ho; refine kl0 H fun a H => ?_
          refine op_store1 29 (.tmp 7) (.tmp 35) b2 0 29 (.agg #[.int .i64 m1, .int .i64 m2]) _ (H.ev rfl) (H.ev rfl) k2 s29 (by simp [Value.cells]) (ints_one [m1, m2]) fun w' hb ho kq => ?_; clear k2; have k2 : Block _ b2 29 #[.int .i64 m1, .int .i64 m2] := kq; clear kq; replace k0 := block_same k0 (ho _ (by omega)); replace ho0 := ROwn.upD ho0 hq0_2 (hb _ (Nat.le_refl _)); replace k1 := block_same k1 (ho _ (by omega)); replace hall := hall.trans (hb _ g2); clear hb ho; refine kl0 H fun a H => ?_
          refine wl_v _ (r_assign (H.ev rfl)) ?_; refine kl H rfl fun a H => ?_
          refine wpList_nil ?_
          refine c_next ?_
          refine wp_seq ?_
          refine wp_region_lit ?_
          refine wl_v _ (r_assign evc) ?_; refine kl H rfl fun a H => ?_
          refine wpList_nil ?_
          refine c_next ?_
          refine wp_seq ?_
          refine wp_seq ?_
          refine wp_region_lit ?_
          refine wl_v _ (r_assign evc) ?_; refine kl H rfl fun a H => ?_
          refine wpList_nil ?_
          refine c_next ?_
          refine wp_block ?_
          refine wp_loop (Fi1 w b0 b1 b2 t tt m1 m2 A c L A0 c0 M2 Ar cr R false) (fun a _ => R.length - (intOf (a.eval (.tmp 10))).toNat) ⟨0, false, H.pick [1, 2, 5, 6, 7, 8, 9, 10], by omega, by simp, k0, k1, k2, ho0, hall⟩ ?_
          clear H hall k0 k1 k2
          have hq0_x := own_lt ho0 (Nat.le_refl _)
          clear hq0_x ho0
          rintro a w' ⟨k, sb, H, hk, hsb, k0, k1, k2, ho0, hall⟩
          have H0 := H
          by_cases hlt : k < R.length
          · skip
            obtain ⟨br, orr, hAr, hcr⟩ := irow_at hR.out hlt
            subst hAr
            have hxr : R[k]? = some R[k] := List.getElem?_eq_getElem hlt
            have HXR := Lib.hid hxr
            have HCR := Lib.hid hcr
            generalize R[k] = x at *
            clear hxr hcr
            have H := H0
            cases sb
            · skip
              refine wp_seq ?_
              refine wp_seq ?_
              refine wp_region_lit ?_
              refine wl_v _ (r_move (H.ev rfl)) ?_; refine kl H rfl fun a H => ?_
              refine wl_v _ (r_move (H.ev rfl)) ?_; refine kl H rfl fun a H => ?_
              refine wl_v _ (r_len Try.underlying25 (H.ev rfl)) ?_; refine kl H rfl fun a H => ?_
              refine wl_v _ (r_lt Try.underlying3 (H.ev rfl) (H.ev rfl) (dec_t (by omega))) ?_; refine kl H rfl fun a H => ?_
              refine wpList_nil ?_
              refine c_next ?_
              refine c_cond_t H rfl ?_
              refine wp_skip ?_
              refine c_next ?_
              refine wp_seq ?_
              refine wp_block ?_
              have hS : SFs w b2 m1 m2 _ := ⟨hall.drew, k2⟩
              refine region_pi (SFs w b2 m1 m2) [(0, true), (1, true), (2, true), (3, true), (4, true), (5, true), (6, true), (7, true), (8, true), (9, true), (10, true)] (by kernel_rfl) (by kernel_rfl) rfl (by kernel_rfl) hS ?_
              replace k0 : Block (World.drew _) b0 24 _ := k0
              replace k1 : Block (World.drew _) b1 24 _ := k1
              replace ho0 : MOwn (World.drew _) _ _ M2 := ROwn.keep ho0 (fun _ _ => rfl)
              clear hall k2
              refine pi_f0 _ rfl (fun w' hS' => r_move (H.ev rfl)) ?_; refine kp H rfl fun a H => ?_
              refine pi_f0 _ rfl (fun w' hS' => r_move (H.ev rfl)) ?_; refine kp H rfl fun a H => ?_
              refine pi_f1 _ rfl rfl rfl (H.ev rfl) (fun w' hS' => r_move (H.ev rfl)) ?_; refine kp H rfl fun a H => ?_
              refine pi_f1 _ rfl rfl rfl (H.ev rfl) (fun w' hS' => r_move (H.ev rfl)) ?_; refine kp H rfl fun a H => ?_
              refine pi_f1 _ rfl rfl rfl (H.ev rfl) (fun w' hS' => r_idx (j := k) (q := orr + k) Try.underlying25 s3 (H.ev rfl) (H.ev rfl) (by omega) (by omega)) ?_; refine kp H rfl fun a H => ?_
              refine pi_f1 _ rfl rfl rfl (H.ev rfl) (fun w' hS' => r_ld Try.underlying3 rfl (H.ev rfl) (cell_ups HCR.out hS'.1)) ?_; refine kp H rfl fun a H => ?_
              refine pi_f1 _ rfl rfl rfl (H.ev rfl) (fun w' hS' => r_fld (q := 0) fld29_0 (H.ev rfl) rfl) ?_; refine kp H rfl fun a H => ?_
              refine pi_f1 _ rfl rfl rfl (H.ev rfl) (fun w' hS' => r_ld Try.underlying3 rfl (H.ev rfl) ((Block.cell (hS'.2) 0).trans rfl)) ?_; refine kp H rfl fun a H => ?_
              by_cases hcc4 : x = m1
              · skip
                refine pi_f1 _ rfl rfl rfl (H.ev rfl) (fun w' hS' => r_eq Try.underlying3 (H.ev rfl) (H.ev rfl) (dec_t (hcc4))) ?_; refine kp H rfl fun a H => ?_
                refine pi_f0 _ rfl (fun w' hS' => r_pick_f (H.ev rfl) (H.ev rfl)) ?_; refine kp H rfl fun a H => ?_
                refine pi_f0 _ rfl (fun w' hS' => r_assign (H.ev rfl)) ?_; refine kp H rfl fun a H => ?_
                refine pi_nil (NoPanic.normal ?_)
                have hall := hS.1
                have k2 := hS.2
                clear hS
                refine n_block ?_
                refine c_next ?_
                refine wp_region_lit ?_
                refine wl_v _ (r_move (H.ev rfl)) ?_; refine kl H rfl fun a H => ?_
                refine wl_v _ (r_add (q := ((k + 1 : Nat) : Int)) Try.underlying3 (H.ev rfl) evc (by omega) (by omega)) ?_; refine kl H rfl fun a H => ?_
                refine wl_v _ (r_assign (H.ev rfl)) ?_; refine kl H rfl fun a H => ?_
                refine wpList_nil ?_
                refine n_then ⟨⟨k + 1, _, H.pick [1, 2, 5, 6, 7, 8, 9, 10], by omega, in_here HXR.out (by omega), k0, k1, k2, ho0, hall⟩, ?_⟩
                rw [H.ev (j := 10) rfl, H0.ev (j := 10) rfl]
                simp only [intOf]
                omega
              · skip
                refine pi_f1 _ rfl rfl rfl (H.ev rfl) (fun w' hS' => r_eq Try.underlying3 (H.ev rfl) (H.ev rfl) (dec_f (hcc4))) ?_; refine kp H rfl fun a H => ?_
                refine pi_f0 _ rfl (fun w' hS' => r_pick_f (H.ev rfl) (H.ev rfl)) ?_; refine kp H rfl fun a H => ?_
                refine pi_f0 _ rfl (fun w' hS' => r_assign (H.ev rfl)) ?_; refine kp H rfl fun a H => ?_
                refine pi_nil (NoPanic.normal ?_)
                have hall := hS.1
                have k2 := hS.2
                clear hS
                refine n_block ?_
                refine c_next ?_
                refine wp_region_lit ?_
                refine wl_v _ (r_move (H.ev rfl)) ?_; refine kl H rfl fun a H => ?_
                refine wl_v _ (r_add (q := ((k + 1 : Nat) : Int)) Try.underlying3 (H.ev rfl) evc (by omega) (by omega)) ?_; refine kl H rfl fun a H => ?_
                refine wl_v _ (r_assign (H.ev rfl)) ?_; refine kl H rfl fun a H => ?_
                refine wpList_nil ?_
                refine n_then ⟨⟨k + 1, _, H.pick [1, 2, 5, 6, 7, 8, 9, 10], by omega, in_not hsb HXR.out (by omega), k0, k1, k2, ho0, hall⟩, ?_⟩
                rw [H.ev (j := 10) rfl, H0.ev (j := 10) rfl]
                simp only [intOf]
                omega
            · skip
              refine wp_seq ?_
              refine wp_seq ?_
              refine wp_region_lit ?_
              refine wl_v _ (r_move (H.ev rfl)) ?_; refine kl H rfl fun a H => ?_
              refine wl_v _ (r_move (H.ev rfl)) ?_; refine kl H rfl fun a H => ?_
              refine wl_v _ (r_len Try.underlying25 (H.ev rfl)) ?_; refine kl H rfl fun a H => ?_
              refine wl_v _ (r_lt Try.underlying3 (H.ev rfl) (H.ev rfl) (dec_t (by omega))) ?_; refine kl H rfl fun a H => ?_
              refine wpList_nil ?_
              refine c_next ?_
              refine c_cond_t H rfl ?_
              refine wp_skip ?_
              refine c_next ?_
              refine wp_seq ?_
              refine wp_block ?_
              have hS : SFs w b2 m1 m2 _ := ⟨hall.drew, k2⟩
              refine region_pi (SFs w b2 m1 m2) [(0, true), (1, true), (2, true), (3, true), (4, true), (5, true), (6, true), (7, true), (8, true), (9, true), (10, true)] (by kernel_rfl) (by kernel_rfl) rfl (by kernel_rfl) hS ?_
              replace k0 : Block (World.drew _) b0 24 _ := k0
              replace k1 : Block (World.drew _) b1 24 _ := k1
              replace ho0 : MOwn (World.drew _) _ _ M2 := ROwn.keep ho0 (fun _ _ => rfl)
              clear hall k2
              refine pi_f0 _ rfl (fun w' hS' => r_move (H.ev rfl)) ?_; refine kp H rfl fun a H => ?_
              refine pi_f0 _ rfl (fun w' hS' => r_move (H.ev rfl)) ?_; refine kp H rfl fun a H => ?_
              refine pi_s1 rfl rfl rfl (H.ev rfl) ?_; refine kp H rfl fun a H => ?_
              refine pi_s1 rfl rfl rfl (H.ev rfl) ?_; refine kp H rfl fun a H => ?_
              refine pi_s1 rfl rfl rfl (H.ev rfl) ?_; refine kp H rfl fun a H => ?_
              refine pi_s1 rfl rfl rfl (H.ev rfl) ?_; refine kp H rfl fun a H => ?_
              refine pi_s1 rfl rfl rfl (H.ev rfl) ?_; refine kp H rfl fun a H => ?_
              refine pi_s1 rfl rfl rfl (H.ev rfl) ?_; refine kp H rfl fun a H => ?_
              refine pi_s1 rfl rfl rfl (H.ev rfl) ?_; refine kp H rfl fun a H => ?_
              refine pi_f0 _ rfl (fun w' hS' => r_pick_t (H.ev rfl) evc) ?_; refine kp H rfl fun a H => ?_
              refine pi_f0 _ rfl (fun w' hS' => r_assign (H.ev rfl)) ?_; refine kp H rfl fun a H => ?_
              refine pi_nil (NoPanic.normal ?_)
              have hall := hS.1
              have k2 := hS.2
              clear hS
              refine n_block ?_
              refine c_next ?_
              refine wp_region_lit ?_
              refine wl_v _ (r_move (H.ev rfl)) ?_; refine kl H rfl fun a H => ?_
              refine wl_v _ (r_add (q := ((k + 1 : Nat) : Int)) Try.underlying3 (H.ev rfl) evc (by omega) (by omega)) ?_; refine kl H rfl fun a H => ?_
              refine wl_v _ (r_assign (H.ev rfl)) ?_; refine kl H rfl fun a H => ?_
              refine wpList_nil ?_
              refine n_then ⟨⟨k + 1, _, H.pick [1, 2, 5, 6, 7, 8, 9, 10], by omega, in_true hsb HXR.out, k0, k1, k2, ho0, hall⟩, ?_⟩
              rw [H.ev (j := 10) rfl, H0.ev (j := 10) rfl]
              simp only [intOf]
              omega
          · skip
            obtain rfl : k = R.length := by omega
            rw [List.take_length] at hsb
            refine wp_seq ?_
            refine wp_seq ?_
            refine wp_region_lit ?_
            refine wl_v _ (r_move (H.ev rfl)) ?_; refine kl H rfl fun a H => ?_
            refine wl_v _ (r_move (H.ev rfl)) ?_; refine kl H rfl fun a H => ?_
            refine wl_v _ (r_len Try.underlying25 (H.ev rfl)) ?_; refine kl H rfl fun a H => ?_
            refine wl_v _ (r_lt Try.underlying3 (H.ev rfl) (H.ev rfl) (dec_f (by omega))) ?_; refine kl H rfl fun a H => ?_
            refine wpList_nil ?_
            refine c_next ?_
            refine c_cond_f H rfl ?_
            refine wp_exit ?_
            refine e_then ?_
            refine e_then ?_
            refine e_here ?_
            refine c_next ?_
            refine wp_seq ?_
            refine wp_seq ?_
            have hme : M2 = L ∧ tt = t ∧ m1 = 0 ∧ m2 = 0 := by rcases hfc.out with ⟨_, e1, e2, e3, e4, _⟩ | ⟨e, _⟩; exact ⟨e1, e2, e3, e4⟩; cases e
            replace hme := Lib.hid hme
            refine wp_region_lit ?_
            refine wl_v _ (r_move (H.ev rfl)) ?_; refine kl H rfl fun a H => ?_
            refine wl_v _ (r_not (H.ev rfl) rfl) ?_; refine kl H rfl fun a H => ?_
            refine wpList_nil ?_
            refine c_next ?_
            refine c_cond_t H rfl ?_
            refine wp_seq ?_
            refine wp_region_lit ?_
            refine wl_v _ (r_move (H.ev rfl)) ?_; refine kl H rfl fun a H => ?_
            refine wl_v _ (r_move (H.ev rfl)) ?_; refine kl H rfl fun a H => ?_
            refine op_unguard _ _ (kg_yes rfl H rfl rfl rfl) ?_; refine wl_v _ (r_row (cs := [.int .i64 m1, .int .i64 m2]) (H.ev rfl) (block_range k2) (by kernel_rfl) s29 rfl) ?_; refine kl H rfl fun a H => ?_
            refine op_unguard _ _ (kg_yes rfl H rfl rfl rfl) ?_; refine wl_v _ (r_build #[] (.agg #[.int .i64 0, .int .i64 0]) (by simp [evc]) (fun w => by kernel_rfl)) ?_; refine kl H rfl fun a H => ?_
            refine op_unguard _ _ (kg_yes rfl H rfl rfl rfl) ?_; refine wl_v (.bool true) (r_eq29 (x := (m1, m2)) (y := (0, 0)) (H.ev rfl) (H.ev rfl) (dec_t (by rw [hme.out.2.2.1, hme.out.2.2.2]))) ?_; refine kl H rfl fun a H => ?_
            refine wl_v _ (r_pick_t (H.ev rfl) (H.ev rfl)) ?_; refine kl H rfl fun a H => ?_
            refine wl_v _ (r_move (H.ev rfl)) ?_; refine kl H rfl fun a H => ?_
            refine op_unguard _ _ (kg_yes rfl H rfl rfl rfl) ?_; refine wl_v _ (r_row (cs := [.slice A0 M2.length c0, .int .i64 tt]) (H.ev rfl) (block_range k1) (by kernel_rfl) s24 rfl) ?_; refine kl H rfl fun a H => ?_
            refine op_unguard _ _ (kg_yes rfl H rfl rfl rfl) ?_; refine wl_v _ (r_row (cs := [.slice A L.length c, .int .i64 t]) (H.ev rfl) (block_range k0) (by kernel_rfl) s24 rfl) ?_; refine kl H rfl fun a H => ?_
            refine op_unguard _ _ (kg_yes rfl H rfl rfl rfl) ?_; refine wl_call _ _ _ (same_lit _ tt t _ _ M2 L true (dec_t ⟨hme.out.2.1, hme.out.1⟩) (MOwn.row ho0) (Row.up h.out hall) (by omega)) (r_call2 cf13 (H.ev rfl) (H.ev rfl)) ?_; rintro e w9 ⟨rfl, hb⟩; refine ⟨_, rfl, ?_⟩; replace k0 := Block.ups k0 hb; replace k1 := Block.ups k1 hb; replace k2 := Block.ups k2 hb; replace ho0 := ROwn.up ho0 hb; replace hall := hall.trans (hb.mono hall.size); clear hb; refine kl H rfl fun a H => ?_
            refine wl_v _ (r_pick_t (H.ev rfl) (H.ev rfl)) ?_; refine kl H rfl fun a H => ?_
            refine wl_v _ (r_assign (H.ev rfl)) ?_; refine kl H rfl fun a H => ?_
            refine wpList_nil ?_
            refine c_next ?_
            refine wp_ret ?_
            refine r_then ?_
            exact k_ret1 H rfl rfl ⟨rfl, hall⟩
        · skip
          refine wp_region_lit ?_
          refine wl_v _ (r_row (cs := [.slice A L.length c, .int .i64 t]) (H.ev rfl) (block_range k0) (by kernel_rfl) s24 rfl) ?_; refine kl H rfl fun a H => ?_
          refine wl_v _ (r_move (H.ev rfl)) ?_; refine kl H rfl fun a H => ?_
          refine wl_call _ _ _ (next_lit _ t _ _ L R M2 M2.length tt m1 m2 true hx.out rfl (Row.up h.out hall) (IRow.up hR.out hall) (by omega) (by omega) ht (mwf_max hw.out)) (r_call2 cf9 (H.ev rfl) (H.ev rfl)) ?_; rintro e w9 ⟨⟨A1, c1, rfl, ho1⟩, hb⟩; refine ⟨_, rfl, ?_⟩; have hWs := hall.size; replace k0 := Block.ups k0 hb; replace hall := hall.trans (hb.mono hall.size); clear hb; replace ho1 := ROwn.base ho1 hWs; clear hWs; refine kl H rfl fun a H => ?_
          refine wl_v _ (r_move (H.ev rfl)) ?_; refine kl H rfl fun a H => ?_
          refine wl_v _ (r_extract (v := .agg #[.slice A1 M2.length c1, .int .i64 tt]) (H.ev rfl) rfl) ?_; refine kl H rfl fun a H => ?_
          refine wl_v _ (r_extract (v := .agg #[.int .i64 m1, .int .i64 m2]) (H.ev rfl) rfl) ?_; refine kl H rfl fun a H => ?_
          refine wl_v _ (r_extract (v := .bool true) (H.ev rfl) rfl) ?_; refine kl H rfl fun a H => ?_
          refine op_alloc 24 #[.slice none 0 0, .int .i64 0] z24 fun w3 b3 hge hb k3 => ?_; have g3 := Nat.le_trans hall.size hge; have d0_3 : b0 < b3 := Nat.lt_of_lt_of_le k0.lt hge; have hq1_3 := own_lt ho1 hge; replace k0 := Block.ups k0 hb; replace ho1 := ROwn.up ho1 hb; replace hall := hall.trans (hb.mono hall.size); clear hb; clear hge; refine kl H rfl fun a H => ?_
          refine op_alloc 29 #[.int .i64 0, .int .i64 0] z29 fun w4 b4 hge hb k4 => ?_; have g4 := Nat.le_trans hall.size hge; have d0_4 : b0 < b4 := Nat.lt_of_lt_of_le k0.lt hge; have d3_4 : b3 < b4 := Nat.lt_of_lt_of_le k3.lt hge; have hq1_4 := own_lt ho1 hge; replace k0 := Block.ups k0 hb; replace ho1 := ROwn.up ho1 hb; replace k3 := Block.ups k3 hb; replace hall := hall.trans (hb.mono hall.size); clear hb; clear hge; refine kl H rfl fun a H => ?_
          refine op_store1 24 (.tmp 6) (.tmp 34) b3 0 24 (.agg #[.slice A1 M2.length c1, .int .i64 tt]) _ (H.ev rfl) (H.ev rfl) k3 s24 (by simp [Value.cells]) (by simp [Value.cells, Value.oneCell']) fun w' hb ho kq => ?_; clear k3; have k3 : Block _ b3 24 #[.slice A1 M2.length c1, .int .i64 tt] := kq; clear kq; replace k0 := block_same k0 (ho _ (by omega)); replace ho1 := ROwn.upD ho1 hq1_3 (hb _ (Nat.le_refl _)); replace k4 := block_same k4 (ho _ (by omega)); replace hall := hall.trans (hb _ g3); clear hb ho; refine kl0 H fun a H => ?_
          refine op_store1 29 (.tmp 7) (.tmp 35) b4 0 29 (.agg #[.int .i64 m1, .int .i64 m2]) _ (H.ev rfl) (H.ev rfl) k4 s29 (by simp [Value.cells]) (ints_one [m1, m2]) fun w' hb ho kq => ?_; clear k4; have k4 : Block _ b4 29 #[.int .i64 m1, .int .i64 m2] := kq; clear kq; replace k0 := block_same k0 (ho _ (by omega)); replace ho1 := ROwn.upD ho1 hq1_4 (hb _ (Nat.le_refl _)); replace k3 := block_same k3 (ho _ (by omega)); replace hall := hall.trans (hb _ g4); clear hb ho; refine kl0 H fun a H => ?_
          refine wl_v _ (r_assign (H.ev rfl)) ?_; refine kl H rfl fun a H => ?_
          refine wpList_nil ?_
          refine c_next ?_
          refine wp_seq ?_
          refine wp_region_lit ?_
          refine wl_v _ (r_assign evc) ?_; refine kl H rfl fun a H => ?_
          refine wpList_nil ?_
          refine c_next ?_
          refine wp_seq ?_
          refine wp_seq ?_
          refine wp_region_lit ?_
          refine wl_v _ (r_assign evc) ?_; refine kl H rfl fun a H => ?_
          refine wpList_nil ?_
          refine c_next ?_
          refine wp_block ?_
          refine wp_loop (Fi1 w b0 b3 b4 t tt m1 m2 A c L A1 c1 M2 Ar cr R true) (fun a _ => R.length - (intOf (a.eval (.tmp 10))).toNat) ⟨0, false, H.pick [1, 2, 5, 6, 7, 8, 9, 10], by omega, by simp, k0, k3, k4, ho1, hall⟩ ?_
          clear H hall k0 k3 k4
          have hq1_x := own_lt ho1 (Nat.le_refl _)
          clear hq1_x ho1
          rintro a w' ⟨k, sb, H, hk, hsb, k0, k3, k4, ho1, hall⟩
          have H0 := H
          by_cases hlt : k < R.length
          · skip
            obtain ⟨br, orr, hAr, hcr⟩ := irow_at hR.out hlt
            subst hAr
            have hxr : R[k]? = some R[k] := List.getElem?_eq_getElem hlt
            have HXR := Lib.hid hxr
            have HCR := Lib.hid hcr
            generalize R[k] = x at *
            clear hxr hcr
            have H := H0
            cases sb
            · skip
              refine wp_seq ?_
              refine wp_seq ?_
              refine wp_region_lit ?_
              refine wl_v _ (r_move (H.ev rfl)) ?_; refine kl H rfl fun a H => ?_
              refine wl_v _ (r_move (H.ev rfl)) ?_; refine kl H rfl fun a H => ?_
              refine wl_v _ (r_len Try.underlying25 (H.ev rfl)) ?_; refine kl H rfl fun a H => ?_
              refine wl_v _ (r_lt Try.underlying3 (H.ev rfl) (H.ev rfl) (dec_t (by omega))) ?_; refine kl H rfl fun a H => ?_
              refine wpList_nil ?_
              refine c_next ?_
              refine c_cond_t H rfl ?_
              refine wp_skip ?_
              refine c_next ?_
              refine wp_seq ?_
              refine wp_block ?_
              have hS : SFs w b4 m1 m2 _ := ⟨hall.drew, k4⟩
              refine region_pi (SFs w b4 m1 m2) [(0, true), (1, true), (2, true), (3, true), (4, true), (5, true), (6, true), (7, true), (8, true), (9, true), (10, true)] (by kernel_rfl) (by kernel_rfl) rfl (by kernel_rfl) hS ?_
              replace k0 : Block (World.drew _) b0 24 _ := k0
              replace k3 : Block (World.drew _) b3 24 _ := k3
              replace ho1 : MOwn (World.drew _) _ _ M2 := ROwn.keep ho1 (fun _ _ => rfl)
              clear hall k4
              refine pi_f0 _ rfl (fun w' hS' => r_move (H.ev rfl)) ?_; refine kp H rfl fun a H => ?_
              refine pi_f0 _ rfl (fun w' hS' => r_move (H.ev rfl)) ?_; refine kp H rfl fun a H => ?_
              refine pi_f1 _ rfl rfl rfl (H.ev rfl) (fun w' hS' => r_move (H.ev rfl)) ?_; refine kp H rfl fun a H => ?_
              refine pi_f1 _ rfl rfl rfl (H.ev rfl) (fun w' hS' => r_move (H.ev rfl)) ?_; refine kp H rfl fun a H => ?_
              refine pi_f1 _ rfl rfl rfl (H.ev rfl) (fun w' hS' => r_idx (j := k) (q := orr + k) Try.underlying25 s3 (H.ev rfl) (H.ev rfl) (by omega) (by omega)) ?_; refine kp H rfl fun a H => ?_
              refine pi_f1 _ rfl rfl rfl (H.ev rfl) (fun w' hS' => r_ld Try.underlying3 rfl (H.ev rfl) (cell_ups HCR.out hS'.1)) ?_; refine kp H rfl fun a H => ?_
              refine pi_f1 _ rfl rfl rfl (H.ev rfl) (fun w' hS' => r_fld (q := 0) fld29_0 (H.ev rfl) rfl) ?_; refine kp H rfl fun a H => ?_
              refine pi_f1 _ rfl rfl rfl (H.ev rfl) (fun w' hS' => r_ld Try.underlying3 rfl (H.ev rfl) ((Block.cell (hS'.2) 0).trans rfl)) ?_; refine kp H rfl fun a H => ?_
              by_cases hcc5 : x = m1
              · skip
                refine pi_f1 _ rfl rfl rfl (H.ev rfl) (fun w' hS' => r_eq Try.underlying3 (H.ev rfl) (H.ev rfl) (dec_t (hcc5))) ?_; refine kp H rfl fun a H => ?_
                refine pi_f0 _ rfl (fun w' hS' => r_pick_f (H.ev rfl) (H.ev rfl)) ?_; refine kp H rfl fun a H => ?_
                refine pi_f0 _ rfl (fun w' hS' => r_assign (H.ev rfl)) ?_; refine kp H rfl fun a H => ?_
                refine pi_nil (NoPanic.normal ?_)
                have hall := hS.1
                have k4 := hS.2
                clear hS
                refine n_block ?_
                refine c_next ?_
                refine wp_region_lit ?_
                refine wl_v _ (r_move (H.ev rfl)) ?_; refine kl H rfl fun a H => ?_
                refine wl_v _ (r_add (q := ((k + 1 : Nat) : Int)) Try.underlying3 (H.ev rfl) evc (by omega) (by omega)) ?_; refine kl H rfl fun a H => ?_
                refine wl_v _ (r_assign (H.ev rfl)) ?_; refine kl H rfl fun a H => ?_
                refine wpList_nil ?_
                refine n_then ⟨⟨k + 1, _, H.pick [1, 2, 5, 6, 7, 8, 9, 10], by omega, in_here HXR.out (by omega), k0, k3, k4, ho1, hall⟩, ?_⟩
                rw [H.ev (j := 10) rfl, H0.ev (j := 10) rfl]
                simp only [intOf]
                omega
              · skip
                refine pi_f1 _ rfl rfl rfl (H.ev rfl) (fun w' hS' => r_eq Try.underlying3 (H.ev rfl) (H.ev rfl) (dec_f (hcc5))) ?_; refine kp H rfl fun a H => ?_
                refine pi_f0 _ rfl (fun w' hS' => r_pick_f (H.ev rfl) (H.ev rfl)) ?_; refine kp H rfl fun a H => ?_
                refine pi_f0 _ rfl (fun w' hS' => r_assign (H.ev rfl)) ?_; refine kp H rfl fun a H => ?_
                refine pi_nil (NoPanic.normal ?_)
                have hall := hS.1
                have k4 := hS.2
                clear hS
                refine n_block ?_
                refine c_next ?_
                refine wp_region_lit ?_
                refine wl_v _ (r_move (H.ev rfl)) ?_; refine kl H rfl fun a H => ?_
                refine wl_v _ (r_add (q := ((k + 1 : Nat) : Int)) Try.underlying3 (H.ev rfl) evc (by omega) (by omega)) ?_; refine kl H rfl fun a H => ?_
                refine wl_v _ (r_assign (H.ev rfl)) ?_; refine kl H rfl fun a H => ?_
                refine wpList_nil ?_
                refine n_then ⟨⟨k + 1, _, H.pick [1, 2, 5, 6, 7, 8, 9, 10], by omega, in_not hsb HXR.out (by omega), k0, k3, k4, ho1, hall⟩, ?_⟩
                rw [H.ev (j := 10) rfl, H0.ev (j := 10) rfl]
                simp only [intOf]
                omega
            · skip
              refine wp_seq ?_
              refine wp_seq ?_
              refine wp_region_lit ?_
              refine wl_v _ (r_move (H.ev rfl)) ?_; refine kl H rfl fun a H => ?_
              refine wl_v _ (r_move (H.ev rfl)) ?_; refine kl H rfl fun a H => ?_
              refine wl_v _ (r_len Try.underlying25 (H.ev rfl)) ?_; refine kl H rfl fun a H => ?_
              refine wl_v _ (r_lt Try.underlying3 (H.ev rfl) (H.ev rfl) (dec_t (by omega))) ?_; refine kl H rfl fun a H => ?_
              refine wpList_nil ?_
              refine c_next ?_
              refine c_cond_t H rfl ?_
              refine wp_skip ?_
              refine c_next ?_
              refine wp_seq ?_
              refine wp_block ?_
              have hS : SFs w b4 m1 m2 _ := ⟨hall.drew, k4⟩
              refine region_pi (SFs w b4 m1 m2) [(0, true), (1, true), (2, true), (3, true), (4, true), (5, true), (6, true), (7, true), (8, true), (9, true), (10, true)] (by kernel_rfl) (by kernel_rfl) rfl (by kernel_rfl) hS ?_
              replace k0 : Block (World.drew _) b0 24 _ := k0
              replace k3 : Block (World.drew _) b3 24 _ := k3
              replace ho1 : MOwn (World.drew _) _ _ M2 := ROwn.keep ho1 (fun _ _ => rfl)
              clear hall k4
              refine pi_f0 _ rfl (fun w' hS' => r_move (H.ev rfl)) ?_; refine kp H rfl fun a H => ?_
              refine pi_f0 _ rfl (fun w' hS' => r_move (H.ev rfl)) ?_; refine kp H rfl fun a H => ?_
              refine pi_s1 rfl rfl rfl (H.ev rfl) ?_; refine kp H rfl fun a H => ?_
              refine pi_s1 rfl rfl rfl (H.ev rfl) ?_; refine kp H rfl fun a H => ?_
              refine pi_s1 rfl rfl rfl (H.ev rfl) ?_; refine kp H rfl fun a H => ?_
              refine pi_s1 rfl rfl rfl (H.ev rfl) ?_; refine kp H rfl fun a H => ?_
              refine pi_s1 rfl rfl rfl (H.ev rfl) ?_; refine kp H rfl fun a H => ?_
              refine pi_s1 rfl rfl rfl (H.ev rfl) ?_; refine kp H rfl fun a H => ?_
              refine pi_s1 rfl rfl rfl (H.ev rfl) ?_; refine kp H rfl fun a H => ?_
              refine pi_f0 _ rfl (fun w' hS' => r_pick_t (H.ev rfl) evc) ?_; refine kp H rfl fun a H => ?_
              refine pi_f0 _ rfl (fun w' hS' => r_assign (H.ev rfl)) ?_; refine kp H rfl fun a H => ?_
              refine pi_nil (NoPanic.normal ?_)
              have hall := hS.1
              have k4 := hS.2
              clear hS
              refine n_block ?_
              refine c_next ?_
              refine wp_region_lit ?_
              refine wl_v _ (r_move (H.ev rfl)) ?_; refine kl H rfl fun a H => ?_
              refine wl_v _ (r_add (q := ((k + 1 : Nat) : Int)) Try.underlying3 (H.ev rfl) evc (by omega) (by omega)) ?_; refine kl H rfl fun a H => ?_
              refine wl_v _ (r_assign (H.ev rfl)) ?_; refine kl H rfl fun a H => ?_
              refine wpList_nil ?_
              refine n_then ⟨⟨k + 1, _, H.pick [1, 2, 5, 6, 7, 8, 9, 10], by omega, in_true hsb HXR.out, k0, k3, k4, ho1, hall⟩, ?_⟩
              rw [H.ev (j := 10) rfl, H0.ev (j := 10) rfl]
              simp only [intOf]
              omega
          · skip
            obtain rfl : k = R.length := by omega
            rw [List.take_length] at hsb
            refine wp_seq ?_
            refine wp_seq ?_
            refine wp_region_lit ?_
            refine wl_v _ (r_move (H.ev rfl)) ?_; refine kl H rfl fun a H => ?_
            refine wl_v _ (r_move (H.ev rfl)) ?_; refine kl H rfl fun a H => ?_
            refine wl_v _ (r_len Try.underlying25 (H.ev rfl)) ?_; refine kl H rfl fun a H => ?_
            refine wl_v _ (r_lt Try.underlying3 (H.ev rfl) (H.ev rfl) (dec_f (by omega))) ?_; refine kl H rfl fun a H => ?_
            refine wpList_nil ?_
            refine c_next ?_
            refine c_cond_f H rfl ?_
            refine wp_exit ?_
            refine e_then ?_
            refine e_then ?_
            refine e_here ?_
            refine c_next ?_
            refine wp_seq ?_
            refine wp_seq ?_
            obtain ⟨j, hj, hM2, htt, hmR, hfst, _⟩ : ∃ j : Nat, L[j]? = some (m1, m2) ∧ M2 = L.eraseIdx j ∧ tt = m1 ∧ m1 ∈ R ∧ (∀ (i : Nat) (y : Mk), i < j → L[i]? = some y → ¬ y.1 = m1) ∧ IsTurn (idsF L R) t m1 := by rcases hfc.out with ⟨e, _⟩ | ⟨_, e⟩; cases e; exact e
            obtain rfl : sb = true := hsb.2 hmR
            have hjL := (List.getElem?_eq_some_iff.1 hj).1
            replace hj := Lib.hid hj
            replace hM2 := Lib.hid hM2
            replace hfst := Lib.hid hfst
            clear hsb hmR
            refine wp_region_lit ?_
            refine wl_v _ (r_move (H.ev rfl)) ?_; refine kl H rfl fun a H => ?_
            refine wl_v _ (r_not (H.ev rfl) rfl) ?_; refine kl H rfl fun a H => ?_
            refine wpList_nil ?_
            refine c_next ?_
            refine c_cond_f H rfl ?_
            refine wp_skip ?_
            refine c_next ?_
            refine wp_seq ?_
            refine wp_region_lit ?_
            refine wl_v _ (r_assign evc) ?_; refine kl H rfl fun a H => ?_
            refine wpList_nil ?_
            refine c_next ?_
            refine wp_seq ?_
            refine wp_region_lit ?_
            refine wl_v _ (r_assign evc) ?_; refine kl H rfl fun a H => ?_
            refine wpList_nil ?_
            refine c_next ?_
            refine wp_seq ?_
            refine wp_seq ?_
            refine wp_region_lit ?_
            refine wl_v _ (r_assign evc) ?_; refine kl H rfl fun a H => ?_
            refine wpList_nil ?_
            refine c_next ?_
            refine wp_block ?_
            obtain ⟨D, hDe, hDs⟩ := mark_at k0
            have hD0 := k0.lt
            have hDg := k3.lt
            have hDm := k4.lt
            have hDW := hall.size
            have hqD : ∀ q, Value.ownBlock (.slice A1 M2.length c1) = some q → q < D := fun q hq => by rw [hDe]; exact (ho1.lt hq).2
            rw [← hDe] at hD0 hDg hDm hDW
            clear hDe
            refine wp_loop (Fi2 w D b0 b3 b4 t tt m1 m2 A c L A1 c1 M2 j) (fun a _ => L.length - (intOf (a.eval (.tmp 13))).toNat) ⟨0, [], none, 0, false, H.pick [2, 5, 6, 7, 9, 11, 12, 13], by omega, .inl ⟨rfl, by omega, rfl⟩, ROwn.nil, k0, k3, k4, ho1, hDs, hall⟩ ?_
            clear H hall k0 k3 k4 ho1 hDs
            rintro a w' ⟨k, Wl, A5, c5, gb, H, hk, hG, hown, k0, k3, k4, ho1, hDs, hall⟩
            have H0 := H
            have hWlen : Wl.length ≤ L.length := want_len hjL hk hG
            by_cases hlt : k < L.length
            · skip
              obtain ⟨b, o, hA, hr⟩ := mrow_at h.out hlt
              subst hA
              have hy : L[k]? = some L[k] := List.getElem?_eq_getElem hlt
              have HY := Lib.hid hy
              have HRG := Lib.hid hr
              generalize L[k] = y at *
              clear hy hr
              have H := H0
              rcases hG with ⟨rfl, hkj, hWl⟩ | ⟨rfl, hkj, hWl⟩
              · skip
                have HWL := Lib.hid hWl
                clear hWl
                by_cases hkk : k < j
                · skip
                  have hne := hfst.out k y hkk HY.out
                  refine wp_seq ?_
                  refine wp_seq ?_
                  refine wp_region_lit ?_
                  refine wl_v _ (r_move (H.ev rfl)) ?_; refine kl H rfl fun a H => ?_
                  refine wl_v _ (r_fld (q := 0) fld24_0 (H.ev rfl) rfl) ?_; refine kl H rfl fun a H => ?_
                  refine wl_v _ (r_ld Try.underlying22 rfl (H.ev rfl) ((Block.cell k0 0).trans rfl)) ?_; refine kl H rfl fun a H => ?_
                  refine wl_v _ (r_len Try.underlying22 (H.ev rfl)) ?_; refine kl H rfl fun a H => ?_
                  refine wl_v _ (r_lt Try.underlying3 (H.ev rfl) (H.ev rfl) (dec_t (by omega))) ?_; refine kl H rfl fun a H => ?_
                  refine wpList_nil ?_
                  refine c_next ?_
                  refine c_cond_t H rfl ?_
                  refine wp_skip ?_
                  refine c_next ?_
                  refine wp_seq ?_
                  refine wp_block ?_
                  refine wp_seq ?_
                  have hS : SFt w b0 b4 (.slice (some ⟨b, o, none⟩) L.length c) t m1 m2 _ := ⟨hall.drew, k0, k4⟩
                  refine region_pi (SFt w b0 b4 (.slice (some ⟨b, o, none⟩) L.length c) t m1 m2) [(0, true), (1, true), (2, true), (3, true), (4, true), (5, true), (6, true), (7, true), (8, true), (9, true), (10, true), (11, true), (12, true)] (by kernel_rfl) (by kernel_rfl) rfl (by kernel_rfl) hS ?_
                  replace k3 : Block (World.drew _) b3 24 _ := k3
                  replace ho1 : MOwn (World.drew _) _ _ M2 := ROwn.keep ho1 (fun _ _ => rfl)
                  replace hown : MOwn (World.drew _) D _ Wl := ROwn.keep hown (fun _ _ => rfl)
                  replace hDs : D ≤ (World.drew _).heap.size := hDs
                  clear hall k0 k4
                  refine pi_f0 _ rfl (fun w' hS' => r_move (H.ev rfl)) ?_; refine kp H rfl fun a H => ?_
                  refine pi_f0 _ rfl (fun w' hS' => r_not (H.ev rfl) rfl) ?_; refine kp H rfl fun a H => ?_
                  refine pi_f0 _ rfl (fun w' hS' => r_move (H.ev rfl)) ?_; refine kp H rfl fun a H => ?_
                  refine pi_f1 _ rfl rfl rfl (H.ev rfl) (fun w' hS' => r_fld (q := 0) fld24_0 (H.ev rfl) rfl) ?_; refine kp H rfl fun a H => ?_
                  refine pi_f1 _ rfl rfl rfl (H.ev rfl) (fun w' hS' => r_ld Try.underlying22 rfl (H.ev rfl) ((Block.cell (hS'.2.1) 0).trans rfl)) ?_; refine kp H rfl fun a H => ?_
                  refine pi_f1 _ rfl rfl rfl (H.ev rfl) (fun w' hS' => r_move (H.ev rfl)) ?_; refine kp H rfl fun a H => ?_
                  refine pi_f1 _ rfl rfl rfl (H.ev rfl) (fun w' hS' => r_idx (j := k) (q := o + k * 2) Try.underlying22 s29 (H.ev rfl) (H.ev rfl) (by omega) rfl) ?_; refine kp H rfl fun a H => ?_
                  refine pi_f1 _ rfl rfl rfl (H.ev rfl) (fun w' hS' => r_fld (q := o + k * 2) fld29_0 (H.ev rfl) rfl) ?_; refine kp H rfl fun a H => ?_
                  refine pi_f1 _ rfl rfl rfl (H.ev rfl) (fun w' hS' => r_ld Try.underlying3 rfl (H.ev rfl) (range_cell (range_ups HRG.out hS'.1) 0 rfl)) ?_; refine kp H rfl fun a H => ?_
                  refine pi_f1 _ rfl rfl rfl (H.ev rfl) (fun w' hS' => r_fld (q := 0) fld29_0 (H.ev rfl) rfl) ?_; refine kp H rfl fun a H => ?_
                  refine pi_f1 _ rfl rfl rfl (H.ev rfl) (fun w' hS' => r_ld Try.underlying3 rfl (H.ev rfl) ((Block.cell (hS'.2.2) 0).trans rfl)) ?_; refine kp H rfl fun a H => ?_
                  refine pi_f1 _ rfl rfl rfl (H.ev rfl) (fun w' hS' => r_eq Try.underlying3 (H.ev rfl) (H.ev rfl) (dec_f (by omega))) ?_; refine kp H rfl fun a H => ?_
                  refine pi_f0 _ rfl (fun w' hS' => r_pick_t (H.ev rfl) (H.ev rfl)) ?_; refine kp H rfl fun a H => ?_
                  refine pi_nil (NoPanic.normal ?_)
                  have hall := hS.1
                  have k0 := hS.2.1
                  have k4 := hS.2.2
                  clear hS
                  refine c_next ?_
                  refine c_cond_f H rfl ?_
                  refine wp_region_lit ?_
                  refine wl_v _ (r_move (H.ev rfl)) ?_; refine kl H rfl fun a H => ?_
                  refine wl_v _ (r_fld (q := 0) fld24_0 (H.ev rfl) rfl) ?_; refine kl H rfl fun a H => ?_
                  refine wl_v _ (r_ld Try.underlying22 rfl (H.ev rfl) ((Block.cell k0 0).trans rfl)) ?_; refine kl H rfl fun a H => ?_
                  refine wl_v _ (r_move (H.ev rfl)) ?_; refine kl H rfl fun a H => ?_
                  refine wl_v _ (r_idx (j := k) (q := o + k * 2) Try.underlying22 s29 (H.ev rfl) (H.ev rfl) (by omega) rfl) ?_; refine kl H rfl fun a H => ?_
                  refine wl_v _ (r_row (cs := [.int .i64 y.1, .int .i64 y.2]) (H.ev rfl) (range_ups HRG.out hall) (by kernel_rfl) s29 rfl) ?_; refine kl H rfl fun a H => ?_
                  refine op_litv 22 1 #[(0, .agg #[.int .i64 y.1, .int .i64 y.2])] 29 #[.int .i64 y.1, .int .i64 y.2] (by simp [evc, H.ev (j := 98) rfl]) (fun w => by kernel_rfl) fun w5 b5 hge hb k5 => ?_; have g5 := Nat.le_trans hall.size hge; have d0_5 : b0 < b5 := Nat.lt_of_lt_of_le k0.lt hge; have d3_5 : b3 < b5 := Nat.lt_of_lt_of_le k3.lt hge; have d4_5 : b4 < b5 := Nat.lt_of_lt_of_le k4.lt hge; have hq1_5 := own_lt ho1 hge; replace k0 := Block.ups k0 hb; replace k3 := Block.ups k3 hb; replace k4 := Block.ups k4 hb; replace ho1 := ROwn.up ho1 hb; replace hown := ROwn.up hown hb; replace hDs := le_up hDs hb; replace hall := hall.trans (hb.mono hall.size); clear hb; clear hge; refine kl H rfl fun a H => ?_
                  refine op_append 22 29 (.tmp 93) (.tmp 99) D (.agg #[.int .i64 0, .int .i64 0]) 2 16 _ _ _ (some ⟨b5, 0, none⟩) 1 1 (FV encM [y]) (H.ev rfl) (H.ev rfl) Try.underlying22 i29 rfl (by omega) hown (by rw [FV_len encM_len]; rfl) (holds_block k5 rfl) (FV_one _ _) (by unfold maxLen; omega) (by omega) hDs fun o2 w9 hown2 hg9 hv9 hb2 => ?_; have hown3 : MOwn w9 D o2 (Wl ++ [y]) := app_own hown2; replace k0 := Block.up k0 hb2 hD0; replace k3 := Block.up k3 hb2 hDg; replace k4 := Block.up k4 hb2 hDm; replace ho1 := ROwn.upD ho1 hqD hb2; replace hall := hall.trans (hb2.mono hDW); replace hDs := le_up hDs hb2; clear hown hown2 hg9 hv9 hb2 k5; have hown := hown3; clear hown3; obtain ⟨A7, c7, hov, _⟩ := MOwn.row hown; subst hov; refine kl H rfl fun a H => ?_
                  refine wl_v _ (r_assign (H.ev rfl)) ?_; refine kl H rfl fun a H => ?_
                  refine wpList_nil ?_
                  refine n_block ?_
                  refine c_next ?_
                  refine wp_region_lit ?_
                  refine wl_v _ (r_move (H.ev rfl)) ?_; refine kl H rfl fun a H => ?_
                  refine wl_v _ (r_add (q := ((k + 1 : Nat) : Int)) Try.underlying3 (H.ev rfl) evc (by omega) (by omega)) ?_; refine kl H rfl fun a H => ?_
                  refine wl_v _ (r_assign (H.ev rfl)) ?_; refine kl H rfl fun a H => ?_
                  refine wpList_nil ?_
                  refine n_then ⟨⟨k + 1, Wl ++ [y], _, _, false, H.pick [2, 5, 6, 7, 9, 11, 12, 13], by omega, want_lt HWL.out HY.out hkk, hown, k0, k3, k4, ho1, hDs, hall⟩, ?_⟩
                  rw [H.ev (j := 13) rfl, H0.ev (j := 13) rfl]
                  simp only [intOf]
                  omega
                · skip
                  obtain rfl : k = j := by omega
                  have hyy : y = (m1, m2) := by have e := hj.out; rw [HY.out] at e; injection e
                  have hy1 : y.1 = m1 := by rw [hyy]
                  replace hyy := Lib.hid hyy
                  refine wp_seq ?_
                  refine wp_seq ?_
                  refine wp_region_lit ?_
                  refine wl_v _ (r_move (H.ev rfl)) ?_; refine kl H rfl fun a H => ?_
                  refine wl_v _ (r_fld (q := 0) fld24_0 (H.ev rfl) rfl) ?_; refine kl H rfl fun a H => ?_
                  refine wl_v _ (r_ld Try.underlying22 rfl (H.ev rfl) ((Block.cell k0 0).trans rfl)) ?_; refine kl H rfl fun a H => ?_
                  refine wl_v _ (r_len Try.underlying22 (H.ev rfl)) ?_; refine kl H rfl fun a H => ?_
                  refine wl_v _ (r_lt Try.underlying3 (H.ev rfl) (H.ev rfl) (dec_t (by omega))) ?_; refine kl H rfl fun a H => ?_
                  refine wpList_nil ?_
                  refine c_next ?_
                  refine c_cond_t H rfl ?_
                  refine wp_skip ?_
                  refine c_next ?_
                  refine wp_seq ?_
                  refine wp_block ?_
                  refine wp_seq ?_
                  have hS : SFt w b0 b4 (.slice (some ⟨b, o, none⟩) L.length c) t m1 m2 _ := ⟨hall.drew, k0, k4⟩
                  refine region_pi (SFt w b0 b4 (.slice (some ⟨b, o, none⟩) L.length c) t m1 m2) [(0, true), (1, true), (2, true), (3, true), (4, true), (5, true), (6, true), (7, true), (8, true), (9, true), (10, true), (11, true), (12, true)] (by kernel_rfl) (by kernel_rfl) rfl (by kernel_rfl) hS ?_
                  replace k3 : Block (World.drew _) b3 24 _ := k3
                  replace ho1 : MOwn (World.drew _) _ _ M2 := ROwn.keep ho1 (fun _ _ => rfl)
                  replace hown : MOwn (World.drew _) D _ Wl := ROwn.keep hown (fun _ _ => rfl)
                  replace hDs : D ≤ (World.drew _).heap.size := hDs
                  clear hall k0 k4
                  refine pi_f0 _ rfl (fun w' hS' => r_move (H.ev rfl)) ?_; refine kp H rfl fun a H => ?_
                  refine pi_f0 _ rfl (fun w' hS' => r_not (H.ev rfl) rfl) ?_; refine kp H rfl fun a H => ?_
                  refine pi_f0 _ rfl (fun w' hS' => r_move (H.ev rfl)) ?_; refine kp H rfl fun a H => ?_
                  refine pi_f1 _ rfl rfl rfl (H.ev rfl) (fun w' hS' => r_fld (q := 0) fld24_0 (H.ev rfl) rfl) ?_; refine kp H rfl fun a H => ?_
                  refine pi_f1 _ rfl rfl rfl (H.ev rfl) (fun w' hS' => r_ld Try.underlying22 rfl (H.ev rfl) ((Block.cell (hS'.2.1) 0).trans rfl)) ?_; refine kp H rfl fun a H => ?_
                  refine pi_f1 _ rfl rfl rfl (H.ev rfl) (fun w' hS' => r_move (H.ev rfl)) ?_; refine kp H rfl fun a H => ?_
                  refine pi_f1 _ rfl rfl rfl (H.ev rfl) (fun w' hS' => r_idx (j := k) (q := o + k * 2) Try.underlying22 s29 (H.ev rfl) (H.ev rfl) (by omega) rfl) ?_; refine kp H rfl fun a H => ?_
                  refine pi_f1 _ rfl rfl rfl (H.ev rfl) (fun w' hS' => r_fld (q := o + k * 2) fld29_0 (H.ev rfl) rfl) ?_; refine kp H rfl fun a H => ?_
                  refine pi_f1 _ rfl rfl rfl (H.ev rfl) (fun w' hS' => r_ld Try.underlying3 rfl (H.ev rfl) (range_cell (range_ups HRG.out hS'.1) 0 rfl)) ?_; refine kp H rfl fun a H => ?_
                  refine pi_f1 _ rfl rfl rfl (H.ev rfl) (fun w' hS' => r_fld (q := 0) fld29_0 (H.ev rfl) rfl) ?_; refine kp H rfl fun a H => ?_
                  refine pi_f1 _ rfl rfl rfl (H.ev rfl) (fun w' hS' => r_ld Try.underlying3 rfl (H.ev rfl) ((Block.cell (hS'.2.2) 0).trans rfl)) ?_; refine kp H rfl fun a H => ?_
                  refine pi_f1 _ rfl rfl rfl (H.ev rfl) (fun w' hS' => r_eq Try.underlying3 (H.ev rfl) (H.ev rfl) (dec_t (by omega))) ?_; refine kp H rfl fun a H => ?_
                  refine pi_f0 _ rfl (fun w' hS' => r_pick_t (H.ev rfl) (H.ev rfl)) ?_; refine kp H rfl fun a H => ?_
                  refine pi_nil (NoPanic.normal ?_)
                  have hall := hS.1
                  have k0 := hS.2.1
                  have k4 := hS.2.2
                  clear hS
                  refine c_next ?_
                  refine c_cond_t H rfl ?_
                  refine wp_seq ?_
                  refine wp_region_lit ?_
                  refine wl_v _ (r_assign evc) ?_; refine kl H rfl fun a H => ?_
                  refine wpList_nil ?_
                  refine c_next ?_
                  refine wp_seq ?_
                  have hS : SFt w b0 b4 (.slice (some ⟨b, o, none⟩) L.length c) t m1 m2 _ := ⟨hall.drew, k0, k4⟩
                  refine region_pi (SFt w b0 b4 (.slice (some ⟨b, o, none⟩) L.length c) t m1 m2) [(0, true), (1, true), (2, true), (3, true), (4, true), (5, true), (6, true)] (by kernel_rfl) (by kernel_rfl) rfl (by kernel_rfl) hS ?_
                  replace k3 : Block (World.drew _) b3 24 _ := k3
                  replace ho1 : MOwn (World.drew _) _ _ M2 := ROwn.keep ho1 (fun _ _ => rfl)
                  replace hown : MOwn (World.drew _) D _ Wl := ROwn.keep hown (fun _ _ => rfl)
                  replace hDs : D ≤ (World.drew _).heap.size := hDs
                  clear hall k0 k4
                  refine pi_f0 _ rfl (fun w' hS' => r_fld (q := 0) fld24_0 (H.ev rfl) rfl) ?_; refine kp H rfl fun a H => ?_
                  refine pi_f0 _ rfl (fun w' hS' => r_ld Try.underlying22 rfl (H.ev rfl) ((Block.cell (hS'.2.1) 0).trans rfl)) ?_; refine kp H rfl fun a H => ?_
                  refine pi_f0 _ rfl (fun w' hS' => r_move (H.ev rfl)) ?_; refine kp H rfl fun a H => ?_
                  refine pi_f0 _ rfl (fun w' hS' => r_idx (j := k) (q := o + k * 2) Try.underlying22 s29 (H.ev rfl) (H.ev rfl) (by omega) rfl) ?_; refine kp H rfl fun a H => ?_
                  refine pi_f0 _ rfl (fun w' hS' => r_row (cs := [.int .i64 y.1, .int .i64 y.2]) (H.ev rfl) (range_ups HRG.out hS'.1) (by kernel_rfl) s29 rfl) ?_; refine kp H rfl fun a H => ?_
                  refine pi_f0 _ rfl (fun w' hS' => r_row (cs := [.int .i64 m1, .int .i64 m2]) (H.ev rfl) (block_range (hS'.2.2)) (by kernel_rfl) s29 rfl) ?_; refine kp H rfl fun a H => ?_
                  refine pi_f0 (.bool false) rfl (fun w' hS' => r_ne29 (x := y) (y := (m1, m2)) (H.ev rfl) (H.ev rfl) (dec_f (not_not_intro hyy.out))) ?_; refine kp H rfl fun a H => ?_
                  refine pi_nil (NoPanic.normal ?_)
                  have hall := hS.1
                  have k0 := hS.2.1
                  have k4 := hS.2.2
                  clear hS
                  refine c_next ?_
                  refine c_cond_f H rfl ?_
                  refine wp_skip ?_
                  refine n_block ?_
                  refine c_next ?_
                  refine wp_region_lit ?_
                  refine wl_v _ (r_move (H.ev rfl)) ?_; refine kl H rfl fun a H => ?_
                  refine wl_v _ (r_add (q := ((k + 1 : Nat) : Int)) Try.underlying3 (H.ev rfl) evc (by omega) (by omega)) ?_; refine kl H rfl fun a H => ?_
                  refine wl_v _ (r_assign (H.ev rfl)) ?_; refine kl H rfl fun a H => ?_
                  refine wpList_nil ?_
                  refine n_then ⟨⟨k + 1, Wl, _, _, true, H.pick [2, 5, 6, 7, 9, 11, 12, 13], by omega, want_eq HWL.out hlt, hown, k0, k3, k4, ho1, hDs, hall⟩, ?_⟩
                  rw [H.ev (j := 13) rfl, H0.ev (j := 13) rfl]
                  simp only [intOf]
                  omega
              · skip
                have HWL := Lib.hid hWl
                clear hWl
                refine wp_seq ?_
                refine wp_seq ?_
                refine wp_region_lit ?_
                refine wl_v _ (r_move (H.ev rfl)) ?_; refine kl H rfl fun a H => ?_
                refine wl_v _ (r_fld (q := 0) fld24_0 (H.ev rfl) rfl) ?_; refine kl H rfl fun a H => ?_
                refine wl_v _ (r_ld Try.underlying22 rfl (H.ev rfl) ((Block.cell k0 0).trans rfl)) ?_; refine kl H rfl fun a H => ?_
                refine wl_v _ (r_len Try.underlying22 (H.ev rfl)) ?_; refine kl H rfl fun a H => ?_
                refine wl_v _ (r_lt Try.underlying3 (H.ev rfl) (H.ev rfl) (dec_t (by omega))) ?_; refine kl H rfl fun a H => ?_
                refine wpList_nil ?_
                refine c_next ?_
                refine c_cond_t H rfl ?_
                refine wp_skip ?_
                refine c_next ?_
                refine wp_seq ?_
                refine wp_block ?_
                refine wp_seq ?_
                have hS : SFt w b0 b4 (.slice (some ⟨b, o, none⟩) L.length c) t m1 m2 _ := ⟨hall.drew, k0, k4⟩
                refine region_pi (SFt w b0 b4 (.slice (some ⟨b, o, none⟩) L.length c) t m1 m2) [(0, true), (1, true), (2, true), (3, true), (4, true), (5, true), (6, true), (7, true), (8, true), (9, true), (10, true), (11, true), (12, true)] (by kernel_rfl) (by kernel_rfl) rfl (by kernel_rfl) hS ?_
                replace k3 : Block (World.drew _) b3 24 _ := k3
                replace ho1 : MOwn (World.drew _) _ _ M2 := ROwn.keep ho1 (fun _ _ => rfl)
                replace hown : MOwn (World.drew _) D _ Wl := ROwn.keep hown (fun _ _ => rfl)
                replace hDs : D ≤ (World.drew _).heap.size := hDs
                clear hall k0 k4
                refine pi_f0 _ rfl (fun w' hS' => r_move (H.ev rfl)) ?_; refine kp H rfl fun a H => ?_
                refine pi_f0 _ rfl (fun w' hS' => r_not (H.ev rfl) rfl) ?_; refine kp H rfl fun a H => ?_
                refine pi_f0 _ rfl (fun w' hS' => r_move (H.ev rfl)) ?_; refine kp H rfl fun a H => ?_
                refine pi_s1 rfl rfl rfl (H.ev rfl) ?_; refine kp H rfl fun a H => ?_
                refine pi_s1 rfl rfl rfl (H.ev rfl) ?_; refine kp H rfl fun a H => ?_
                refine pi_s1 rfl rfl rfl (H.ev rfl) ?_; refine kp H rfl fun a H => ?_
                refine pi_s1 rfl rfl rfl (H.ev rfl) ?_; refine kp H rfl fun a H => ?_
                refine pi_s1 rfl rfl rfl (H.ev rfl) ?_; refine kp H rfl fun a H => ?_
                refine pi_s1 rfl rfl rfl (H.ev rfl) ?_; refine kp H rfl fun a H => ?_
                refine pi_s1 rfl rfl rfl (H.ev rfl) ?_; refine kp H rfl fun a H => ?_
                refine pi_s1 rfl rfl rfl (H.ev rfl) ?_; refine kp H rfl fun a H => ?_
                refine pi_s1 rfl rfl rfl (H.ev rfl) ?_; refine kp H rfl fun a H => ?_
                refine pi_f0 _ rfl (fun w' hS' => r_pick_f (H.ev rfl) evc) ?_; refine kp H rfl fun a H => ?_
                refine pi_nil (NoPanic.normal ?_)
                have hall := hS.1
                have k0 := hS.2.1
                have k4 := hS.2.2
                clear hS
                refine c_next ?_
                refine c_cond_f H rfl ?_
                refine wp_region_lit ?_
                refine wl_v _ (r_move (H.ev rfl)) ?_; refine kl H rfl fun a H => ?_
                refine wl_v _ (r_fld (q := 0) fld24_0 (H.ev rfl) rfl) ?_; refine kl H rfl fun a H => ?_
                refine wl_v _ (r_ld Try.underlying22 rfl (H.ev rfl) ((Block.cell k0 0).trans rfl)) ?_; refine kl H rfl fun a H => ?_
                refine wl_v _ (r_move (H.ev rfl)) ?_; refine kl H rfl fun a H => ?_
                refine wl_v _ (r_idx (j := k) (q := o + k * 2) Try.underlying22 s29 (H.ev rfl) (H.ev rfl) (by omega) rfl) ?_; refine kl H rfl fun a H => ?_
                refine wl_v _ (r_row (cs := [.int .i64 y.1, .int .i64 y.2]) (H.ev rfl) (range_ups HRG.out hall) (by kernel_rfl) s29 rfl) ?_; refine kl H rfl fun a H => ?_
                refine op_litv 22 1 #[(0, .agg #[.int .i64 y.1, .int .i64 y.2])] 29 #[.int .i64 y.1, .int .i64 y.2] (by simp [evc, H.ev (j := 98) rfl]) (fun w => by kernel_rfl) fun w6 b6 hge hb k6 => ?_; have g6 := Nat.le_trans hall.size hge; have d0_6 : b0 < b6 := Nat.lt_of_lt_of_le k0.lt hge; have d3_6 : b3 < b6 := Nat.lt_of_lt_of_le k3.lt hge; have d4_6 : b4 < b6 := Nat.lt_of_lt_of_le k4.lt hge; have hq1_6 := own_lt ho1 hge; replace k0 := Block.ups k0 hb; replace k3 := Block.ups k3 hb; replace k4 := Block.ups k4 hb; replace ho1 := ROwn.up ho1 hb; replace hown := ROwn.up hown hb; replace hDs := le_up hDs hb; replace hall := hall.trans (hb.mono hall.size); clear hb; clear hge; refine kl H rfl fun a H => ?_
                refine op_append 22 29 (.tmp 93) (.tmp 99) D (.agg #[.int .i64 0, .int .i64 0]) 2 16 _ _ _ (some ⟨b6, 0, none⟩) 1 1 (FV encM [y]) (H.ev rfl) (H.ev rfl) Try.underlying22 i29 rfl (by omega) hown (by rw [FV_len encM_len]; rfl) (holds_block k6 rfl) (FV_one _ _) (by unfold maxLen; omega) (by omega) hDs fun o2 w9 hown2 hg9 hv9 hb2 => ?_; have hown3 : MOwn w9 D o2 (Wl ++ [y]) := app_own hown2; replace k0 := Block.up k0 hb2 hD0; replace k3 := Block.up k3 hb2 hDg; replace k4 := Block.up k4 hb2 hDm; replace ho1 := ROwn.upD ho1 hqD hb2; replace hall := hall.trans (hb2.mono hDW); replace hDs := le_up hDs hb2; clear hown hown2 hg9 hv9 hb2 k6; have hown := hown3; clear hown3; obtain ⟨A7, c7, hov, _⟩ := MOwn.row hown; subst hov; refine kl H rfl fun a H => ?_
                refine wl_v _ (r_assign (H.ev rfl)) ?_; refine kl H rfl fun a H => ?_
                refine wpList_nil ?_
                refine n_block ?_
                refine c_next ?_
                refine wp_region_lit ?_
                refine wl_v _ (r_move (H.ev rfl)) ?_; refine kl H rfl fun a H => ?_
                refine wl_v _ (r_add (q := ((k + 1 : Nat) : Int)) Try.underlying3 (H.ev rfl) evc (by omega) (by omega)) ?_; refine kl H rfl fun a H => ?_
                refine wl_v _ (r_assign (H.ev rfl)) ?_; refine kl H rfl fun a H => ?_
                refine wpList_nil ?_
                refine n_then ⟨⟨k + 1, Wl ++ [y], _, _, true, H.pick [2, 5, 6, 7, 9, 11, 12, 13], by omega, want_gt HWL.out HY.out hkj, hown, k0, k3, k4, ho1, hDs, hall⟩, ?_⟩
                rw [H.ev (j := 13) rfl, H0.ev (j := 13) rfl]
                simp only [intOf]
                omega
            · skip
              obtain rfl : k = L.length := by omega
              obtain ⟨rfl, HW⟩ := want_end hjL hG
              replace HW := Lib.hid HW
              refine wp_seq ?_
              refine wp_seq ?_
              refine wp_region_lit ?_
              refine wl_v _ (r_move (H.ev rfl)) ?_; refine kl H rfl fun a H => ?_
              refine wl_v _ (r_fld (q := 0) fld24_0 (H.ev rfl) rfl) ?_; refine kl H rfl fun a H => ?_
              refine wl_v _ (r_ld Try.underlying22 rfl (H.ev rfl) ((Block.cell k0 0).trans rfl)) ?_; refine kl H rfl fun a H => ?_
              refine wl_v _ (r_len Try.underlying22 (H.ev rfl)) ?_; refine kl H rfl fun a H => ?_
              refine wl_v _ (r_lt Try.underlying3 (H.ev rfl) (H.ev rfl) (dec_f (by omega))) ?_; refine kl H rfl fun a H => ?_
              refine wpList_nil ?_
              refine c_next ?_
              refine c_cond_f H rfl ?_
              refine wp_exit ?_
              refine e_then ?_
              refine e_then ?_
              refine e_here ?_
              refine c_next ?_
              refine wp_seq ?_
              refine wp_region_lit ?_
              refine wl_v _ (r_move (H.ev rfl)) ?_; refine kl H rfl fun a H => ?_
              refine wl_v _ (r_move (H.ev rfl)) ?_; refine kl H rfl fun a H => ?_
              refine op_unguard _ _ (kg_yes rfl H rfl rfl rfl) ?_; refine wl_v _ (r_move (H.ev rfl)) ?_; refine kl H rfl fun a H => ?_
              refine wl_v _ (r_pick_t (H.ev rfl) (H.ev rfl)) ?_; refine kl H rfl fun a H => ?_
              refine wl_v _ (r_move (H.ev rfl)) ?_; refine kl H rfl fun a H => ?_
              refine op_unguard _ _ (kg_yes rfl H rfl rfl rfl) ?_; refine wl_v _ (r_move (H.ev rfl)) ?_; refine kl H rfl fun a H => ?_
              refine wl_v _ (r_pick_t (H.ev rfl) (H.ev rfl)) ?_; refine kl H rfl fun a H => ?_
              refine wl_v _ (r_move (H.ev rfl)) ?_; refine kl H rfl fun a H => ?_
              refine op_unguard _ _ (kg_yes rfl H rfl rfl rfl) ?_; refine wl_v _ (r_row (cs := [.slice A1 M2.length c1, .int .i64 tt]) (H.ev rfl) (block_range k3) (by kernel_rfl) s24 rfl) ?_; refine kl H rfl fun a H => ?_
              refine op_unguard _ _ (kg_yes rfl H rfl rfl rfl) ?_; refine wl_v _ (r_move (H.ev rfl)) ?_; refine kl H rfl fun a H => ?_
              refine op_unguard _ _ (kg_yes rfl H rfl rfl rfl) ?_; refine wl_v _ (r_fld (q := 0) fld29_0 (H.ev rfl) rfl) ?_; refine kl H rfl fun a H => ?_
              refine op_unguard _ _ (kg_yes rfl H rfl rfl rfl) ?_; refine wl_v _ (r_ld Try.underlying3 rfl (H.ev rfl) ((Block.cell k4 0).trans rfl)) ?_; refine kl H rfl fun a H => ?_
              refine op_unguard _ _ (kg_yes rfl H rfl rfl rfl) ?_; refine wl_v _ (r_build #[(0, .slice A5 Wl.length c5), (1, .int .i64 m1)] (.agg #[.slice A5 Wl.length c5, .int .i64 m1]) (by simp [evc, H.ev (j := 110) rfl, H.ev (j := 112) rfl]) (fun w => by kernel_rfl)) ?_; refine kl H rfl fun a H => ?_
              refine op_unguard _ _ (kg_yes rfl H rfl rfl rfl) ?_; refine wl_call _ _ _ (same_lit _ tt m1 _ _ M2 Wl true (dec_t ⟨htt, by rw [hM2.out, HW.out]⟩) (MOwn.row ho1) (MOwn.row hown) (by omega)) (r_call2 cf13 (H.ev rfl) (H.ev rfl)) ?_; rintro e w9 ⟨rfl, hb⟩; refine ⟨_, rfl, ?_⟩; replace k0 := Block.ups k0 hb; replace k3 := Block.ups k3 hb; replace k4 := Block.ups k4 hb; replace ho1 := ROwn.up ho1 hb; replace hown := ROwn.up hown hb; replace hDs := le_up hDs hb; replace hall := hall.trans (hb.mono hall.size); clear hb; refine kl H rfl fun a H => ?_
              refine wl_v _ (r_pick_t (H.ev rfl) (H.ev rfl)) ?_; refine kl H rfl fun a H => ?_
              refine wl_v _ (r_assign (H.ev rfl)) ?_; refine kl H rfl fun a H => ?_
              refine wpList_nil ?_
              refine c_next ?_
              refine wp_ret ?_
              exact k_ret1 H rfl rfl ⟨rfl, hall⟩
theorem first_all (w : World) (m0 : Int) (A0 : Option Addr) (n0 c0 : Nat) (L0 : List Int) (A1 : Option Addr) (n1 c1 : Nat) (L1 : List Int) (hm0 : (Lit.int .i64 m0).wf = true) (hn0 : L0.length = n0 * 2) (hw0 : WF L0) (hnc0 : n0 ≤ c0) (hcm0 : c0 ≤ maxLen) (hh0 : Holds w A0 (L0.map (Value.int .i64))) (hz0 : A0 = none → c0 = 0) (hb : n0 ≤ 9223372036854775807) (hn1 : L1.length = n1 * 1) (hnc1 : n1 ≤ c1) (hcm1 : c1 ≤ maxLen) (hh1 : Holds w A1 (L1.map (Value.int .i64))) (hz1 : A1 = none → c1 = 0) (hb1 : n1 ≤ 9223372036854775807) :
    Calls Try.prog 5 #[.agg #[.slice A0 n0 c0, .int .i64 m0], .slice A1 n1 c1] w fun e w' => e = .returned (.bool true) ∧ Below w.heap.size w w' := by
  obtain ⟨L, h, rfl, hw⟩ := mrow_in hn0 hw0 hnc0 hcm0 hh0 hz0
  obtain rfl : L1.length = n1 := by omega
  exact first_walk w m0 _ _ L L1 h ⟨A1, c1, rfl, hnc1, hcm1, hz1, hh1⟩ hb hb1 hw (wf_int hm0)
theorem fanoutFirst_it1 : intTy Try.prog 1 3 = true := by kernel_rfl
theorem fanoutFirst_c1 : Try.prog.cellsOf 3 = 1 := by kernel_rfl
set_option maxRecDepth 100000 in
theorem fanoutFirst_lifted (os : Os) (started : os.Started) (H : Type) (enc : TypeId × Value → H) :
    ReturnsInHanded {} Try.checked os 5 .any (Rows.fanoutFirstSpec.pre6 enc Try.prog Try.f5 Rows.fanoutFirstRow.domain false) (Rows.fanoutFirstSpec.post enc Try.prog Try.f5 false true false false) := by
  refine returnsInHanded_of_change (C := Try.checked) own started (by kernel_rfl) Try.func5
    (ChangeSpec.witness6 (enc := enc) (C := Try.checked) false ⟨#[], #[.agg #[.slice none 0 0, .int .i64 0], .slice none 0 0], []⟩ 8 (by kernel_rfl) (by kernel_rfl) (by kernel_rfl) (by kernel_rfl)) ?_
  intro W base args ds gs before hval0 hW hcnd _
  have hval : ∀ (j : Nat) t v, Try.f5.params[j]? = some t → args[j]? = some v → Value.okWide Try.prog W .any base t v := hval0
  have hW' := hW
  obtain ⟨p, q, hA0, hV, rfl, hfz, hnd⟩ := hW
  have hA : DataW.TrodAll enc Try.prog W 0 (fun _ => true) true Try.f5.params.toList args.toList ds p := hA0
  rw [Try.params5] at hA hval
  obtain ⟨v0, vs0, d0, ds0, p0, q0, hargs, rfl, rfl, h0, r0⟩ := trodAll_cons hA
  obtain ⟨v1, vs1, d1, ds1, p1, q1, rfl, rfl, rfl, h1, r1⟩ := trodAll_cons r0
  obtain ⟨rfl, rfl, rfl⟩ := trodAll_nil r1
  obtain rfl : args = #[v0, v1] := by cases args; simp_all
  obtain ⟨rfl, rfl⟩ := trodVars_none hV
  have k0 := h0
  have lt0 : ∀ x ∈ p0, x.block < W.heap.size := by obtain ⟨m, hm⟩ := k0; exact DataW.trod_lt m _ _ _ hm
  have k1 := h1
  have lt1 : ∀ x ∈ p1, x.block < W.heap.size := by obtain ⟨m, hm⟩ := k1; exact DataW.trod_lt m _ _ _ hm
  obtain ⟨m0, A0, n0, c0, L0, rfl, hm0, hn0, hw0, hnc0, hcm0, hh0, hz0⟩ := open_si 2 2 Try.underlying24 rfl rfl Try.underlying3 co3 rfl rfl co22 co24 Try.underlying22 it29 co29 (by omega) (hval 0 24 v0 rfl rfl) h0
  have hb0 : n0 ≤ 9223372036854775807 := by unfold maxLen at hcm0; omega
  obtain ⟨A1, n1, c1, L1, rfl, hn1, hw1, hnc1, hcm1, hh1, hz1⟩ := open_slice_ints 1 1 Try.underlying25 fanoutFirst_it1 fanoutFirst_c1 (by omega) (hval 1 25 v1 rfl rfl) h1
  have hb1 : n1 ≤ 9223372036854775807 := by unfold maxLen at hcm1; omega
  clear hA0 hval0
  refine (first_all W m0 A0 n0 c0 L0 A1 n1 c1 L1 hm0 hn0 hw0 hnc0 hcm0 hh0 hz0 hb0 hn1 hnc1 hcm1 hh1 hz1 hb1).mono fun e W' ⟨he, bel⟩ => ?_
  subst he
  exact ⟨_, rfl, _, _, _, [], _, [], hW', trodAll_mk1 (shut_bool Try.underlying4 _), (trodAll_cons_mk (Below.trod laidOut (by kernel_rfl) (of_decide_eq_true (by kernel_rfl)) k0 bel lt0) (trodAll_cons_mk (Below.trod laidOut (by kernel_rfl) (of_decide_eq_true (by kernel_rfl)) k1 bel lt1) trodAll_mk0)), rfl, bel.frame _, fun h => by cases h⟩

theorem fanoutFirst_holds : Rows.FanoutFirstSaid :=
  OpenClaim.holds_of_wide 5 Try.f5 rfl rfl rfl rfl rfl rfl rfl ⟨rfl, rfl, rfl, rfl, rfl⟩ rfl rfl rfl rfl rfl (by kernel_rfl) Try.func5 (by kernel_rfl)
    (of_decide_eq_true (by kernel_rfl)) (by unfold Func.isWrapper; first | (rw [if_pos (by decide +kernel)]; kernel_rfl) | (rw [if_neg (by decide +kernel)]; exact ⟨rfl, rfl⟩))
    (fun os started H enc _ => fanoutFirst_lifted os started H enc)
#print axioms fanoutFirst_holds
end Go.Proofs.Ytpegfbdepgmbjaa
