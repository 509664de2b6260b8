/- Timer: the document's Due, Right. -/
import Derived.Test.YtndpbciefijjcaaDa
namespace Go.Proofs.Ytndpbciefijjcaa
open Go.RowKit
set_option linter.unusedVariables false
set_option linter.unusedSimpArgs false

def rdF (L : List Tm) (now : Int) : List Tm := L.filter fun x => decide (now < x.2)
def roF (L : List Tm) (now : Int) : List Int := (L.filter fun x => decide (x.2 ≤ now)).map (·.1)
section
variable {w : World} {base : Nat} {v : Value} {L : List Tm} {now : Int} {k : Nat} {y : Tm}
theorem rd_step (hy : L[k]? = some y) : rdF (L.take (k + 1)) now = rdF (L.take k) now ++ if now < y.2 then [y] else [] := by
  obtain ⟨hk, e⟩ := List.getElem?_eq_some_iff.1 hy
  unfold rdF
  rw [List.take_succ_eq_append_getElem hk, List.filter_append, e]
  by_cases h : now < y.2 <;> simp [h]
theorem ro_step (hy : L[k]? = some y) : roF (L.take (k + 1)) now = roF (L.take k) now ++ if now < y.2 then [] else [y.1] := by
  obtain ⟨hk, e⟩ := List.getElem?_eq_some_iff.1 hy
  unfold roF
  rw [List.take_succ_eq_append_getElem hk, List.filter_append, e]
  by_cases h : now < y.2
  · have : ¬ y.2 ≤ now := by omega
    simp [h, this]
  · have : y.2 ≤ now := by omega
    simp [h, this]
theorem rd_take (hy : L[k]? = some y) (hg : now < y.2) (h : w.ownsRow base 40 2 v ((rdF (L.take k) now).length + 1) (FV encT (rdF (L.take k) now) ++ FV encT [y])) : TOwn w base v (rdF (L.take (k + 1)) now) := by
  rw [rd_step hy, if_pos hg]
  unfold TOwn
  rw [FV_append, List.length_append]
  exact h
theorem rd_skip (hy : L[k]? = some y) (hg : ¬ now < y.2) (h : TOwn w base v (rdF (L.take k) now)) : TOwn w base v (rdF (L.take (k + 1)) now) := by
  rw [rd_step hy, if_neg hg, List.append_nil]
  exact h
theorem ro_take (hy : L[k]? = some y) (hg : ¬ now < y.2) (h : w.ownsRow base 3 1 v ((roF (L.take k) now).length + 1) (FV enc1 (roF (L.take k) now) ++ FV enc1 [y.1])) : IOwn w base v (roF (L.take (k + 1)) now) := by
  rw [ro_step hy, if_neg hg]
  unfold IOwn
  rw [FV_append, List.length_append]
  exact h
theorem ro_skip (hy : L[k]? = some y) (hg : now < y.2) (h : IOwn w base v (roF (L.take k) now)) : IOwn w base v (roF (L.take (k + 1)) now) := by
  rw [ro_step hy, if_pos hg, List.append_nil]
  exact h
theorem rd_le (L : List Tm) (now : Int) (k : Nat) : (rdF (L.take k) now).length ≤ k := Nat.le_trans (List.length_filter_le _ _) (by simp; omega)
theorem ro_le (L : List Tm) (now : Int) (k : Nat) : (roF (L.take k) now).length ≤ k := by unfold roF; rw [List.length_map]; exact Nat.le_trans (List.length_filter_le _ _) (by simp; omega)
theorem rd_end (h : TOwn w base v (rdF (L.take L.length) now)) : TOwn w base v (rdF L now) := by rwa [List.take_length] at h
theorem ro_end (h : IOwn w base v (roF (L.take L.length) now)) : IOwn w base v (roF L now) := by rwa [List.take_length] at h
end
def RdI (W : World) (A : Option Addr) (c : Nat) (L : List Tm) (now : Int) (a : Act) (w : World) : Prop :=
  ∃ (k : Nat) (v6 v7 : Value), Kn a 39 [(0, .slice A L.length c), (1, .int .i64 now), (6, v6), (7, v7), (8, .int .i64 (k : Nat))] ∧ k ≤ L.length ∧ TOwn w W.heap.size v6 (rdF (L.take k) now) ∧ IOwn w W.heap.size v7 (roF (L.take k) now) ∧ Apart v7 v6 ∧ Below W.heap.size W w
set_option maxHeartbeats 1000000 in
theorem rdue_any (w : World) (v : Value) (L : List Tm) (now : Int) (h : TRow w v L) (hn : L.length ≤ 100000) :
    Calls Try.prog 15 #[v, .int .i64 now] w fun e w' => (∃ v' u', e = .returned (.tuple #[v', u']) ∧ TOwn w' w.heap.size v' (rdF L now) ∧ IOwn w' w.heap.size u' (roF L now)) ∧ Below w.heap.size w w' := by
  obtain ⟨A, c, rfl, h1, h2, h3, hh⟩ := h
  replace hh := Lib.hid hh
  have hall := Below.refl w.heap.size w
  refine K_enter 39 Try.func15 rfl rfl fun a H => ?_
  replace H := H.pick [0, 1]
  refine wp_seq ?_
  refine wp_region_lit ?_
  refine wl_v _ (r_assign evc) ?_; refine kl H rfl fun a H => ?_
  refine wl_v _ (r_assign evc) ?_; refine kl H rfl fun a H => ?_
  refine wpList_nil ?_
  refine c_next ?_
  refine wp_seq ?_
  refine wp_region_lit ?_
  refine wl_v _ (r_assign evc) ?_; refine kl H rfl fun a H => ?_
  refine wpList_nil ?_
  refine c_next ?_
  refine wp_seq ?_
  refine wp_region_lit ?_
  refine wl_v _ (r_assign evc) ?_; refine kl H rfl fun a H => ?_
  refine wpList_nil ?_
  refine c_next ?_
  refine wp_seq ?_
  refine wp_seq ?_
  refine wp_region_lit ?_
  refine wl_v _ (r_assign evc) ?_; refine kl H rfl fun a H => ?_
  refine wpList_nil ?_
  refine c_next ?_
  refine wp_block ?_
  refine wp_loop (RdI w A c L now) (fun a _ => L.length - (intOf (a.eval (.tmp 8))).toNat) ⟨0, _, _, H.pick [0, 1, 6, 7, 8], by omega, World.ownsRow_nil _ _ _ _, World.ownsRow_nil _ _ _ _, Apart.nil _, hall⟩ ?_
  clear hall H
  rintro a w' ⟨k, v6, v7, H, hk, h6, h7, hap, hall⟩
  have H0 := H
  by_cases hlt : k < L.length
  · skip
    obtain ⟨b, o, hA, hr⟩ := flat_some encT_len hh.out (by omega) hlt
    subst hA
    have hy : L[k]? = some L[k] := List.getElem?_eq_getElem hlt
    have HY := Lib.hid hy
    have HRG := Lib.hid hr
    generalize L[k] = y at *
    clear hy hr
    have hl1 := rd_le L now k
    have hl2 := ro_le L now k
    by_cases hgt : now < y.2
    · skip
      refine wp_seq ?_
      refine wp_seq ?_
      refine wp_region_lit ?_
      refine wl_v _ (r_move (H.ev rfl)) ?_; refine kl H rfl fun a H => ?_
      refine wl_v _ (r_move (H.ev rfl)) ?_; refine kl H rfl fun a H => ?_
      refine wl_v _ (r_len Try.underlying22 (H.ev rfl)) ?_; refine kl H rfl fun a H => ?_
      refine wl_v _ (r_lt Try.underlying3 (H.ev rfl) (H.ev rfl) (dec_t (by omega))) ?_; refine kl H rfl fun a H => ?_
      refine wpList_nil ?_
      refine c_next ?_
      refine c_cond_t H rfl ?_
      refine wp_skip ?_
      refine c_next ?_
      refine wp_seq ?_
      refine wp_block ?_
      refine wp_seq ?_
      refine wp_region_lit ?_
      refine wl_v _ (r_move (H.ev rfl)) ?_; refine kl H rfl fun a H => ?_
      refine wl_v _ (r_move (H.ev rfl)) ?_; refine kl H rfl fun a H => ?_
      refine wl_v _ (r_idx (j := k) (q := o + k * 2) Try.underlying22 s40 (H.ev rfl) (H.ev rfl) (by omega) rfl) ?_; refine kl H rfl fun a H => ?_
      refine wl_v _ (r_fld (q := o + k * 2 + 1) fld40_1 (H.ev rfl) rfl) ?_; refine kl H rfl fun a H => ?_
      refine wl_v _ (r_ld Try.underlying3 rfl (H.ev rfl) (range_cell (range_ups HRG.out hall) 1 rfl)) ?_; refine kl H rfl fun a H => ?_
      refine wl_v _ (r_move (H.ev rfl)) ?_; refine kl H rfl fun a H => ?_
      refine wl_v _ (r_gt Try.underlying3 (H.ev rfl) (H.ev rfl) (dec_t (by omega))) ?_; refine kl H rfl fun a H => ?_
      refine wpList_nil ?_
      refine c_next ?_
      refine c_cond_t H rfl ?_
      refine wp_region_lit ?_
      refine wl_v _ (r_move (H.ev rfl)) ?_; refine kl H rfl fun a H => ?_
      refine wl_v _ (r_move (H.ev rfl)) ?_; refine kl H rfl fun a H => ?_
      refine wl_v _ (r_move (H.ev rfl)) ?_; refine kl H rfl fun a H => ?_
      refine wl_v _ (r_idx (j := k) (q := o + k * 2) Try.underlying22 s40 (H.ev rfl) (H.ev rfl) (by omega) rfl) ?_; refine kl H rfl fun a H => ?_
      refine wl_v (.agg #[.int .i64 y.1, .int .i64 y.2]) (r_row (cs := [.int .i64 y.1, .int .i64 y.2]) (H.ev rfl) (range_ups HRG.out hall) (by kernel_rfl) s40 rfl) ?_; refine kl H rfl fun a H => ?_
      refine op_litv 22 1 #[(0, .agg #[.int .i64 y.1, .int .i64 y.2])] 40 #[.int .i64 y.1, .int .i64 y.2] (by simp [H.ev (j := 26) rfl]) (fun w => by kernel_rfl) fun w1 b1 hge hb k1 => ?_; replace h6 := own_ups h6 hb; replace h7 := own_ups h7 hb; replace hall := hall.trans (hb.mono hall.size); clear hb hge; refine kl H rfl fun a H => ?_
      refine op_append 22 40 (.tmp 22) (.tmp 27) w.heap.size (.agg #[.int .i64 0, .int .i64 0]) 2 16 v6 _ _ (some ⟨b1, 0, none⟩) 1 1 (FV encT [y]) (H.ev rfl) (H.ev rfl) Try.underlying22 i40 rfl (by omega) h6 (by rw [FV_len encT_len]; rfl) (block_x k1) (FV_one _ _) (by unfold maxLen; omega) (by omega) hall.size fun v8 w2 hown2 hg hv hb2 => ?_; have hap0 := hap; replace hap := hap.next h7 hv; replace h7 := own_row h7 hg hap0; clear hap0; replace hall := hall.trans hb2; clear hb2 h6 k1 hg hv; have h6 := hown2; clear hown2; refine kl H rfl fun a H => ?_
      refine wl_v _ (r_assign (H.ev rfl)) ?_; refine kl H rfl fun a H => ?_
      refine wpList_nil ?_
      refine n_block ?_
      refine c_next ?_
      refine wp_region_lit ?_
      refine wl_v _ (r_move (H.ev rfl)) ?_; refine kl H rfl fun a H => ?_
      refine wl_v _ (r_add (q := ((k + 1 : Nat) : Int)) Try.underlying3 (H.ev rfl) evc (by omega) (by omega)) ?_; refine kl H rfl fun a H => ?_
      refine wl_v _ (r_assign (H.ev rfl)) ?_; refine kl H rfl fun a H => ?_
      refine wpList_nil ?_
      have g6 := rd_take HY.out hgt h6
      have g7 := ro_skip HY.out hgt h7
      refine n_then ⟨⟨k + 1, _, _, H.pick [0, 1, 6, 7, 8], by omega, g6, g7, hap, hall⟩, ?_⟩
      rw [H.ev (j := 8) rfl, H0.ev (j := 8) rfl]
      simp only [intOf]
      omega
    · skip
      refine wp_seq ?_
      refine wp_seq ?_
      refine wp_region_lit ?_
      refine wl_v _ (r_move (H.ev rfl)) ?_; refine kl H rfl fun a H => ?_
      refine wl_v _ (r_move (H.ev rfl)) ?_; refine kl H rfl fun a H => ?_
      refine wl_v _ (r_len Try.underlying22 (H.ev rfl)) ?_; refine kl H rfl fun a H => ?_
      refine wl_v _ (r_lt Try.underlying3 (H.ev rfl) (H.ev rfl) (dec_t (by omega))) ?_; refine kl H rfl fun a H => ?_
      refine wpList_nil ?_
      refine c_next ?_
      refine c_cond_t H rfl ?_
      refine wp_skip ?_
      refine c_next ?_
      refine wp_seq ?_
      refine wp_block ?_
      refine wp_seq ?_
      refine wp_region_lit ?_
      refine wl_v _ (r_move (H.ev rfl)) ?_; refine kl H rfl fun a H => ?_
      refine wl_v _ (r_move (H.ev rfl)) ?_; refine kl H rfl fun a H => ?_
      refine wl_v _ (r_idx (j := k) (q := o + k * 2) Try.underlying22 s40 (H.ev rfl) (H.ev rfl) (by omega) rfl) ?_; refine kl H rfl fun a H => ?_
      refine wl_v _ (r_fld (q := o + k * 2 + 1) fld40_1 (H.ev rfl) rfl) ?_; refine kl H rfl fun a H => ?_
      refine wl_v _ (r_ld Try.underlying3 rfl (H.ev rfl) (range_cell (range_ups HRG.out hall) 1 rfl)) ?_; refine kl H rfl fun a H => ?_
      refine wl_v _ (r_move (H.ev rfl)) ?_; refine kl H rfl fun a H => ?_
      refine wl_v _ (r_gt Try.underlying3 (H.ev rfl) (H.ev rfl) (dec_f (by omega))) ?_; refine kl H rfl fun a H => ?_
      refine wpList_nil ?_
      refine c_next ?_
      refine c_cond_f H rfl ?_
      refine wp_region_lit ?_
      refine wl_v _ (r_move (H.ev rfl)) ?_; refine kl H rfl fun a H => ?_
      refine wl_v _ (r_move (H.ev rfl)) ?_; refine kl H rfl fun a H => ?_
      refine wl_v _ (r_move (H.ev rfl)) ?_; refine kl H rfl fun a H => ?_
      refine wl_v _ (r_idx (j := k) (q := o + k * 2) Try.underlying22 s40 (H.ev rfl) (H.ev rfl) (by omega) rfl) ?_; refine kl H rfl fun a H => ?_
      refine wl_v _ (r_fld (q := o + k * 2) fld40_0 (H.ev rfl) rfl) ?_; refine kl H rfl fun a H => ?_
      refine wl_v _ (r_ld Try.underlying3 rfl (H.ev rfl) (range_cell (range_ups HRG.out hall) 0 rfl)) ?_; refine kl H rfl fun a H => ?_
      refine op_litv 31 1 #[(0, .int .i64 y.1)] 3 #[.int .i64 y.1] (by simp [H.ev (j := 34) rfl]) (fun w => by kernel_rfl) fun w1 b1 hge hb k1 => ?_; replace h6 := own_ups h6 hb; replace h7 := own_ups h7 hb; replace hall := hall.trans (hb.mono hall.size); clear hb hge; refine kl H rfl fun a H => ?_
      refine op_append 31 3 (.tmp 29) (.tmp 35) w.heap.size (.int .i64 0) 1 8 v7 _ _ (some ⟨b1, 0, none⟩) 1 1 (FV enc1 [y.1]) (H.ev rfl) (H.ev rfl) Try.underlying31 i3 rfl (by omega) h7 (by rw [FV_len enc1_len]; rfl) (block1 k1) (FV_one _ _) (by unfold maxLen; omega) (by omega) hall.size fun v8 w2 hown2 hg hv hb2 => ?_; have hap0 := hap.turn; replace hap := (hap0.next h6 hv).turn; replace h6 := own_row h6 hg hap0; clear hap0; replace hall := hall.trans hb2; clear hb2 h7 k1 hg hv; have h7 := hown2; clear hown2; refine kl H rfl fun a H => ?_
      refine wl_v _ (r_assign (H.ev rfl)) ?_; refine kl H rfl fun a H => ?_
      refine wpList_nil ?_
      refine n_block ?_
      refine c_next ?_
      refine wp_region_lit ?_
      refine wl_v _ (r_move (H.ev rfl)) ?_; refine kl H rfl fun a H => ?_
      refine wl_v _ (r_add (q := ((k + 1 : Nat) : Int)) Try.underlying3 (H.ev rfl) evc (by omega) (by omega)) ?_; refine kl H rfl fun a H => ?_
      refine wl_v _ (r_assign (H.ev rfl)) ?_; refine kl H rfl fun a H => ?_
      refine wpList_nil ?_
      have g6 := rd_skip HY.out hgt h6
      have g7 := ro_take HY.out hgt h7
      refine n_then ⟨⟨k + 1, _, _, H.pick [0, 1, 6, 7, 8], by omega, g6, g7, hap, hall⟩, ?_⟩
      rw [H.ev (j := 8) rfl, H0.ev (j := 8) rfl]
      simp only [intOf]
      omega
  · skip
    obtain rfl : k = L.length := by omega
    refine wp_seq ?_
    refine wp_seq ?_
    refine wp_region_lit ?_
    refine wl_v _ (r_move (H.ev rfl)) ?_; refine kl H rfl fun a H => ?_
    refine wl_v _ (r_move (H.ev rfl)) ?_; refine kl H rfl fun a H => ?_
    refine wl_v _ (r_len Try.underlying22 (H.ev rfl)) ?_; refine kl H rfl fun a H => ?_
    refine wl_v _ (r_lt Try.underlying3 (H.ev rfl) (H.ev rfl) (dec_f (by omega))) ?_; refine kl H rfl fun a H => ?_
    refine wpList_nil ?_
    refine c_next ?_
    refine c_cond_f H rfl ?_
    refine wp_exit ?_
    refine e_then ?_
    refine e_then ?_
    refine e_here ?_
    refine c_next ?_
    refine wp_seq ?_
    refine wp_region_lit ?_
    refine wl_v _ (r_move (H.ev rfl)) ?_; refine kl H rfl fun a H => ?_
    refine wl_v _ (r_move (H.ev rfl)) ?_; refine kl H rfl fun a H => ?_
    refine wl_v _ (r_assign (H.ev rfl)) ?_; refine kl H rfl fun a H => ?_
    refine wl_v _ (r_assign (H.ev rfl)) ?_; refine kl H rfl fun a H => ?_
    refine wpList_nil ?_
    refine c_next ?_
    refine wp_ret ?_
    exact k_ret2 H rfl rfl rfl ⟨⟨_, _, rfl, rd_end h6, ro_end h7⟩, hall⟩
/-- is each pair right? -/
def PairOk (L : List Tm) (i : Nat) : Prop := ∀ (p q : Nat), q < i → p < q → ∀ x y, L[p]? = some x → L[q]? = some y → x.1 ≠ y.1 ∧ lessB x y = true
def InOk (L : List Tm) (j : Nat) (y : Tm) : Prop := ∀ p : Nat, p < j → ∀ x, L[p]? = some x → x.1 ≠ y.1 ∧ lessB x y = true
theorem rr_next {L : List Tm} {i : Nat} {y : Tm} (h : PairOk L i) (hy : L[i]? = some y) (hin : InOk L i y) : PairOk L (i + 1) := by
  intro p q hq hp x z hx hz
  by_cases e : q = i
  · subst e
    rw [hy] at hz
    injection hz with hz
    subst hz
    exact hin p hp x hx
  · exact h p q (by omega) hp x z hx hz
theorem rr_in {L : List Tm} {j : Nat} {x y : Tm} (h : InOk L j y) (hx : L[j]? = some x) (h1 : ¬ x.1 = y.1) (h2 : lessB x y = true) : InOk L (j + 1) y := by
  intro p hp z hz
  by_cases e : p = j
  · subst e
    rw [hx] at hz
    injection hz with hz
    subst hz
    exact ⟨h1, h2⟩
  · exact h p (by omega) z hz
theorem rr_yes {L : List Tm} (hl : L.length ≤ 64) (h : PairOk L L.length) : rightF L = true := by
  rw [right_iff]
  refine ⟨?_, ?_, hl⟩
  · rw [List.pairwise_iff_getElem]
    intro p q hp hq hpq
    have := (h p q hq hpq _ _ (List.getElem?_eq_getElem hp) (List.getElem?_eq_getElem hq)).2
    simpa [lessB] using this
  · rw [List.nodup_iff_pairwise_ne, List.pairwise_map, List.pairwise_iff_getElem]
    intro p q hp hq hpq
    exact (h p q hq hpq _ _ (List.getElem?_eq_getElem hp) (List.getElem?_eq_getElem hq)).1
theorem rr_no {L : List Tm} {i j : Nat} {x y : Tm} (hx : L[j]? = some x) (hy : L[i]? = some y) (hj : j < i) (h : x.1 = y.1 ∨ lessB x y = false) : rightF L = false := by
  rw [← Bool.not_eq_true, right_iff]
  rintro ⟨h1, h2, _⟩
  obtain ⟨hj', rfl⟩ := List.getElem?_eq_some_iff.1 hx
  obtain ⟨hi', rfl⟩ := List.getElem?_eq_some_iff.1 hy
  rcases h with h | h
  · rw [List.nodup_iff_pairwise_ne, List.pairwise_map, List.pairwise_iff_getElem] at h2
    exact h2 j i hj' hi' hj h
  · have := List.pairwise_iff_getElem.1 h1 j i hj' hi' hj
    simp [lessB, this] at h
theorem rr_long {L : List Tm} (h : ¬ L.length ≤ 64) : rightF L = false := by
  rw [← Bool.not_eq_true, right_iff]
  exact fun hr => h hr.2.2
def RrO (W : World) (A : Option Addr) (c : Nat) (L : List Tm) (a : Act) (w : World) : Prop := ∃ i : Nat, Kn a 42 [(0, .slice A L.length c), (3, .int .i64 (i : Nat))] ∧ i ≤ L.length ∧ PairOk L i ∧ Below W.heap.size W w
def RrI (W : World) (b o c : Nat) (L : List Tm) (i : Nat) (y : Tm) (a : Act) (w : World) : Prop := ∃ j : Nat, Kn a 42 [(0, .slice (some ⟨b, o, none⟩) L.length c), (3, .int .i64 (i : Nat)), (4, .int .i64 (j : Nat))] ∧ j ≤ i ∧ InOk L j y ∧ Below W.heap.size W w
set_option maxHeartbeats 1000000 in
theorem rright_any (w : World) (v : Value) (L : List Tm) (h : TRow w v L) (hn : L.length ≤ 9223372036854775807) :
    Calls Try.prog 9 #[v] w fun e w' => e = .returned (.bool (rightF L)) ∧ Below w.heap.size w w' := by
  obtain ⟨A, c, rfl, h1, h2, h3, hh⟩ := h
  replace hh := Lib.hid hh
  have hall := Below.refl w.heap.size w
  by_cases hl : L.length ≤ 64
  · skip
    refine K_enter 42 Try.func9 rfl rfl fun a H => ?_
    replace H := H.pick [0]
    refine wp_seq ?_
    refine wp_region_lit ?_
    refine wl_v _ (r_assign evc) ?_; refine kl H rfl fun a H => ?_
    refine wpList_nil ?_
    refine c_next ?_
    refine wp_seq ?_
    refine wp_seq ?_
    refine wp_region_lit ?_
    refine wl_v _ (r_move (H.ev rfl)) ?_; refine kl H rfl fun a H => ?_
    refine wl_v _ (r_len Try.underlying22 (H.ev rfl)) ?_; refine kl H rfl fun a H => ?_
    refine wl_v _ (r_gt Try.underlying3 (H.ev rfl) evc (dec_f (by omega))) ?_; refine kl H rfl fun a H => ?_
    refine wpList_nil ?_
    refine c_next ?_
    refine c_cond_f H rfl ?_
    refine wp_skip ?_
    refine c_next ?_
    refine wp_seq ?_
    refine wp_seq ?_
    refine wp_region_lit ?_
    refine wl_v _ (r_assign evc) ?_; refine kl H rfl fun a H => ?_
    refine wpList_nil ?_
    refine c_next ?_
    refine wp_block ?_
    refine wp_loop (RrO w A c L) (fun a _ => L.length - (intOf (a.eval (.tmp 3))).toNat) ⟨0, H.pick [0, 3], by omega, fun p q hp hq => by omega, hall⟩ ?_
    clear hall H
    rintro a w' ⟨i, H, hi, hok, hall⟩
    have H0 := H
    by_cases hlt : i < L.length
    · skip
      obtain ⟨b, o, hA, hr⟩ := flat_some encT_len hh.out (by omega) hlt
      have hA' : A = some ⟨b, o, none⟩ := hA
      subst hA'
      have hy : L[i]? = some L[i] := List.getElem?_eq_getElem hlt
      have HY := Lib.hid hy
      have HRG := Lib.hid hr
      generalize L[i] = y at *
      clear hy hr hA
      refine wp_seq ?_
      refine wp_seq ?_
      refine wp_region_lit ?_
      refine wl_v _ (r_move (H.ev rfl)) ?_; refine kl H rfl fun a H => ?_
      refine wl_v _ (r_move (H.ev rfl)) ?_; refine kl H rfl fun a H => ?_
      refine wl_v _ (r_len Try.underlying22 (H.ev rfl)) ?_; refine kl H rfl fun a H => ?_
      refine wl_v _ (r_lt Try.underlying3 (H.ev rfl) (H.ev rfl) (dec_t (by omega))) ?_; refine kl H rfl fun a H => ?_
      refine wpList_nil ?_
      refine c_next ?_
      refine c_cond_t H rfl ?_
      refine wp_skip ?_
      refine c_next ?_
      refine wp_seq ?_
      refine wp_block ?_
      refine wp_seq ?_
      refine wp_region_lit ?_
      refine wl_v _ (r_assign evc) ?_; refine kl H rfl fun a H => ?_
      refine wpList_nil ?_
      refine c_next ?_
      refine wp_block ?_
      refine wp_loop (RrI w b o c L i y) (fun a _ => i - (intOf (a.eval (.tmp 4))).toNat) ⟨0, H.pick [0, 3, 4], by omega, fun p hp => by omega, hall⟩ ?_
      clear hall H
      rintro a w' ⟨j, H, hj, hin, hall⟩
      have H1 := H
      by_cases hlj : j < i
      · skip
        have hjl : j < L.length := by omega
        have hx : L[j]? = some L[j] := List.getElem?_eq_getElem hjl
        have HX := Lib.hid hx
        have HRX := Lib.hid (flat_range encT_len hh.out rfl hjl)
        generalize L[j] = x at *
        clear hx
        by_cases hid : x.1 = y.1
        · skip
          refine wp_seq ?_
          refine wp_seq ?_
          refine wp_region_lit ?_
          refine wl_v _ (r_move (H.ev rfl)) ?_; refine kl H rfl fun a H => ?_
          refine wl_v _ (r_move (H.ev rfl)) ?_; refine kl H rfl fun a H => ?_
          refine wl_v _ (r_lt Try.underlying3 (H.ev rfl) (H.ev rfl) (dec_t (by omega))) ?_; refine kl H rfl fun a H => ?_
          refine wpList_nil ?_
          refine c_next ?_
          refine c_cond_t H rfl ?_
          refine wp_skip ?_
          refine c_next ?_
          refine wp_seq ?_
          refine wp_block ?_
          refine wp_seq ?_
          have hS : BelowOf w _ := hall.drew
          refine region_pi (BelowOf w) [(0, true), (1, true), (2, true), (3, true), (4, true), (5, true), (6, true), (7, true), (8, true), (9, true), (10, true), (11, true), (12, true), (13, true), (14, true), (15, true), (16, true), (17, true), (18, true), (19, true), (20, false), (21, true), (22, true)] (by kernel_rfl) (by kernel_rfl) rfl (by kernel_rfl) hS ?_
          clear hall
          refine pi_f0 _ rfl (fun w' hS' => r_move (H.ev rfl)) ?_; refine kp H rfl fun a H => ?_
          refine pi_f0 _ rfl (fun w' hS' => r_move (H.ev rfl)) ?_; refine kp H rfl fun a H => ?_
          refine pi_f0 _ rfl (fun w' hS' => r_idx (j := j) (q := o + j * 2) Try.underlying22 s40 (H.ev rfl) (H.ev rfl) (by omega) rfl) ?_; refine kp H rfl fun a H => ?_
          refine pi_f0 _ rfl (fun w' hS' => r_fld (q := o + j * 2) fld40_0 (H.ev rfl) rfl) ?_; refine kp H rfl fun a H => ?_
          refine pi_f0 (.int .i64 x.1) rfl (fun w' hS' => r_ld Try.underlying3 rfl (H.ev rfl) (range_cell (range_ups HRX.out hS') 0 rfl)) ?_; refine kp H rfl fun a H => ?_
          refine pi_f0 _ rfl (fun w' hS' => r_move (H.ev rfl)) ?_; refine kp H rfl fun a H => ?_
          refine pi_f0 _ rfl (fun w' hS' => r_move (H.ev rfl)) ?_; refine kp H rfl fun a H => ?_
          refine pi_f0 _ rfl (fun w' hS' => r_idx (j := i) (q := o + i * 2) Try.underlying22 s40 (H.ev rfl) (H.ev rfl) (by omega) rfl) ?_; refine kp H rfl fun a H => ?_
          refine pi_f0 _ rfl (fun w' hS' => r_fld (q := o + i * 2) fld40_0 (H.ev rfl) rfl) ?_; refine kp H rfl fun a H => ?_
          refine pi_f0 (.int .i64 y.1) rfl (fun w' hS' => r_ld Try.underlying3 rfl (H.ev rfl) (range_cell (range_ups HRG.out hS') 0 rfl)) ?_; refine kp H rfl fun a H => ?_
          refine pi_f0 _ rfl (fun w' hS' => r_eq Try.underlying3 (H.ev rfl) (H.ev rfl) (dec_t (by omega))) ?_; refine kp H rfl fun a H => ?_
          refine pi_f0 _ rfl (fun w' hS' => r_move (H.ev rfl)) ?_; refine kp H rfl fun a H => ?_
          refine pi_s1 rfl rfl rfl (H.ev rfl) ?_; refine kp H rfl fun a H => ?_
          refine pi_s1 rfl rfl rfl (H.ev rfl) ?_; refine kp H rfl fun a H => ?_
          refine pi_s1 rfl rfl rfl (H.ev rfl) ?_; refine kp H rfl fun a H => ?_
          refine pi_s1 rfl rfl rfl (H.ev rfl) ?_; refine kp H rfl fun a H => ?_
          refine pi_s1 rfl rfl rfl (H.ev rfl) ?_; refine kp H rfl fun a H => ?_
          refine pi_s1 rfl rfl rfl (H.ev rfl) ?_; refine kp H rfl fun a H => ?_
          refine pi_s1 rfl rfl rfl (H.ev rfl) ?_; refine kp H rfl fun a H => ?_
          refine pi_s1 rfl rfl rfl (H.ev rfl) ?_; refine kp H rfl fun a H => ?_
          refine pi_s1 rfl rfl rfl (H.ev rfl) ?_; refine kp H rfl fun a H => ?_
          refine pi_s1 rfl rfl rfl (H.ev rfl) ?_; refine kp H rfl fun a H => ?_
          refine pi_f0 _ rfl (fun w' hS' => r_pick_t (H.ev rfl) evc) ?_; refine kp H rfl fun a H => ?_
          refine pi_nil (NoPanic.normal ?_)
          have hall : Below w.heap.size w _ := hS
          clear hS
          refine c_next ?_
          refine c_cond_t H rfl ?_
          refine wp_seq ?_
          refine wp_region_lit ?_
          refine wl_v _ (r_assign evc) ?_; refine kl H rfl fun a H => ?_
          refine wpList_nil ?_
          refine c_next ?_
          refine wp_ret ?_
          refine r_block ?_
          refine r_then ?_
          refine r_then ?_
          refine r_block ?_
          refine r_block ?_
          refine r_then ?_
          refine r_then ?_
          refine r_block ?_
          refine r_then ?_
          exact k_ret1 H rfl rfl ⟨by rw [rr_no HX.out HY.out hlj (.inl hid)], hall⟩
        · skip
          cases hls : lessB x y
          · skip
            refine wp_seq ?_
            refine wp_seq ?_
            refine wp_region_lit ?_
            refine wl_v _ (r_move (H.ev rfl)) ?_; refine kl H rfl fun a H => ?_
            refine wl_v _ (r_move (H.ev rfl)) ?_; refine kl H rfl fun a H => ?_
            refine wl_v _ (r_lt Try.underlying3 (H.ev rfl) (H.ev rfl) (dec_t (by omega))) ?_; refine kl H rfl fun a H => ?_
            refine wpList_nil ?_
            refine c_next ?_
            refine c_cond_t H rfl ?_
            refine wp_skip ?_
            refine c_next ?_
            refine wp_seq ?_
            refine wp_block ?_
            refine wp_seq ?_
            have hS : BelowOf w _ := hall.drew
            refine region_pi (BelowOf w) [(0, true), (1, true), (2, true), (3, true), (4, true), (5, true), (6, true), (7, true), (8, true), (9, true), (10, true), (11, true), (12, true), (13, true), (14, true), (15, true), (16, true), (17, true), (18, true), (19, true), (20, false), (21, true), (22, true)] (by kernel_rfl) (by kernel_rfl) rfl (by kernel_rfl) hS ?_
            clear hall
            refine pi_f0 _ rfl (fun w' hS' => r_move (H.ev rfl)) ?_; refine kp H rfl fun a H => ?_
            refine pi_f0 _ rfl (fun w' hS' => r_move (H.ev rfl)) ?_; refine kp H rfl fun a H => ?_
            refine pi_f0 _ rfl (fun w' hS' => r_idx (j := j) (q := o + j * 2) Try.underlying22 s40 (H.ev rfl) (H.ev rfl) (by omega) rfl) ?_; refine kp H rfl fun a H => ?_
            refine pi_f0 _ rfl (fun w' hS' => r_fld (q := o + j * 2) fld40_0 (H.ev rfl) rfl) ?_; refine kp H rfl fun a H => ?_
            refine pi_f0 (.int .i64 x.1) rfl (fun w' hS' => r_ld Try.underlying3 rfl (H.ev rfl) (range_cell (range_ups HRX.out hS') 0 rfl)) ?_; refine kp H rfl fun a H => ?_
            refine pi_f0 _ rfl (fun w' hS' => r_move (H.ev rfl)) ?_; refine kp H rfl fun a H => ?_
            refine pi_f0 _ rfl (fun w' hS' => r_move (H.ev rfl)) ?_; refine kp H rfl fun a H => ?_
            refine pi_f0 _ rfl (fun w' hS' => r_idx (j := i) (q := o + i * 2) Try.underlying22 s40 (H.ev rfl) (H.ev rfl) (by omega) rfl) ?_; refine kp H rfl fun a H => ?_
            refine pi_f0 _ rfl (fun w' hS' => r_fld (q := o + i * 2) fld40_0 (H.ev rfl) rfl) ?_; refine kp H rfl fun a H => ?_
            refine pi_f0 (.int .i64 y.1) rfl (fun w' hS' => r_ld Try.underlying3 rfl (H.ev rfl) (range_cell (range_ups HRG.out hS') 0 rfl)) ?_; refine kp H rfl fun a H => ?_
            refine pi_f0 _ rfl (fun w' hS' => r_eq Try.underlying3 (H.ev rfl) (H.ev rfl) (dec_f (by omega))) ?_; refine kp H rfl fun a H => ?_
            refine pi_f0 _ rfl (fun w' hS' => r_move (H.ev rfl)) ?_; refine kp H rfl fun a H => ?_
            refine pi_f1 _ rfl rfl rfl (H.ev rfl) (fun w' hS' => r_move (H.ev rfl)) ?_; refine kp H rfl fun a H => ?_
            refine pi_f1 _ rfl rfl rfl (H.ev rfl) (fun w' hS' => r_move (H.ev rfl)) ?_; refine kp H rfl fun a H => ?_
            refine pi_f1 _ rfl rfl rfl (H.ev rfl) (fun w' hS' => r_idx (j := j) (q := o + j * 2) Try.underlying22 s40 (H.ev rfl) (H.ev rfl) (by omega) rfl) ?_; refine kp H rfl fun a H => ?_
            refine pi_f1 (.agg #[.int .i64 x.1, .int .i64 x.2]) rfl rfl rfl (H.ev rfl) (fun w' hS' => r_row (cs := [.int .i64 x.1, .int .i64 x.2]) (H.ev rfl) (range_ups HRX.out hS') (by kernel_rfl) s40 rfl) ?_; refine kp H rfl fun a H => ?_
            refine pi_f1 _ rfl rfl rfl (H.ev rfl) (fun w' hS' => r_move (H.ev rfl)) ?_; refine kp H rfl fun a H => ?_
            refine pi_f1 _ rfl rfl rfl (H.ev rfl) (fun w' hS' => r_move (H.ev rfl)) ?_; refine kp H rfl fun a H => ?_
            refine pi_f1 _ rfl rfl rfl (H.ev rfl) (fun w' hS' => r_idx (j := i) (q := o + i * 2) Try.underlying22 s40 (H.ev rfl) (H.ev rfl) (by omega) rfl) ?_; refine kp H rfl fun a H => ?_
            refine pi_f1 (.agg #[.int .i64 y.1, .int .i64 y.2]) rfl rfl rfl (H.ev rfl) (fun w' hS' => r_row (cs := [.int .i64 y.1, .int .i64 y.2]) (H.ev rfl) (range_ups HRG.out hS') (by kernel_rfl) s40 rfl) ?_; refine kp H rfl fun a H => ?_
            refine pi_a1 rfl rfl rfl (H.ev rfl) (fun K hK => ?_); refine wpo_call _ _ _ (less_any _ x y) (r_call2 cf23 (H.ev rfl) (H.ev rfl)) ?_; rintro e w9 ⟨rfl, hb9⟩; refine ⟨_, rfl, ?_⟩; rw [hls]; have hS0 : Below w.heap.size w _ := hS; replace hS := hS0.trans (hb9.mono hS0.size); clear hb9 hS0; refine hK _ _ ⟨hS, ?_⟩; clear hK; clear K; refine kp H rfl fun a H => ?_
            refine pi_f1 _ rfl rfl rfl (H.ev rfl) (fun w' hS' => r_not (H.ev rfl) rfl) ?_; refine kp H rfl fun a H => ?_
            refine pi_f0 _ rfl (fun w' hS' => r_pick_f (H.ev rfl) (H.ev rfl)) ?_; refine kp H rfl fun a H => ?_
            refine pi_nil (NoPanic.normal ?_)
            have hall : Below w.heap.size w _ := hS
            clear hS
            refine c_next ?_
            refine c_cond_t H rfl ?_
            refine wp_seq ?_
            refine wp_region_lit ?_
            refine wl_v _ (r_assign evc) ?_; refine kl H rfl fun a H => ?_
            refine wpList_nil ?_
            refine c_next ?_
            refine wp_ret ?_
            refine r_block ?_
            refine r_then ?_
            refine r_then ?_
            refine r_block ?_
            refine r_block ?_
            refine r_then ?_
            refine r_then ?_
            refine r_block ?_
            refine r_then ?_
            exact k_ret1 H rfl rfl ⟨by rw [rr_no HX.out HY.out hlj (.inr hls)], hall⟩
          · skip
            refine wp_seq ?_
            refine wp_seq ?_
            refine wp_region_lit ?_
            refine wl_v _ (r_move (H.ev rfl)) ?_; refine kl H rfl fun a H => ?_
            refine wl_v _ (r_move (H.ev rfl)) ?_; refine kl H rfl fun a H => ?_
            refine wl_v _ (r_lt Try.underlying3 (H.ev rfl) (H.ev rfl) (dec_t (by omega))) ?_; refine kl H rfl fun a H => ?_
            refine wpList_nil ?_
            refine c_next ?_
            refine c_cond_t H rfl ?_
            refine wp_skip ?_
            refine c_next ?_
            refine wp_seq ?_
            refine wp_block ?_
            refine wp_seq ?_
            have hS : BelowOf w _ := hall.drew
            refine region_pi (BelowOf w) [(0, true), (1, true), (2, true), (3, true), (4, true), (5, true), (6, true), (7, true), (8, true), (9, true), (10, true), (11, true), (12, true), (13, true), (14, true), (15, true), (16, true), (17, true), (18, true), (19, true), (20, false), (21, true), (22, true)] (by kernel_rfl) (by kernel_rfl) rfl (by kernel_rfl) hS ?_
            clear hall
            refine pi_f0 _ rfl (fun w' hS' => r_move (H.ev rfl)) ?_; refine kp H rfl fun a H => ?_
            refine pi_f0 _ rfl (fun w' hS' => r_move (H.ev rfl)) ?_; refine kp H rfl fun a H => ?_
            refine pi_f0 _ rfl (fun w' hS' => r_idx (j := j) (q := o + j * 2) Try.underlying22 s40 (H.ev rfl) (H.ev rfl) (by omega) rfl) ?_; refine kp H rfl fun a H => ?_
            refine pi_f0 _ rfl (fun w' hS' => r_fld (q := o + j * 2) fld40_0 (H.ev rfl) rfl) ?_; refine kp H rfl fun a H => ?_
            refine pi_f0 (.int .i64 x.1) rfl (fun w' hS' => r_ld Try.underlying3 rfl (H.ev rfl) (range_cell (range_ups HRX.out hS') 0 rfl)) ?_; refine kp H rfl fun a H => ?_
            refine pi_f0 _ rfl (fun w' hS' => r_move (H.ev rfl)) ?_; refine kp H rfl fun a H => ?_
            refine pi_f0 _ rfl (fun w' hS' => r_move (H.ev rfl)) ?_; refine kp H rfl fun a H => ?_
            refine pi_f0 _ rfl (fun w' hS' => r_idx (j := i) (q := o + i * 2) Try.underlying22 s40 (H.ev rfl) (H.ev rfl) (by omega) rfl) ?_; refine kp H rfl fun a H => ?_
            refine pi_f0 _ rfl (fun w' hS' => r_fld (q := o + i * 2) fld40_0 (H.ev rfl) rfl) ?_; refine kp H rfl fun a H => ?_
            refine pi_f0 (.int .i64 y.1) rfl (fun w' hS' => r_ld Try.underlying3 rfl (H.ev rfl) (range_cell (range_ups HRG.out hS') 0 rfl)) ?_; refine kp H rfl fun a H => ?_
            refine pi_f0 _ rfl (fun w' hS' => r_eq Try.underlying3 (H.ev rfl) (H.ev rfl) (dec_f (by omega))) ?_; refine kp H rfl fun a H => ?_
            refine pi_f0 _ rfl (fun w' hS' => r_move (H.ev rfl)) ?_; refine kp H rfl fun a H => ?_
            refine pi_f1 _ rfl rfl rfl (H.ev rfl) (fun w' hS' => r_move (H.ev rfl)) ?_; refine kp H rfl fun a H => ?_
            refine pi_f1 _ rfl rfl rfl (H.ev rfl) (fun w' hS' => r_move (H.ev rfl)) ?_; refine kp H rfl fun a H => ?_
            refine pi_f1 _ rfl rfl rfl (H.ev rfl) (fun w' hS' => r_idx (j := j) (q := o + j * 2) Try.underlying22 s40 (H.ev rfl) (H.ev rfl) (by omega) rfl) ?_; refine kp H rfl fun a H => ?_
            refine pi_f1 (.agg #[.int .i64 x.1, .int .i64 x.2]) rfl rfl rfl (H.ev rfl) (fun w' hS' => r_row (cs := [.int .i64 x.1, .int .i64 x.2]) (H.ev rfl) (range_ups HRX.out hS') (by kernel_rfl) s40 rfl) ?_; refine kp H rfl fun a H => ?_
            refine pi_f1 _ rfl rfl rfl (H.ev rfl) (fun w' hS' => r_move (H.ev rfl)) ?_; refine kp H rfl fun a H => ?_
            refine pi_f1 _ rfl rfl rfl (H.ev rfl) (fun w' hS' => r_move (H.ev rfl)) ?_; refine kp H rfl fun a H => ?_
            refine pi_f1 _ rfl rfl rfl (H.ev rfl) (fun w' hS' => r_idx (j := i) (q := o + i * 2) Try.underlying22 s40 (H.ev rfl) (H.ev rfl) (by omega) rfl) ?_; refine kp H rfl fun a H => ?_
            refine pi_f1 (.agg #[.int .i64 y.1, .int .i64 y.2]) rfl rfl rfl (H.ev rfl) (fun w' hS' => r_row (cs := [.int .i64 y.1, .int .i64 y.2]) (H.ev rfl) (range_ups HRG.out hS') (by kernel_rfl) s40 rfl) ?_; refine kp H rfl fun a H => ?_
            refine pi_a1 rfl rfl rfl (H.ev rfl) (fun K hK => ?_); refine wpo_call _ _ _ (less_any _ x y) (r_call2 cf23 (H.ev rfl) (H.ev rfl)) ?_; rintro e w9 ⟨rfl, hb9⟩; refine ⟨_, rfl, ?_⟩; rw [hls]; have hS0 : Below w.heap.size w _ := hS; replace hS := hS0.trans (hb9.mono hS0.size); clear hb9 hS0; refine hK _ _ ⟨hS, ?_⟩; clear hK; clear K; refine kp H rfl fun a H => ?_
            refine pi_f1 _ rfl rfl rfl (H.ev rfl) (fun w' hS' => r_not (H.ev rfl) rfl) ?_; refine kp H rfl fun a H => ?_
            refine pi_f0 _ rfl (fun w' hS' => r_pick_f (H.ev rfl) (H.ev rfl)) ?_; refine kp H rfl fun a H => ?_
            refine pi_nil (NoPanic.normal ?_)
            have hall : Below w.heap.size w _ := hS
            clear hS
            refine c_next ?_
            refine c_cond_f H rfl ?_
            refine wp_skip ?_
            refine n_block ?_
            refine c_next ?_
            refine wp_region_lit ?_
            refine wl_v _ (r_move (H.ev rfl)) ?_; refine kl H rfl fun a H => ?_
            refine wl_v _ (r_add (q := ((j + 1 : Nat) : Int)) Try.underlying3 (H.ev rfl) evc (by omega) (by omega)) ?_; refine kl H rfl fun a H => ?_
            refine wl_v _ (r_assign (H.ev rfl)) ?_; refine kl H rfl fun a H => ?_
            refine wpList_nil ?_
            refine n_then ⟨⟨j + 1, H.pick [0, 3, 4], by omega, rr_in hin HX.out hid hls, hall⟩, ?_⟩
            rw [H.ev (j := 4) rfl, H1.ev (j := 4) rfl]
            simp only [intOf]
            omega
      · skip
        obtain rfl : j = i := by omega
        clear H1
        refine wp_seq ?_
        refine wp_seq ?_
        refine wp_region_lit ?_
        refine wl_v _ (r_move (H.ev rfl)) ?_; refine kl H rfl fun a H => ?_
        refine wl_v _ (r_move (H.ev rfl)) ?_; refine kl H rfl fun a H => ?_
        refine wl_v _ (r_lt Try.underlying3 (H.ev rfl) (H.ev rfl) (dec_f (by omega))) ?_; refine kl H rfl fun a H => ?_
        refine wpList_nil ?_
        refine c_next ?_
        refine c_cond_f H rfl ?_
        refine wp_exit ?_
        refine e_then ?_
        refine e_then ?_
        refine e_here ?_
        refine n_block ?_
        refine c_next ?_
        refine wp_region_lit ?_
        refine wl_v _ (r_move (H.ev rfl)) ?_; refine kl H rfl fun a H => ?_
        refine wl_v _ (r_add (q := ((j + 1 : Nat) : Int)) Try.underlying3 (H.ev rfl) evc (by omega) (by omega)) ?_; refine kl H rfl fun a H => ?_
        refine wl_v _ (r_assign (H.ev rfl)) ?_; refine kl H rfl fun a H => ?_
        refine wpList_nil ?_
        refine n_then ⟨⟨j + 1, H.pick [0, 3], by omega, rr_next hok HY.out hin, hall⟩, ?_⟩
        rw [H.ev (j := 3) rfl, H0.ev (j := 3) rfl]
        simp only [intOf]
        omega
    · skip
      obtain rfl : i = L.length := by omega
      refine wp_seq ?_
      refine wp_seq ?_
      refine wp_region_lit ?_
      refine wl_v _ (r_move (H.ev rfl)) ?_; refine kl H rfl fun a H => ?_
      refine wl_v _ (r_move (H.ev rfl)) ?_; refine kl H rfl fun a H => ?_
      refine wl_v _ (r_len Try.underlying22 (H.ev rfl)) ?_; refine kl H rfl fun a H => ?_
      refine wl_v _ (r_lt Try.underlying3 (H.ev rfl) (H.ev rfl) (dec_f (by omega))) ?_; refine kl H rfl fun a H => ?_
      refine wpList_nil ?_
      refine c_next ?_
      refine c_cond_f H rfl ?_
      refine wp_exit ?_
      refine e_then ?_
      refine e_then ?_
      refine e_here ?_
      refine c_next ?_
      refine wp_seq ?_
      refine wp_region_lit ?_
      refine wl_v _ (r_assign evc) ?_; refine kl H rfl fun a H => ?_
      refine wpList_nil ?_
      refine c_next ?_
      refine wp_ret ?_
      exact k_ret1 H rfl rfl ⟨by rw [rr_yes hl hok], hall⟩
  · skip
    refine K_enter 42 Try.func9 rfl rfl fun a H => ?_
    replace H := H.pick [0]
    refine wp_seq ?_
    refine wp_region_lit ?_
    refine wl_v _ (r_assign evc) ?_; refine kl H rfl fun a H => ?_
    refine wpList_nil ?_
    refine c_next ?_
    refine wp_seq ?_
    refine wp_seq ?_
    refine wp_region_lit ?_
    refine wl_v _ (r_move (H.ev rfl)) ?_; refine kl H rfl fun a H => ?_
    refine wl_v _ (r_len Try.underlying22 (H.ev rfl)) ?_; refine kl H rfl fun a H => ?_
    refine wl_v _ (r_gt Try.underlying3 (H.ev rfl) evc (dec_t (by omega))) ?_; refine kl H rfl fun a H => ?_
    refine wpList_nil ?_
    refine c_next ?_
    refine c_cond_t H rfl ?_
    refine wp_seq ?_
    refine wp_region_lit ?_
    refine wl_v _ (r_assign evc) ?_; refine kl H rfl fun a H => ?_
    refine wpList_nil ?_
    refine c_next ?_
    refine wp_ret ?_
    refine r_then ?_
    exact k_ret1 H rfl rfl ⟨by rw [rr_long hl], hall⟩
end Go.Proofs.Ytndpbciefijjcaa
