/- Roster: loops over a row: many, full, State, Watchers, Targets. -/
import Derived.Test.YtfehhenbdiageaaUb
import Derived.Test.YtfehhenbdiageaaQ
namespace Go.Proofs.Ytfehhenbdiageaa
open Go.RowKit
set_option linter.unusedVariables false
set_option linter.unusedSimpArgs false

/-- how many of a watcher -/
def manyF (L : List Tm) (x : Int) : Nat := L.countP fun y => decide (y.1 = x)
def fullB (L : List Tm) (x : Int) : Bool := decide (8 ≤ manyF L x ∨ 64 ≤ L.length)
def keyB (x z : Int) (y : Tm) : Bool := decide (y.1 = x ∧ y.2.1 = z)
/-- how one stands to another -/
def stF (L : List Tm) (x z : Int) : Int := match L.find? (keyB x z) with | some y => y.2.2 | none => 0
def NoKey (L : List Tm) (x z : Int) (k : Nat) : Prop := ∀ j : Nat, j < k → ∀ y, L[j]? = some y → ¬ (y.1 = x ∧ y.2.1 = z)
section
variable {L : List Tm} {k : Nat} {y : Tm} {x z : Int}
theorem many_yes {m : Nat} (hy : L[k]? = some y) (h : y.1 = x) (hm : manyF (L.take k) x = m) : manyF (L.take (k + 1)) x = m + 1 := by
  obtain ⟨hk, e⟩ := List.getElem?_eq_some_iff.1 hy
  unfold manyF at hm ⊢
  rw [List.take_succ_eq_append_getElem hk, List.countP_append, hm, e]
  simp [h]
theorem many_no {m : Nat} (hy : L[k]? = some y) (h : ¬ y.1 = x) (hm : manyF (L.take k) x = m) : manyF (L.take (k + 1)) x = m := by
  obtain ⟨hk, e⟩ := List.getElem?_eq_some_iff.1 hy
  unfold manyF at hm ⊢
  rw [List.take_succ_eq_append_getElem hk, List.countP_append, hm, e]
  simp [h]
theorem nokey_next (h : NoKey L x z k) (hy : L[k]? = some y) (hn : ¬ (y.1 = x ∧ y.2.1 = z)) : NoKey L x z (k + 1) := by
  intro j hj u hu
  by_cases e : j = k
  · subst e
    rw [hy] at hu
    injection hu with hu
    rw [← hu]; exact hn
  · exact h j (by omega) u hu
theorem st_here (h : NoKey L x z k) (hy : L[k]? = some y) (he : y.1 = x ∧ y.2.1 = z) : stF L x z = y.2.2 := by
  have : L.find? (keyB x z) = some y := by
    obtain ⟨hk, e⟩ := List.getElem?_eq_some_iff.1 hy
    rw [List.find?_eq_some_iff_getElem]
    refine ⟨by simp [keyB, he], k, hk, e, fun j hj => ?_⟩
    have := h j hj _ (List.getElem?_eq_getElem (by omega))
    simp only [keyB, Bool.not_eq_eq_eq_not, Bool.not_true, decide_eq_false_iff_not]
    exact this
  unfold stF
  rw [this]
theorem st_none (h : NoKey L x z L.length) : stF L x z = 0 := by
  have : L.find? (keyB x z) = none := by
    rw [List.find?_eq_none]
    intro u hu
    obtain ⟨j, hj, rfl⟩ := List.mem_iff_getElem.1 hu
    have := h j hj _ (List.getElem?_eq_getElem hj)
    simp only [keyB, decide_eq_true_eq]
    exact this
  unfold stF
  rw [this]
end
/-- pieces of those that are asked for -/
def fmF (p : Tm → Bool) (q : Tm → Int) (L : List Tm) : List Int := (L.filter p).map q
abbrev watP (x : Int) (y : Tm) : Bool := decide (y.2.1 = x ∧ y.2.2 = 2)
abbrev tarP (x : Int) (y : Tm) : Bool := decide (y.1 = x ∧ y.2.2 = 2)
abbrev watF (L : List Tm) (x : Int) : List Int := fmF (watP x) (·.1) L
abbrev tarF (L : List Tm) (x : Int) : List Int := fmF (tarP x) (·.2.1) L
section
variable {p : Tm → Bool} {q : Tm → Int} {L : List Tm} {k : Nat} {y : Tm} {w : World} {base : Nat} {v : Value}
theorem fm_len (hk : k ≤ L.length) : (fmF p q (L.take k)).length ≤ k := by
  unfold fmF
  rw [List.length_map]
  exact Nat.le_trans (List.length_filter_le _ _) (by rw [List.length_take]; omega)
theorem fm_room (hk : k ≤ L.length) (hn : L.length ≤ 100000) : (fmF p q (L.take k)).length + 1 ≤ maxLen := by have := fm_len (p := p) (q := q) hk; unfold maxLen; omega
theorem fm_bytes (hk : k ≤ L.length) (hn : L.length ≤ 100000) : ((fmF p q (L.take k)).length + 1) * 8 ≤ 140737488355328 := by have := fm_len (p := p) (q := q) hk; omega
theorem iown_yes (hy : L[k]? = some y) (hp : p y = true) (h : w.ownsRow base 3 1 v ((fmF p q (L.take k)).length + 1) (FV enc1 (fmF p q (L.take k)) ++ FV enc1 [q y])) : IOwn w base v (fmF p q (L.take (k + 1))) := by
  obtain ⟨hk, e⟩ := List.getElem?_eq_some_iff.1 hy
  have e2 : fmF p q (L.take (k + 1)) = fmF p q (L.take k) ++ [q y] := by
    unfold fmF
    rw [List.take_succ_eq_append_getElem hk, List.filter_append, e]
    simp [hp]
  unfold IOwn
  rw [e2, List.length_append, FV_append]
  exact h
theorem iown_no (hy : L[k]? = some y) (hp : p y = false) (h : IOwn w base v (fmF p q (L.take k))) : IOwn w base v (fmF p q (L.take (k + 1))) := by
  obtain ⟨hk, e⟩ := List.getElem?_eq_some_iff.1 hy
  have e2 : fmF p q (L.take (k + 1)) = fmF p q (L.take k) := by
    unfold fmF
    rw [List.take_succ_eq_append_getElem hk, List.filter_append, e]
    simp [hp]
  rw [e2]; exact h
end
def MnI (W : World) (A : Option Addr) (c : Nat) (L : List Tm) (x : Int) (a : Act) (w : World) : Prop :=
  ∃ k m : Nat, Kn a 23 [(0, .slice A L.length c), (1, .int .i64 x), (5, .int .i64 (m : Nat)), (6, .int .i64 (k : Nat))] ∧ k ≤ L.length ∧ m ≤ k ∧ manyF (L.take k) x = m ∧ W = w
theorem many_any (w : World) (v : Value) (L : List Tm) (x : Int) (h : TRow w v L) (hn : L.length ≤ 9223372036854775807) :
    Calls Try.prog 28 #[v, .int .i64 x] w fun e w' => e = .returned (.int .i64 (manyF L x : Nat)) ∧ w = w' := by
  obtain ⟨A, c, rfl, h1, h2, h3, hh⟩ := h
  replace hh := Lib.hid hh
  refine K_enter 23 Try.func28 rfl rfl fun a H => ?_
  replace H := H.pick [0, 1]
  refine wp_seq ?_
  refine wp_region_lit ?_
  refine wl_v _ (r_assign evc) ?_; refine kl H rfl fun a H => ?_
  refine wpList_nil ?_
  refine c_next ?_
  refine wp_seq ?_
  refine wp_region_lit ?_
  refine wl_v _ (r_assign evc) ?_; refine kl H rfl fun a H => ?_
  refine wpList_nil ?_
  refine c_next ?_
  refine wp_seq ?_
  refine wp_seq ?_
  refine wp_region_lit ?_
  refine wl_v _ (r_assign evc) ?_; refine kl H rfl fun a H => ?_
  refine wpList_nil ?_
  refine c_next ?_
  refine wp_block ?_
  refine wp_loop (MnI w A c L x) (fun a _ => L.length - (intOf (a.eval (.tmp 6))).toNat) ⟨0, 0, H.pick [0, 1, 5, 6], by omega, by omega, rfl, rfl⟩ ?_
  clear H
  rintro a w' ⟨k, m, H, hk, hmk, hm, rfl⟩
  have H0 := H
  by_cases hlt : k < L.length
  · skip
    obtain ⟨b, o, hA, hr⟩ := flat_some encT_len hh.out (by omega) hlt
    subst hA
    have hy : L[k]? = some L[k] := List.getElem?_eq_getElem hlt
    have HY := Lib.hid hy
    have HRG := Lib.hid hr
    generalize L[k] = y at *
    clear hy hr
    refine wp_seq ?_
    refine wp_seq ?_
    refine wp_region_lit ?_
    refine wl_v _ (r_move (H.ev rfl)) ?_; refine kl H rfl fun a H => ?_
    refine wl_v _ (r_move (H.ev rfl)) ?_; refine kl H rfl fun a H => ?_
    refine wl_v _ (r_len Try.underlying22 (H.ev rfl)) ?_; refine kl H rfl fun a H => ?_
    refine wl_v _ (r_lt Try.underlying3 (H.ev rfl) (H.ev rfl) (dec_t (by omega))) ?_; refine kl H rfl fun a H => ?_
    refine wpList_nil ?_
    refine c_next ?_
    refine c_cond_t H rfl ?_
    refine wp_skip ?_
    refine c_next ?_
    refine wp_seq ?_
    refine wp_block ?_
    refine wp_seq ?_
    refine wp_region_lit ?_
    refine wl_v _ (r_move (H.ev rfl)) ?_; refine kl H rfl fun a H => ?_
    refine wl_v _ (r_move (H.ev rfl)) ?_; refine kl H rfl fun a H => ?_
    refine wl_v _ (r_idx (j := k) (q := o + k * 3) Try.underlying22 s37 (H.ev rfl) (H.ev rfl) (by omega) rfl) ?_; refine kl H rfl fun a H => ?_
    refine wl_v _ (r_fld (q := o + k * 3) fld37_0 (H.ev rfl) rfl) ?_; refine kl H rfl fun a H => ?_
    refine wl_v _ (r_ld Try.underlying3 rfl (H.ev rfl) (range_cell (HRG.out) 0 rfl)) ?_; refine kl H rfl fun a H => ?_
    refine wl_v _ (r_move (H.ev rfl)) ?_; refine kl H rfl fun a H => ?_
    by_cases c0 : y.1 = x
    · skip
      refine wl_v _ (r_eq Try.underlying3 (H.ev rfl) (H.ev rfl) (dec_t (c0))) ?_; refine kl H rfl fun a H => ?_
      refine wpList_nil ?_
      refine c_next ?_
      refine c_cond_t H rfl ?_
      refine wp_region_lit ?_
      refine wl_v _ (r_move (H.ev rfl)) ?_; refine kl H rfl fun a H => ?_
      refine wl_v _ (r_add (q := ((m + 1 : Nat) : Int)) Try.underlying3 (H.ev rfl) evc (by omega) (by omega)) ?_; refine kl H rfl fun a H => ?_
      refine wl_v _ (r_assign (H.ev rfl)) ?_; refine kl H rfl fun a H => ?_
      refine wpList_nil ?_
      refine n_block ?_
      refine c_next ?_
      refine wp_region_lit ?_
      refine wl_v _ (r_move (H.ev rfl)) ?_; refine kl H rfl fun a H => ?_
      refine wl_v _ (r_add (q := ((k + 1 : Nat) : Int)) Try.underlying3 (H.ev rfl) evc (by omega) (by omega)) ?_; refine kl H rfl fun a H => ?_
      refine wl_v _ (r_assign (H.ev rfl)) ?_; refine kl H rfl fun a H => ?_
      refine wpList_nil ?_
      refine n_then ⟨⟨k + 1, m + 1, H.pick [0, 1, 5, 6], by omega, by omega, many_yes HY.out c0 hm, rfl⟩, ?_⟩
      rw [H.ev (j := 6) rfl, H0.ev (j := 6) rfl]
      simp only [intOf]
      omega
    · skip
      refine wl_v _ (r_eq Try.underlying3 (H.ev rfl) (H.ev rfl) (dec_f (c0))) ?_; refine kl H rfl fun a H => ?_
      refine wpList_nil ?_
      refine c_next ?_
      refine c_cond_f H rfl ?_
      refine wp_skip ?_
      refine n_block ?_
      refine c_next ?_
      refine wp_region_lit ?_
      refine wl_v _ (r_move (H.ev rfl)) ?_; refine kl H rfl fun a H => ?_
      refine wl_v _ (r_add (q := ((k + 1 : Nat) : Int)) Try.underlying3 (H.ev rfl) evc (by omega) (by omega)) ?_; refine kl H rfl fun a H => ?_
      refine wl_v _ (r_assign (H.ev rfl)) ?_; refine kl H rfl fun a H => ?_
      refine wpList_nil ?_
      refine n_then ⟨⟨k + 1, m, H.pick [0, 1, 5, 6], by omega, by omega, many_no HY.out c0 hm, rfl⟩, ?_⟩
      rw [H.ev (j := 6) rfl, H0.ev (j := 6) rfl]
      simp only [intOf]
      omega
  · skip
    obtain rfl : k = L.length := by omega
    refine wp_seq ?_
    refine wp_seq ?_
    refine wp_region_lit ?_
    refine wl_v _ (r_move (H.ev rfl)) ?_; refine kl H rfl fun a H => ?_
    refine wl_v _ (r_move (H.ev rfl)) ?_; refine kl H rfl fun a H => ?_
    refine wl_v _ (r_len Try.underlying22 (H.ev rfl)) ?_; refine kl H rfl fun a H => ?_
    refine wl_v _ (r_lt Try.underlying3 (H.ev rfl) (H.ev rfl) (dec_f (by omega))) ?_; refine kl H rfl fun a H => ?_
    refine wpList_nil ?_
    refine c_next ?_
    refine c_cond_f H rfl ?_
    refine wp_exit ?_
    refine e_then ?_
    refine e_then ?_
    refine e_here ?_
    refine c_next ?_
    refine wp_seq ?_
    refine wp_region_lit ?_
    refine wl_v _ (r_move (H.ev rfl)) ?_; refine kl H rfl fun a H => ?_
    refine wl_v _ (r_assign (H.ev rfl)) ?_; refine kl H rfl fun a H => ?_
    refine wpList_nil ?_
    refine c_next ?_
    refine wp_ret ?_
    exact k_ret1 H rfl rfl ⟨by rw [← hm, List.take_length], rfl⟩
def FuI (W : World) (A : Option Addr) (c : Nat) (L : List Tm) (x : Int) (a : Act) (w : World) : Prop :=
  ∃ k m : Nat, Kn a 28 [(0, .slice A L.length c), (1, .int .i64 x), (5, .int .i64 (m : Nat)), (8, .slice A L.length c), (9, .int .i64 (L.length : Nat)), (10, .int .i64 (k : Nat))] ∧ k ≤ L.length ∧ m ≤ k ∧ manyF (L.take k) x = m ∧ Below W.heap.size W w
theorem full_any (w : World) (v : Value) (L : List Tm) (x : Int) (h : TRow w v L) (hn : L.length ≤ 9223372036854775807) :
    Calls Try.prog 33 #[v, .int .i64 x] w fun e w' => e = .returned (.bool (fullB L x)) ∧ Below w.heap.size w w' := by
  obtain ⟨A, c, rfl, h1, h2, h3, hh⟩ := h
  replace hh := Lib.hid hh
  have hall := Below.refl w.heap.size w
  refine K_enter 28 Try.func33 rfl rfl fun a H => ?_
  replace H := H.pick [0, 1]
  refine wp_seq ?_
  refine wp_region_lit ?_
  refine wl_v _ (r_assign evc) ?_; refine kl H rfl fun a H => ?_
  refine wpList_nil ?_
  refine c_next ?_
  refine wp_seq ?_
  refine wp_region_lit ?_
  refine wl_v _ (r_assign evc) ?_; refine kl H rfl fun a H => ?_
  refine wpList_nil ?_
  refine c_next ?_
  refine wp_seq ?_
  refine wp_seq ?_
  refine wp_region_lit ?_
  refine wl_v _ (r_move (H.ev rfl)) ?_; refine kl H rfl fun a H => ?_
  refine wl_v _ (r_len Try.underlying22 (H.ev rfl)) ?_; refine kl H rfl fun a H => ?_
  refine wl_v _ (r_move evc) ?_; refine kl H rfl fun a H => ?_
  refine wpList_nil ?_
  refine c_next ?_
  refine wp_block ?_
  refine wp_loop (FuI w A c L x) (fun a _ => L.length - (intOf (a.eval (.tmp 10))).toNat) ⟨0, 0, H.pick [0, 1, 5, 8, 9, 10], by omega, by omega, rfl, hall⟩ ?_
  clear H hall
  rintro a w' ⟨k, m, H, hk, hmk, hm, hall⟩
  have H0 := H
  by_cases hlt : k < L.length
  · skip
    obtain ⟨b, o, hA, hr⟩ := flat_some encT_len hh.out (by omega) hlt
    subst hA
    have hy : L[k]? = some L[k] := List.getElem?_eq_getElem hlt
    have HY := Lib.hid hy
    have HRG := Lib.hid hr
    generalize L[k] = y at *
    clear hy hr
    refine wp_seq ?_
    refine wp_region_lit ?_
    refine wl_v _ (r_lt Try.underlying3 (H.ev rfl) (H.ev rfl) (dec_t (by omega))) ?_; refine kl H rfl fun a H => ?_
    refine wpList_nil ?_
    refine c_next ?_
    refine wp_seq ?_
    refine c_cond_t H rfl ?_
    refine wp_skip ?_
    refine c_next ?_
    refine wp_seq ?_
    refine wp_block ?_
    refine wp_seq ?_
    refine wp_region_lit ?_
    refine wl_v _ (r_idx (j := k) (q := o + k * 3) Try.underlying22 s37 (H.ev rfl) (H.ev rfl) (by omega) rfl) ?_; refine kl H rfl fun a H => ?_
    refine wl_v _ (r_row (cs := [.int .i64 y.1, .int .i64 y.2.1, .int .i64 y.2.2]) (H.ev rfl) (range_ups HRG.out hall) (by kernel_rfl) s37 rfl) ?_; refine kl H rfl fun a H => ?_
    refine op_new 37 7 (.tmp 13) #[.int .i64 y.1, .int .i64 y.2.1, .int .i64 y.2.2] _ z37 s37 rfl (ints_one [y.1, y.2.1, y.2.2]) (fun p => (H.put 7 p rfl).ev rfl) (fun p => (H.put 7 p rfl).ev rfl) fun w0 b0 hge hb k0 => ?_; have g0 := Nat.le_trans hall.size hge; replace hall := hall.trans (hb.mono hall.size); clear hb; clear hge; refine kl H rfl fun a H => ?_
    refine wpList_nil ?_
    refine c_next ?_
    refine wp_seq ?_
    refine wp_region_lit ?_
    refine wl_v _ (r_fld (q := 0) fld37_0 (H.ev rfl) rfl) ?_; refine kl H rfl fun a H => ?_
    refine wl_v _ (r_ld Try.underlying3 rfl (H.ev rfl) ((Block.cell k0 0).trans rfl)) ?_; refine kl H rfl fun a H => ?_
    refine wl_v _ (r_move (H.ev rfl)) ?_; refine kl H rfl fun a H => ?_
    by_cases c0 : y.1 = x
    · skip
      refine wl_v _ (r_eq Try.underlying3 (H.ev rfl) (H.ev rfl) (dec_t (c0))) ?_; refine kl H rfl fun a H => ?_
      refine wpList_nil ?_
      refine c_next ?_
      refine c_cond_t H rfl ?_
      refine wp_region_lit ?_
      refine wl_v _ (r_move (H.ev rfl)) ?_; refine kl H rfl fun a H => ?_
      refine wl_v _ (r_add (q := ((m + 1 : Nat) : Int)) Try.underlying3 (H.ev rfl) evc (by omega) (by omega)) ?_; refine kl H rfl fun a H => ?_
      refine wl_v _ (r_assign (H.ev rfl)) ?_; refine kl H rfl fun a H => ?_
      refine wpList_nil ?_
      refine n_block ?_
      refine c_next ?_
      refine wp_region_lit ?_
      refine wl_v _ (r_add (q := ((k + 1 : Nat) : Int)) Try.underlying3 (H.ev rfl) evc (by omega) (by omega)) ?_; refine kl H rfl fun a H => ?_
      refine wl_v _ (r_move (H.ev rfl)) ?_; refine kl H rfl fun a H => ?_
      refine wpList_nil ?_
      refine n_then ⟨⟨k + 1, m + 1, H.pick [0, 1, 5, 8, 9, 10], by omega, by omega, many_yes HY.out c0 hm, hall⟩, ?_⟩
      rw [H.ev (j := 10) rfl, H0.ev (j := 10) rfl]
      simp only [intOf]
      omega
    · skip
      refine wl_v _ (r_eq Try.underlying3 (H.ev rfl) (H.ev rfl) (dec_f (c0))) ?_; refine kl H rfl fun a H => ?_
      refine wpList_nil ?_
      refine c_next ?_
      refine c_cond_f H rfl ?_
      refine wp_skip ?_
      refine n_block ?_
      refine c_next ?_
      refine wp_region_lit ?_
      refine wl_v _ (r_add (q := ((k + 1 : Nat) : Int)) Try.underlying3 (H.ev rfl) evc (by omega) (by omega)) ?_; refine kl H rfl fun a H => ?_
      refine wl_v _ (r_move (H.ev rfl)) ?_; refine kl H rfl fun a H => ?_
      refine wpList_nil ?_
      refine n_then ⟨⟨k + 1, m, H.pick [0, 1, 5, 8, 9, 10], by omega, by omega, many_no HY.out c0 hm, hall⟩, ?_⟩
      rw [H.ev (j := 10) rfl, H0.ev (j := 10) rfl]
      simp only [intOf]
      omega
  · skip
    obtain rfl : k = L.length := by omega
    rw [List.take_length] at hm
    have HM := Lib.hid hm
    clear hm
    refine wp_seq ?_
    refine wp_region_lit ?_
    refine wl_v _ (r_lt Try.underlying3 (H.ev rfl) (H.ev rfl) (dec_f (by omega))) ?_; refine kl H rfl fun a H => ?_
    refine wpList_nil ?_
    refine c_next ?_
    refine wp_seq ?_
    refine c_cond_f H rfl ?_
    refine wp_exit ?_
    refine e_then ?_
    refine e_then ?_
    refine e_here ?_
    refine c_next ?_
    refine wp_seq ?_
    refine wp_region_lit ?_
    refine wl_v _ (r_move (H.ev rfl)) ?_; refine kl H rfl fun a H => ?_
    by_cases c1 : ((m : Nat) : Int) ≥ 8
    · skip
      refine wl_v _ (r_ge Try.underlying3 (H.ev rfl) evc (dec_t (c1))) ?_; refine kl H rfl fun a H => ?_
      refine wl_v _ (r_move (H.ev rfl)) ?_; refine kl H rfl fun a H => ?_
      refine wl_s (kg_no rfl H rfl rfl rfl) ?_; refine kl H rfl fun a H => ?_
      refine wl_s (kg_no rfl H rfl rfl rfl) ?_; refine kl H rfl fun a H => ?_
      refine wl_s (kg_no rfl H rfl rfl rfl) ?_; refine kl H rfl fun a H => ?_
      refine wl_v _ (r_pick_t (H.ev rfl) evc) ?_; refine kl H rfl fun a H => ?_
      refine wl_v _ (r_assign (H.ev rfl)) ?_; refine kl H rfl fun a H => ?_
      refine wpList_nil ?_
      refine c_next ?_
      refine wp_ret ?_
      exact k_ret1 H rfl rfl ⟨by rw [show fullB L x = true from dec_t (by rw [HM.out]; omega)], hall⟩
    · skip
      refine wl_v _ (r_ge Try.underlying3 (H.ev rfl) evc (dec_f (c1))) ?_; refine kl H rfl fun a H => ?_
      refine wl_v _ (r_move (H.ev rfl)) ?_; refine kl H rfl fun a H => ?_
      refine op_unguard _ _ (kg_yes rfl H rfl rfl rfl) ?_; refine wl_v _ (r_move (H.ev rfl)) ?_; refine kl H rfl fun a H => ?_
      refine op_unguard _ _ (kg_yes rfl H rfl rfl rfl) ?_; refine wl_v _ (r_len Try.underlying22 (H.ev rfl)) ?_; refine kl H rfl fun a H => ?_
      by_cases c2 : ((L.length : Nat) : Int) ≥ 64
      · skip
        refine op_unguard _ _ (kg_yes rfl H rfl rfl rfl) ?_; refine wl_v _ (r_ge Try.underlying3 (H.ev rfl) evc (dec_t (c2))) ?_; refine kl H rfl fun a H => ?_
        refine wl_v _ (r_pick_f (H.ev rfl) (H.ev rfl)) ?_; refine kl H rfl fun a H => ?_
        refine wl_v _ (r_assign (H.ev rfl)) ?_; refine kl H rfl fun a H => ?_
        refine wpList_nil ?_
        refine c_next ?_
        refine wp_ret ?_
        exact k_ret1 H rfl rfl ⟨by rw [show fullB L x = true from dec_t (by rw [HM.out]; omega)], hall⟩
      · skip
        refine op_unguard _ _ (kg_yes rfl H rfl rfl rfl) ?_; refine wl_v _ (r_ge Try.underlying3 (H.ev rfl) evc (dec_f (c2))) ?_; refine kl H rfl fun a H => ?_
        refine wl_v _ (r_pick_f (H.ev rfl) (H.ev rfl)) ?_; refine kl H rfl fun a H => ?_
        refine wl_v _ (r_assign (H.ev rfl)) ?_; refine kl H rfl fun a H => ?_
        refine wpList_nil ?_
        refine c_next ?_
        refine wp_ret ?_
        exact k_ret1 H rfl rfl ⟨by rw [show fullB L x = false from dec_f (by rw [HM.out]; omega)], hall⟩
def StI (W : World) (A : Option Addr) (c : Nat) (L : List Tm) (x z : Int) (a : Act) (w : World) : Prop :=
  ∃ k : Nat, Kn a 35 [(0, .slice A L.length c), (1, .int .i64 x), (2, .int .i64 z), (7, .int .i64 (k : Nat))] ∧ k ≤ L.length ∧ NoKey L x z k ∧ W = w
theorem rstate_any (w : World) (v : Value) (L : List Tm) (x z : Int) (h : TRow w v L) (hn : L.length ≤ 9223372036854775807) :
    Calls Try.prog 17 #[v, .int .i64 x, .int .i64 z] w fun e w' => e = .returned (.int .i64 (stF L x z)) ∧ w = w' := by
  obtain ⟨A, c, rfl, h1, h2, h3, hh⟩ := h
  replace hh := Lib.hid hh
  refine K_enter 35 Try.func17 rfl rfl fun a H => ?_
  replace H := H.pick [0, 1, 2]
  refine wp_seq ?_
  refine wp_region_lit ?_
  refine wl_v _ (r_assign evc) ?_; refine kl H rfl fun a H => ?_
  refine wpList_nil ?_
  refine c_next ?_
  refine wp_seq ?_
  refine wp_seq ?_
  refine wp_region_lit ?_
  refine wl_v _ (r_assign evc) ?_; refine kl H rfl fun a H => ?_
  refine wpList_nil ?_
  refine c_next ?_
  refine wp_block ?_
  refine wp_loop (StI w A c L x z) (fun a _ => L.length - (intOf (a.eval (.tmp 7))).toNat) ⟨0, H.pick [0, 1, 2, 7], by omega, fun j hj => by omega, rfl⟩ ?_
  clear H
  rintro a w' ⟨k, H, hk, hno, rfl⟩
  have H0 := H
  by_cases hlt : k < L.length
  · skip
    obtain ⟨b, o, hA, hr⟩ := flat_some encT_len hh.out (by omega) hlt
    subst hA
    have hy : L[k]? = some L[k] := List.getElem?_eq_getElem hlt
    have HY := Lib.hid hy
    have HRG := Lib.hid hr
    generalize L[k] = y at *
    clear hy hr
    refine wp_seq ?_
    refine wp_seq ?_
    refine wp_region_lit ?_
    refine wl_v _ (r_move (H.ev rfl)) ?_; refine kl H rfl fun a H => ?_
    refine wl_v _ (r_move (H.ev rfl)) ?_; refine kl H rfl fun a H => ?_
    refine wl_v _ (r_len Try.underlying22 (H.ev rfl)) ?_; refine kl H rfl fun a H => ?_
    refine wl_v _ (r_lt Try.underlying3 (H.ev rfl) (H.ev rfl) (dec_t (by omega))) ?_; refine kl H rfl fun a H => ?_
    refine wpList_nil ?_
    refine c_next ?_
    refine c_cond_t H rfl ?_
    refine wp_skip ?_
    refine c_next ?_
    refine wp_seq ?_
    refine wp_block ?_
    refine wp_seq ?_
    refine wp_region_lit ?_
    refine wl_v _ (r_move (H.ev rfl)) ?_; refine kl H rfl fun a H => ?_
    refine wl_v _ (r_move (H.ev rfl)) ?_; refine kl H rfl fun a H => ?_
    refine wl_v _ (r_idx (j := k) (q := o + k * 3) Try.underlying22 s37 (H.ev rfl) (H.ev rfl) (by omega) rfl) ?_; refine kl H rfl fun a H => ?_
    refine wl_v _ (r_fld (q := o + k * 3) fld37_0 (H.ev rfl) rfl) ?_; refine kl H rfl fun a H => ?_
    refine wl_v _ (r_ld Try.underlying3 rfl (H.ev rfl) (range_cell (HRG.out) 0 rfl)) ?_; refine kl H rfl fun a H => ?_
    refine wl_v _ (r_move (H.ev rfl)) ?_; refine kl H rfl fun a H => ?_
    by_cases c0 : y.1 = x
    · skip
      refine wl_v _ (r_eq Try.underlying3 (H.ev rfl) (H.ev rfl) (dec_t (c0))) ?_; refine kl H rfl fun a H => ?_
      refine wl_v _ (r_move (H.ev rfl)) ?_; refine kl H rfl fun a H => ?_
      refine op_unguard _ _ (kg_yes rfl H rfl rfl rfl) ?_; refine wl_v _ (r_move (H.ev rfl)) ?_; refine kl H rfl fun a H => ?_
      refine op_unguard _ _ (kg_yes rfl H rfl rfl rfl) ?_; refine wl_v _ (r_move (H.ev rfl)) ?_; refine kl H rfl fun a H => ?_
      refine op_unguard _ _ (kg_yes rfl H rfl rfl rfl) ?_; refine wl_v _ (r_idx (j := k) (q := o + k * 3) Try.underlying22 s37 (H.ev rfl) (H.ev rfl) (by omega) rfl) ?_; refine kl H rfl fun a H => ?_
      refine op_unguard _ _ (kg_yes rfl H rfl rfl rfl) ?_; refine wl_v _ (r_fld (q := o + k * 3 + 1) fld37_1 (H.ev rfl) rfl) ?_; refine kl H rfl fun a H => ?_
      refine op_unguard _ _ (kg_yes rfl H rfl rfl rfl) ?_; refine wl_v _ (r_ld Try.underlying3 rfl (H.ev rfl) (range_cell (HRG.out) 1 rfl)) ?_; refine kl H rfl fun a H => ?_
      refine op_unguard _ _ (kg_yes rfl H rfl rfl rfl) ?_; refine wl_v _ (r_move (H.ev rfl)) ?_; refine kl H rfl fun a H => ?_
      by_cases c1 : y.2.1 = z
      · skip
        refine op_unguard _ _ (kg_yes rfl H rfl rfl rfl) ?_; refine wl_v _ (r_eq Try.underlying3 (H.ev rfl) (H.ev rfl) (dec_t (c1))) ?_; refine kl H rfl fun a H => ?_
        refine wl_v _ (r_pick_t (H.ev rfl) (H.ev rfl)) ?_; refine kl H rfl fun a H => ?_
        refine wpList_nil ?_
        refine c_next ?_
        refine c_cond_t H rfl ?_
        refine wp_seq ?_
        refine wp_region_lit ?_
        refine wl_v _ (r_move (H.ev rfl)) ?_; refine kl H rfl fun a H => ?_
        refine wl_v _ (r_move (H.ev rfl)) ?_; refine kl H rfl fun a H => ?_
        refine wl_v _ (r_idx (j := k) (q := o + k * 3) Try.underlying22 s37 (H.ev rfl) (H.ev rfl) (by omega) rfl) ?_; refine kl H rfl fun a H => ?_
        refine wl_v _ (r_fld (q := o + k * 3 + 2) fld37_2 (H.ev rfl) rfl) ?_; refine kl H rfl fun a H => ?_
        refine wl_v _ (r_ld Try.underlying3 rfl (H.ev rfl) (range_cell (HRG.out) 2 rfl)) ?_; refine kl H rfl fun a H => ?_
        refine wl_v _ (r_assign (H.ev rfl)) ?_; refine kl H rfl fun a H => ?_
        refine wpList_nil ?_
        refine c_next ?_
        refine wp_ret ?_
        refine r_block ?_
        refine r_then ?_
        refine r_then ?_
        refine r_block ?_
        refine r_then ?_
        exact k_ret1 H rfl rfl ⟨by rw [st_here hno HY.out (by omega)], rfl⟩
      · skip
        refine op_unguard _ _ (kg_yes rfl H rfl rfl rfl) ?_; refine wl_v _ (r_eq Try.underlying3 (H.ev rfl) (H.ev rfl) (dec_f (c1))) ?_; refine kl H rfl fun a H => ?_
        refine wl_v _ (r_pick_t (H.ev rfl) (H.ev rfl)) ?_; refine kl H rfl fun a H => ?_
        refine wpList_nil ?_
        refine c_next ?_
        refine c_cond_f H rfl ?_
        refine wp_skip ?_
        refine n_block ?_
        refine c_next ?_
        refine wp_region_lit ?_
        refine wl_v _ (r_move (H.ev rfl)) ?_; refine kl H rfl fun a H => ?_
        refine wl_v _ (r_add (q := ((k + 1 : Nat) : Int)) Try.underlying3 (H.ev rfl) evc (by omega) (by omega)) ?_; refine kl H rfl fun a H => ?_
        refine wl_v _ (r_assign (H.ev rfl)) ?_; refine kl H rfl fun a H => ?_
        refine wpList_nil ?_
        refine n_then ⟨⟨k + 1, H.pick [0, 1, 2, 7], by omega, nokey_next hno HY.out (by omega), rfl⟩, ?_⟩
        rw [H.ev (j := 7) rfl, H0.ev (j := 7) rfl]
        simp only [intOf]
        omega
    · skip
      refine wl_v _ (r_eq Try.underlying3 (H.ev rfl) (H.ev rfl) (dec_f (c0))) ?_; refine kl H rfl fun a H => ?_
      refine wl_v _ (r_move (H.ev rfl)) ?_; refine kl H rfl fun a H => ?_
      refine wl_s (kg_no rfl H rfl rfl rfl) ?_; refine kl H rfl fun a H => ?_
      refine wl_s (kg_no rfl H rfl rfl rfl) ?_; refine kl H rfl fun a H => ?_
      refine wl_s (kg_no rfl H rfl rfl rfl) ?_; refine kl H rfl fun a H => ?_
      refine wl_s (kg_no rfl H rfl rfl rfl) ?_; refine kl H rfl fun a H => ?_
      refine wl_s (kg_no rfl H rfl rfl rfl) ?_; refine kl H rfl fun a H => ?_
      refine wl_s (kg_no rfl H rfl rfl rfl) ?_; refine kl H rfl fun a H => ?_
      refine wl_s (kg_no rfl H rfl rfl rfl) ?_; refine kl H rfl fun a H => ?_
      refine wl_v _ (r_pick_f (H.ev rfl) evc) ?_; refine kl H rfl fun a H => ?_
      refine wpList_nil ?_
      refine c_next ?_
      refine c_cond_f H rfl ?_
      refine wp_skip ?_
      refine n_block ?_
      refine c_next ?_
      refine wp_region_lit ?_
      refine wl_v _ (r_move (H.ev rfl)) ?_; refine kl H rfl fun a H => ?_
      refine wl_v _ (r_add (q := ((k + 1 : Nat) : Int)) Try.underlying3 (H.ev rfl) evc (by omega) (by omega)) ?_; refine kl H rfl fun a H => ?_
      refine wl_v _ (r_assign (H.ev rfl)) ?_; refine kl H rfl fun a H => ?_
      refine wpList_nil ?_
      refine n_then ⟨⟨k + 1, H.pick [0, 1, 2, 7], by omega, nokey_next hno HY.out (by omega), rfl⟩, ?_⟩
      rw [H.ev (j := 7) rfl, H0.ev (j := 7) rfl]
      simp only [intOf]
      omega
  · skip
    obtain rfl : k = L.length := by omega
    refine wp_seq ?_
    refine wp_seq ?_
    refine wp_region_lit ?_
    refine wl_v _ (r_move (H.ev rfl)) ?_; refine kl H rfl fun a H => ?_
    refine wl_v _ (r_move (H.ev rfl)) ?_; refine kl H rfl fun a H => ?_
    refine wl_v _ (r_len Try.underlying22 (H.ev rfl)) ?_; refine kl H rfl fun a H => ?_
    refine wl_v _ (r_lt Try.underlying3 (H.ev rfl) (H.ev rfl) (dec_f (by omega))) ?_; refine kl H rfl fun a H => ?_
    refine wpList_nil ?_
    refine c_next ?_
    refine c_cond_f H rfl ?_
    refine wp_exit ?_
    refine e_then ?_
    refine e_then ?_
    refine e_here ?_
    refine c_next ?_
    refine wp_seq ?_
    refine wp_region_lit ?_
    refine wl_v _ (r_assign evc) ?_; refine kl H rfl fun a H => ?_
    refine wpList_nil ?_
    refine c_next ?_
    refine wp_ret ?_
    exact k_ret1 H rfl rfl ⟨by rw [st_none hno], rfl⟩
def WaI (W : World) (A : Option Addr) (c : Nat) (L : List Tm) (x : Int) (a : Act) (w : World) : Prop :=
  ∃ (k : Nat) (v5 : Value), Kn a 37 [(0, .slice A L.length c), (1, .int .i64 x), (5, v5), (6, .int .i64 (k : Nat))] ∧ k ≤ L.length ∧ IOwn w W.heap.size v5 (watF (L.take k) x) ∧ Below W.heap.size W w
theorem rwat_any (w : World) (v : Value) (L : List Tm) (x : Int) (h : TRow w v L) (hn : L.length ≤ 100000) :
    Calls Try.prog 20 #[v, .int .i64 x] w fun e w' => (∃ v', e = .returned v' ∧ IOwn w' w.heap.size v' (watF L x)) ∧ Below w.heap.size w w' := by
  obtain ⟨A, c, rfl, h1, h2, h3, hh⟩ := h
  replace hh := Lib.hid hh
  have hall := Below.refl w.heap.size w
  refine K_enter 37 Try.func20 rfl rfl fun a H => ?_
  replace H := H.pick [0, 1]
  refine wp_seq ?_
  refine wp_region_lit ?_
  refine wl_v _ (r_assign evc) ?_; refine kl H rfl fun a H => ?_
  refine wpList_nil ?_
  refine c_next ?_
  refine wp_seq ?_
  refine wp_region_lit ?_
  refine wl_v _ (r_assign evc) ?_; refine kl H rfl fun a H => ?_
  refine wpList_nil ?_
  refine c_next ?_
  refine wp_seq ?_
  refine wp_seq ?_
  refine wp_region_lit ?_
  refine wl_v _ (r_assign evc) ?_; refine kl H rfl fun a H => ?_
  refine wpList_nil ?_
  refine c_next ?_
  refine wp_block ?_
  refine wp_loop (WaI w A c L x) (fun a _ => L.length - (intOf (a.eval (.tmp 6))).toNat) ⟨0, _, H.pick [0, 1, 5, 6], by omega, World.ownsRow_nil _ _ _ _, hall⟩ ?_
  clear H hall
  rintro a w' ⟨k, v5, H, hk, hown, hall⟩
  have H0 := H
  by_cases hlt : k < L.length
  · skip
    obtain ⟨b, o, hA, hr⟩ := flat_some encT_len hh.out (by omega) hlt
    subst hA
    have hy : L[k]? = some L[k] := List.getElem?_eq_getElem hlt
    have HY := Lib.hid hy
    have HRG := Lib.hid hr
    generalize L[k] = y at *
    clear hy hr
    refine wp_seq ?_
    refine wp_seq ?_
    refine wp_region_lit ?_
    refine wl_v _ (r_move (H.ev rfl)) ?_; refine kl H rfl fun a H => ?_
    refine wl_v _ (r_move (H.ev rfl)) ?_; refine kl H rfl fun a H => ?_
    refine wl_v _ (r_len Try.underlying22 (H.ev rfl)) ?_; refine kl H rfl fun a H => ?_
    refine wl_v _ (r_lt Try.underlying3 (H.ev rfl) (H.ev rfl) (dec_t (by omega))) ?_; refine kl H rfl fun a H => ?_
    refine wpList_nil ?_
    refine c_next ?_
    refine c_cond_t H rfl ?_
    refine wp_skip ?_
    refine c_next ?_
    refine wp_seq ?_
    refine wp_block ?_
    refine wp_seq ?_
    refine wp_region_lit ?_
    refine wl_v _ (r_move (H.ev rfl)) ?_; refine kl H rfl fun a H => ?_
    refine wl_v _ (r_move (H.ev rfl)) ?_; refine kl H rfl fun a H => ?_
    refine wl_v _ (r_idx (j := k) (q := o + k * 3) Try.underlying22 s37 (H.ev rfl) (H.ev rfl) (by omega) rfl) ?_; refine kl H rfl fun a H => ?_
    refine wl_v _ (r_fld (q := o + k * 3 + 1) fld37_1 (H.ev rfl) rfl) ?_; refine kl H rfl fun a H => ?_
    refine wl_v _ (r_ld Try.underlying3 rfl (H.ev rfl) (range_cell (range_ups HRG.out hall) 1 rfl)) ?_; refine kl H rfl fun a H => ?_
    refine wl_v _ (r_move (H.ev rfl)) ?_; refine kl H rfl fun a H => ?_
    by_cases c0 : y.2.1 = x
    · skip
      refine wl_v _ (r_eq Try.underlying3 (H.ev rfl) (H.ev rfl) (dec_t (c0))) ?_; refine kl H rfl fun a H => ?_
      refine wl_v _ (r_move (H.ev rfl)) ?_; refine kl H rfl fun a H => ?_
      refine op_unguard _ _ (kg_yes rfl H rfl rfl rfl) ?_; refine wl_v _ (r_move (H.ev rfl)) ?_; refine kl H rfl fun a H => ?_
      refine op_unguard _ _ (kg_yes rfl H rfl rfl rfl) ?_; refine wl_v _ (r_move (H.ev rfl)) ?_; refine kl H rfl fun a H => ?_
      refine op_unguard _ _ (kg_yes rfl H rfl rfl rfl) ?_; refine wl_v _ (r_idx (j := k) (q := o + k * 3) Try.underlying22 s37 (H.ev rfl) (H.ev rfl) (by omega) rfl) ?_; refine kl H rfl fun a H => ?_
      refine op_unguard _ _ (kg_yes rfl H rfl rfl rfl) ?_; refine wl_v _ (r_fld (q := o + k * 3 + 2) fld37_2 (H.ev rfl) rfl) ?_; refine kl H rfl fun a H => ?_
      refine op_unguard _ _ (kg_yes rfl H rfl rfl rfl) ?_; refine wl_v _ (r_ld Try.underlying3 rfl (H.ev rfl) (range_cell (range_ups HRG.out hall) 2 rfl)) ?_; refine kl H rfl fun a H => ?_
      by_cases c1 : y.2.2 = 2
      · skip
        refine op_unguard _ _ (kg_yes rfl H rfl rfl rfl) ?_; refine wl_v _ (r_eq Try.underlying3 (H.ev rfl) evc (dec_t (c1))) ?_; refine kl H rfl fun a H => ?_
        refine wl_v _ (r_pick_t (H.ev rfl) (H.ev rfl)) ?_; refine kl H rfl fun a H => ?_
        refine wpList_nil ?_
        refine c_next ?_
        refine c_cond_t H rfl ?_
        refine wp_region_lit ?_
        refine wl_v _ (r_move (H.ev rfl)) ?_; refine kl H rfl fun a H => ?_
        refine wl_v _ (r_move (H.ev rfl)) ?_; refine kl H rfl fun a H => ?_
        refine wl_v _ (r_move (H.ev rfl)) ?_; refine kl H rfl fun a H => ?_
        refine wl_v _ (r_idx (j := k) (q := o + k * 3) Try.underlying22 s37 (H.ev rfl) (H.ev rfl) (by omega) rfl) ?_; refine kl H rfl fun a H => ?_
        refine wl_v _ (r_fld (q := o + k * 3) fld37_0 (H.ev rfl) rfl) ?_; refine kl H rfl fun a H => ?_
        refine wl_v _ (r_ld Try.underlying3 rfl (H.ev rfl) (range_cell (range_ups HRG.out hall) 0 rfl)) ?_; refine kl H rfl fun a H => ?_
        refine op_litv 34 1 #[(0, .int .i64 y.1)] 3 #[.int .i64 y.1] (by simp [evc, H.ev (j := 33) rfl]) (fun w => by kernel_rfl) fun w0 b0 hge hb k0 => ?_; have g0 := Nat.le_trans hall.size hge; replace hown := own_ups hown hb; replace hall := hall.trans (hb.mono hall.size); clear hb; clear hge; refine kl H rfl fun a H => ?_
        refine op_append 34 3 (.tmp 28) (.tmp 34) w.heap.size (.int .i64 0) 1 8 v5 _ _ (some ⟨b0, 0, none⟩) 1 1 (FV enc1 [y.1]) (H.ev rfl) (H.ev rfl) Try.underlying34 i3 rfl (by omega) hown (by rw [FV_len enc1_len]; rfl) (block1 k0) (FV_one _ _) (fm_room hk hn) (fm_bytes hk hn) hall.size fun v9 w9 hown2 _ _ hb2 => ?_; replace hall := hall.trans hb2; clear hb2 hown k0; have hown := hown2; clear hown2; refine kl H rfl fun a H => ?_
        refine wl_v _ (r_assign (H.ev rfl)) ?_; refine kl H rfl fun a H => ?_
        refine wpList_nil ?_
        refine n_block ?_
        refine c_next ?_
        refine wp_region_lit ?_
        refine wl_v _ (r_move (H.ev rfl)) ?_; refine kl H rfl fun a H => ?_
        refine wl_v _ (r_add (q := ((k + 1 : Nat) : Int)) Try.underlying3 (H.ev rfl) evc (by omega) (by omega)) ?_; refine kl H rfl fun a H => ?_
        refine wl_v _ (r_assign (H.ev rfl)) ?_; refine kl H rfl fun a H => ?_
        refine wpList_nil ?_
        refine n_then ⟨⟨k + 1, v9, H.pick [0, 1, 5, 6], by omega, iown_yes HY.out (dec_t (by omega)) hown, hall⟩, ?_⟩
        rw [H.ev (j := 6) rfl, H0.ev (j := 6) rfl]
        simp only [intOf]
        omega
      · skip
        refine op_unguard _ _ (kg_yes rfl H rfl rfl rfl) ?_; refine wl_v _ (r_eq Try.underlying3 (H.ev rfl) evc (dec_f (c1))) ?_; refine kl H rfl fun a H => ?_
        refine wl_v _ (r_pick_t (H.ev rfl) (H.ev rfl)) ?_; refine kl H rfl fun a H => ?_
        refine wpList_nil ?_
        refine c_next ?_
        refine c_cond_f H rfl ?_
        refine wp_skip ?_
        refine n_block ?_
        refine c_next ?_
        refine wp_region_lit ?_
        refine wl_v _ (r_move (H.ev rfl)) ?_; refine kl H rfl fun a H => ?_
        refine wl_v _ (r_add (q := ((k + 1 : Nat) : Int)) Try.underlying3 (H.ev rfl) evc (by omega) (by omega)) ?_; refine kl H rfl fun a H => ?_
        refine wl_v _ (r_assign (H.ev rfl)) ?_; refine kl H rfl fun a H => ?_
        refine wpList_nil ?_
        refine n_then ⟨⟨k + 1, v5, H.pick [0, 1, 5, 6], by omega, iown_no HY.out (dec_f (by omega)) hown, hall⟩, ?_⟩
        rw [H.ev (j := 6) rfl, H0.ev (j := 6) rfl]
        simp only [intOf]
        omega
    · skip
      refine wl_v _ (r_eq Try.underlying3 (H.ev rfl) (H.ev rfl) (dec_f (c0))) ?_; refine kl H rfl fun a H => ?_
      refine wl_v _ (r_move (H.ev rfl)) ?_; refine kl H rfl fun a H => ?_
      refine wl_s (kg_no rfl H rfl rfl rfl) ?_; refine kl H rfl fun a H => ?_
      refine wl_s (kg_no rfl H rfl rfl rfl) ?_; refine kl H rfl fun a H => ?_
      refine wl_s (kg_no rfl H rfl rfl rfl) ?_; refine kl H rfl fun a H => ?_
      refine wl_s (kg_no rfl H rfl rfl rfl) ?_; refine kl H rfl fun a H => ?_
      refine wl_s (kg_no rfl H rfl rfl rfl) ?_; refine kl H rfl fun a H => ?_
      refine wl_s (kg_no rfl H rfl rfl rfl) ?_; refine kl H rfl fun a H => ?_
      refine wl_v _ (r_pick_f (H.ev rfl) evc) ?_; refine kl H rfl fun a H => ?_
      refine wpList_nil ?_
      refine c_next ?_
      refine c_cond_f H rfl ?_
      refine wp_skip ?_
      refine n_block ?_
      refine c_next ?_
      refine wp_region_lit ?_
      refine wl_v _ (r_move (H.ev rfl)) ?_; refine kl H rfl fun a H => ?_
      refine wl_v _ (r_add (q := ((k + 1 : Nat) : Int)) Try.underlying3 (H.ev rfl) evc (by omega) (by omega)) ?_; refine kl H rfl fun a H => ?_
      refine wl_v _ (r_assign (H.ev rfl)) ?_; refine kl H rfl fun a H => ?_
      refine wpList_nil ?_
      refine n_then ⟨⟨k + 1, v5, H.pick [0, 1, 5, 6], by omega, iown_no HY.out (dec_f (by omega)) hown, hall⟩, ?_⟩
      rw [H.ev (j := 6) rfl, H0.ev (j := 6) rfl]
      simp only [intOf]
      omega
  · skip
    obtain rfl : k = L.length := by omega
    refine wp_seq ?_
    refine wp_seq ?_
    refine wp_region_lit ?_
    refine wl_v _ (r_move (H.ev rfl)) ?_; refine kl H rfl fun a H => ?_
    refine wl_v _ (r_move (H.ev rfl)) ?_; refine kl H rfl fun a H => ?_
    refine wl_v _ (r_len Try.underlying22 (H.ev rfl)) ?_; refine kl H rfl fun a H => ?_
    refine wl_v _ (r_lt Try.underlying3 (H.ev rfl) (H.ev rfl) (dec_f (by omega))) ?_; refine kl H rfl fun a H => ?_
    refine wpList_nil ?_
    refine c_next ?_
    refine c_cond_f H rfl ?_
    refine wp_exit ?_
    refine e_then ?_
    refine e_then ?_
    refine e_here ?_
    refine c_next ?_
    refine wp_seq ?_
    refine wp_region_lit ?_
    refine wl_v _ (r_move (H.ev rfl)) ?_; refine kl H rfl fun a H => ?_
    refine wl_v _ (r_assign (H.ev rfl)) ?_; refine kl H rfl fun a H => ?_
    refine wpList_nil ?_
    refine c_next ?_
    refine wp_ret ?_
    exact k_ret1 H rfl rfl ⟨⟨_, rfl, by rw [List.take_length] at hown; exact hown⟩, hall⟩
def TaI (W : World) (A : Option Addr) (c : Nat) (L : List Tm) (x : Int) (a : Act) (w : World) : Prop :=
  ∃ (k : Nat) (v5 : Value), Kn a 37 [(0, .slice A L.length c), (1, .int .i64 x), (5, v5), (6, .int .i64 (k : Nat))] ∧ k ≤ L.length ∧ IOwn w W.heap.size v5 (tarF (L.take k) x) ∧ Below W.heap.size W w
theorem rtar_any (w : World) (v : Value) (L : List Tm) (x : Int) (h : TRow w v L) (hn : L.length ≤ 100000) :
    Calls Try.prog 22 #[v, .int .i64 x] w fun e w' => (∃ v', e = .returned v' ∧ IOwn w' w.heap.size v' (tarF L x)) ∧ Below w.heap.size w w' := by
  obtain ⟨A, c, rfl, h1, h2, h3, hh⟩ := h
  replace hh := Lib.hid hh
  have hall := Below.refl w.heap.size w
  refine K_enter 37 Try.func22 rfl rfl fun a H => ?_
  replace H := H.pick [0, 1]
  refine wp_seq ?_
  refine wp_region_lit ?_
  refine wl_v _ (r_assign evc) ?_; refine kl H rfl fun a H => ?_
  refine wpList_nil ?_
  refine c_next ?_
  refine wp_seq ?_
  refine wp_region_lit ?_
  refine wl_v _ (r_assign evc) ?_; refine kl H rfl fun a H => ?_
  refine wpList_nil ?_
  refine c_next ?_
  refine wp_seq ?_
  refine wp_seq ?_
  refine wp_region_lit ?_
  refine wl_v _ (r_assign evc) ?_; refine kl H rfl fun a H => ?_
  refine wpList_nil ?_
  refine c_next ?_
  refine wp_block ?_
  refine wp_loop (TaI w A c L x) (fun a _ => L.length - (intOf (a.eval (.tmp 6))).toNat) ⟨0, _, H.pick [0, 1, 5, 6], by omega, World.ownsRow_nil _ _ _ _, hall⟩ ?_
  clear H hall
  rintro a w' ⟨k, v5, H, hk, hown, hall⟩
  have H0 := H
  by_cases hlt : k < L.length
  · skip
    obtain ⟨b, o, hA, hr⟩ := flat_some encT_len hh.out (by omega) hlt
    subst hA
    have hy : L[k]? = some L[k] := List.getElem?_eq_getElem hlt
    have HY := Lib.hid hy
    have HRG := Lib.hid hr
    generalize L[k] = y at *
    clear hy hr
    refine wp_seq ?_
    refine wp_seq ?_
    refine wp_region_lit ?_
    refine wl_v _ (r_move (H.ev rfl)) ?_; refine kl H rfl fun a H => ?_
    refine wl_v _ (r_move (H.ev rfl)) ?_; refine kl H rfl fun a H => ?_
    refine wl_v _ (r_len Try.underlying22 (H.ev rfl)) ?_; refine kl H rfl fun a H => ?_
    refine wl_v _ (r_lt Try.underlying3 (H.ev rfl) (H.ev rfl) (dec_t (by omega))) ?_; refine kl H rfl fun a H => ?_
    refine wpList_nil ?_
    refine c_next ?_
    refine c_cond_t H rfl ?_
    refine wp_skip ?_
    refine c_next ?_
    refine wp_seq ?_
    refine wp_block ?_
    refine wp_seq ?_
    refine wp_region_lit ?_
    refine wl_v _ (r_move (H.ev rfl)) ?_; refine kl H rfl fun a H => ?_
    refine wl_v _ (r_move (H.ev rfl)) ?_; refine kl H rfl fun a H => ?_
    refine wl_v _ (r_idx (j := k) (q := o + k * 3) Try.underlying22 s37 (H.ev rfl) (H.ev rfl) (by omega) rfl) ?_; refine kl H rfl fun a H => ?_
    refine wl_v _ (r_fld (q := o + k * 3) fld37_0 (H.ev rfl) rfl) ?_; refine kl H rfl fun a H => ?_
    refine wl_v _ (r_ld Try.underlying3 rfl (H.ev rfl) (range_cell (range_ups HRG.out hall) 0 rfl)) ?_; refine kl H rfl fun a H => ?_
    refine wl_v _ (r_move (H.ev rfl)) ?_; refine kl H rfl fun a H => ?_
    by_cases c0 : y.1 = x
    · skip
      refine wl_v _ (r_eq Try.underlying3 (H.ev rfl) (H.ev rfl) (dec_t (c0))) ?_; refine kl H rfl fun a H => ?_
      refine wl_v _ (r_move (H.ev rfl)) ?_; refine kl H rfl fun a H => ?_
      refine op_unguard _ _ (kg_yes rfl H rfl rfl rfl) ?_; refine wl_v _ (r_move (H.ev rfl)) ?_; refine kl H rfl fun a H => ?_
      refine op_unguard _ _ (kg_yes rfl H rfl rfl rfl) ?_; refine wl_v _ (r_move (H.ev rfl)) ?_; refine kl H rfl fun a H => ?_
      refine op_unguard _ _ (kg_yes rfl H rfl rfl rfl) ?_; refine wl_v _ (r_idx (j := k) (q := o + k * 3) Try.underlying22 s37 (H.ev rfl) (H.ev rfl) (by omega) rfl) ?_; refine kl H rfl fun a H => ?_
      refine op_unguard _ _ (kg_yes rfl H rfl rfl rfl) ?_; refine wl_v _ (r_fld (q := o + k * 3 + 2) fld37_2 (H.ev rfl) rfl) ?_; refine kl H rfl fun a H => ?_
      refine op_unguard _ _ (kg_yes rfl H rfl rfl rfl) ?_; refine wl_v _ (r_ld Try.underlying3 rfl (H.ev rfl) (range_cell (range_ups HRG.out hall) 2 rfl)) ?_; refine kl H rfl fun a H => ?_
      by_cases c1 : y.2.2 = 2
      · skip
        refine op_unguard _ _ (kg_yes rfl H rfl rfl rfl) ?_; refine wl_v _ (r_eq Try.underlying3 (H.ev rfl) evc (dec_t (c1))) ?_; refine kl H rfl fun a H => ?_
        refine wl_v _ (r_pick_t (H.ev rfl) (H.ev rfl)) ?_; refine kl H rfl fun a H => ?_
        refine wpList_nil ?_
        refine c_next ?_
        refine c_cond_t H rfl ?_
        refine wp_region_lit ?_
        refine wl_v _ (r_move (H.ev rfl)) ?_; refine kl H rfl fun a H => ?_
        refine wl_v _ (r_move (H.ev rfl)) ?_; refine kl H rfl fun a H => ?_
        refine wl_v _ (r_move (H.ev rfl)) ?_; refine kl H rfl fun a H => ?_
        refine wl_v _ (r_idx (j := k) (q := o + k * 3) Try.underlying22 s37 (H.ev rfl) (H.ev rfl) (by omega) rfl) ?_; refine kl H rfl fun a H => ?_
        refine wl_v _ (r_fld (q := o + k * 3 + 1) fld37_1 (H.ev rfl) rfl) ?_; refine kl H rfl fun a H => ?_
        refine wl_v _ (r_ld Try.underlying3 rfl (H.ev rfl) (range_cell (range_ups HRG.out hall) 1 rfl)) ?_; refine kl H rfl fun a H => ?_
        refine op_litv 34 1 #[(0, .int .i64 y.2.1)] 3 #[.int .i64 y.2.1] (by simp [evc, H.ev (j := 33) rfl]) (fun w => by kernel_rfl) fun w0 b0 hge hb k0 => ?_; have g0 := Nat.le_trans hall.size hge; replace hown := own_ups hown hb; replace hall := hall.trans (hb.mono hall.size); clear hb; clear hge; refine kl H rfl fun a H => ?_
        refine op_append 34 3 (.tmp 28) (.tmp 34) w.heap.size (.int .i64 0) 1 8 v5 _ _ (some ⟨b0, 0, none⟩) 1 1 (FV enc1 [y.2.1]) (H.ev rfl) (H.ev rfl) Try.underlying34 i3 rfl (by omega) hown (by rw [FV_len enc1_len]; rfl) (block1 k0) (FV_one _ _) (fm_room hk hn) (fm_bytes hk hn) hall.size fun v9 w9 hown2 _ _ hb2 => ?_; replace hall := hall.trans hb2; clear hb2 hown k0; have hown := hown2; clear hown2; refine kl H rfl fun a H => ?_
        refine wl_v _ (r_assign (H.ev rfl)) ?_; refine kl H rfl fun a H => ?_
        refine wpList_nil ?_
        refine n_block ?_
        refine c_next ?_
        refine wp_region_lit ?_
        refine wl_v _ (r_move (H.ev rfl)) ?_; refine kl H rfl fun a H => ?_
        refine wl_v _ (r_add (q := ((k + 1 : Nat) : Int)) Try.underlying3 (H.ev rfl) evc (by omega) (by omega)) ?_; refine kl H rfl fun a H => ?_
        refine wl_v _ (r_assign (H.ev rfl)) ?_; refine kl H rfl fun a H => ?_
        refine wpList_nil ?_
        refine n_then ⟨⟨k + 1, v9, H.pick [0, 1, 5, 6], by omega, iown_yes HY.out (dec_t (by omega)) hown, hall⟩, ?_⟩
        rw [H.ev (j := 6) rfl, H0.ev (j := 6) rfl]
        simp only [intOf]
        omega
      · skip
        refine op_unguard _ _ (kg_yes rfl H rfl rfl rfl) ?_; refine wl_v _ (r_eq Try.underlying3 (H.ev rfl) evc (dec_f (c1))) ?_; refine kl H rfl fun a H => ?_
        refine wl_v _ (r_pick_t (H.ev rfl) (H.ev rfl)) ?_; refine kl H rfl fun a H => ?_
        refine wpList_nil ?_
        refine c_next ?_
        refine c_cond_f H rfl ?_
        refine wp_skip ?_
        refine n_block ?_
        refine c_next ?_
        refine wp_region_lit ?_
        refine wl_v _ (r_move (H.ev rfl)) ?_; refine kl H rfl fun a H => ?_
        refine wl_v _ (r_add (q := ((k + 1 : Nat) : Int)) Try.underlying3 (H.ev rfl) evc (by omega) (by omega)) ?_; refine kl H rfl fun a H => ?_
        refine wl_v _ (r_assign (H.ev rfl)) ?_; refine kl H rfl fun a H => ?_
        refine wpList_nil ?_
        refine n_then ⟨⟨k + 1, v5, H.pick [0, 1, 5, 6], by omega, iown_no HY.out (dec_f (by omega)) hown, hall⟩, ?_⟩
        rw [H.ev (j := 6) rfl, H0.ev (j := 6) rfl]
        simp only [intOf]
        omega
    · skip
      refine wl_v _ (r_eq Try.underlying3 (H.ev rfl) (H.ev rfl) (dec_f (c0))) ?_; refine kl H rfl fun a H => ?_
      refine wl_v _ (r_move (H.ev rfl)) ?_; refine kl H rfl fun a H => ?_
      refine wl_s (kg_no rfl H rfl rfl rfl) ?_; refine kl H rfl fun a H => ?_
      refine wl_s (kg_no rfl H rfl rfl rfl) ?_; refine kl H rfl fun a H => ?_
      refine wl_s (kg_no rfl H rfl rfl rfl) ?_; refine kl H rfl fun a H => ?_
      refine wl_s (kg_no rfl H rfl rfl rfl) ?_; refine kl H rfl fun a H => ?_
      refine wl_s (kg_no rfl H rfl rfl rfl) ?_; refine kl H rfl fun a H => ?_
      refine wl_s (kg_no rfl H rfl rfl rfl) ?_; refine kl H rfl fun a H => ?_
      refine wl_v _ (r_pick_f (H.ev rfl) evc) ?_; refine kl H rfl fun a H => ?_
      refine wpList_nil ?_
      refine c_next ?_
      refine c_cond_f H rfl ?_
      refine wp_skip ?_
      refine n_block ?_
      refine c_next ?_
      refine wp_region_lit ?_
      refine wl_v _ (r_move (H.ev rfl)) ?_; refine kl H rfl fun a H => ?_
      refine wl_v _ (r_add (q := ((k + 1 : Nat) : Int)) Try.underlying3 (H.ev rfl) evc (by omega) (by omega)) ?_; refine kl H rfl fun a H => ?_
      refine wl_v _ (r_assign (H.ev rfl)) ?_; refine kl H rfl fun a H => ?_
      refine wpList_nil ?_
      refine n_then ⟨⟨k + 1, v5, H.pick [0, 1, 5, 6], by omega, iown_no HY.out (dec_f (by omega)) hown, hall⟩, ?_⟩
      rw [H.ev (j := 6) rfl, H0.ev (j := 6) rfl]
      simp only [intOf]
      omega
  · skip
    obtain rfl : k = L.length := by omega
    refine wp_seq ?_
    refine wp_seq ?_
    refine wp_region_lit ?_
    refine wl_v _ (r_move (H.ev rfl)) ?_; refine kl H rfl fun a H => ?_
    refine wl_v _ (r_move (H.ev rfl)) ?_; refine kl H rfl fun a H => ?_
    refine wl_v _ (r_len Try.underlying22 (H.ev rfl)) ?_; refine kl H rfl fun a H => ?_
    refine wl_v _ (r_lt Try.underlying3 (H.ev rfl) (H.ev rfl) (dec_f (by omega))) ?_; refine kl H rfl fun a H => ?_
    refine wpList_nil ?_
    refine c_next ?_
    refine c_cond_f H rfl ?_
    refine wp_exit ?_
    refine e_then ?_
    refine e_then ?_
    refine e_here ?_
    refine c_next ?_
    refine wp_seq ?_
    refine wp_region_lit ?_
    refine wl_v _ (r_move (H.ev rfl)) ?_; refine kl H rfl fun a H => ?_
    refine wl_v _ (r_assign (H.ev rfl)) ?_; refine kl H rfl fun a H => ?_
    refine wpList_nil ?_
    refine c_next ?_
    refine wp_ret ?_
    exact k_ret1 H rfl rfl ⟨⟨_, rfl, by rw [List.take_length] at hown; exact hown⟩, hall⟩
end Go.Proofs.Ytfehhenbdiageaa
