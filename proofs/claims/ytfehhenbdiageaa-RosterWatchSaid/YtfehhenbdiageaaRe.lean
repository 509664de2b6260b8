/- Roster: RosterWatch, proved: the watchers of somebody are those who may watch, rising. -/
import Derived.Test.YtfehhenbdiageaaUk
namespace Go.Proofs.Ytfehhenbdiageaa
open Go.ChangeShapes Go.WideShapes Go.ChangeAt Go.RowKit Go.Maps
set_option linter.unusedVariables false
set_option linter.unusedSimpArgs false

def cb (W : List Int) (x : Int) : Nat := W.countP fun y => decide (y < x)
theorem cb_mem : ∀ {W : List Int} {x : Int}, W.Pairwise (· < ·) → x ∈ W → W[cb W x]? = some x
  | [], x, _, h => by cases h
  | a :: W, x, hp, h => by
    rw [List.pairwise_cons] at hp
    by_cases e : x = a
    · subst e
      have : cb (x :: W) x = 0 := by
        unfold cb
        rw [List.countP_eq_zero]
        intro y hy
        simp only [decide_eq_true_eq]
        rcases List.mem_cons.1 hy with rfl | hy
        · omega
        · have := hp.1 y hy; omega
      rw [this]; rfl
    · have hm : x ∈ W := by
        rcases List.mem_cons.1 h with h | h
        · exact absurd h e
        · exact h
      have ih := cb_mem hp.2 hm
      have : cb (a :: W) x = cb W x + 1 := by
        unfold cb
        rw [List.countP_cons_of_pos]
        have := hp.1 x hm
        simpa using this
      rw [this, List.getElem?_cons_succ, ih]
theorem cb_succ {W : List Int} {x : Int} : cb W (x + 1) = cb W x + W.countP (fun y => decide (y = x)) := by
  unfold cb
  induction W with
  | nil => rfl
  | cons a W ih =>
    simp only [List.countP_cons, ih]
    by_cases h1 : a < x
    · simp [h1, show a < x + 1 by omega, show ¬ a = x by omega]; omega
    · by_cases h2 : a = x
      · subst h2
        rw [decide_eq_true (show a < a + 1 by omega), decide_eq_false (show ¬ a < a by omega), decide_eq_true (rfl : a = a)]
        simp only [if_true, Bool.false_eq_true, if_false]
        omega
      · simp [h1, h2, show ¬ a < x + 1 by omega]
theorem cb_yes {W : List Int} {j k : Nat} (hp : W.Pairwise (· < ·)) (hm : ((j + 1 : Nat) : Int) ∈ W) (hk : k = cb W ((j + 1 : Nat) : Int)) : k + 1 = cb W ((j + 1 + 1 : Nat) : Int) := by
  have e : ((j + 1 + 1 : Nat) : Int) = ((j + 1 : Nat) : Int) + 1 := by omega
  rw [e, cb_succ, ← hk]
  have : ∀ {W : List Int} {x : Int}, W.Pairwise (· < ·) → x ∈ W → W.countP (fun y => decide (y = x)) = 1 := by
    intro W x hp hm
    induction W with
    | nil => cases hm
    | cons a W ih =>
      rw [List.pairwise_cons] at hp
      rw [List.countP_cons]
      by_cases h : a = x
      · have : W.countP (fun y => decide (y = x)) = 0 := by
          rw [List.countP_eq_zero]
          intro y hy
          have := hp.1 y hy
          simp only [decide_eq_true_eq]
          omega
        rw [this]; simp [h]
      · have hm' : x ∈ W := by
          rcases List.mem_cons.1 hm with e | e
          · exact absurd e.symm h
          · exact e
        rw [ih hp.2 hm']; simp [h]
  rw [this hp hm]
theorem cb_no {W : List Int} {j k : Nat} (hm : ¬ ((j + 1 : Nat) : Int) ∈ W) (hk : k = cb W ((j + 1 : Nat) : Int)) : k = cb W ((j + 1 + 1 : Nat) : Int) := by
  have e : ((j + 1 + 1 : Nat) : Int) = ((j + 1 : Nat) : Int) + 1 := by omega
  rw [e, cb_succ, ← hk]
  have : W.countP (fun y => decide (y = ((j + 1 : Nat) : Int))) = 0 := by
    rw [List.countP_eq_zero]
    intro y hy
    simp only [decide_eq_true_eq]
    intro e2
    exact hm (e2 ▸ hy)
  omega
theorem cb_low {W : List Int} (h : ∀ x ∈ W, 1 ≤ x ∧ x ≤ 16) : cb W ((0 + 1 : Nat) : Int) = 0 := by
  unfold cb
  rw [List.countP_eq_zero]
  intro y hy
  have := h y hy
  simp only [decide_eq_true_eq]
  omega
theorem cb_high {W : List Int} (h : ∀ x ∈ W, 1 ≤ x ∧ x ≤ 16) : cb W ((16 + 1 : Nat) : Int) = W.length := by
  unfold cb
  rw [List.countP_eq_length]
  intro y hy
  have := h y hy
  simp only [decide_eq_true_eq]
  omega
theorem st_mem {L : List Tm} (hR : RightL L) {x z s : Int} (hs : s ≠ 0) : stF L x z = s ↔ (x, z, s) ∈ L := by
  constructor
  · intro h
    have := put_id hR x z
    rw [← this, h, put_eq]
    unfold Mx
    rw [if_neg hs]
    simp
  · intro h
    obtain ⟨k, hk, e⟩ := List.mem_iff_getElem.1 h
    refine st_here (k := k) (y := (x, z, s)) (fun j hj y hy he => ?_) (by rw [List.getElem?_eq_getElem hk, e]) ⟨rfl, rfl⟩
    obtain ⟨hj', rfl⟩ := List.getElem?_eq_some_iff.1 hy
    have := List.pairwise_iff_getElem.1 hR.1 j k hj' hk hj
    rw [e] at this
    unfold Lt at this
    simp only at this
    omega
theorem wat_sorted {L : List Tm} (hR : RightL L) (u : Int) : (watF L u).Pairwise (· < ·) ∧ (∀ x, x ∈ watF L u ↔ stF L x u = 2) ∧ (∀ x ∈ watF L u, 1 ≤ x ∧ x ≤ 16) := by
  have hm : ∀ x, x ∈ watF L u ↔ stF L x u = 2 := by
    intro x
    rw [st_mem hR (by omega)]
    unfold watF fmF
    rw [List.mem_map]
    constructor
    · rintro ⟨⟨a, b, c⟩, hy, rfl⟩
      obtain ⟨h1, h2⟩ := List.mem_filter.1 hy
      have h2 := of_decide_eq_true h2
      simp only at h2
      rw [← h2.1, ← h2.2]; exact h1
    · intro h
      exact ⟨_, List.mem_filter.2 ⟨h, by simp [watP]⟩, rfl⟩
  refine ⟨?_, hm, fun x hx => ?_⟩
  · unfold watF fmF
    rw [List.pairwise_map]
    have hp := hR.1.filter (watP u)
    refine List.Pairwise.imp_of_mem (fun {a b} ha hb hab => ?_) hp
    have h1 := of_decide_eq_true (List.mem_filter.1 ha).2
    have h2 := of_decide_eq_true (List.mem_filter.1 hb).2
    unfold Lt at hab
    omega
  · obtain ⟨h1, _, _⟩ := st_user hR (x := x) (z := u) (by rw [(hm x).1 hx]; omega)
    exact of_decide_eq_true h1
theorem tar_sorted {L : List Tm} (hR : RightL L) (u : Int) : (tarF L u).Pairwise (· < ·) ∧ (∀ x, x ∈ tarF L u ↔ stF L u x = 2) ∧ (∀ x ∈ tarF L u, 1 ≤ x ∧ x ≤ 16) := by
  have hm : ∀ x, x ∈ tarF L u ↔ stF L u x = 2 := by
    intro x
    rw [st_mem hR (by omega)]
    unfold tarF fmF
    rw [List.mem_map]
    constructor
    · rintro ⟨⟨a, b, c⟩, hy, rfl⟩
      obtain ⟨h1, h2⟩ := List.mem_filter.1 hy
      have h2 := of_decide_eq_true h2
      simp only at h2
      rw [← h2.1, ← h2.2]; exact h1
    · intro h
      exact ⟨_, List.mem_filter.2 ⟨h, by simp [tarP]⟩, rfl⟩
  refine ⟨?_, hm, fun x hx => ?_⟩
  · unfold tarF fmF
    rw [List.pairwise_map]
    have hp := hR.1.filter (tarP u)
    refine List.Pairwise.imp_of_mem (fun {a b} ha hb hab => ?_) hp
    have h1 := of_decide_eq_true (List.mem_filter.1 ha).2
    have h2 := of_decide_eq_true (List.mem_filter.1 hb).2
    unfold Lt at hab
    omega
  · obtain ⟨_, h1, _⟩ := st_user hR (x := u) (z := x) (by rw [(hm x).1 hx]; omega)
    exact of_decide_eq_true h1
def WtI (W : World) (v : Value) (L : List Tm) (user : Int) (Aw : Option Addr) (nw : Nat) (At : Option Addr) (nt : Nat) (Ww Wt : List Int) (a : Act) (w : World) : Prop :=
  ∃ j k n : Nat, Kn a 85 [(0, v), (1, .int .i64 user), (5, .bool true), (6, .slice Aw Ww.length nw), (7, .slice At Wt.length nt), (8, .int .i64 (k : Nat)), (9, .int .i64 (n : Nat)), (10, .int .i64 (j + 1 : Nat))] ∧ j ≤ 16 ∧
    k = cb Ww ((j + 1 : Nat) : Int) ∧ n = cb Wt ((j + 1 : Nat) : Int) ∧ TRow w v L ∧ Holds w Aw (FV enc1 Ww) ∧ Holds w At (FV enc1 Wt) ∧ Below W.heap.size W w
set_option maxHeartbeats 8000000 in
theorem watch_walk (w : World) (v : Value) (L : List Tm) (user : Int) (h : TRow w v L) (hn : L.length ≤ 9223372036854775807) (hLW : LWF L) :
    Calls Try.prog 5 #[v, .int .i64 user] w fun e w' => e = .returned (.bool true) ∧ Below w.heap.size w w' := by
  have hall := Below.refl w.heap.size w
  have hwf : Hid (∀ x ∈ L, (Lit.int .i64 x.1).wf = true) := Lib.hid fun x hx => (hLW x hx).1
  cases hr : rightF L
  · skip
    refine K_enter 85 Try.func5 rfl rfl fun a H => ?_
    replace H := H.pick [0, 1]
    refine wp_seq ?_
    refine wp_region_lit ?_
    refine wl_v _ (r_assign evc) ?_; refine kl H rfl fun a H => ?_
    refine wpList_nil ?_
    refine c_next ?_
    refine wp_seq ?_
    refine wp_region_lit ?_
    refine wl_call _ _ _ (small_any _) (r_call0 cf10) ?_; rintro e w9 ⟨rfl, hb⟩; refine ⟨_, rfl, ?_⟩; replace h := Row.up h hb; replace hall := hall.trans (hb.mono hall.size); clear hb; refine kl H rfl fun a H => ?_
    refine wl_v _ (r_assign (H.ev rfl)) ?_; refine kl H rfl fun a H => ?_
    refine wpList_nil ?_
    refine c_next ?_
    refine wp_seq ?_
    refine wp_seq ?_
    refine wp_region_lit ?_
    refine wl_v _ (r_move (H.ev rfl)) ?_; refine kl H rfl fun a H => ?_
    refine wl_call _ _ _ (right_any _ _ L h hn hwf.out) (r_call1 cf11 (H.ev rfl)) ?_; rintro e w9 ⟨rfl, hb⟩; refine ⟨_, rfl, ?_⟩; rw [hr]; replace h := Row.up h hb; replace hall := hall.trans (hb.mono hall.size); clear hb; refine kl H rfl fun a H => ?_
    refine wl_v _ (r_not (H.ev rfl) rfl) ?_; refine kl H rfl fun a H => ?_
    refine wl_v _ (r_move (H.ev rfl)) ?_; refine kl H rfl fun a H => ?_
    refine wl_s (kg_no rfl H rfl rfl rfl) ?_; refine kl H rfl fun a H => ?_
    refine wl_s (kg_no rfl H rfl rfl rfl) ?_; refine kl H rfl fun a H => ?_
    refine wl_v _ (r_pick_t (H.ev rfl) evc) ?_; refine kl H rfl fun a H => ?_
    refine wl_v _ (r_move (H.ev rfl)) ?_; refine kl H rfl fun a H => ?_
    refine wl_s (kg_no rfl H rfl rfl rfl) ?_; refine kl H rfl fun a H => ?_
    refine wl_s (kg_no rfl H rfl rfl rfl) ?_; refine kl H rfl fun a H => ?_
    refine wl_v _ (r_pick_t (H.ev rfl) evc) ?_; refine kl H rfl fun a H => ?_
    refine wpList_nil ?_
    refine c_next ?_
    refine c_cond_t H rfl ?_
    refine wp_seq ?_
    refine wp_region_lit ?_
    refine wl_v _ (r_move (H.ev rfl)) ?_; refine kl H rfl fun a H => ?_
    refine wl_v _ (r_assign (H.ev rfl)) ?_; refine kl H rfl fun a H => ?_
    refine wpList_nil ?_
    refine c_next ?_
    refine wp_ret ?_
    refine r_then ?_
    exact k_ret1 H rfl rfl ⟨rfl, hall⟩
  · skip
    have hR := (right_iff L).1 hr
    have hl := hR.2.2.2
    have HR := Lib.hid hR
    clear hR
    refine K_enter 85 Try.func5 rfl rfl fun a H => ?_
    replace H := H.pick [0, 1]
    refine wp_seq ?_
    refine wp_region_lit ?_
    refine wl_v _ (r_assign evc) ?_; refine kl H rfl fun a H => ?_
    refine wpList_nil ?_
    refine c_next ?_
    refine wp_seq ?_
    refine wp_region_lit ?_
    refine wl_call _ _ _ (small_any _) (r_call0 cf10) ?_; rintro e w9 ⟨rfl, hb⟩; refine ⟨_, rfl, ?_⟩; replace h := Row.up h hb; replace hall := hall.trans (hb.mono hall.size); clear hb; refine kl H rfl fun a H => ?_
    refine wl_v _ (r_assign (H.ev rfl)) ?_; refine kl H rfl fun a H => ?_
    refine wpList_nil ?_
    refine c_next ?_
    refine wp_seq ?_
    refine wp_seq ?_
    refine wp_region_lit ?_
    refine wl_v _ (r_move (H.ev rfl)) ?_; refine kl H rfl fun a H => ?_
    refine wl_call _ _ _ (right_any _ _ L h hn hwf.out) (r_call1 cf11 (H.ev rfl)) ?_; rintro e w9 ⟨rfl, hb⟩; refine ⟨_, rfl, ?_⟩; rw [hr]; replace h := Row.up h hb; replace hall := hall.trans (hb.mono hall.size); clear hb; refine kl H rfl fun a H => ?_
    refine wl_v _ (r_not (H.ev rfl) rfl) ?_; refine kl H rfl fun a H => ?_
    refine wl_v _ (r_move (H.ev rfl)) ?_; refine kl H rfl fun a H => ?_
    refine op_unguard _ _ (kg_yes rfl H rfl rfl rfl) ?_; refine wl_v _ (r_move (H.ev rfl)) ?_; refine kl H rfl fun a H => ?_
    by_cases c0 : user < 1
    · skip
      refine op_unguard _ _ (kg_yes rfl H rfl rfl rfl) ?_; refine wl_v _ (r_lt Try.underlying3 (H.ev rfl) evc (dec_t (c0))) ?_; refine kl H rfl fun a H => ?_
      refine wl_v _ (r_pick_f (H.ev rfl) (H.ev rfl)) ?_; refine kl H rfl fun a H => ?_
      refine wl_v _ (r_move (H.ev rfl)) ?_; refine kl H rfl fun a H => ?_
      refine wl_s (kg_no rfl H rfl rfl rfl) ?_; refine kl H rfl fun a H => ?_
      refine wl_s (kg_no rfl H rfl rfl rfl) ?_; refine kl H rfl fun a H => ?_
      refine wl_v _ (r_pick_t (H.ev rfl) evc) ?_; refine kl H rfl fun a H => ?_
      refine wpList_nil ?_
      refine c_next ?_
      refine c_cond_t H rfl ?_
      refine wp_seq ?_
      refine wp_region_lit ?_
      refine wl_v _ (r_move (H.ev rfl)) ?_; refine kl H rfl fun a H => ?_
      refine wl_v _ (r_assign (H.ev rfl)) ?_; refine kl H rfl fun a H => ?_
      refine wpList_nil ?_
      refine c_next ?_
      refine wp_ret ?_
      refine r_then ?_
      exact k_ret1 H rfl rfl ⟨rfl, hall⟩
    · skip
      refine op_unguard _ _ (kg_yes rfl H rfl rfl rfl) ?_; refine wl_v _ (r_lt Try.underlying3 (H.ev rfl) evc (dec_f (c0))) ?_; refine kl H rfl fun a H => ?_
      refine wl_v _ (r_pick_f (H.ev rfl) (H.ev rfl)) ?_; refine kl H rfl fun a H => ?_
      refine wl_v _ (r_move (H.ev rfl)) ?_; refine kl H rfl fun a H => ?_
      refine op_unguard _ _ (kg_yes rfl H rfl rfl rfl) ?_; refine wl_v _ (r_move (H.ev rfl)) ?_; refine kl H rfl fun a H => ?_
      by_cases c1 : user > 16
      · skip
        refine op_unguard _ _ (kg_yes rfl H rfl rfl rfl) ?_; refine wl_v _ (r_gt Try.underlying3 (H.ev rfl) evc (dec_t (c1))) ?_; refine kl H rfl fun a H => ?_
        refine wl_v _ (r_pick_f (H.ev rfl) (H.ev rfl)) ?_; refine kl H rfl fun a H => ?_
        refine wpList_nil ?_
        refine c_next ?_
        refine c_cond_t H rfl ?_
        refine wp_seq ?_
        refine wp_region_lit ?_
        refine wl_v _ (r_move (H.ev rfl)) ?_; refine kl H rfl fun a H => ?_
        refine wl_v _ (r_assign (H.ev rfl)) ?_; refine kl H rfl fun a H => ?_
        refine wpList_nil ?_
        refine c_next ?_
        refine wp_ret ?_
        refine r_then ?_
        exact k_ret1 H rfl rfl ⟨rfl, hall⟩
      · skip
        refine op_unguard _ _ (kg_yes rfl H rfl rfl rfl) ?_; refine wl_v _ (r_gt Try.underlying3 (H.ev rfl) evc (dec_f (c1))) ?_; refine kl H rfl fun a H => ?_
        refine wl_v _ (r_pick_f (H.ev rfl) (H.ev rfl)) ?_; refine kl H rfl fun a H => ?_
        refine wpList_nil ?_
        refine c_next ?_
        refine c_cond_f H rfl ?_
        refine wp_skip ?_
        refine c_next ?_
        refine wp_seq ?_
        obtain ⟨Ww, hww⟩ : ∃ Ww, watF L user = Ww := ⟨_, rfl⟩
        obtain ⟨Wt, hwt⟩ : ∃ Wt, tarF L user = Wt := ⟨_, rfl⟩
        have hl1 : Ww.length ≤ 64 := by rw [← hww]; exact Nat.le_trans fm_le hl
        have hl2 : Wt.length ≤ 64 := by rw [← hwt]; exact Nat.le_trans fm_le hl
        have HPW : Hid (Ww.Pairwise (· < ·) ∧ (∀ x, x ∈ Ww ↔ stF L x user = 2) ∧ (∀ x ∈ Ww, 1 ≤ x ∧ x ≤ 16)) := Lib.hid (by rw [← hww]; exact wat_sorted HR.out user)
        have HPT : Hid (Wt.Pairwise (· < ·) ∧ (∀ x, x ∈ Wt ↔ stF L user x = 2) ∧ (∀ x ∈ Wt, 1 ≤ x ∧ x ≤ 16)) := Lib.hid (by rw [← hwt]; exact tar_sorted HR.out user)
        have HWw := Lib.hid hww
        have HWt := Lib.hid hwt
        clear hww hwt
        refine wp_region_lit ?_
        refine wl_v _ (r_move (H.ev rfl)) ?_; refine kl H rfl fun a H => ?_
        refine wl_v _ (r_move (H.ev rfl)) ?_; refine kl H rfl fun a H => ?_
        refine wl_call _ _ _ (wat_any _ _ L user h (by omega)) (r_call2 cf19 (H.ev rfl) (H.ev rfl)) ?_; rintro e w9 ⟨⟨uw, rfl, hown⟩, hb⟩; refine ⟨_, rfl, ?_⟩; replace h := Row.up h hb; replace hall := hall.trans (hb.mono hall.size); clear hb; rw [HWw.out] at hown; have qw := IOwn.row hown; clear hown; obtain ⟨Aw, nw, rfl, -, -, qcw, qdw⟩ := qw; refine kl H rfl fun a H => ?_
        refine wl_v _ (r_assign (H.ev rfl)) ?_; refine kl H rfl fun a H => ?_
        refine wpList_nil ?_
        refine c_next ?_
        refine wp_seq ?_
        refine wp_region_lit ?_
        refine wl_v _ (r_move (H.ev rfl)) ?_; refine kl H rfl fun a H => ?_
        refine wl_v _ (r_move (H.ev rfl)) ?_; refine kl H rfl fun a H => ?_
        refine wl_call _ _ _ (tar_any _ _ L user h (by omega)) (r_call2 cf21 (H.ev rfl) (H.ev rfl)) ?_; rintro e w9 ⟨⟨ut, rfl, hown⟩, hb⟩; refine ⟨_, rfl, ?_⟩; replace h := Row.up h hb; replace qdw := Holds.up qdw hb; replace hall := hall.trans (hb.mono hall.size); clear hb; rw [HWt.out] at hown; have qt := IOwn.row hown; clear hown; obtain ⟨At, nt, rfl, -, -, qct, qdt⟩ := qt; refine kl H rfl fun a H => ?_
        refine wl_v _ (r_assign (H.ev rfl)) ?_; refine kl H rfl fun a H => ?_
        refine wpList_nil ?_
        refine c_next ?_
        refine wp_seq ?_
        refine wp_region_lit ?_
        refine wl_v _ (r_assign evc) ?_; refine kl H rfl fun a H => ?_
        refine wpList_nil ?_
        refine c_next ?_
        refine wp_seq ?_
        refine wp_region_lit ?_
        refine wl_v _ (r_assign evc) ?_; refine kl H rfl fun a H => ?_
        refine wpList_nil ?_
        refine c_next ?_
        refine wp_seq ?_
        refine wp_seq ?_
        refine wp_region_lit ?_
        refine wl_v _ (r_assign evc) ?_; refine kl H rfl fun a H => ?_
        refine wpList_nil ?_
        refine c_next ?_
        refine wp_block ?_
        refine wp_loop (WtI w v L user Aw nw At nt Ww Wt) (fun a _ => 17 - (intOf (a.eval (.tmp 10))).toNat) ⟨0, 0, 0, H.pick [0, 1, 5, 6, 7, 8, 9, 10], by omega, (cb_low HPW.out.2.2).symm, (cb_low HPT.out.2.2).symm, h, qdw, qdt, hall⟩ ?_
        clear H hall h qdw qdt
        rintro a w' ⟨j, k, n, H, hj, hk, hn', h, qdw, qdt, hall⟩
        have H0 := H
        have hkl : k ≤ Ww.length := by rw [hk]; exact List.countP_le_length
        have hnl : n ≤ Wt.length := by rw [hn']; exact List.countP_le_length
        by_cases hlt : j < 16
        · skip
          obtain ⟨s1, hs1⟩ : ∃ s, stF L ((j + 1 : Nat) : Int) user = s := ⟨_, rfl⟩
          obtain ⟨s2, hs2⟩ : ∃ s, stF L user ((j + 1 : Nat) : Int) = s := ⟨_, rfl⟩
          have HS1 := Lib.hid hs1
          have HS2 := Lib.hid hs2
          clear hs1 hs2
          refine wp_seq ?_
          refine wp_seq ?_
          refine wp_region_lit ?_
          refine wl_v _ (r_move (H.ev rfl)) ?_; refine kl H rfl fun a H => ?_
          refine wl_v _ (r_le Try.underlying3 (H.ev rfl) evc (dec_t (by omega))) ?_; refine kl H rfl fun a H => ?_
          refine wpList_nil ?_
          refine c_next ?_
          refine c_cond_t H rfl ?_
          refine wp_skip ?_
          refine c_next ?_
          refine wp_seq ?_
          refine wp_block ?_
          refine wp_seq ?_
          refine wp_seq ?_
          refine wp_region_lit ?_
          refine wl_v _ (r_move (H.ev rfl)) ?_; refine kl H rfl fun a H => ?_
          refine wl_v _ (r_move (H.ev rfl)) ?_; refine kl H rfl fun a H => ?_
          refine wl_v _ (r_move (H.ev rfl)) ?_; refine kl H rfl fun a H => ?_
          refine wl_call _ _ _ (state_any _ _ L ((j + 1 : Nat) : Int) user h (by omega) HR.out.1) (r_call3 cf16 (H.ev rfl) (H.ev rfl) (H.ev rfl)) ?_; rintro e w9 ⟨rfl, hb⟩; refine ⟨_, rfl, ?_⟩; rw [HS1.out]; replace h := Row.up h hb; replace qdw := Holds.up qdw hb; replace qdt := Holds.up qdt hb; replace hall := hall.trans (hb.mono hall.size); clear hb; refine kl H rfl fun a H => ?_
          by_cases c2 : s1 = 2
          · skip
            refine wl_v _ (r_eq Try.underlying3 (H.ev rfl) evc (dec_t (c2))) ?_; refine kl H rfl fun a H => ?_
            refine wpList_nil ?_
            refine c_next ?_
            refine c_cond_t H rfl ?_
            refine wp_seq ?_
            refine wp_seq ?_
            have hmw : ((j + 1 : Nat) : Int) ∈ Ww := (HPW.out.2.1 _).2 (by rw [HS1.out]; exact c2)
            have hgw := cb_mem HPW.out.1 hmw
            rw [← hk] at hgw
            have hltw := (List.getElem?_eq_some_iff.1 hgw).1
            obtain ⟨bw, ow, hA, hrw⟩ := flat_some enc1_len qdw (by omega) hltw
            subst hA
            rw [(List.getElem?_eq_some_iff.1 hgw).2] at hrw
            have ciw := range_cell hrw 0 (v := .int .i64 ((j + 1 : Nat) : Int)) rfl
            simp only [Nat.mul_one, Nat.add_zero] at ciw
            clear hrw
            refine wp_region_lit ?_
            refine wl_v _ (r_move (H.ev rfl)) ?_; refine kl H rfl fun a H => ?_
            refine wl_v _ (r_move (H.ev rfl)) ?_; refine kl H rfl fun a H => ?_
            refine wl_v _ (r_len Try.underlying34 (H.ev rfl)) ?_; refine kl H rfl fun a H => ?_
            refine wl_v _ (r_ge Try.underlying3 (H.ev rfl) (H.ev rfl) (dec_f (by omega))) ?_; refine kl H rfl fun a H => ?_
            refine wl_v _ (r_move (H.ev rfl)) ?_; refine kl H rfl fun a H => ?_
            refine op_unguard _ _ (kg_yes rfl H rfl rfl rfl) ?_; refine wl_v _ (r_move (H.ev rfl)) ?_; refine kl H rfl fun a H => ?_
            refine op_unguard _ _ (kg_yes rfl H rfl rfl rfl) ?_; refine wl_v _ (r_move (H.ev rfl)) ?_; refine kl H rfl fun a H => ?_
            refine op_unguard _ _ (kg_yes rfl H rfl rfl rfl) ?_; refine wl_v _ (r_idx (j := k) (q := ow + k) Try.underlying34 s3 (H.ev rfl) (H.ev rfl) (by omega) (by omega)) ?_; refine kl H rfl fun a H => ?_
            refine op_unguard _ _ (kg_yes rfl H rfl rfl rfl) ?_; refine wl_v _ (r_ld Try.underlying3 rfl (H.ev rfl) (ciw)) ?_; refine kl H rfl fun a H => ?_
            refine op_unguard _ _ (kg_yes rfl H rfl rfl rfl) ?_; refine wl_v _ (r_move (H.ev rfl)) ?_; refine kl H rfl fun a H => ?_
            refine op_unguard _ _ (kg_yes rfl H rfl rfl rfl) ?_; refine wl_v _ (r_ne Try.underlying3 (H.ev rfl) (H.ev rfl) (dec_f (by omega))) ?_; refine kl H rfl fun a H => ?_
            refine wl_v _ (r_pick_f (H.ev rfl) (H.ev rfl)) ?_; refine kl H rfl fun a H => ?_
            refine wpList_nil ?_
            refine c_next ?_
            refine c_cond_f H rfl ?_
            refine wp_skip ?_
            refine c_next ?_
            refine wp_region_lit ?_
            refine wl_v _ (r_move (H.ev rfl)) ?_; refine kl H rfl fun a H => ?_
            refine wl_v _ (r_add (q := ((k + 1 : Nat) : Int)) Try.underlying3 (H.ev rfl) evc (by omega) (by omega)) ?_; refine kl H rfl fun a H => ?_
            refine wl_v _ (r_assign (H.ev rfl)) ?_; refine kl H rfl fun a H => ?_
            refine wpList_nil ?_
            refine c_next ?_
            refine wp_seq ?_
            refine wp_region_lit ?_
            refine wl_v _ (r_move (H.ev rfl)) ?_; refine kl H rfl fun a H => ?_
            refine wl_v _ (r_move (H.ev rfl)) ?_; refine kl H rfl fun a H => ?_
            refine wl_v _ (r_move (H.ev rfl)) ?_; refine kl H rfl fun a H => ?_
            refine wl_call _ _ _ (state_any _ _ L user ((j + 1 : Nat) : Int) h (by omega) HR.out.1) (r_call3 cf16 (H.ev rfl) (H.ev rfl) (H.ev rfl)) ?_; rintro e w9 ⟨rfl, hb⟩; refine ⟨_, rfl, ?_⟩; rw [HS2.out]; replace h := Row.up h hb; replace qdw := Holds.up qdw hb; replace qdt := Holds.up qdt hb; replace hall := hall.trans (hb.mono hall.size); clear hb; refine kl H rfl fun a H => ?_
            by_cases c3 : s2 = 2
            · skip
              refine wl_v _ (r_eq Try.underlying3 (H.ev rfl) evc (dec_t (c3))) ?_; refine kl H rfl fun a H => ?_
              refine wpList_nil ?_
              refine c_next ?_
              refine c_cond_t H rfl ?_
              refine wp_seq ?_
              refine wp_seq ?_
              have hmt : ((j + 1 : Nat) : Int) ∈ Wt := (HPT.out.2.1 _).2 (by rw [HS2.out]; exact c3)
              have hgt := cb_mem HPT.out.1 hmt
              rw [← hn'] at hgt
              have hltt := (List.getElem?_eq_some_iff.1 hgt).1
              obtain ⟨bt, ot, hA, hrt⟩ := flat_some enc1_len qdt (by omega) hltt
              subst hA
              rw [(List.getElem?_eq_some_iff.1 hgt).2] at hrt
              have cit := range_cell hrt 0 (v := .int .i64 ((j + 1 : Nat) : Int)) rfl
              simp only [Nat.mul_one, Nat.add_zero] at cit
              clear hrt
              refine wp_region_lit ?_
              refine wl_v _ (r_move (H.ev rfl)) ?_; refine kl H rfl fun a H => ?_
              refine wl_v _ (r_move (H.ev rfl)) ?_; refine kl H rfl fun a H => ?_
              refine wl_v _ (r_len Try.underlying34 (H.ev rfl)) ?_; refine kl H rfl fun a H => ?_
              refine wl_v _ (r_ge Try.underlying3 (H.ev rfl) (H.ev rfl) (dec_f (by omega))) ?_; refine kl H rfl fun a H => ?_
              refine wl_v _ (r_move (H.ev rfl)) ?_; refine kl H rfl fun a H => ?_
              refine op_unguard _ _ (kg_yes rfl H rfl rfl rfl) ?_; refine wl_v _ (r_move (H.ev rfl)) ?_; refine kl H rfl fun a H => ?_
              refine op_unguard _ _ (kg_yes rfl H rfl rfl rfl) ?_; refine wl_v _ (r_move (H.ev rfl)) ?_; refine kl H rfl fun a H => ?_
              refine op_unguard _ _ (kg_yes rfl H rfl rfl rfl) ?_; refine wl_v _ (r_idx (j := n) (q := ot + n) Try.underlying34 s3 (H.ev rfl) (H.ev rfl) (by omega) (by omega)) ?_; refine kl H rfl fun a H => ?_
              refine op_unguard _ _ (kg_yes rfl H rfl rfl rfl) ?_; refine wl_v _ (r_ld Try.underlying3 rfl (H.ev rfl) (cit)) ?_; refine kl H rfl fun a H => ?_
              refine op_unguard _ _ (kg_yes rfl H rfl rfl rfl) ?_; refine wl_v _ (r_move (H.ev rfl)) ?_; refine kl H rfl fun a H => ?_
              refine op_unguard _ _ (kg_yes rfl H rfl rfl rfl) ?_; refine wl_v _ (r_ne Try.underlying3 (H.ev rfl) (H.ev rfl) (dec_f (by omega))) ?_; refine kl H rfl fun a H => ?_
              refine wl_v _ (r_pick_f (H.ev rfl) (H.ev rfl)) ?_; refine kl H rfl fun a H => ?_
              refine wpList_nil ?_
              refine c_next ?_
              refine c_cond_f H rfl ?_
              refine wp_skip ?_
              refine c_next ?_
              refine wp_region_lit ?_
              refine wl_v _ (r_move (H.ev rfl)) ?_; refine kl H rfl fun a H => ?_
              refine wl_v _ (r_add (q := ((n + 1 : Nat) : Int)) Try.underlying3 (H.ev rfl) evc (by omega) (by omega)) ?_; refine kl H rfl fun a H => ?_
              refine wl_v _ (r_assign (H.ev rfl)) ?_; refine kl H rfl fun a H => ?_
              refine wpList_nil ?_
              refine n_block ?_
              refine c_next ?_
              refine wp_region_lit ?_
              refine wl_v _ (r_move (H.ev rfl)) ?_; refine kl H rfl fun a H => ?_
              refine wl_v _ (r_add (q := ((j + 1 + 1 : Nat) : Int)) Try.underlying3 (H.ev rfl) evc (by omega) (by omega)) ?_; refine kl H rfl fun a H => ?_
              refine wl_v _ (r_assign (H.ev rfl)) ?_; refine kl H rfl fun a H => ?_
              refine wpList_nil ?_
              refine n_then ⟨⟨j + 1, k + 1, n + 1, H.pick [0, 1, 5, 6, 7, 8, 9, 10], by omega, cb_yes HPW.out.1 hmw hk, cb_yes HPT.out.1 hmt hn', h, qdw, qdt, hall⟩, ?_⟩
              rw [H.ev (j := 10) rfl, H0.ev (j := 10) rfl]
              simp only [intOf]
              omega
            · skip
              refine wl_v _ (r_eq Try.underlying3 (H.ev rfl) evc (dec_f (c3))) ?_; refine kl H rfl fun a H => ?_
              refine wpList_nil ?_
              refine c_next ?_
              refine c_cond_f H rfl ?_
              refine wp_skip ?_
              refine n_block ?_
              refine c_next ?_
              refine wp_region_lit ?_
              refine wl_v _ (r_move (H.ev rfl)) ?_; refine kl H rfl fun a H => ?_
              refine wl_v _ (r_add (q := ((j + 1 + 1 : Nat) : Int)) Try.underlying3 (H.ev rfl) evc (by omega) (by omega)) ?_; refine kl H rfl fun a H => ?_
              refine wl_v _ (r_assign (H.ev rfl)) ?_; refine kl H rfl fun a H => ?_
              refine wpList_nil ?_
              refine n_then ⟨⟨j + 1, k + 1, n, H.pick [0, 1, 5, 6, 7, 8, 9, 10], by omega, cb_yes HPW.out.1 hmw hk, cb_no (fun hm => c3 (by rw [← HS2.out]; exact (HPT.out.2.1 _).1 hm)) hn', h, qdw, qdt, hall⟩, ?_⟩
              rw [H.ev (j := 10) rfl, H0.ev (j := 10) rfl]
              simp only [intOf]
              omega
          · skip
            refine wl_v _ (r_eq Try.underlying3 (H.ev rfl) evc (dec_f (c2))) ?_; refine kl H rfl fun a H => ?_
            refine wpList_nil ?_
            refine c_next ?_
            refine c_cond_f H rfl ?_
            refine wp_skip ?_
            refine c_next ?_
            refine wp_seq ?_
            refine wp_region_lit ?_
            refine wl_v _ (r_move (H.ev rfl)) ?_; refine kl H rfl fun a H => ?_
            refine wl_v _ (r_move (H.ev rfl)) ?_; refine kl H rfl fun a H => ?_
            refine wl_v _ (r_move (H.ev rfl)) ?_; refine kl H rfl fun a H => ?_
            refine wl_call _ _ _ (state_any _ _ L user ((j + 1 : Nat) : Int) h (by omega) HR.out.1) (r_call3 cf16 (H.ev rfl) (H.ev rfl) (H.ev rfl)) ?_; rintro e w9 ⟨rfl, hb⟩; refine ⟨_, rfl, ?_⟩; rw [HS2.out]; replace h := Row.up h hb; replace qdw := Holds.up qdw hb; replace qdt := Holds.up qdt hb; replace hall := hall.trans (hb.mono hall.size); clear hb; refine kl H rfl fun a H => ?_
            by_cases c4 : s2 = 2
            · skip
              refine wl_v _ (r_eq Try.underlying3 (H.ev rfl) evc (dec_t (c4))) ?_; refine kl H rfl fun a H => ?_
              refine wpList_nil ?_
              refine c_next ?_
              refine c_cond_t H rfl ?_
              refine wp_seq ?_
              refine wp_seq ?_
              have hmt : ((j + 1 : Nat) : Int) ∈ Wt := (HPT.out.2.1 _).2 (by rw [HS2.out]; exact c4)
              have hgt := cb_mem HPT.out.1 hmt
              rw [← hn'] at hgt
              have hltt := (List.getElem?_eq_some_iff.1 hgt).1
              obtain ⟨bt, ot, hA, hrt⟩ := flat_some enc1_len qdt (by omega) hltt
              subst hA
              rw [(List.getElem?_eq_some_iff.1 hgt).2] at hrt
              have cit := range_cell hrt 0 (v := .int .i64 ((j + 1 : Nat) : Int)) rfl
              simp only [Nat.mul_one, Nat.add_zero] at cit
              clear hrt
              refine wp_region_lit ?_
              refine wl_v _ (r_move (H.ev rfl)) ?_; refine kl H rfl fun a H => ?_
              refine wl_v _ (r_move (H.ev rfl)) ?_; refine kl H rfl fun a H => ?_
              refine wl_v _ (r_len Try.underlying34 (H.ev rfl)) ?_; refine kl H rfl fun a H => ?_
              refine wl_v _ (r_ge Try.underlying3 (H.ev rfl) (H.ev rfl) (dec_f (by omega))) ?_; refine kl H rfl fun a H => ?_
              refine wl_v _ (r_move (H.ev rfl)) ?_; refine kl H rfl fun a H => ?_
              refine op_unguard _ _ (kg_yes rfl H rfl rfl rfl) ?_; refine wl_v _ (r_move (H.ev rfl)) ?_; refine kl H rfl fun a H => ?_
              refine op_unguard _ _ (kg_yes rfl H rfl rfl rfl) ?_; refine wl_v _ (r_move (H.ev rfl)) ?_; refine kl H rfl fun a H => ?_
              refine op_unguard _ _ (kg_yes rfl H rfl rfl rfl) ?_; refine wl_v _ (r_idx (j := n) (q := ot + n) Try.underlying34 s3 (H.ev rfl) (H.ev rfl) (by omega) (by omega)) ?_; refine kl H rfl fun a H => ?_
              refine op_unguard _ _ (kg_yes rfl H rfl rfl rfl) ?_; refine wl_v _ (r_ld Try.underlying3 rfl (H.ev rfl) (cit)) ?_; refine kl H rfl fun a H => ?_
              refine op_unguard _ _ (kg_yes rfl H rfl rfl rfl) ?_; refine wl_v _ (r_move (H.ev rfl)) ?_; refine kl H rfl fun a H => ?_
              refine op_unguard _ _ (kg_yes rfl H rfl rfl rfl) ?_; refine wl_v _ (r_ne Try.underlying3 (H.ev rfl) (H.ev rfl) (dec_f (by omega))) ?_; refine kl H rfl fun a H => ?_
              refine wl_v _ (r_pick_f (H.ev rfl) (H.ev rfl)) ?_; refine kl H rfl fun a H => ?_
              refine wpList_nil ?_
              refine c_next ?_
              refine c_cond_f H rfl ?_
              refine wp_skip ?_
              refine c_next ?_
              refine wp_region_lit ?_
              refine wl_v _ (r_move (H.ev rfl)) ?_; refine kl H rfl fun a H => ?_
              refine wl_v _ (r_add (q := ((n + 1 : Nat) : Int)) Try.underlying3 (H.ev rfl) evc (by omega) (by omega)) ?_; refine kl H rfl fun a H => ?_
              refine wl_v _ (r_assign (H.ev rfl)) ?_; refine kl H rfl fun a H => ?_
              refine wpList_nil ?_
              refine n_block ?_
              refine c_next ?_
              refine wp_region_lit ?_
              refine wl_v _ (r_move (H.ev rfl)) ?_; refine kl H rfl fun a H => ?_
              refine wl_v _ (r_add (q := ((j + 1 + 1 : Nat) : Int)) Try.underlying3 (H.ev rfl) evc (by omega) (by omega)) ?_; refine kl H rfl fun a H => ?_
              refine wl_v _ (r_assign (H.ev rfl)) ?_; refine kl H rfl fun a H => ?_
              refine wpList_nil ?_
              refine n_then ⟨⟨j + 1, k, n + 1, H.pick [0, 1, 5, 6, 7, 8, 9, 10], by omega, cb_no (fun hm => c2 (by rw [← HS1.out]; exact (HPW.out.2.1 _).1 hm)) hk, cb_yes HPT.out.1 hmt hn', h, qdw, qdt, hall⟩, ?_⟩
              rw [H.ev (j := 10) rfl, H0.ev (j := 10) rfl]
              simp only [intOf]
              omega
            · skip
              refine wl_v _ (r_eq Try.underlying3 (H.ev rfl) evc (dec_f (c4))) ?_; refine kl H rfl fun a H => ?_
              refine wpList_nil ?_
              refine c_next ?_
              refine c_cond_f H rfl ?_
              refine wp_skip ?_
              refine n_block ?_
              refine c_next ?_
              refine wp_region_lit ?_
              refine wl_v _ (r_move (H.ev rfl)) ?_; refine kl H rfl fun a H => ?_
              refine wl_v _ (r_add (q := ((j + 1 + 1 : Nat) : Int)) Try.underlying3 (H.ev rfl) evc (by omega) (by omega)) ?_; refine kl H rfl fun a H => ?_
              refine wl_v _ (r_assign (H.ev rfl)) ?_; refine kl H rfl fun a H => ?_
              refine wpList_nil ?_
              refine n_then ⟨⟨j + 1, k, n, H.pick [0, 1, 5, 6, 7, 8, 9, 10], by omega, cb_no (fun hm => c2 (by rw [← HS1.out]; exact (HPW.out.2.1 _).1 hm)) hk, cb_no (fun hm => c4 (by rw [← HS2.out]; exact (HPT.out.2.1 _).1 hm)) hn', h, qdw, qdt, hall⟩, ?_⟩
              rw [H.ev (j := 10) rfl, H0.ev (j := 10) rfl]
              simp only [intOf]
              omega
        · skip
          obtain rfl : j = 16 := by omega
          rw [cb_high HPW.out.2.2] at hk
          rw [cb_high HPT.out.2.2] at hn'
          refine wp_seq ?_
          refine wp_seq ?_
          refine wp_region_lit ?_
          refine wl_v _ (r_move (H.ev rfl)) ?_; refine kl H rfl fun a H => ?_
          refine wl_v _ (r_le Try.underlying3 (H.ev rfl) evc (dec_f (by omega))) ?_; refine kl H rfl fun a H => ?_
          refine wpList_nil ?_
          refine c_next ?_
          refine c_cond_f H rfl ?_
          refine wp_exit ?_
          refine e_then ?_
          refine e_then ?_
          refine e_here ?_
          refine c_next ?_
          refine wp_seq ?_
          refine wp_region_lit ?_
          refine wl_v _ (r_move (H.ev rfl)) ?_; refine kl H rfl fun a H => ?_
          refine wl_v _ (r_move (H.ev rfl)) ?_; refine kl H rfl fun a H => ?_
          refine op_unguard _ _ (kg_yes rfl H rfl rfl rfl) ?_; refine wl_v _ (r_move (H.ev rfl)) ?_; refine kl H rfl fun a H => ?_
          refine op_unguard _ _ (kg_yes rfl H rfl rfl rfl) ?_; refine wl_v _ (r_move (H.ev rfl)) ?_; refine kl H rfl fun a H => ?_
          refine op_unguard _ _ (kg_yes rfl H rfl rfl rfl) ?_; refine wl_v _ (r_len Try.underlying34 (H.ev rfl)) ?_; refine kl H rfl fun a H => ?_
          refine op_unguard _ _ (kg_yes rfl H rfl rfl rfl) ?_; refine wl_v _ (r_eq Try.underlying3 (H.ev rfl) (H.ev rfl) (dec_t (by omega))) ?_; refine kl H rfl fun a H => ?_
          refine wl_v _ (r_pick_t (H.ev rfl) (H.ev rfl)) ?_; refine kl H rfl fun a H => ?_
          refine wl_v _ (r_move (H.ev rfl)) ?_; refine kl H rfl fun a H => ?_
          refine op_unguard _ _ (kg_yes rfl H rfl rfl rfl) ?_; refine wl_v _ (r_move (H.ev rfl)) ?_; refine kl H rfl fun a H => ?_
          refine op_unguard _ _ (kg_yes rfl H rfl rfl rfl) ?_; refine wl_v _ (r_move (H.ev rfl)) ?_; refine kl H rfl fun a H => ?_
          refine op_unguard _ _ (kg_yes rfl H rfl rfl rfl) ?_; refine wl_v _ (r_len Try.underlying34 (H.ev rfl)) ?_; refine kl H rfl fun a H => ?_
          refine op_unguard _ _ (kg_yes rfl H rfl rfl rfl) ?_; refine wl_v _ (r_eq Try.underlying3 (H.ev rfl) (H.ev rfl) (dec_t (by omega))) ?_; refine kl H rfl fun a H => ?_
          refine wl_v _ (r_pick_t (H.ev rfl) (H.ev rfl)) ?_; refine kl H rfl fun a H => ?_
          refine wl_v _ (r_assign (H.ev rfl)) ?_; refine kl H rfl fun a H => ?_
          refine wpList_nil ?_
          refine c_next ?_
          refine wp_ret ?_
          exact k_ret1 H rfl rfl ⟨rfl, hall⟩
theorem watch_all (w : World) (A : Option Addr) (n c : Nat) (B : List Int) (user : Int) (hB : B.length = n * 3) (hw : WF B) (hnc : n ≤ c) (hc : c ≤ maxLen) (hh : Holds w A (B.map (Value.int .i64))) (hz : A = none → c = 0) (hn : n ≤ 9223372036854775807) :
    Calls Try.prog 5 #[.slice A n c, .int .i64 user] w fun e w' => e = .returned (.bool true) ∧ Below w.heap.size w w' := by
  obtain ⟨L, h, rfl, hwf⟩ := row_in hB hw hnc hc hh hz
  exact watch_walk w _ L user h hn hwf
theorem rosterWatch_it0 : intTy Try.prog 3 37 = true := by kernel_rfl
theorem rosterWatch_c0 : Try.prog.cellsOf 37 = 3 := by kernel_rfl
set_option maxRecDepth 100000 in
theorem rosterWatch_lifted (os : Os) (started : os.Started) (H : Type) (enc : TypeId × Value → H) :
    ReturnsInHanded {} Try.checked os 5 .any (Rows.rosterWatchSpec.pre6 enc Try.prog Try.f5 Rows.rosterWatchRow.domain false) (Rows.rosterWatchSpec.post enc Try.prog Try.f5 false true false false) := by
  refine returnsInHanded_of_change (C := Try.checked) own started (by kernel_rfl) Try.func5
    (ChangeSpec.witness6 (enc := enc) (C := Try.checked) false ⟨#[], #[.slice none 0 0, .int .i64 0], []⟩ 8 (by kernel_rfl) (by kernel_rfl) (by kernel_rfl) (by kernel_rfl)) ?_
  intro W base args ds gs before hval0 hW hcnd _
  have hval : ∀ (j : Nat) t v, Try.f5.params[j]? = some t → args[j]? = some v → Value.okWide Try.prog W .any base t v := hval0
  have hW' := hW
  obtain ⟨p, q, hA0, hV, rfl, hfz, hnd⟩ := hW
  have hA : DataW.TrodAll enc Try.prog W 0 (fun _ => true) true Try.f5.params.toList args.toList ds p := hA0
  rw [Try.params5] at hA hval
  obtain ⟨v0, vs0, d0, ds0, p0, q0, hargs, rfl, rfl, h0, r0⟩ := trodAll_cons hA
  obtain ⟨v1, vs1, d1, ds1, p1, q1, rfl, rfl, rfl, h1, r1⟩ := trodAll_cons r0
  obtain ⟨rfl, rfl, rfl⟩ := trodAll_nil r1
  obtain rfl : args = #[v0, v1] := by cases args; simp_all
  obtain ⟨rfl, rfl⟩ := trodVars_none hV
  have k0 := h0
  have lt0 : ∀ x ∈ p0, x.block < W.heap.size := by obtain ⟨m, hm⟩ := k0; exact DataW.trod_lt m _ _ _ hm
  obtain ⟨A0, n0, c0, L0, rfl, hn0, hw0, hnc0, hcm0, hh0, hz0⟩ := open_slice_ints 3 3 Try.underlying22 rosterWatch_it0 rosterWatch_c0 (by omega) (hval 0 22 v0 rfl rfl) h0
  have hb0 : n0 ≤ 9223372036854775807 := by unfold maxLen at hcm0; omega
  obtain ⟨u1, rfl, rfl, rfl, wu1⟩ := open_int Try.underlying3 (hval 1 3 v1 rfl rfl) h1
  clear hA0 hval0
  refine (watch_all W A0 n0 c0 L0 u1 hn0 hw0 hnc0 hcm0 hh0 hz0 (by omega)).mono fun e W' ⟨he, bel⟩ => ?_
  subst he
  exact ⟨_, rfl, _, _, _, [], _, [], hW', trodAll_mk1 (shut_bool Try.underlying4 _), (trodAll_cons_mk (Below.trod laidOut (by kernel_rfl) (of_decide_eq_true (by kernel_rfl)) k0 bel lt0) (trodAll_cons_mk (shut_int Try.underlying3 wu1) trodAll_mk0)), rfl, bel.frame _, fun h => by cases h⟩

theorem rosterWatch_holds : Rows.RosterWatchSaid :=
  OpenClaim.holds_of_wide 5 Try.f5 rfl rfl rfl rfl rfl rfl rfl ⟨rfl, rfl, rfl, rfl, rfl⟩ rfl rfl rfl rfl rfl (by kernel_rfl) Try.func5 (by kernel_rfl)
    (of_decide_eq_true (by kernel_rfl)) (by unfold Func.isWrapper; first | (rw [if_pos (by decide +kernel)]; kernel_rfl) | (rw [if_neg (by decide +kernel)]; exact ⟨rfl, rfl⟩))
    (fun os started H enc _ => rosterWatch_lifted os started H enc)
#print axioms rosterWatch_holds
end Go.Proofs.Ytfehhenbdiageaa
