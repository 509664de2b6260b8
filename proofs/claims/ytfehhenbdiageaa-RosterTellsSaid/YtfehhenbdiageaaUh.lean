/- Roster: the document's Do. -/
import Derived.Test.YtfehhenbdiageaaUg
namespace Go.Proofs.Ytfehhenbdiageaa
open Go.RowKit
set_option linter.unusedVariables false
set_option linter.unusedSimpArgs false

theorem own_cast {w : World} {base n : Nat} {v : Value} {xs : List Value} {M : List Tm} (h : w.ownsRow base 37 3 v n xs) (e : xs = FV encT M) : TOwn w base v M := by
  subst e
  have hl := h.1
  rw [FV_len encT_len] at hl
  obtain rfl : M.length = n := by omega
  exact h
def LtTo (L : List Tm) (x z : Int) (k : Nat) : Prop := ∀ (j : Nat) (y : Tm), j < k → L[j]? = some y → Lt y (x, z, 0)
theorem lt_next {L : List Tm} {x z s : Int} {k : Nat} {y : Tm} (h : LtTo L x z k) (hy : L[k]? = some y) (hl : Lt y (x, z, s)) : LtTo L x z (k + 1) := by
  intro j u hj hu
  by_cases e : j = k
  · subst e
    rw [hy] at hu
    injection hu with hu
    subst hu
    exact hl
  · exact h j u (by omega) hu
theorem findP_of {L : List Tm} {x z : Int} {k : Nat} (hP : L.Pairwise Lt) (hk : k ≤ L.length) (ha : LtTo L x z k) (hb : ∀ y, L[k]? = some y → ¬ Lt y (x, z, 0)) : ∃ f, FindP L x z k f := by
  classical
  refine ⟨decide (∃ y, L[k]? = some y ∧ y.1 = x ∧ y.2.1 = z), hk, fun j hj y hy => (ord_lt _ _).2 (ha j y hj hy), fun j hj y hy hlt => ?_, by rw [decide_eq_true_iff]⟩
  have hlt := (ord_lt _ _).1 hlt
  by_cases e : j = k
  · subst e; exact hb y hy hlt
  · obtain ⟨hj', rfl⟩ := List.getElem?_eq_some_iff.1 hy
    exact hb L[k] (List.getElem?_eq_getElem (by omega)) ((List.pairwise_iff_getElem.1 hP k j (by omega) hj' (by omega)).trans hlt)
theorem take_own {w : World} {base n : Nat} {v : Value} {L : List Tm} {k : Nat} {y : Tm} (hy : L[k]? = some y) (h : w.ownsRow base 37 3 v n (FV encT (L.take k) ++ FV encT [y])) : TOwn w base v (L.take (k + 1)) := by
  obtain ⟨hk, e⟩ := List.getElem?_eq_some_iff.1 hy
  refine own_cast h ?_
  rw [List.take_succ_eq_append_getElem hk, FV_append, e]
theorem rs_src {w : World} {A : Option Addr} {c : Nat} {M : List Tm} (h : Holds w A (FV encT M)) (hc : M.length ≤ c) (k : Nat) : Holds w (slAt A c k 3) (FV encT (M.drop k)) := by
  rw [FV_drop encT_len]
  exact slAt_holds (FV_len encT_len M) hc h k
theorem Block.grown {w w' : World} {g : Nat} {t : TypeId} {C : Array Value} {row : Option Nat} (h : Block w g t C) (hg : w.grownBy w' row) (hne : some g ≠ row) : Block w' g t C := (hg.block g h.lt hne).trans h
theorem app_ne {w : World} {v v' : Value} {b : Nat} (h : v'.ownBlock = v.ownBlock ∨ v'.ownBlock = some w.heap.size) (hne : v.ownBlock ≠ some b) (hb : b < w.heap.size) : v'.ownBlock ≠ some b := by
  rcases h with e | e <;> rw [e]
  · exact hne
  · intro e2
    injection e2 with e2
    omega
def SDo (W : World) (bx : Nat) (x z tq : Int) (v : Value) (M : List Tm) (w : World) : Prop := Below W.heap.size W w ∧ Block w bx 37 #[.int .i64 x, .int .i64 z, .int .i64 tq] ∧ TOwn w W.heap.size v M
theorem SDo.up {W w w' : World} {bx : Nat} {x z tq : Int} {v : Value} {M : List Tm} (h : SDo W bx x z tq v M w) (hb : Below w.heap.size w w') : SDo W bx x z tq v M w' := ⟨h.1.trans (hb.mono h.1.size), h.2.1.ups hb, own_ups h.2.2 hb⟩
def RdI (W : World) (A : Option Addr) (c : Nat) (L : List Tm) (bx : Nat) (x z tq s : Int) (a : Act) (w : World) : Prop :=
  ∃ (k : Nat) (v5 : Value), Kn a 119 [(0, .slice A L.length c), (11, .pointer (some ⟨bx, 0, none⟩)), (12, .int .i64 s), (13, .int .i64 tq), (15, v5), (16, .int .i64 (k : Nat))] ∧ k ≤ L.length ∧ LtTo L x z k ∧ TOwn w W.heap.size v5 (L.take k) ∧ v5.ownBlock ≠ some bx ∧ Block w bx 37 #[.int .i64 x, .int .i64 z, .int .i64 tq] ∧ Below W.heap.size W w
set_option maxHeartbeats 8000000 in
theorem rdo_any (w : World) (v : Value) (L : List Tm) (op who peer : Int) (h0 : TRow w v L) (hn : L.length ≤ 100000) (hR : RightL L) :
    Calls Try.prog 14 #[v, .int .i64 op, .int .i64 who, .int .i64 peer] w fun e w' => (∃ v', e = .returned (.tuple #[v', .int .i64 (doF L op who peer).2]) ∧ TOwn w' w.heap.size v' (doF L op who peer).1) ∧ Below w.heap.size w w' := by
  obtain ⟨A, c, rfl, h1, h2, h3, hh⟩ := h0
  have h : Hid (TRow w (.slice A L.length c) L) := Lib.hid ⟨A, c, rfl, h1, h2, h3, hh⟩
  replace hh := Lib.hid hh
  replace hR := Lib.hid hR
  have hall := Below.refl w.heap.size w
  refine K_enter 119 Try.func14 rfl rfl fun a H => ?_
  replace H := H.pick [0, 1, 2, 3]
  refine wp_seq ?_
  refine wp_region_lit ?_
  refine wl_v _ (r_assign evc) ?_; refine kl H rfl fun a H => ?_
  refine wl_v _ (r_assign evc) ?_; refine kl H rfl fun a H => ?_
  refine wpList_nil ?_
  refine c_next ?_
  refine wp_seq ?_
  refine wp_region_lit ?_
  refine op_litv 22 0 #[] 37 #[] (by simp) (fun w => by kernel_rfl) fun w1 bl hge hb kk => ?_; have hn0 := own_empty (base := w.heap.size) (size := 3) kk (Nat.le_trans hall.size hge); replace hall := hall.trans (hb.mono hall.size); clear hb hge kk; refine kl H rfl fun a H => ?_
  refine wl_v _ (r_move (H.ev rfl)) ?_; refine kl H rfl fun a H => ?_
  refine op_append 22 37 (.tmp 17) (.tmp 18) w.heap.size (.agg #[.int .i64 0, .int .i64 0, .int .i64 0]) 3 24 _ 0 [] A L.length c (FV encT L) (H.ev rfl) (H.ev rfl) Try.underlying22 i37 rfl (by omega) hn0 (by rw [FV_len encT_len]) (hh.out.up hall) (FV_one _ _) (by unfold maxLen; omega) (by omega) hall.size fun v1 w2 hown2 hg9 hv9 hb2 => ?_; replace hall := hall.trans hb2; clear hb2 hn0; have hown : TOwn _ w.heap.size v1 L := own_cast hown2 rfl; clear hown2 hg9 hv9; refine kl H rfl fun a H => ?_
  refine wl_v _ (r_assign (H.ev rfl)) ?_; refine kl H rfl fun a H => ?_
  refine wpList_nil ?_
  refine c_next ?_
  refine wp_seq ?_
  refine wp_seq ?_
  obtain ⟨u1, hu1⟩ : ∃ u1, userB who = u1 := ⟨_, rfl⟩
  obtain ⟨u2, hu2⟩ : ∃ u2, userB peer = u2 := ⟨_, rfl⟩
  have HU1 := Lib.hid hu1
  have HU2 := Lib.hid hu2
  clear hu1 hu2
  cases u1
  · skip
    cases u2
    · skip
      refine wp_region_lit ?_
      refine wl_v _ (r_move (H.ev rfl)) ?_; refine kl H rfl fun a H => ?_
      by_cases c0 : op < 1
      · skip
        refine wl_v _ (r_lt Try.underlying3 (H.ev rfl) evc (dec_t (c0))) ?_; refine kl H rfl fun a H => ?_
        refine wl_v _ (r_move (H.ev rfl)) ?_; refine kl H rfl fun a H => ?_
        refine wl_s (kg_no rfl H rfl rfl rfl) ?_; refine kl H rfl fun a H => ?_
        refine wl_s (kg_no rfl H rfl rfl rfl) ?_; refine kl H rfl fun a H => ?_
        refine wl_v _ (r_pick_t (H.ev rfl) evc) ?_; refine kl H rfl fun a H => ?_
        refine wl_v _ (r_move (H.ev rfl)) ?_; refine kl H rfl fun a H => ?_
        refine wl_s (kg_no rfl H rfl rfl rfl) ?_; refine kl H rfl fun a H => ?_
        refine wl_s (kg_no rfl H rfl rfl rfl) ?_; refine kl H rfl fun a H => ?_
        refine wl_s (kg_no rfl H rfl rfl rfl) ?_; refine kl H rfl fun a H => ?_
        refine wl_v _ (r_pick_t (H.ev rfl) evc) ?_; refine kl H rfl fun a H => ?_
        refine wl_v _ (r_move (H.ev rfl)) ?_; refine kl H rfl fun a H => ?_
        refine wl_s (kg_no rfl H rfl rfl rfl) ?_; refine kl H rfl fun a H => ?_
        refine wl_s (kg_no rfl H rfl rfl rfl) ?_; refine kl H rfl fun a H => ?_
        refine wl_s (kg_no rfl H rfl rfl rfl) ?_; refine kl H rfl fun a H => ?_
        refine wl_v _ (r_pick_t (H.ev rfl) evc) ?_; refine kl H rfl fun a H => ?_
        refine wl_v _ (r_move (H.ev rfl)) ?_; refine kl H rfl fun a H => ?_
        refine wl_s (kg_no rfl H rfl rfl rfl) ?_; refine kl H rfl fun a H => ?_
        refine wl_s (kg_no rfl H rfl rfl rfl) ?_; refine kl H rfl fun a H => ?_
        refine wl_s (kg_no rfl H rfl rfl rfl) ?_; refine kl H rfl fun a H => ?_
        refine wl_v _ (r_pick_t (H.ev rfl) evc) ?_; refine kl H rfl fun a H => ?_
        refine wpList_nil ?_
        refine c_next ?_
        refine c_cond_t H rfl ?_
        refine wp_seq ?_
        refine wp_region_lit ?_
        refine wl_v _ (r_move (H.ev rfl)) ?_; refine kl H rfl fun a H => ?_
        refine wl_v _ (r_assign (H.ev rfl)) ?_; refine kl H rfl fun a H => ?_
        refine wl_v _ (r_assign evc) ?_; refine kl H rfl fun a H => ?_
        refine wpList_nil ?_
        refine c_next ?_
        refine wp_ret ?_
        refine r_then ?_
        exact k_ret2 H rfl rfl rfl ⟨⟨_, by rw [do_bad (by unfold badP; rw [HU1.out, HU2.out]; first | (simp; done) | (simp; omega))], by rw [do_bad (by unfold badP; rw [HU1.out, HU2.out]; first | (simp; done) | (simp; omega))]; exact hown⟩, hall⟩
      · skip
        refine wl_v _ (r_lt Try.underlying3 (H.ev rfl) evc (dec_f (c0))) ?_; refine kl H rfl fun a H => ?_
        refine wl_v _ (r_move (H.ev rfl)) ?_; refine kl H rfl fun a H => ?_
        refine op_unguard _ _ (kg_yes rfl H rfl rfl rfl) ?_; refine wl_v _ (r_move (H.ev rfl)) ?_; refine kl H rfl fun a H => ?_
        by_cases c1 : op > 7
        · skip
          refine op_unguard _ _ (kg_yes rfl H rfl rfl rfl) ?_; refine wl_v _ (r_gt Try.underlying3 (H.ev rfl) evc (dec_t (c1))) ?_; refine kl H rfl fun a H => ?_
          refine wl_v _ (r_pick_f (H.ev rfl) (H.ev rfl)) ?_; refine kl H rfl fun a H => ?_
          refine wl_v _ (r_move (H.ev rfl)) ?_; refine kl H rfl fun a H => ?_
          refine wl_s (kg_no rfl H rfl rfl rfl) ?_; refine kl H rfl fun a H => ?_
          refine wl_s (kg_no rfl H rfl rfl rfl) ?_; refine kl H rfl fun a H => ?_
          refine wl_s (kg_no rfl H rfl rfl rfl) ?_; refine kl H rfl fun a H => ?_
          refine wl_v _ (r_pick_t (H.ev rfl) evc) ?_; refine kl H rfl fun a H => ?_
          refine wl_v _ (r_move (H.ev rfl)) ?_; refine kl H rfl fun a H => ?_
          refine wl_s (kg_no rfl H rfl rfl rfl) ?_; refine kl H rfl fun a H => ?_
          refine wl_s (kg_no rfl H rfl rfl rfl) ?_; refine kl H rfl fun a H => ?_
          refine wl_s (kg_no rfl H rfl rfl rfl) ?_; refine kl H rfl fun a H => ?_
          refine wl_v _ (r_pick_t (H.ev rfl) evc) ?_; refine kl H rfl fun a H => ?_
          refine wl_v _ (r_move (H.ev rfl)) ?_; refine kl H rfl fun a H => ?_
          refine wl_s (kg_no rfl H rfl rfl rfl) ?_; refine kl H rfl fun a H => ?_
          refine wl_s (kg_no rfl H rfl rfl rfl) ?_; refine kl H rfl fun a H => ?_
          refine wl_s (kg_no rfl H rfl rfl rfl) ?_; refine kl H rfl fun a H => ?_
          refine wl_v _ (r_pick_t (H.ev rfl) evc) ?_; refine kl H rfl fun a H => ?_
          refine wpList_nil ?_
          refine c_next ?_
          refine c_cond_t H rfl ?_
          refine wp_seq ?_
          refine wp_region_lit ?_
          refine wl_v _ (r_move (H.ev rfl)) ?_; refine kl H rfl fun a H => ?_
          refine wl_v _ (r_assign (H.ev rfl)) ?_; refine kl H rfl fun a H => ?_
          refine wl_v _ (r_assign evc) ?_; refine kl H rfl fun a H => ?_
          refine wpList_nil ?_
          refine c_next ?_
          refine wp_ret ?_
          refine r_then ?_
          exact k_ret2 H rfl rfl rfl ⟨⟨_, by rw [do_bad (by unfold badP; rw [HU1.out, HU2.out]; first | (simp; done) | (simp; omega))], by rw [do_bad (by unfold badP; rw [HU1.out, HU2.out]; first | (simp; done) | (simp; omega))]; exact hown⟩, hall⟩
        · skip
          refine op_unguard _ _ (kg_yes rfl H rfl rfl rfl) ?_; refine wl_v _ (r_gt Try.underlying3 (H.ev rfl) evc (dec_f (c1))) ?_; refine kl H rfl fun a H => ?_
          refine wl_v _ (r_pick_f (H.ev rfl) (H.ev rfl)) ?_; refine kl H rfl fun a H => ?_
          refine wl_v _ (r_move (H.ev rfl)) ?_; refine kl H rfl fun a H => ?_
          refine op_unguard _ _ (kg_yes rfl H rfl rfl rfl) ?_; refine wl_v _ (r_move (H.ev rfl)) ?_; refine kl H rfl fun a H => ?_
          refine op_unguard _ _ (kg_yes rfl H rfl rfl rfl) ?_; refine wl_call _ _ _ (ruser_any _ _) (r_call1 cf27 (H.ev rfl)) ?_; rintro e w9 ⟨rfl, rfl⟩; refine ⟨_, rfl, ?_⟩; rw [HU1.out]; skip; refine kl H rfl fun a H => ?_
          refine op_unguard _ _ (kg_yes rfl H rfl rfl rfl) ?_; refine wl_v _ (r_not (H.ev rfl) rfl) ?_; refine kl H rfl fun a H => ?_
          refine wl_v _ (r_pick_f (H.ev rfl) (H.ev rfl)) ?_; refine kl H rfl fun a H => ?_
          refine wl_v _ (r_move (H.ev rfl)) ?_; refine kl H rfl fun a H => ?_
          refine wl_s (kg_no rfl H rfl rfl rfl) ?_; refine kl H rfl fun a H => ?_
          refine wl_s (kg_no rfl H rfl rfl rfl) ?_; refine kl H rfl fun a H => ?_
          refine wl_s (kg_no rfl H rfl rfl rfl) ?_; refine kl H rfl fun a H => ?_
          refine wl_v _ (r_pick_t (H.ev rfl) evc) ?_; refine kl H rfl fun a H => ?_
          refine wl_v _ (r_move (H.ev rfl)) ?_; refine kl H rfl fun a H => ?_
          refine wl_s (kg_no rfl H rfl rfl rfl) ?_; refine kl H rfl fun a H => ?_
          refine wl_s (kg_no rfl H rfl rfl rfl) ?_; refine kl H rfl fun a H => ?_
          refine wl_s (kg_no rfl H rfl rfl rfl) ?_; refine kl H rfl fun a H => ?_
          refine wl_v _ (r_pick_t (H.ev rfl) evc) ?_; refine kl H rfl fun a H => ?_
          refine wpList_nil ?_
          refine c_next ?_
          refine c_cond_t H rfl ?_
          refine wp_seq ?_
          refine wp_region_lit ?_
          refine wl_v _ (r_move (H.ev rfl)) ?_; refine kl H rfl fun a H => ?_
          refine wl_v _ (r_assign (H.ev rfl)) ?_; refine kl H rfl fun a H => ?_
          refine wl_v _ (r_assign evc) ?_; refine kl H rfl fun a H => ?_
          refine wpList_nil ?_
          refine c_next ?_
          refine wp_ret ?_
          refine r_then ?_
          exact k_ret2 H rfl rfl rfl ⟨⟨_, by rw [do_bad (by unfold badP; rw [HU1.out, HU2.out]; first | (simp; done) | (simp; omega))], by rw [do_bad (by unfold badP; rw [HU1.out, HU2.out]; first | (simp; done) | (simp; omega))]; exact hown⟩, hall⟩
    · skip
      refine wp_region_lit ?_
      refine wl_v _ (r_move (H.ev rfl)) ?_; refine kl H rfl fun a H => ?_
      by_cases c2 : op < 1
      · skip
        refine wl_v _ (r_lt Try.underlying3 (H.ev rfl) evc (dec_t (c2))) ?_; refine kl H rfl fun a H => ?_
        refine wl_v _ (r_move (H.ev rfl)) ?_; refine kl H rfl fun a H => ?_
        refine wl_s (kg_no rfl H rfl rfl rfl) ?_; refine kl H rfl fun a H => ?_
        refine wl_s (kg_no rfl H rfl rfl rfl) ?_; refine kl H rfl fun a H => ?_
        refine wl_v _ (r_pick_t (H.ev rfl) evc) ?_; refine kl H rfl fun a H => ?_
        refine wl_v _ (r_move (H.ev rfl)) ?_; refine kl H rfl fun a H => ?_
        refine wl_s (kg_no rfl H rfl rfl rfl) ?_; refine kl H rfl fun a H => ?_
        refine wl_s (kg_no rfl H rfl rfl rfl) ?_; refine kl H rfl fun a H => ?_
        refine wl_s (kg_no rfl H rfl rfl rfl) ?_; refine kl H rfl fun a H => ?_
        refine wl_v _ (r_pick_t (H.ev rfl) evc) ?_; refine kl H rfl fun a H => ?_
        refine wl_v _ (r_move (H.ev rfl)) ?_; refine kl H rfl fun a H => ?_
        refine wl_s (kg_no rfl H rfl rfl rfl) ?_; refine kl H rfl fun a H => ?_
        refine wl_s (kg_no rfl H rfl rfl rfl) ?_; refine kl H rfl fun a H => ?_
        refine wl_s (kg_no rfl H rfl rfl rfl) ?_; refine kl H rfl fun a H => ?_
        refine wl_v _ (r_pick_t (H.ev rfl) evc) ?_; refine kl H rfl fun a H => ?_
        refine wl_v _ (r_move (H.ev rfl)) ?_; refine kl H rfl fun a H => ?_
        refine wl_s (kg_no rfl H rfl rfl rfl) ?_; refine kl H rfl fun a H => ?_
        refine wl_s (kg_no rfl H rfl rfl rfl) ?_; refine kl H rfl fun a H => ?_
        refine wl_s (kg_no rfl H rfl rfl rfl) ?_; refine kl H rfl fun a H => ?_
        refine wl_v _ (r_pick_t (H.ev rfl) evc) ?_; refine kl H rfl fun a H => ?_
        refine wpList_nil ?_
        refine c_next ?_
        refine c_cond_t H rfl ?_
        refine wp_seq ?_
        refine wp_region_lit ?_
        refine wl_v _ (r_move (H.ev rfl)) ?_; refine kl H rfl fun a H => ?_
        refine wl_v _ (r_assign (H.ev rfl)) ?_; refine kl H rfl fun a H => ?_
        refine wl_v _ (r_assign evc) ?_; refine kl H rfl fun a H => ?_
        refine wpList_nil ?_
        refine c_next ?_
        refine wp_ret ?_
        refine r_then ?_
        exact k_ret2 H rfl rfl rfl ⟨⟨_, by rw [do_bad (by unfold badP; rw [HU1.out, HU2.out]; first | (simp; done) | (simp; omega))], by rw [do_bad (by unfold badP; rw [HU1.out, HU2.out]; first | (simp; done) | (simp; omega))]; exact hown⟩, hall⟩
      · skip
        refine wl_v _ (r_lt Try.underlying3 (H.ev rfl) evc (dec_f (c2))) ?_; refine kl H rfl fun a H => ?_
        refine wl_v _ (r_move (H.ev rfl)) ?_; refine kl H rfl fun a H => ?_
        refine op_unguard _ _ (kg_yes rfl H rfl rfl rfl) ?_; refine wl_v _ (r_move (H.ev rfl)) ?_; refine kl H rfl fun a H => ?_
        by_cases c3 : op > 7
        · skip
          refine op_unguard _ _ (kg_yes rfl H rfl rfl rfl) ?_; refine wl_v _ (r_gt Try.underlying3 (H.ev rfl) evc (dec_t (c3))) ?_; refine kl H rfl fun a H => ?_
          refine wl_v _ (r_pick_f (H.ev rfl) (H.ev rfl)) ?_; refine kl H rfl fun a H => ?_
          refine wl_v _ (r_move (H.ev rfl)) ?_; refine kl H rfl fun a H => ?_
          refine wl_s (kg_no rfl H rfl rfl rfl) ?_; refine kl H rfl fun a H => ?_
          refine wl_s (kg_no rfl H rfl rfl rfl) ?_; refine kl H rfl fun a H => ?_
          refine wl_s (kg_no rfl H rfl rfl rfl) ?_; refine kl H rfl fun a H => ?_
          refine wl_v _ (r_pick_t (H.ev rfl) evc) ?_; refine kl H rfl fun a H => ?_
          refine wl_v _ (r_move (H.ev rfl)) ?_; refine kl H rfl fun a H => ?_
          refine wl_s (kg_no rfl H rfl rfl rfl) ?_; refine kl H rfl fun a H => ?_
          refine wl_s (kg_no rfl H rfl rfl rfl) ?_; refine kl H rfl fun a H => ?_
          refine wl_s (kg_no rfl H rfl rfl rfl) ?_; refine kl H rfl fun a H => ?_
          refine wl_v _ (r_pick_t (H.ev rfl) evc) ?_; refine kl H rfl fun a H => ?_
          refine wl_v _ (r_move (H.ev rfl)) ?_; refine kl H rfl fun a H => ?_
          refine wl_s (kg_no rfl H rfl rfl rfl) ?_; refine kl H rfl fun a H => ?_
          refine wl_s (kg_no rfl H rfl rfl rfl) ?_; refine kl H rfl fun a H => ?_
          refine wl_s (kg_no rfl H rfl rfl rfl) ?_; refine kl H rfl fun a H => ?_
          refine wl_v _ (r_pick_t (H.ev rfl) evc) ?_; refine kl H rfl fun a H => ?_
          refine wpList_nil ?_
          refine c_next ?_
          refine c_cond_t H rfl ?_
          refine wp_seq ?_
          refine wp_region_lit ?_
          refine wl_v _ (r_move (H.ev rfl)) ?_; refine kl H rfl fun a H => ?_
          refine wl_v _ (r_assign (H.ev rfl)) ?_; refine kl H rfl fun a H => ?_
          refine wl_v _ (r_assign evc) ?_; refine kl H rfl fun a H => ?_
          refine wpList_nil ?_
          refine c_next ?_
          refine wp_ret ?_
          refine r_then ?_
          exact k_ret2 H rfl rfl rfl ⟨⟨_, by rw [do_bad (by unfold badP; rw [HU1.out, HU2.out]; first | (simp; done) | (simp; omega))], by rw [do_bad (by unfold badP; rw [HU1.out, HU2.out]; first | (simp; done) | (simp; omega))]; exact hown⟩, hall⟩
        · skip
          refine op_unguard _ _ (kg_yes rfl H rfl rfl rfl) ?_; refine wl_v _ (r_gt Try.underlying3 (H.ev rfl) evc (dec_f (c3))) ?_; refine kl H rfl fun a H => ?_
          refine wl_v _ (r_pick_f (H.ev rfl) (H.ev rfl)) ?_; refine kl H rfl fun a H => ?_
          refine wl_v _ (r_move (H.ev rfl)) ?_; refine kl H rfl fun a H => ?_
          refine op_unguard _ _ (kg_yes rfl H rfl rfl rfl) ?_; refine wl_v _ (r_move (H.ev rfl)) ?_; refine kl H rfl fun a H => ?_
          refine op_unguard _ _ (kg_yes rfl H rfl rfl rfl) ?_; refine wl_call _ _ _ (ruser_any _ _) (r_call1 cf27 (H.ev rfl)) ?_; rintro e w9 ⟨rfl, rfl⟩; refine ⟨_, rfl, ?_⟩; rw [HU1.out]; skip; refine kl H rfl fun a H => ?_
          refine op_unguard _ _ (kg_yes rfl H rfl rfl rfl) ?_; refine wl_v _ (r_not (H.ev rfl) rfl) ?_; refine kl H rfl fun a H => ?_
          refine wl_v _ (r_pick_f (H.ev rfl) (H.ev rfl)) ?_; refine kl H rfl fun a H => ?_
          refine wl_v _ (r_move (H.ev rfl)) ?_; refine kl H rfl fun a H => ?_
          refine wl_s (kg_no rfl H rfl rfl rfl) ?_; refine kl H rfl fun a H => ?_
          refine wl_s (kg_no rfl H rfl rfl rfl) ?_; refine kl H rfl fun a H => ?_
          refine wl_s (kg_no rfl H rfl rfl rfl) ?_; refine kl H rfl fun a H => ?_
          refine wl_v _ (r_pick_t (H.ev rfl) evc) ?_; refine kl H rfl fun a H => ?_
          refine wl_v _ (r_move (H.ev rfl)) ?_; refine kl H rfl fun a H => ?_
          refine wl_s (kg_no rfl H rfl rfl rfl) ?_; refine kl H rfl fun a H => ?_
          refine wl_s (kg_no rfl H rfl rfl rfl) ?_; refine kl H rfl fun a H => ?_
          refine wl_s (kg_no rfl H rfl rfl rfl) ?_; refine kl H rfl fun a H => ?_
          refine wl_v _ (r_pick_t (H.ev rfl) evc) ?_; refine kl H rfl fun a H => ?_
          refine wpList_nil ?_
          refine c_next ?_
          refine c_cond_t H rfl ?_
          refine wp_seq ?_
          refine wp_region_lit ?_
          refine wl_v _ (r_move (H.ev rfl)) ?_; refine kl H rfl fun a H => ?_
          refine wl_v _ (r_assign (H.ev rfl)) ?_; refine kl H rfl fun a H => ?_
          refine wl_v _ (r_assign evc) ?_; refine kl H rfl fun a H => ?_
          refine wpList_nil ?_
          refine c_next ?_
          refine wp_ret ?_
          refine r_then ?_
          exact k_ret2 H rfl rfl rfl ⟨⟨_, by rw [do_bad (by unfold badP; rw [HU1.out, HU2.out]; first | (simp; done) | (simp; omega))], by rw [do_bad (by unfold badP; rw [HU1.out, HU2.out]; first | (simp; done) | (simp; omega))]; exact hown⟩, hall⟩
  · skip
    cases u2
    · skip
      refine wp_region_lit ?_
      refine wl_v _ (r_move (H.ev rfl)) ?_; refine kl H rfl fun a H => ?_
      by_cases c4 : op < 1
      · skip
        refine wl_v _ (r_lt Try.underlying3 (H.ev rfl) evc (dec_t (c4))) ?_; refine kl H rfl fun a H => ?_
        refine wl_v _ (r_move (H.ev rfl)) ?_; refine kl H rfl fun a H => ?_
        refine wl_s (kg_no rfl H rfl rfl rfl) ?_; refine kl H rfl fun a H => ?_
        refine wl_s (kg_no rfl H rfl rfl rfl) ?_; refine kl H rfl fun a H => ?_
        refine wl_v _ (r_pick_t (H.ev rfl) evc) ?_; refine kl H rfl fun a H => ?_
        refine wl_v _ (r_move (H.ev rfl)) ?_; refine kl H rfl fun a H => ?_
        refine wl_s (kg_no rfl H rfl rfl rfl) ?_; refine kl H rfl fun a H => ?_
        refine wl_s (kg_no rfl H rfl rfl rfl) ?_; refine kl H rfl fun a H => ?_
        refine wl_s (kg_no rfl H rfl rfl rfl) ?_; refine kl H rfl fun a H => ?_
        refine wl_v _ (r_pick_t (H.ev rfl) evc) ?_; refine kl H rfl fun a H => ?_
        refine wl_v _ (r_move (H.ev rfl)) ?_; refine kl H rfl fun a H => ?_
        refine wl_s (kg_no rfl H rfl rfl rfl) ?_; refine kl H rfl fun a H => ?_
        refine wl_s (kg_no rfl H rfl rfl rfl) ?_; refine kl H rfl fun a H => ?_
        refine wl_s (kg_no rfl H rfl rfl rfl) ?_; refine kl H rfl fun a H => ?_
        refine wl_v _ (r_pick_t (H.ev rfl) evc) ?_; refine kl H rfl fun a H => ?_
        refine wl_v _ (r_move (H.ev rfl)) ?_; refine kl H rfl fun a H => ?_
        refine wl_s (kg_no rfl H rfl rfl rfl) ?_; refine kl H rfl fun a H => ?_
        refine wl_s (kg_no rfl H rfl rfl rfl) ?_; refine kl H rfl fun a H => ?_
        refine wl_s (kg_no rfl H rfl rfl rfl) ?_; refine kl H rfl fun a H => ?_
        refine wl_v _ (r_pick_t (H.ev rfl) evc) ?_; refine kl H rfl fun a H => ?_
        refine wpList_nil ?_
        refine c_next ?_
        refine c_cond_t H rfl ?_
        refine wp_seq ?_
        refine wp_region_lit ?_
        refine wl_v _ (r_move (H.ev rfl)) ?_; refine kl H rfl fun a H => ?_
        refine wl_v _ (r_assign (H.ev rfl)) ?_; refine kl H rfl fun a H => ?_
        refine wl_v _ (r_assign evc) ?_; refine kl H rfl fun a H => ?_
        refine wpList_nil ?_
        refine c_next ?_
        refine wp_ret ?_
        refine r_then ?_
        exact k_ret2 H rfl rfl rfl ⟨⟨_, by rw [do_bad (by unfold badP; rw [HU1.out, HU2.out]; first | (simp; done) | (simp; omega))], by rw [do_bad (by unfold badP; rw [HU1.out, HU2.out]; first | (simp; done) | (simp; omega))]; exact hown⟩, hall⟩
      · skip
        refine wl_v _ (r_lt Try.underlying3 (H.ev rfl) evc (dec_f (c4))) ?_; refine kl H rfl fun a H => ?_
        refine wl_v _ (r_move (H.ev rfl)) ?_; refine kl H rfl fun a H => ?_
        refine op_unguard _ _ (kg_yes rfl H rfl rfl rfl) ?_; refine wl_v _ (r_move (H.ev rfl)) ?_; refine kl H rfl fun a H => ?_
        by_cases c5 : op > 7
        · skip
          refine op_unguard _ _ (kg_yes rfl H rfl rfl rfl) ?_; refine wl_v _ (r_gt Try.underlying3 (H.ev rfl) evc (dec_t (c5))) ?_; refine kl H rfl fun a H => ?_
          refine wl_v _ (r_pick_f (H.ev rfl) (H.ev rfl)) ?_; refine kl H rfl fun a H => ?_
          refine wl_v _ (r_move (H.ev rfl)) ?_; refine kl H rfl fun a H => ?_
          refine wl_s (kg_no rfl H rfl rfl rfl) ?_; refine kl H rfl fun a H => ?_
          refine wl_s (kg_no rfl H rfl rfl rfl) ?_; refine kl H rfl fun a H => ?_
          refine wl_s (kg_no rfl H rfl rfl rfl) ?_; refine kl H rfl fun a H => ?_
          refine wl_v _ (r_pick_t (H.ev rfl) evc) ?_; refine kl H rfl fun a H => ?_
          refine wl_v _ (r_move (H.ev rfl)) ?_; refine kl H rfl fun a H => ?_
          refine wl_s (kg_no rfl H rfl rfl rfl) ?_; refine kl H rfl fun a H => ?_
          refine wl_s (kg_no rfl H rfl rfl rfl) ?_; refine kl H rfl fun a H => ?_
          refine wl_s (kg_no rfl H rfl rfl rfl) ?_; refine kl H rfl fun a H => ?_
          refine wl_v _ (r_pick_t (H.ev rfl) evc) ?_; refine kl H rfl fun a H => ?_
          refine wl_v _ (r_move (H.ev rfl)) ?_; refine kl H rfl fun a H => ?_
          refine wl_s (kg_no rfl H rfl rfl rfl) ?_; refine kl H rfl fun a H => ?_
          refine wl_s (kg_no rfl H rfl rfl rfl) ?_; refine kl H rfl fun a H => ?_
          refine wl_s (kg_no rfl H rfl rfl rfl) ?_; refine kl H rfl fun a H => ?_
          refine wl_v _ (r_pick_t (H.ev rfl) evc) ?_; refine kl H rfl fun a H => ?_
          refine wpList_nil ?_
          refine c_next ?_
          refine c_cond_t H rfl ?_
          refine wp_seq ?_
          refine wp_region_lit ?_
          refine wl_v _ (r_move (H.ev rfl)) ?_; refine kl H rfl fun a H => ?_
          refine wl_v _ (r_assign (H.ev rfl)) ?_; refine kl H rfl fun a H => ?_
          refine wl_v _ (r_assign evc) ?_; refine kl H rfl fun a H => ?_
          refine wpList_nil ?_
          refine c_next ?_
          refine wp_ret ?_
          refine r_then ?_
          exact k_ret2 H rfl rfl rfl ⟨⟨_, by rw [do_bad (by unfold badP; rw [HU1.out, HU2.out]; first | (simp; done) | (simp; omega))], by rw [do_bad (by unfold badP; rw [HU1.out, HU2.out]; first | (simp; done) | (simp; omega))]; exact hown⟩, hall⟩
        · skip
          refine op_unguard _ _ (kg_yes rfl H rfl rfl rfl) ?_; refine wl_v _ (r_gt Try.underlying3 (H.ev rfl) evc (dec_f (c5))) ?_; refine kl H rfl fun a H => ?_
          refine wl_v _ (r_pick_f (H.ev rfl) (H.ev rfl)) ?_; refine kl H rfl fun a H => ?_
          refine wl_v _ (r_move (H.ev rfl)) ?_; refine kl H rfl fun a H => ?_
          refine op_unguard _ _ (kg_yes rfl H rfl rfl rfl) ?_; refine wl_v _ (r_move (H.ev rfl)) ?_; refine kl H rfl fun a H => ?_
          refine op_unguard _ _ (kg_yes rfl H rfl rfl rfl) ?_; refine wl_call _ _ _ (ruser_any _ _) (r_call1 cf27 (H.ev rfl)) ?_; rintro e w9 ⟨rfl, rfl⟩; refine ⟨_, rfl, ?_⟩; rw [HU1.out]; skip; refine kl H rfl fun a H => ?_
          refine op_unguard _ _ (kg_yes rfl H rfl rfl rfl) ?_; refine wl_v _ (r_not (H.ev rfl) rfl) ?_; refine kl H rfl fun a H => ?_
          refine wl_v _ (r_pick_f (H.ev rfl) (H.ev rfl)) ?_; refine kl H rfl fun a H => ?_
          refine wl_v _ (r_move (H.ev rfl)) ?_; refine kl H rfl fun a H => ?_
          refine op_unguard _ _ (kg_yes rfl H rfl rfl rfl) ?_; refine wl_v _ (r_move (H.ev rfl)) ?_; refine kl H rfl fun a H => ?_
          refine op_unguard _ _ (kg_yes rfl H rfl rfl rfl) ?_; refine wl_call _ _ _ (ruser_any _ _) (r_call1 cf27 (H.ev rfl)) ?_; rintro e w9 ⟨rfl, rfl⟩; refine ⟨_, rfl, ?_⟩; rw [HU2.out]; skip; refine kl H rfl fun a H => ?_
          refine op_unguard _ _ (kg_yes rfl H rfl rfl rfl) ?_; refine wl_v _ (r_not (H.ev rfl) rfl) ?_; refine kl H rfl fun a H => ?_
          refine wl_v _ (r_pick_f (H.ev rfl) (H.ev rfl)) ?_; refine kl H rfl fun a H => ?_
          refine wl_v _ (r_move (H.ev rfl)) ?_; refine kl H rfl fun a H => ?_
          refine wl_s (kg_no rfl H rfl rfl rfl) ?_; refine kl H rfl fun a H => ?_
          refine wl_s (kg_no rfl H rfl rfl rfl) ?_; refine kl H rfl fun a H => ?_
          refine wl_s (kg_no rfl H rfl rfl rfl) ?_; refine kl H rfl fun a H => ?_
          refine wl_v _ (r_pick_t (H.ev rfl) evc) ?_; refine kl H rfl fun a H => ?_
          refine wpList_nil ?_
          refine c_next ?_
          refine c_cond_t H rfl ?_
          refine wp_seq ?_
          refine wp_region_lit ?_
          refine wl_v _ (r_move (H.ev rfl)) ?_; refine kl H rfl fun a H => ?_
          refine wl_v _ (r_assign (H.ev rfl)) ?_; refine kl H rfl fun a H => ?_
          refine wl_v _ (r_assign evc) ?_; refine kl H rfl fun a H => ?_
          refine wpList_nil ?_
          refine c_next ?_
          refine wp_ret ?_
          refine r_then ?_
          exact k_ret2 H rfl rfl rfl ⟨⟨_, by rw [do_bad (by unfold badP; rw [HU1.out, HU2.out]; first | (simp; done) | (simp; omega))], by rw [do_bad (by unfold badP; rw [HU1.out, HU2.out]; first | (simp; done) | (simp; omega))]; exact hown⟩, hall⟩
    · skip
      refine wp_region_lit ?_
      refine wl_v _ (r_move (H.ev rfl)) ?_; refine kl H rfl fun a H => ?_
      by_cases c6 : op < 1
      · skip
        refine wl_v _ (r_lt Try.underlying3 (H.ev rfl) evc (dec_t (c6))) ?_; refine kl H rfl fun a H => ?_
        refine wl_v _ (r_move (H.ev rfl)) ?_; refine kl H rfl fun a H => ?_
        refine wl_s (kg_no rfl H rfl rfl rfl) ?_; refine kl H rfl fun a H => ?_
        refine wl_s (kg_no rfl H rfl rfl rfl) ?_; refine kl H rfl fun a H => ?_
        refine wl_v _ (r_pick_t (H.ev rfl) evc) ?_; refine kl H rfl fun a H => ?_
        refine wl_v _ (r_move (H.ev rfl)) ?_; refine kl H rfl fun a H => ?_
        refine wl_s (kg_no rfl H rfl rfl rfl) ?_; refine kl H rfl fun a H => ?_
        refine wl_s (kg_no rfl H rfl rfl rfl) ?_; refine kl H rfl fun a H => ?_
        refine wl_s (kg_no rfl H rfl rfl rfl) ?_; refine kl H rfl fun a H => ?_
        refine wl_v _ (r_pick_t (H.ev rfl) evc) ?_; refine kl H rfl fun a H => ?_
        refine wl_v _ (r_move (H.ev rfl)) ?_; refine kl H rfl fun a H => ?_
        refine wl_s (kg_no rfl H rfl rfl rfl) ?_; refine kl H rfl fun a H => ?_
        refine wl_s (kg_no rfl H rfl rfl rfl) ?_; refine kl H rfl fun a H => ?_
        refine wl_s (kg_no rfl H rfl rfl rfl) ?_; refine kl H rfl fun a H => ?_
        refine wl_v _ (r_pick_t (H.ev rfl) evc) ?_; refine kl H rfl fun a H => ?_
        refine wl_v _ (r_move (H.ev rfl)) ?_; refine kl H rfl fun a H => ?_
        refine wl_s (kg_no rfl H rfl rfl rfl) ?_; refine kl H rfl fun a H => ?_
        refine wl_s (kg_no rfl H rfl rfl rfl) ?_; refine kl H rfl fun a H => ?_
        refine wl_s (kg_no rfl H rfl rfl rfl) ?_; refine kl H rfl fun a H => ?_
        refine wl_v _ (r_pick_t (H.ev rfl) evc) ?_; refine kl H rfl fun a H => ?_
        refine wpList_nil ?_
        refine c_next ?_
        refine c_cond_t H rfl ?_
        refine wp_seq ?_
        refine wp_region_lit ?_
        refine wl_v _ (r_move (H.ev rfl)) ?_; refine kl H rfl fun a H => ?_
        refine wl_v _ (r_assign (H.ev rfl)) ?_; refine kl H rfl fun a H => ?_
        refine wl_v _ (r_assign evc) ?_; refine kl H rfl fun a H => ?_
        refine wpList_nil ?_
        refine c_next ?_
        refine wp_ret ?_
        refine r_then ?_
        exact k_ret2 H rfl rfl rfl ⟨⟨_, by rw [do_bad (by unfold badP; rw [HU1.out, HU2.out]; first | (simp; done) | (simp; omega))], by rw [do_bad (by unfold badP; rw [HU1.out, HU2.out]; first | (simp; done) | (simp; omega))]; exact hown⟩, hall⟩
      · skip
        refine wl_v _ (r_lt Try.underlying3 (H.ev rfl) evc (dec_f (c6))) ?_; refine kl H rfl fun a H => ?_
        refine wl_v _ (r_move (H.ev rfl)) ?_; refine kl H rfl fun a H => ?_
        refine op_unguard _ _ (kg_yes rfl H rfl rfl rfl) ?_; refine wl_v _ (r_move (H.ev rfl)) ?_; refine kl H rfl fun a H => ?_
        by_cases c7 : op > 7
        · skip
          refine op_unguard _ _ (kg_yes rfl H rfl rfl rfl) ?_; refine wl_v _ (r_gt Try.underlying3 (H.ev rfl) evc (dec_t (c7))) ?_; refine kl H rfl fun a H => ?_
          refine wl_v _ (r_pick_f (H.ev rfl) (H.ev rfl)) ?_; refine kl H rfl fun a H => ?_
          refine wl_v _ (r_move (H.ev rfl)) ?_; refine kl H rfl fun a H => ?_
          refine wl_s (kg_no rfl H rfl rfl rfl) ?_; refine kl H rfl fun a H => ?_
          refine wl_s (kg_no rfl H rfl rfl rfl) ?_; refine kl H rfl fun a H => ?_
          refine wl_s (kg_no rfl H rfl rfl rfl) ?_; refine kl H rfl fun a H => ?_
          refine wl_v _ (r_pick_t (H.ev rfl) evc) ?_; refine kl H rfl fun a H => ?_
          refine wl_v _ (r_move (H.ev rfl)) ?_; refine kl H rfl fun a H => ?_
          refine wl_s (kg_no rfl H rfl rfl rfl) ?_; refine kl H rfl fun a H => ?_
          refine wl_s (kg_no rfl H rfl rfl rfl) ?_; refine kl H rfl fun a H => ?_
          refine wl_s (kg_no rfl H rfl rfl rfl) ?_; refine kl H rfl fun a H => ?_
          refine wl_v _ (r_pick_t (H.ev rfl) evc) ?_; refine kl H rfl fun a H => ?_
          refine wl_v _ (r_move (H.ev rfl)) ?_; refine kl H rfl fun a H => ?_
          refine wl_s (kg_no rfl H rfl rfl rfl) ?_; refine kl H rfl fun a H => ?_
          refine wl_s (kg_no rfl H rfl rfl rfl) ?_; refine kl H rfl fun a H => ?_
          refine wl_s (kg_no rfl H rfl rfl rfl) ?_; refine kl H rfl fun a H => ?_
          refine wl_v _ (r_pick_t (H.ev rfl) evc) ?_; refine kl H rfl fun a H => ?_
          refine wpList_nil ?_
          refine c_next ?_
          refine c_cond_t H rfl ?_
          refine wp_seq ?_
          refine wp_region_lit ?_
          refine wl_v _ (r_move (H.ev rfl)) ?_; refine kl H rfl fun a H => ?_
          refine wl_v _ (r_assign (H.ev rfl)) ?_; refine kl H rfl fun a H => ?_
          refine wl_v _ (r_assign evc) ?_; refine kl H rfl fun a H => ?_
          refine wpList_nil ?_
          refine c_next ?_
          refine wp_ret ?_
          refine r_then ?_
          exact k_ret2 H rfl rfl rfl ⟨⟨_, by rw [do_bad (by unfold badP; rw [HU1.out, HU2.out]; first | (simp; done) | (simp; omega))], by rw [do_bad (by unfold badP; rw [HU1.out, HU2.out]; first | (simp; done) | (simp; omega))]; exact hown⟩, hall⟩
        · skip
          refine op_unguard _ _ (kg_yes rfl H rfl rfl rfl) ?_; refine wl_v _ (r_gt Try.underlying3 (H.ev rfl) evc (dec_f (c7))) ?_; refine kl H rfl fun a H => ?_
          refine wl_v _ (r_pick_f (H.ev rfl) (H.ev rfl)) ?_; refine kl H rfl fun a H => ?_
          refine wl_v _ (r_move (H.ev rfl)) ?_; refine kl H rfl fun a H => ?_
          refine op_unguard _ _ (kg_yes rfl H rfl rfl rfl) ?_; refine wl_v _ (r_move (H.ev rfl)) ?_; refine kl H rfl fun a H => ?_
          refine op_unguard _ _ (kg_yes rfl H rfl rfl rfl) ?_; refine wl_call _ _ _ (ruser_any _ _) (r_call1 cf27 (H.ev rfl)) ?_; rintro e w9 ⟨rfl, rfl⟩; refine ⟨_, rfl, ?_⟩; rw [HU1.out]; skip; refine kl H rfl fun a H => ?_
          refine op_unguard _ _ (kg_yes rfl H rfl rfl rfl) ?_; refine wl_v _ (r_not (H.ev rfl) rfl) ?_; refine kl H rfl fun a H => ?_
          refine wl_v _ (r_pick_f (H.ev rfl) (H.ev rfl)) ?_; refine kl H rfl fun a H => ?_
          refine wl_v _ (r_move (H.ev rfl)) ?_; refine kl H rfl fun a H => ?_
          refine op_unguard _ _ (kg_yes rfl H rfl rfl rfl) ?_; refine wl_v _ (r_move (H.ev rfl)) ?_; refine kl H rfl fun a H => ?_
          refine op_unguard _ _ (kg_yes rfl H rfl rfl rfl) ?_; refine wl_call _ _ _ (ruser_any _ _) (r_call1 cf27 (H.ev rfl)) ?_; rintro e w9 ⟨rfl, rfl⟩; refine ⟨_, rfl, ?_⟩; rw [HU2.out]; skip; refine kl H rfl fun a H => ?_
          refine op_unguard _ _ (kg_yes rfl H rfl rfl rfl) ?_; refine wl_v _ (r_not (H.ev rfl) rfl) ?_; refine kl H rfl fun a H => ?_
          refine wl_v _ (r_pick_f (H.ev rfl) (H.ev rfl)) ?_; refine kl H rfl fun a H => ?_
          refine wl_v _ (r_move (H.ev rfl)) ?_; refine kl H rfl fun a H => ?_
          refine op_unguard _ _ (kg_yes rfl H rfl rfl rfl) ?_; refine wl_v _ (r_move (H.ev rfl)) ?_; refine kl H rfl fun a H => ?_
          refine op_unguard _ _ (kg_yes rfl H rfl rfl rfl) ?_; refine wl_v _ (r_move (H.ev rfl)) ?_; refine kl H rfl fun a H => ?_
          by_cases c8 : who = peer
          · skip
            refine op_unguard _ _ (kg_yes rfl H rfl rfl rfl) ?_; refine wl_v _ (r_eq Try.underlying3 (H.ev rfl) (H.ev rfl) (dec_t (c8))) ?_; refine kl H rfl fun a H => ?_
            refine wl_v _ (r_pick_f (H.ev rfl) (H.ev rfl)) ?_; refine kl H rfl fun a H => ?_
            refine wpList_nil ?_
            refine c_next ?_
            refine c_cond_t H rfl ?_
            refine wp_seq ?_
            refine wp_region_lit ?_
            refine wl_v _ (r_move (H.ev rfl)) ?_; refine kl H rfl fun a H => ?_
            refine wl_v _ (r_assign (H.ev rfl)) ?_; refine kl H rfl fun a H => ?_
            refine wl_v _ (r_assign evc) ?_; refine kl H rfl fun a H => ?_
            refine wpList_nil ?_
            refine c_next ?_
            refine wp_ret ?_
            refine r_then ?_
            exact k_ret2 H rfl rfl rfl ⟨⟨_, by rw [do_bad (by unfold badP; rw [HU1.out, HU2.out]; first | (simp; done) | (simp; omega))], by rw [do_bad (by unfold badP; rw [HU1.out, HU2.out]; first | (simp; done) | (simp; omega))]; exact hown⟩, hall⟩
          · skip
            refine op_unguard _ _ (kg_yes rfl H rfl rfl rfl) ?_; refine wl_v _ (r_eq Try.underlying3 (H.ev rfl) (H.ev rfl) (dec_f (c8))) ?_; refine kl H rfl fun a H => ?_
            refine wl_v _ (r_pick_f (H.ev rfl) (H.ev rfl)) ?_; refine kl H rfl fun a H => ?_
            refine wpList_nil ?_
            refine c_next ?_
            refine c_cond_f H rfl ?_
            refine wp_skip ?_
            refine c_next ?_
            refine wp_seq ?_
            obtain ⟨mi, hmi⟩ : ∃ mi, mineB op = mi := ⟨_, rfl⟩
            have HMI := Lib.hid hmi
            clear hmi
            cases mi
            · skip
              refine wp_region_lit ?_
              refine wl_v _ (r_move (H.ev rfl)) ?_; refine kl H rfl fun a H => ?_
              refine wl_v _ (r_move (H.ev rfl)) ?_; refine kl H rfl fun a H => ?_
              refine wl_v _ (r_build #[(0, .int .i64 peer), (1, .int .i64 who)] (.agg #[.int .i64 peer, .int .i64 who, .int .i64 0]) (by simp [evc, H.ev (j := 42) rfl, H.ev (j := 43) rfl]) (fun w => by kernel_rfl)) ?_; refine kl H rfl fun a H => ?_
              refine op_new 37 11 (.tmp 44) #[.int .i64 peer, .int .i64 who, .int .i64 0] _ z37 s37 rfl (ints_one [peer, who, 0]) (fun p => (H.put 11 p rfl).ev rfl) (fun p => (H.put 11 p rfl).ev rfl) fun w0 b0 hge hb k0 => ?_; have g0 := Nat.le_trans hall.size hge; have hne0 : v1.ownBlock ≠ some b0 := (fun e => by have := (hown.lt b0 e).2; omega); replace hown := own_ups hown hb; replace hall := hall.trans (hb.mono hall.size); clear hb; clear hge; refine kl H rfl fun a H => ?_
              refine wpList_nil ?_
              refine c_next ?_
              refine wp_seq ?_
              refine wp_seq ?_
              refine wp_region_lit ?_
              refine wl_v _ (r_move (H.ev rfl)) ?_; refine kl H rfl fun a H => ?_
              refine wl_call _ _ _ (rmine_any _ _) (r_call1 cf36 (H.ev rfl)) ?_; rintro e w9 ⟨rfl, rfl⟩; refine ⟨_, rfl, ?_⟩; rw [HMI.out]; skip; refine kl H rfl fun a H => ?_
              refine wpList_nil ?_
              refine c_next ?_
              refine c_cond_f H rfl ?_
              refine wp_skip ?_
              refine c_next ?_
              refine wp_seq ?_
              obtain ⟨s, hs⟩ : ∃ s, stF L peer who = s := ⟨_, rfl⟩
              obtain ⟨tq, hto⟩ : ∃ tq, (stepF s op).1 = tq := ⟨_, rfl⟩
              obtain ⟨er, her⟩ : ∃ er, (stepF s op).2 = er := ⟨_, rfl⟩
              obtain ⟨m, hm⟩ : ∃ m, manyF L peer = m := ⟨_, rfl⟩
              obtain ⟨fu, hfu⟩ : ∃ fu, fullB L peer = fu := ⟨_, rfl⟩
              have HS := Lib.hid hs
              have HTO := Lib.hid hto
              have HER := Lib.hid her
              have HM := Lib.hid hm
              have HFU : Hid (fu = decide (8 ≤ m ∨ 64 ≤ L.length)) := Lib.hid (by rw [← hfu, ← hm]; rfl)
              have HG : Hid (¬ badP op who peer) := Lib.hid (by unfold badP; rw [HU1.out, HU2.out]; simp; omega)
              have HD := Lib.hid (do_eq HG.out HMI.out HS.out HTO.out HER.out hfu)
              have hml : m ≤ 64 := by rw [← hm]; exact Nat.le_trans List.countP_le_length hR.out.2.2.2
              clear hs hto her hm hfu
              refine wp_region_lit ?_
              refine wl_v _ (r_move (H.ev rfl)) ?_; refine kl H rfl fun a H => ?_
              refine wl_v _ (r_fld (q := 0) fld37_0 (H.ev rfl) rfl) ?_; refine kl H rfl fun a H => ?_
              refine wl_v _ (r_ld Try.underlying3 rfl (H.ev rfl) ((Block.cell k0 0).trans rfl)) ?_; refine kl H rfl fun a H => ?_
              refine wl_v _ (r_fld (q := 1) fld37_1 (H.ev rfl) rfl) ?_; refine kl H rfl fun a H => ?_
              refine wl_v _ (r_ld Try.underlying3 rfl (H.ev rfl) ((Block.cell k0 1).trans rfl)) ?_; refine kl H rfl fun a H => ?_
              refine wl_call _ _ _ (rstate_any _ _ L peer who (Row.up h.out hall) (by omega)) (r_call3 cf17 (H.ev rfl) (H.ev rfl) (H.ev rfl)) ?_; rintro e w9 ⟨rfl, rfl⟩; refine ⟨_, rfl, ?_⟩; rw [HS.out]; skip; refine kl H rfl fun a H => ?_
              refine wl_v _ (r_assign (H.ev rfl)) ?_; refine kl H rfl fun a H => ?_
              refine wpList_nil ?_
              refine c_next ?_
              refine wp_seq ?_
              refine wp_region_lit ?_
              refine wl_v _ (r_move (H.ev rfl)) ?_; refine kl H rfl fun a H => ?_
              refine wl_v _ (r_move (H.ev rfl)) ?_; refine kl H rfl fun a H => ?_
              refine wl_call _ _ _ (rstep_any s op _) (r_call2 cf37 (H.ev rfl) (H.ev rfl)) ?_; rintro e w9 ⟨rfl, rfl⟩; refine ⟨_, rfl, ?_⟩; rw [HTO.out, HER.out]; skip; refine kl H rfl fun a H => ?_
              refine wl_v _ (r_move (H.ev rfl)) ?_; refine kl H rfl fun a H => ?_
              refine wl_v _ (r_extract (v := .int .i64 tq) (H.ev rfl) rfl) ?_; refine kl H rfl fun a H => ?_
              refine wl_v _ (r_extract (v := .int .i64 er) (H.ev rfl) rfl) ?_; refine kl H rfl fun a H => ?_
              refine wl_v _ (r_assign (H.ev rfl)) ?_; refine kl H rfl fun a H => ?_
              refine wl_v _ (r_assign (H.ev rfl)) ?_; refine kl H rfl fun a H => ?_
              refine wpList_nil ?_
              refine c_next ?_
              refine wp_seq ?_
              refine wp_seq ?_
              refine wp_region_lit ?_
              refine wl_v _ (r_move (H.ev rfl)) ?_; refine kl H rfl fun a H => ?_
              by_cases c9 : er ≠ 0
              · skip
                refine wl_v _ (r_ne Try.underlying28 (H.ev rfl) evc (dec_t (c9))) ?_; refine kl H rfl fun a H => ?_
                refine wpList_nil ?_
                refine c_next ?_
                refine c_cond_t H rfl ?_
                refine wp_seq ?_
                refine wp_region_lit ?_
                refine wl_v _ (r_move (H.ev rfl)) ?_; refine kl H rfl fun a H => ?_
                refine wl_v _ (r_move (H.ev rfl)) ?_; refine kl H rfl fun a H => ?_
                refine wl_v _ (r_assign (H.ev rfl)) ?_; refine kl H rfl fun a H => ?_
                refine wl_v _ (r_assign (H.ev rfl)) ?_; refine kl H rfl fun a H => ?_
                refine wpList_nil ?_
                refine c_next ?_
                refine wp_ret ?_
                refine r_then ?_
                rw [if_pos (by omega)] at HD
                exact k_ret2 H rfl rfl rfl ⟨⟨_, by rw [HD.out], by rw [HD.out]; exact hown⟩, hall⟩
              · skip
                refine wl_v _ (r_ne Try.underlying28 (H.ev rfl) evc (dec_f (c9))) ?_; refine kl H rfl fun a H => ?_
                refine wpList_nil ?_
                refine c_next ?_
                refine c_cond_f H rfl ?_
                refine wp_skip ?_
                refine c_next ?_
                refine wp_seq ?_
                refine wp_seq ?_
                refine wp_region_lit ?_
                refine wl_v _ (r_move (H.ev rfl)) ?_; refine kl H rfl fun a H => ?_
                by_cases c10 : s = 0
                · skip
                  refine wl_v _ (r_eq Try.underlying3 (H.ev rfl) evc (dec_t (c10))) ?_; refine kl H rfl fun a H => ?_
                  refine wl_v _ (r_move (H.ev rfl)) ?_; refine kl H rfl fun a H => ?_
                  refine op_unguard _ _ (kg_yes rfl H rfl rfl rfl) ?_; refine wl_v _ (r_move (H.ev rfl)) ?_; refine kl H rfl fun a H => ?_
                  refine op_unguard _ _ (kg_yes rfl H rfl rfl rfl) ?_; refine wl_v _ (r_len Try.underlying22 (H.ev rfl)) ?_; refine kl H rfl fun a H => ?_
                  by_cases c11 : ((L.length : Nat) : Int) ≥ 64
                  · skip
                    refine op_unguard _ _ (kg_yes rfl H rfl rfl rfl) ?_; refine wl_v _ (r_ge Try.underlying3 (H.ev rfl) evc (dec_t (c11))) ?_; refine kl H rfl fun a H => ?_
                    refine op_unguard _ _ (kg_yes rfl H rfl rfl rfl) ?_; refine wl_v _ (r_move (H.ev rfl)) ?_; refine kl H rfl fun a H => ?_
                    refine wl_s (kg_no rfl H rfl rfl rfl) ?_; refine kl H rfl fun a H => ?_
                    refine wl_s (kg_no rfl H rfl rfl rfl) ?_; refine kl H rfl fun a H => ?_
                    refine wl_s (kg_no rfl H rfl rfl rfl) ?_; refine kl H rfl fun a H => ?_
                    refine wl_s (kg_no rfl H rfl rfl rfl) ?_; refine kl H rfl fun a H => ?_
                    refine wl_s (kg_no rfl H rfl rfl rfl) ?_; refine kl H rfl fun a H => ?_
                    refine op_unguard _ _ (kg_yes rfl H rfl rfl rfl) ?_; refine wl_v _ (r_pick_t (H.ev rfl) evc) ?_; refine kl H rfl fun a H => ?_
                    refine wl_v _ (r_pick_t (H.ev rfl) (H.ev rfl)) ?_; refine kl H rfl fun a H => ?_
                    refine wpList_nil ?_
                    refine c_next ?_
                    refine c_cond_t H rfl ?_
                    refine wp_seq ?_
                    refine wp_region_lit ?_
                    refine wl_v _ (r_move (H.ev rfl)) ?_; refine kl H rfl fun a H => ?_
                    refine wl_v _ (r_assign (H.ev rfl)) ?_; refine kl H rfl fun a H => ?_
                    refine wl_v _ (r_assign evc) ?_; refine kl H rfl fun a H => ?_
                    refine wpList_nil ?_
                    refine c_next ?_
                    refine wp_ret ?_
                    refine r_then ?_
                    rw [if_neg (by omega), if_pos ⟨by omega, by rw [HFU.out]; exact decide_eq_true (by omega)⟩] at HD
                    exact k_ret2 H rfl rfl rfl ⟨⟨_, by rw [HD.out], by rw [HD.out]; exact hown⟩, hall⟩
                  · skip
                    refine op_unguard _ _ (kg_yes rfl H rfl rfl rfl) ?_; refine wl_v _ (r_ge Try.underlying3 (H.ev rfl) evc (dec_f (c11))) ?_; refine kl H rfl fun a H => ?_
                    refine op_unguard _ _ (kg_yes rfl H rfl rfl rfl) ?_; refine wl_v _ (r_move (H.ev rfl)) ?_; refine kl H rfl fun a H => ?_
                    refine op_unguard _ _ (kg_yes rfl H rfl rfl rfl) ?_; refine wl_v _ (r_move (H.ev rfl)) ?_; refine kl H rfl fun a H => ?_
                    refine op_unguard _ _ (kg_yes rfl H rfl rfl rfl) ?_; refine wl_v _ (r_fld (q := 0) fld37_0 (H.ev rfl) rfl) ?_; refine kl H rfl fun a H => ?_
                    refine op_unguard _ _ (kg_yes rfl H rfl rfl rfl) ?_; refine wl_v _ (r_ld Try.underlying3 rfl (H.ev rfl) ((Block.cell k0 0).trans rfl)) ?_; refine kl H rfl fun a H => ?_
                    refine op_unguard _ _ (kg_yes rfl H rfl rfl rfl) ?_; refine wl_call _ _ _ (many_any _ _ L peer (Row.up h.out hall) (by omega)) (r_call2 cf28 (H.ev rfl) (H.ev rfl)) ?_; rintro e w9 ⟨rfl, rfl⟩; refine ⟨_, rfl, ?_⟩; rw [HM.out]; skip; refine kl H rfl fun a H => ?_
                    by_cases c12 : ((m : Nat) : Int) ≥ 8
                    · skip
                      refine op_unguard _ _ (kg_yes rfl H rfl rfl rfl) ?_; refine wl_v _ (r_ge Try.underlying3 (H.ev rfl) evc (dec_t (c12))) ?_; refine kl H rfl fun a H => ?_
                      refine op_unguard _ _ (kg_yes rfl H rfl rfl rfl) ?_; refine wl_v _ (r_pick_f (H.ev rfl) (H.ev rfl)) ?_; refine kl H rfl fun a H => ?_
                      refine wl_v _ (r_pick_t (H.ev rfl) (H.ev rfl)) ?_; refine kl H rfl fun a H => ?_
                      refine wpList_nil ?_
                      refine c_next ?_
                      refine c_cond_t H rfl ?_
                      refine wp_seq ?_
                      refine wp_region_lit ?_
                      refine wl_v _ (r_move (H.ev rfl)) ?_; refine kl H rfl fun a H => ?_
                      refine wl_v _ (r_assign (H.ev rfl)) ?_; refine kl H rfl fun a H => ?_
                      refine wl_v _ (r_assign evc) ?_; refine kl H rfl fun a H => ?_
                      refine wpList_nil ?_
                      refine c_next ?_
                      refine wp_ret ?_
                      refine r_then ?_
                      rw [if_neg (by omega), if_pos ⟨by omega, by rw [HFU.out]; exact decide_eq_true (by omega)⟩] at HD
                      exact k_ret2 H rfl rfl rfl ⟨⟨_, by rw [HD.out], by rw [HD.out]; exact hown⟩, hall⟩
                    · skip
                      refine op_unguard _ _ (kg_yes rfl H rfl rfl rfl) ?_; refine wl_v _ (r_ge Try.underlying3 (H.ev rfl) evc (dec_f (c12))) ?_; refine kl H rfl fun a H => ?_
                      refine op_unguard _ _ (kg_yes rfl H rfl rfl rfl) ?_; refine wl_v _ (r_pick_f (H.ev rfl) (H.ev rfl)) ?_; refine kl H rfl fun a H => ?_
                      refine wl_v _ (r_pick_t (H.ev rfl) (H.ev rfl)) ?_; refine kl H rfl fun a H => ?_
                      refine wpList_nil ?_
                      refine c_next ?_
                      refine c_cond_f H rfl ?_
                      refine wp_skip ?_
                      refine c_next ?_
                      refine wp_seq ?_
                      clear hown
                      refine wp_region_lit ?_
                      refine wl_v _ (r_move (H.ev rfl)) ?_; refine kl H rfl fun a H => ?_
                      refine wl_v _ (r_fld (q := 2) fld37_2 (H.ev rfl) rfl) ?_; refine kl H rfl fun a H => ?_
                      refine op_store1 3 (.tmp 82) (.tmp 81) b0 2 37 (.int .i64 tq) _ (H.ev rfl) (H.ev rfl) k0 s3 (by simp [Value.cells]) (ints_one [tq]) fun w' hb ho kq => ?_; clear k0; have k0 : Block _ b0 37 #[.int .i64 peer, .int .i64 who, .int .i64 tq] := kq; clear kq; replace hall := hall.trans (hb _ g0); clear hb ho; refine kl0 H fun a H => ?_
                      refine wpList_nil ?_
                      refine c_next ?_
                      refine wp_seq ?_
                      refine wp_region_lit ?_
                      refine wl_v _ (r_assign evc) ?_; refine kl H rfl fun a H => ?_
                      refine wpList_nil ?_
                      refine c_next ?_
                      refine wp_seq ?_
                      refine wp_region_lit ?_
                      refine wl_v _ (r_assign evc) ?_; refine kl H rfl fun a H => ?_
                      refine wpList_nil ?_
                      refine c_next ?_
                      refine wp_seq ?_
                      refine wp_block ?_
                      refine wp_loop (RdI w A c L b0 peer who tq s) (fun a _ => L.length - (intOf (a.eval (.tmp 16))).toNat) ⟨0, _, H.pick [0, 11, 12, 13, 15, 16], by omega, fun j y hj => by omega, World.ownsRow_nil _ _ _ _, (fun e => by cases e), k0, hall⟩ ?_
                      clear H hall k0
                      rintro a w' ⟨k, v5, H, hk, hle, hown, hne, k0, hall⟩
                      have H0 := H
                      by_cases hlt : k < L.length
                      · skip
                        obtain ⟨b, o, hA, hr⟩ := flat_some encT_len hh.out (by omega) hlt
                        subst hA
                        have hy : L[k]? = some L[k] := List.getElem?_eq_getElem hlt
                        have HY := Lib.hid hy
                        have HRG := Lib.hid hr
                        generalize L[k] = y at *
                        clear hy hr
                        obtain ⟨ls, hls⟩ : ∃ ls, lessB y (peer, who, tq) = ls := ⟨_, rfl⟩
                        have HLS := Lib.hid hls
                        clear hls
                        cases ls
                        · skip
                          have hex : ∀ y, L[k]? = some y → ¬ Lt y (peer, who, 0) := (fun u hu => by rw [HY.out] at hu; injection hu with hu; subst hu; exact of_decide_eq_false HLS.out)
                          refine wp_seq ?_
                          refine wp_seq ?_
                          have hS : SDo w b0 peer who tq v5 (L.take k) _ := ⟨hall.drew, k0, own_block hown (fun _ _ => rfl)⟩
                          refine region_pi (SDo w b0 peer who tq v5 (L.take k)) [(0, true), (1, true), (2, true), (3, true), (4, true), (5, true), (6, true), (7, true), (8, true), (9, true), (10, false), (11, true)] (by kernel_rfl) (by kernel_rfl) rfl (by kernel_rfl) hS ?_
                          clear hall k0 hown
                          refine pi_f0 _ rfl (fun w' hS' => r_move (H.ev rfl)) ?_; refine kp H rfl fun a H => ?_
                          refine pi_f0 _ rfl (fun w' hS' => r_move (H.ev rfl)) ?_; refine kp H rfl fun a H => ?_
                          refine pi_f0 _ rfl (fun w' hS' => r_len Try.underlying22 (H.ev rfl)) ?_; refine kp H rfl fun a H => ?_
                          refine pi_f0 _ rfl (fun w' hS' => r_lt Try.underlying3 (H.ev rfl) (H.ev rfl) (dec_t (by omega))) ?_; refine kp H rfl fun a H => ?_
                          refine pi_f0 _ rfl (fun w' hS' => r_move (H.ev rfl)) ?_; refine kp H rfl fun a H => ?_
                          refine pi_f1 _ rfl rfl rfl (H.ev rfl) (fun w' hS' => r_move (H.ev rfl)) ?_; refine kp H rfl fun a H => ?_
                          refine pi_f1 _ rfl rfl rfl (H.ev rfl) (fun w' hS' => r_move (H.ev rfl)) ?_; refine kp H rfl fun a H => ?_
                          refine pi_f1 _ rfl rfl rfl (H.ev rfl) (fun w' hS' => r_idx (j := k) (q := o + k * 3) Try.underlying22 s37 (H.ev rfl) (H.ev rfl) (by omega) rfl) ?_; refine kp H rfl fun a H => ?_
                          refine pi_f1 _ rfl rfl rfl (H.ev rfl) (fun w' hS' => r_row (cs := [.int .i64 y.1, .int .i64 y.2.1, .int .i64 y.2.2]) (H.ev rfl) (range_ups HRG.out hS'.1) (by kernel_rfl) s37 rfl) ?_; refine kp H rfl fun a H => ?_
                          refine pi_f1 _ rfl rfl rfl (H.ev rfl) (fun w' hS' => r_row (cs := [.int .i64 peer, .int .i64 who, .int .i64 tq]) (H.ev rfl) (block_range (hS'.2.1)) (by kernel_rfl) s37 rfl) ?_; refine kp H rfl fun a H => ?_
                          refine pi_a1 rfl rfl rfl (H.ev rfl) (fun K hK => ?_); refine wpo_call _ _ _ (less_any y (peer, who, tq) _) (r_call2 cf29 (H.ev rfl) (H.ev rfl)) ?_; rintro e w9 ⟨rfl, hb9⟩; refine ⟨_, rfl, ?_⟩; rw [HLS.out]; replace hS := hS.up hb9; clear hb9; refine hK _ _ ⟨hS, ?_⟩; clear hK; clear K; refine kp H rfl fun a H => ?_
                          refine pi_f0 _ rfl (fun w' hS' => r_pick_t (H.ev rfl) (H.ev rfl)) ?_; refine kp H rfl fun a H => ?_
                          refine pi_nil (NoPanic.normal ?_)
                          have hall := hS.1
                          have k0 := hS.2.1
                          have hown : TOwn _ w.heap.size v5 (L.take k) := hS.2.2
                          clear hS
                          refine c_next ?_
                          refine c_cond_f H rfl ?_
                          refine wp_exit ?_
                          refine e_then ?_
                          refine e_then ?_
                          refine e_here ?_
                          refine c_next ?_
                          refine wp_seq ?_
                          refine wp_seq ?_
                          have htl : (L.take (k)).length ≤ L.length := (by rw [List.length_take]; exact Nat.min_le_right _ _)
                          obtain ⟨f, hF⟩ := findP_of hR.out.1 hk hle hex
                          have hsf := had_state hR.out hF HS.out
                          have hf2 : f = decide (s ≠ 0) := by cases f with | true => exact (decide_eq_true (hsf.1 rfl)).symm | false => exact (decide_eq_false (fun h => h (hsf.2 rfl))).symm
                          clear hsf hex hle
                          refine wp_region_lit ?_
                          refine wl_v _ (r_move (H.ev rfl)) ?_; refine kl H rfl fun a H => ?_
                          by_cases c13 : tq ≠ 0
                          · skip
                            refine wl_v _ (r_ne Try.underlying3 (H.ev rfl) evc (dec_t (c13))) ?_; refine kl H rfl fun a H => ?_
                            refine wpList_nil ?_
                            refine c_next ?_
                            refine c_cond_t H rfl ?_
                            refine wp_region_lit ?_
                            refine wl_v _ (r_move (H.ev rfl)) ?_; refine kl H rfl fun a H => ?_
                            refine wl_v _ (r_row (cs := [.int .i64 peer, .int .i64 who, .int .i64 tq]) (H.ev rfl) (block_range k0) (by kernel_rfl) s37 rfl) ?_; refine kl H rfl fun a H => ?_
                            refine op_litv 22 1 #[(0, .agg #[.int .i64 peer, .int .i64 who, .int .i64 tq])] 37 #[.int .i64 peer, .int .i64 who, .int .i64 tq] (by simp [evc, H.ev (j := 107) rfl]) (fun w => by kernel_rfl) fun w1 b1 hge hb k1 => ?_; have g1 := Nat.le_trans hall.size hge; replace hown := own_ups hown hb; replace k0 := Block.ups k0 hb; replace hall := hall.trans (hb.mono hall.size); clear hb; clear hge; refine kl H rfl fun a H => ?_
                            refine op_append 22 37 (.tmp 106) (.tmp 108) w.heap.size (.agg #[.int .i64 0, .int .i64 0, .int .i64 0]) 3 24 v5 _ _ (some ⟨b1, 0, none⟩) 1 1 (FV encT [(peer, who, tq)]) (H.ev rfl) (H.ev rfl) Try.underlying22 i37 rfl (by omega) hown (by rw [FV_len encT_len]; rfl) (block_x k1) (FV_one _ _) (by unfold maxLen; omega) (by omega) hall.size fun v9 w9 hown2 hg9 hv9 hb2 => ?_; replace hall := hall.trans hb2; clear hb2 hown; have hown := hown2; clear hown2 hg9 hv9; refine kl H rfl fun a H => ?_
                            refine wl_v _ (r_assign (H.ev rfl)) ?_; refine kl H rfl fun a H => ?_
                            refine wpList_nil ?_
                            refine c_next ?_
                            refine wp_seq ?_
                            refine wp_seq ?_
                            refine wp_region_lit ?_
                            refine wl_v _ (r_move (H.ev rfl)) ?_; refine kl H rfl fun a H => ?_
                            refine wl_v _ (r_ne Try.underlying3 (H.ev rfl) evc (dec_f (by omega))) ?_; refine kl H rfl fun a H => ?_
                            refine wpList_nil ?_
                            refine c_next ?_
                            refine c_cond_f H rfl ?_
                            refine wp_skip ?_
                            refine c_next ?_
                            refine wp_seq ?_
                            refine wp_region_lit ?_
                            refine wl_v _ (r_move (H.ev rfl)) ?_; refine kl H rfl fun a H => ?_
                            refine wl_v _ (r_move (H.ev rfl)) ?_; refine kl H rfl fun a H => ?_
                            refine wl_v _ (r_move (H.ev rfl)) ?_; refine kl H rfl fun a H => ?_
                            refine wl_v (.slice (slAt (some ⟨b, o, none⟩) c (k) 3) (L.length - (k)) (c - (k))) (run_op_slice Try.underlying22 (.slice (some ⟨b, o, none⟩) L.length c) (some (.int .i64 (k : Nat))) none none (H.ev rfl) (by simp [H.ev (j := 116) rfl]) rfl rfl (slice_any (k) L.length Try.underlying22 s37 _ _ (.inr rfl) (.inl ⟨rfl, rfl⟩) (by omega) (by omega) rfl rfl rfl)) ?_; refine kl H rfl fun a H => ?_
                            refine op_append 22 37 (.tmp 114) (.tmp 117) w.heap.size (.agg #[.int .i64 0, .int .i64 0, .int .i64 0]) 3 24 v9 _ _ (slAt (some ⟨b, o, none⟩) c (k) 3) (L.length - (k)) (c - (k)) (FV encT (L.drop (k))) (H.ev rfl) (H.ev rfl) Try.underlying22 i37 rfl (by omega) hown (by rw [FV_len encT_len, List.length_drop]) (rs_src (hh.out.up hall) h1 (k)) (FV_one _ _) (by unfold maxLen; omega) (by omega) hall.size fun vz wz hown2 hg9 hv9 hb2 => ?_; replace hall := hall.trans hb2; clear hb2 hown; have hown := hown2; clear hown2 hg9 hv9; refine kl H rfl fun a H => ?_
                            refine wl_v _ (r_assign (H.ev rfl)) ?_; refine kl H rfl fun a H => ?_
                            refine wl_v _ (r_assign evc) ?_; refine kl H rfl fun a H => ?_
                            refine wpList_nil ?_
                            refine c_next ?_
                            refine wp_ret ?_
                            have hfe : f = false := by rw [hf2]; exact decide_eq_false (by omega)
                            subst hfe
                            rw [if_neg (by omega), if_neg (by rintro ⟨hq, hq2⟩; rw [HFU.out] at hq2; have := of_decide_eq_true hq2; omega)] at HD
                            exact k_ret2 H rfl rfl rfl ⟨⟨_, by rw [HD.out], by rw [HD.out]; show TOwn _ _ _ (putF L peer who tq); rw [← put_of hR.out.1 hF tq, if_neg (by omega)]; exact own_cast hown (by show _ = FV encT (L.take (k) ++ ([(peer, who, tq)] ++ L.drop (k))); simp only [FV_append, List.append_assoc, List.nil_append])⟩, hall⟩
                          · skip
                            refine wl_v _ (r_ne Try.underlying3 (H.ev rfl) evc (dec_f (c13))) ?_; refine kl H rfl fun a H => ?_
                            refine wpList_nil ?_
                            refine c_next ?_
                            refine c_cond_f H rfl ?_
                            refine wp_skip ?_
                            refine c_next ?_
                            refine wp_seq ?_
                            refine wp_seq ?_
                            refine wp_region_lit ?_
                            refine wl_v _ (r_move (H.ev rfl)) ?_; refine kl H rfl fun a H => ?_
                            refine wl_v _ (r_ne Try.underlying3 (H.ev rfl) evc (dec_f (by omega))) ?_; refine kl H rfl fun a H => ?_
                            refine wpList_nil ?_
                            refine c_next ?_
                            refine c_cond_f H rfl ?_
                            refine wp_skip ?_
                            refine c_next ?_
                            refine wp_seq ?_
                            refine wp_region_lit ?_
                            refine wl_v _ (r_move (H.ev rfl)) ?_; refine kl H rfl fun a H => ?_
                            refine wl_v _ (r_move (H.ev rfl)) ?_; refine kl H rfl fun a H => ?_
                            refine wl_v _ (r_move (H.ev rfl)) ?_; refine kl H rfl fun a H => ?_
                            refine wl_v (.slice (slAt (some ⟨b, o, none⟩) c (k) 3) (L.length - (k)) (c - (k))) (run_op_slice Try.underlying22 (.slice (some ⟨b, o, none⟩) L.length c) (some (.int .i64 (k : Nat))) none none (H.ev rfl) (by simp [H.ev (j := 116) rfl]) rfl rfl (slice_any (k) L.length Try.underlying22 s37 _ _ (.inr rfl) (.inl ⟨rfl, rfl⟩) (by omega) (by omega) rfl rfl rfl)) ?_; refine kl H rfl fun a H => ?_
                            refine op_append 22 37 (.tmp 114) (.tmp 117) w.heap.size (.agg #[.int .i64 0, .int .i64 0, .int .i64 0]) 3 24 v5 _ _ (slAt (some ⟨b, o, none⟩) c (k) 3) (L.length - (k)) (c - (k)) (FV encT (L.drop (k))) (H.ev rfl) (H.ev rfl) Try.underlying22 i37 rfl (by omega) hown (by rw [FV_len encT_len, List.length_drop]) (rs_src (hh.out.up hall) h1 (k)) (FV_one _ _) (by unfold maxLen; omega) (by omega) hall.size fun vz wz hown2 hg9 hv9 hb2 => ?_; replace hall := hall.trans hb2; clear hb2 hown; have hown := hown2; clear hown2 hg9 hv9; refine kl H rfl fun a H => ?_
                            refine wl_v _ (r_assign (H.ev rfl)) ?_; refine kl H rfl fun a H => ?_
                            refine wl_v _ (r_assign evc) ?_; refine kl H rfl fun a H => ?_
                            refine wpList_nil ?_
                            refine c_next ?_
                            refine wp_ret ?_
                            obtain rfl : tq = 0 := by omega
                            have hfe : f = false := by rw [hf2]; exact decide_eq_false (by omega)
                            subst hfe
                            rw [if_neg (by omega), if_neg (by rintro ⟨hq, hq2⟩; rw [HFU.out] at hq2; have := of_decide_eq_true hq2; omega)] at HD
                            exact k_ret2 H rfl rfl rfl ⟨⟨_, by rw [HD.out], by rw [HD.out]; show TOwn _ _ _ (putF L peer who 0); rw [← put_of hR.out.1 hF 0, if_pos rfl]; exact own_cast hown (by show _ = FV encT (L.take (k) ++ ([] ++ L.drop (k))); simp only [FV_append, List.append_assoc, List.nil_append])⟩, hall⟩
                        · skip
                          refine wp_seq ?_
                          refine wp_seq ?_
                          have hS : SDo w b0 peer who tq v5 (L.take k) _ := ⟨hall.drew, k0, own_block hown (fun _ _ => rfl)⟩
                          refine region_pi (SDo w b0 peer who tq v5 (L.take k)) [(0, true), (1, true), (2, true), (3, true), (4, true), (5, true), (6, true), (7, true), (8, true), (9, true), (10, false), (11, true)] (by kernel_rfl) (by kernel_rfl) rfl (by kernel_rfl) hS ?_
                          clear hall k0 hown
                          refine pi_f0 _ rfl (fun w' hS' => r_move (H.ev rfl)) ?_; refine kp H rfl fun a H => ?_
                          refine pi_f0 _ rfl (fun w' hS' => r_move (H.ev rfl)) ?_; refine kp H rfl fun a H => ?_
                          refine pi_f0 _ rfl (fun w' hS' => r_len Try.underlying22 (H.ev rfl)) ?_; refine kp H rfl fun a H => ?_
                          refine pi_f0 _ rfl (fun w' hS' => r_lt Try.underlying3 (H.ev rfl) (H.ev rfl) (dec_t (by omega))) ?_; refine kp H rfl fun a H => ?_
                          refine pi_f0 _ rfl (fun w' hS' => r_move (H.ev rfl)) ?_; refine kp H rfl fun a H => ?_
                          refine pi_f1 _ rfl rfl rfl (H.ev rfl) (fun w' hS' => r_move (H.ev rfl)) ?_; refine kp H rfl fun a H => ?_
                          refine pi_f1 _ rfl rfl rfl (H.ev rfl) (fun w' hS' => r_move (H.ev rfl)) ?_; refine kp H rfl fun a H => ?_
                          refine pi_f1 _ rfl rfl rfl (H.ev rfl) (fun w' hS' => r_idx (j := k) (q := o + k * 3) Try.underlying22 s37 (H.ev rfl) (H.ev rfl) (by omega) rfl) ?_; refine kp H rfl fun a H => ?_
                          refine pi_f1 _ rfl rfl rfl (H.ev rfl) (fun w' hS' => r_row (cs := [.int .i64 y.1, .int .i64 y.2.1, .int .i64 y.2.2]) (H.ev rfl) (range_ups HRG.out hS'.1) (by kernel_rfl) s37 rfl) ?_; refine kp H rfl fun a H => ?_
                          refine pi_f1 _ rfl rfl rfl (H.ev rfl) (fun w' hS' => r_row (cs := [.int .i64 peer, .int .i64 who, .int .i64 tq]) (H.ev rfl) (block_range (hS'.2.1)) (by kernel_rfl) s37 rfl) ?_; refine kp H rfl fun a H => ?_
                          refine pi_a1 rfl rfl rfl (H.ev rfl) (fun K hK => ?_); refine wpo_call _ _ _ (less_any y (peer, who, tq) _) (r_call2 cf29 (H.ev rfl) (H.ev rfl)) ?_; rintro e w9 ⟨rfl, hb9⟩; refine ⟨_, rfl, ?_⟩; rw [HLS.out]; replace hS := hS.up hb9; clear hb9; refine hK _ _ ⟨hS, ?_⟩; clear hK; clear K; refine kp H rfl fun a H => ?_
                          refine pi_f0 _ rfl (fun w' hS' => r_pick_t (H.ev rfl) (H.ev rfl)) ?_; refine kp H rfl fun a H => ?_
                          refine pi_nil (NoPanic.normal ?_)
                          have hall := hS.1
                          have k0 := hS.2.1
                          have hown : TOwn _ w.heap.size v5 (L.take k) := hS.2.2
                          clear hS
                          refine c_next ?_
                          refine c_cond_t H rfl ?_
                          refine wp_skip ?_
                          refine c_next ?_
                          refine wp_block ?_
                          refine wp_seq ?_
                          have htl : (L.take k).length ≤ L.length := (by rw [List.length_take]; exact Nat.min_le_right _ _)
                          refine wp_region_lit ?_
                          refine wl_v _ (r_move (H.ev rfl)) ?_; refine kl H rfl fun a H => ?_
                          refine wl_v _ (r_move (H.ev rfl)) ?_; refine kl H rfl fun a H => ?_
                          refine wl_v _ (r_move (H.ev rfl)) ?_; refine kl H rfl fun a H => ?_
                          refine wl_v _ (r_idx (j := k) (q := o + k * 3) Try.underlying22 s37 (H.ev rfl) (H.ev rfl) (by omega) rfl) ?_; refine kl H rfl fun a H => ?_
                          refine wl_v _ (r_row (cs := [.int .i64 y.1, .int .i64 y.2.1, .int .i64 y.2.2]) (H.ev rfl) (range_ups HRG.out hall) (by kernel_rfl) s37 rfl) ?_; refine kl H rfl fun a H => ?_
                          refine op_litv 22 1 #[(0, .agg #[.int .i64 y.1, .int .i64 y.2.1, .int .i64 y.2.2])] 37 #[.int .i64 y.1, .int .i64 y.2.1, .int .i64 y.2.2] (by simp [evc, H.ev (j := 99) rfl]) (fun w => by kernel_rfl) fun w2 b2 hge hb k2 => ?_; have g2 := Nat.le_trans hall.size hge; replace hown := own_ups hown hb; replace k0 := Block.ups k0 hb; replace hall := hall.trans (hb.mono hall.size); clear hb; clear hge; refine kl H rfl fun a H => ?_
                          refine op_append 22 37 (.tmp 95) (.tmp 100) w.heap.size (.agg #[.int .i64 0, .int .i64 0, .int .i64 0]) 3 24 v5 _ _ (some ⟨b2, 0, none⟩) 1 1 (FV encT [y]) (H.ev rfl) (H.ev rfl) Try.underlying22 i37 rfl (by omega) hown (by rw [FV_len encT_len]; rfl) (block_x k2) (FV_one _ _) (by unfold maxLen; omega) (by omega) hall.size fun v9 w9 hown2 hg9 hv9 hb2 => ?_; have hnx : v9.ownBlock ≠ some b0 := (app_ne hv9 hne k0.lt); replace k0 := Block.grown k0 hg9 (fun e => hne e.symm); replace hall := hall.trans hb2; clear hb2 hown; have hown := hown2; clear hown2 hg9 hv9; replace hown := take_own HY.out hown; refine kl H rfl fun a H => ?_
                          refine wl_v _ (r_assign (H.ev rfl)) ?_; refine kl H rfl fun a H => ?_
                          refine wpList_nil ?_
                          refine c_next ?_
                          refine wp_region_lit ?_
                          refine wl_v _ (r_move (H.ev rfl)) ?_; refine kl H rfl fun a H => ?_
                          refine wl_v _ (r_add (q := ((k + 1 : Nat) : Int)) Try.underlying3 (H.ev rfl) evc (by omega) (by omega)) ?_; refine kl H rfl fun a H => ?_
                          refine wl_v _ (r_assign (H.ev rfl)) ?_; refine kl H rfl fun a H => ?_
                          refine wpList_nil ?_
                          refine n_block ?_
                          refine n_then ⟨⟨k + 1, v9, H.pick [0, 11, 12, 13, 15, 16], by omega, lt_next hle HY.out (of_decide_eq_true HLS.out), hown, hnx, k0, hall⟩, ?_⟩
                          rw [H.ev (j := 16) rfl, H0.ev (j := 16) rfl]
                          simp only [intOf]
                          omega
                      · skip
                        obtain rfl : k = L.length := by omega
                        have hex : ∀ y, L[L.length]? = some y → ¬ Lt y (peer, who, 0) := (fun u hu => by simp at hu)
                        refine wp_seq ?_
                        refine wp_seq ?_
                        have hS : SDo w b0 peer who tq v5 (L.take L.length) _ := ⟨hall.drew, k0, own_block hown (fun _ _ => rfl)⟩
                        refine region_pi (SDo w b0 peer who tq v5 (L.take L.length)) [(0, true), (1, true), (2, true), (3, true), (4, true), (5, true), (6, true), (7, true), (8, true), (9, true), (10, false), (11, true)] (by kernel_rfl) (by kernel_rfl) rfl (by kernel_rfl) hS ?_
                        clear hall k0 hown
                        refine pi_f0 _ rfl (fun w' hS' => r_move (H.ev rfl)) ?_; refine kp H rfl fun a H => ?_
                        refine pi_f0 _ rfl (fun w' hS' => r_move (H.ev rfl)) ?_; refine kp H rfl fun a H => ?_
                        refine pi_f0 _ rfl (fun w' hS' => r_len Try.underlying22 (H.ev rfl)) ?_; refine kp H rfl fun a H => ?_
                        refine pi_f0 _ rfl (fun w' hS' => r_lt Try.underlying3 (H.ev rfl) (H.ev rfl) (dec_f (by omega))) ?_; refine kp H rfl fun a H => ?_
                        refine pi_f0 _ rfl (fun w' hS' => r_move (H.ev rfl)) ?_; refine kp H rfl fun a H => ?_
                        refine pi_s1 rfl rfl rfl (H.ev rfl) ?_; refine kp H rfl fun a H => ?_
                        refine pi_s1 rfl rfl rfl (H.ev rfl) ?_; refine kp H rfl fun a H => ?_
                        refine pi_s1 rfl rfl rfl (H.ev rfl) ?_; refine kp H rfl fun a H => ?_
                        refine pi_s1 rfl rfl rfl (H.ev rfl) ?_; refine kp H rfl fun a H => ?_
                        refine pi_s1 rfl rfl rfl (H.ev rfl) ?_; refine kp H rfl fun a H => ?_
                        refine pi_s1 rfl rfl rfl (H.ev rfl) ?_; refine kp H rfl fun a H => ?_
                        refine pi_f0 _ rfl (fun w' hS' => r_pick_f (H.ev rfl) evc) ?_; refine kp H rfl fun a H => ?_
                        refine pi_nil (NoPanic.normal ?_)
                        have hall := hS.1
                        have k0 := hS.2.1
                        have hown : TOwn _ w.heap.size v5 (L.take L.length) := hS.2.2
                        clear hS
                        refine c_next ?_
                        refine c_cond_f H rfl ?_
                        refine wp_exit ?_
                        refine e_then ?_
                        refine e_then ?_
                        refine e_here ?_
                        refine c_next ?_
                        refine wp_seq ?_
                        refine wp_seq ?_
                        have htl : (L.take (L.length)).length ≤ L.length := (by rw [List.length_take]; exact Nat.min_le_right _ _)
                        obtain ⟨f, hF⟩ := findP_of hR.out.1 hk hle hex
                        have hsf := had_state hR.out hF HS.out
                        have hf2 : f = decide (s ≠ 0) := by cases f with | true => exact (decide_eq_true (hsf.1 rfl)).symm | false => exact (decide_eq_false (fun h => h (hsf.2 rfl))).symm
                        clear hsf hex hle
                        refine wp_region_lit ?_
                        refine wl_v _ (r_move (H.ev rfl)) ?_; refine kl H rfl fun a H => ?_
                        by_cases c14 : tq ≠ 0
                        · skip
                          refine wl_v _ (r_ne Try.underlying3 (H.ev rfl) evc (dec_t (c14))) ?_; refine kl H rfl fun a H => ?_
                          refine wpList_nil ?_
                          refine c_next ?_
                          refine c_cond_t H rfl ?_
                          refine wp_region_lit ?_
                          refine wl_v _ (r_move (H.ev rfl)) ?_; refine kl H rfl fun a H => ?_
                          refine wl_v _ (r_row (cs := [.int .i64 peer, .int .i64 who, .int .i64 tq]) (H.ev rfl) (block_range k0) (by kernel_rfl) s37 rfl) ?_; refine kl H rfl fun a H => ?_
                          refine op_litv 22 1 #[(0, .agg #[.int .i64 peer, .int .i64 who, .int .i64 tq])] 37 #[.int .i64 peer, .int .i64 who, .int .i64 tq] (by simp [evc, H.ev (j := 107) rfl]) (fun w => by kernel_rfl) fun w3 b3 hge hb k3 => ?_; have g3 := Nat.le_trans hall.size hge; replace hown := own_ups hown hb; replace k0 := Block.ups k0 hb; replace hall := hall.trans (hb.mono hall.size); clear hb; clear hge; refine kl H rfl fun a H => ?_
                          refine op_append 22 37 (.tmp 106) (.tmp 108) w.heap.size (.agg #[.int .i64 0, .int .i64 0, .int .i64 0]) 3 24 v5 _ _ (some ⟨b3, 0, none⟩) 1 1 (FV encT [(peer, who, tq)]) (H.ev rfl) (H.ev rfl) Try.underlying22 i37 rfl (by omega) hown (by rw [FV_len encT_len]; rfl) (block_x k3) (FV_one _ _) (by unfold maxLen; omega) (by omega) hall.size fun v9 w9 hown2 hg9 hv9 hb2 => ?_; replace hall := hall.trans hb2; clear hb2 hown; have hown := hown2; clear hown2 hg9 hv9; refine kl H rfl fun a H => ?_
                          refine wl_v _ (r_assign (H.ev rfl)) ?_; refine kl H rfl fun a H => ?_
                          refine wpList_nil ?_
                          refine c_next ?_
                          refine wp_seq ?_
                          refine wp_seq ?_
                          refine wp_region_lit ?_
                          refine wl_v _ (r_move (H.ev rfl)) ?_; refine kl H rfl fun a H => ?_
                          refine wl_v _ (r_ne Try.underlying3 (H.ev rfl) evc (dec_f (by omega))) ?_; refine kl H rfl fun a H => ?_
                          refine wpList_nil ?_
                          refine c_next ?_
                          refine c_cond_f H rfl ?_
                          refine wp_skip ?_
                          refine c_next ?_
                          refine wp_seq ?_
                          refine wp_region_lit ?_
                          refine wl_v _ (r_move (H.ev rfl)) ?_; refine kl H rfl fun a H => ?_
                          refine wl_v _ (r_move (H.ev rfl)) ?_; refine kl H rfl fun a H => ?_
                          refine wl_v _ (r_move (H.ev rfl)) ?_; refine kl H rfl fun a H => ?_
                          refine wl_v (.slice (slAt A c (L.length) 3) (L.length - (L.length)) (c - (L.length))) (run_op_slice Try.underlying22 (.slice A L.length c) (some (.int .i64 (L.length : Nat))) none none (H.ev rfl) (by simp [H.ev (j := 116) rfl]) rfl rfl (slice_any (L.length) L.length Try.underlying22 s37 _ _ (.inr rfl) (.inl ⟨rfl, rfl⟩) (by omega) (by omega) rfl rfl rfl)) ?_; refine kl H rfl fun a H => ?_
                          refine op_append 22 37 (.tmp 114) (.tmp 117) w.heap.size (.agg #[.int .i64 0, .int .i64 0, .int .i64 0]) 3 24 v9 _ _ (slAt A c (L.length) 3) (L.length - (L.length)) (c - (L.length)) (FV encT (L.drop (L.length))) (H.ev rfl) (H.ev rfl) Try.underlying22 i37 rfl (by omega) hown (by rw [FV_len encT_len, List.length_drop]) (rs_src (hh.out.up hall) h1 (L.length)) (FV_one _ _) (by unfold maxLen; omega) (by omega) hall.size fun vz wz hown2 hg9 hv9 hb2 => ?_; replace hall := hall.trans hb2; clear hb2 hown; have hown := hown2; clear hown2 hg9 hv9; refine kl H rfl fun a H => ?_
                          refine wl_v _ (r_assign (H.ev rfl)) ?_; refine kl H rfl fun a H => ?_
                          refine wl_v _ (r_assign evc) ?_; refine kl H rfl fun a H => ?_
                          refine wpList_nil ?_
                          refine c_next ?_
                          refine wp_ret ?_
                          have hfe : f = false := by rw [hf2]; exact decide_eq_false (by omega)
                          subst hfe
                          rw [if_neg (by omega), if_neg (by rintro ⟨hq, hq2⟩; rw [HFU.out] at hq2; have := of_decide_eq_true hq2; omega)] at HD
                          exact k_ret2 H rfl rfl rfl ⟨⟨_, by rw [HD.out], by rw [HD.out]; show TOwn _ _ _ (putF L peer who tq); rw [← put_of hR.out.1 hF tq, if_neg (by omega)]; exact own_cast hown (by show _ = FV encT (L.take (L.length) ++ ([(peer, who, tq)] ++ L.drop (L.length))); simp only [FV_append, List.append_assoc, List.nil_append])⟩, hall⟩
                        · skip
                          refine wl_v _ (r_ne Try.underlying3 (H.ev rfl) evc (dec_f (c14))) ?_; refine kl H rfl fun a H => ?_
                          refine wpList_nil ?_
                          refine c_next ?_
                          refine c_cond_f H rfl ?_
                          refine wp_skip ?_
                          refine c_next ?_
                          refine wp_seq ?_
                          refine wp_seq ?_
                          refine wp_region_lit ?_
                          refine wl_v _ (r_move (H.ev rfl)) ?_; refine kl H rfl fun a H => ?_
                          refine wl_v _ (r_ne Try.underlying3 (H.ev rfl) evc (dec_f (by omega))) ?_; refine kl H rfl fun a H => ?_
                          refine wpList_nil ?_
                          refine c_next ?_
                          refine c_cond_f H rfl ?_
                          refine wp_skip ?_
                          refine c_next ?_
                          refine wp_seq ?_
                          refine wp_region_lit ?_
                          refine wl_v _ (r_move (H.ev rfl)) ?_; refine kl H rfl fun a H => ?_
                          refine wl_v _ (r_move (H.ev rfl)) ?_; refine kl H rfl fun a H => ?_
                          refine wl_v _ (r_move (H.ev rfl)) ?_; refine kl H rfl fun a H => ?_
                          refine wl_v (.slice (slAt A c (L.length) 3) (L.length - (L.length)) (c - (L.length))) (run_op_slice Try.underlying22 (.slice A L.length c) (some (.int .i64 (L.length : Nat))) none none (H.ev rfl) (by simp [H.ev (j := 116) rfl]) rfl rfl (slice_any (L.length) L.length Try.underlying22 s37 _ _ (.inr rfl) (.inl ⟨rfl, rfl⟩) (by omega) (by omega) rfl rfl rfl)) ?_; refine kl H rfl fun a H => ?_
                          refine op_append 22 37 (.tmp 114) (.tmp 117) w.heap.size (.agg #[.int .i64 0, .int .i64 0, .int .i64 0]) 3 24 v5 _ _ (slAt A c (L.length) 3) (L.length - (L.length)) (c - (L.length)) (FV encT (L.drop (L.length))) (H.ev rfl) (H.ev rfl) Try.underlying22 i37 rfl (by omega) hown (by rw [FV_len encT_len, List.length_drop]) (rs_src (hh.out.up hall) h1 (L.length)) (FV_one _ _) (by unfold maxLen; omega) (by omega) hall.size fun vz wz hown2 hg9 hv9 hb2 => ?_; replace hall := hall.trans hb2; clear hb2 hown; have hown := hown2; clear hown2 hg9 hv9; refine kl H rfl fun a H => ?_
                          refine wl_v _ (r_assign (H.ev rfl)) ?_; refine kl H rfl fun a H => ?_
                          refine wl_v _ (r_assign evc) ?_; refine kl H rfl fun a H => ?_
                          refine wpList_nil ?_
                          refine c_next ?_
                          refine wp_ret ?_
                          obtain rfl : tq = 0 := by omega
                          have hfe : f = false := by rw [hf2]; exact decide_eq_false (by omega)
                          subst hfe
                          rw [if_neg (by omega), if_neg (by rintro ⟨hq, hq2⟩; rw [HFU.out] at hq2; have := of_decide_eq_true hq2; omega)] at HD
                          exact k_ret2 H rfl rfl rfl ⟨⟨_, by rw [HD.out], by rw [HD.out]; show TOwn _ _ _ (putF L peer who 0); rw [← put_of hR.out.1 hF 0, if_pos rfl]; exact own_cast hown (by show _ = FV encT (L.take (L.length) ++ ([] ++ L.drop (L.length))); simp only [FV_append, List.append_assoc, List.nil_append])⟩, hall⟩
                · skip
                  refine wl_v _ (r_eq Try.underlying3 (H.ev rfl) evc (dec_f (c10))) ?_; refine kl H rfl fun a H => ?_
                  refine wl_v _ (r_move (H.ev rfl)) ?_; refine kl H rfl fun a H => ?_
                  refine wl_s (kg_no rfl H rfl rfl rfl) ?_; refine kl H rfl fun a H => ?_
                  refine wl_s (kg_no rfl H rfl rfl rfl) ?_; refine kl H rfl fun a H => ?_
                  refine wl_s (kg_no rfl H rfl rfl rfl) ?_; refine kl H rfl fun a H => ?_
                  refine wl_s (kg_no rfl H rfl rfl rfl) ?_; refine kl H rfl fun a H => ?_
                  refine wl_s (kg_un rfl H rfl rfl rfl) ?_; refine kl H rfl fun a H => ?_
                  refine wl_s (kg_un rfl H rfl rfl rfl) ?_; refine kl H rfl fun a H => ?_
                  refine wl_s (kg_un rfl H rfl rfl rfl) ?_; refine kl H rfl fun a H => ?_
                  refine wl_s (kg_un rfl H rfl rfl rfl) ?_; refine kl H rfl fun a H => ?_
                  refine wl_s (kg_un rfl H rfl rfl rfl) ?_; refine kl H rfl fun a H => ?_
                  refine wl_s (kg_no rfl H rfl rfl rfl) ?_; refine kl H rfl fun a H => ?_
                  refine wl_v _ (r_pick_f (H.ev rfl) evc) ?_; refine kl H rfl fun a H => ?_
                  refine wpList_nil ?_
                  refine c_next ?_
                  refine c_cond_f H rfl ?_
                  refine wp_skip ?_
                  refine c_next ?_
                  refine wp_seq ?_
                  clear hown
                  refine wp_region_lit ?_
                  refine wl_v _ (r_move (H.ev rfl)) ?_; refine kl H rfl fun a H => ?_
                  refine wl_v _ (r_fld (q := 2) fld37_2 (H.ev rfl) rfl) ?_; refine kl H rfl fun a H => ?_
                  refine op_store1 3 (.tmp 82) (.tmp 81) b0 2 37 (.int .i64 tq) _ (H.ev rfl) (H.ev rfl) k0 s3 (by simp [Value.cells]) (ints_one [tq]) fun w' hb ho kq => ?_; clear k0; have k0 : Block _ b0 37 #[.int .i64 peer, .int .i64 who, .int .i64 tq] := kq; clear kq; replace hall := hall.trans (hb _ g0); clear hb ho; refine kl0 H fun a H => ?_
                  refine wpList_nil ?_
                  refine c_next ?_
                  refine wp_seq ?_
                  refine wp_region_lit ?_
                  refine wl_v _ (r_assign evc) ?_; refine kl H rfl fun a H => ?_
                  refine wpList_nil ?_
                  refine c_next ?_
                  refine wp_seq ?_
                  refine wp_region_lit ?_
                  refine wl_v _ (r_assign evc) ?_; refine kl H rfl fun a H => ?_
                  refine wpList_nil ?_
                  refine c_next ?_
                  refine wp_seq ?_
                  refine wp_block ?_
                  refine wp_loop (RdI w A c L b0 peer who tq s) (fun a _ => L.length - (intOf (a.eval (.tmp 16))).toNat) ⟨0, _, H.pick [0, 11, 12, 13, 15, 16], by omega, fun j y hj => by omega, World.ownsRow_nil _ _ _ _, (fun e => by cases e), k0, hall⟩ ?_
                  clear H hall k0
                  rintro a w' ⟨k, v5, H, hk, hle, hown, hne, k0, hall⟩
                  have H0 := H
                  by_cases hlt : k < L.length
                  · skip
                    obtain ⟨b, o, hA, hr⟩ := flat_some encT_len hh.out (by omega) hlt
                    subst hA
                    have hy : L[k]? = some L[k] := List.getElem?_eq_getElem hlt
                    have HY := Lib.hid hy
                    have HRG := Lib.hid hr
                    generalize L[k] = y at *
                    clear hy hr
                    obtain ⟨ls, hls⟩ : ∃ ls, lessB y (peer, who, tq) = ls := ⟨_, rfl⟩
                    have HLS := Lib.hid hls
                    clear hls
                    cases ls
                    · skip
                      have hex : ∀ y, L[k]? = some y → ¬ Lt y (peer, who, 0) := (fun u hu => by rw [HY.out] at hu; injection hu with hu; subst hu; exact of_decide_eq_false HLS.out)
                      refine wp_seq ?_
                      refine wp_seq ?_
                      have hS : SDo w b0 peer who tq v5 (L.take k) _ := ⟨hall.drew, k0, own_block hown (fun _ _ => rfl)⟩
                      refine region_pi (SDo w b0 peer who tq v5 (L.take k)) [(0, true), (1, true), (2, true), (3, true), (4, true), (5, true), (6, true), (7, true), (8, true), (9, true), (10, false), (11, true)] (by kernel_rfl) (by kernel_rfl) rfl (by kernel_rfl) hS ?_
                      clear hall k0 hown
                      refine pi_f0 _ rfl (fun w' hS' => r_move (H.ev rfl)) ?_; refine kp H rfl fun a H => ?_
                      refine pi_f0 _ rfl (fun w' hS' => r_move (H.ev rfl)) ?_; refine kp H rfl fun a H => ?_
                      refine pi_f0 _ rfl (fun w' hS' => r_len Try.underlying22 (H.ev rfl)) ?_; refine kp H rfl fun a H => ?_
                      refine pi_f0 _ rfl (fun w' hS' => r_lt Try.underlying3 (H.ev rfl) (H.ev rfl) (dec_t (by omega))) ?_; refine kp H rfl fun a H => ?_
                      refine pi_f0 _ rfl (fun w' hS' => r_move (H.ev rfl)) ?_; refine kp H rfl fun a H => ?_
                      refine pi_f1 _ rfl rfl rfl (H.ev rfl) (fun w' hS' => r_move (H.ev rfl)) ?_; refine kp H rfl fun a H => ?_
                      refine pi_f1 _ rfl rfl rfl (H.ev rfl) (fun w' hS' => r_move (H.ev rfl)) ?_; refine kp H rfl fun a H => ?_
                      refine pi_f1 _ rfl rfl rfl (H.ev rfl) (fun w' hS' => r_idx (j := k) (q := o + k * 3) Try.underlying22 s37 (H.ev rfl) (H.ev rfl) (by omega) rfl) ?_; refine kp H rfl fun a H => ?_
                      refine pi_f1 _ rfl rfl rfl (H.ev rfl) (fun w' hS' => r_row (cs := [.int .i64 y.1, .int .i64 y.2.1, .int .i64 y.2.2]) (H.ev rfl) (range_ups HRG.out hS'.1) (by kernel_rfl) s37 rfl) ?_; refine kp H rfl fun a H => ?_
                      refine pi_f1 _ rfl rfl rfl (H.ev rfl) (fun w' hS' => r_row (cs := [.int .i64 peer, .int .i64 who, .int .i64 tq]) (H.ev rfl) (block_range (hS'.2.1)) (by kernel_rfl) s37 rfl) ?_; refine kp H rfl fun a H => ?_
                      refine pi_a1 rfl rfl rfl (H.ev rfl) (fun K hK => ?_); refine wpo_call _ _ _ (less_any y (peer, who, tq) _) (r_call2 cf29 (H.ev rfl) (H.ev rfl)) ?_; rintro e w9 ⟨rfl, hb9⟩; refine ⟨_, rfl, ?_⟩; rw [HLS.out]; replace hS := hS.up hb9; clear hb9; refine hK _ _ ⟨hS, ?_⟩; clear hK; clear K; refine kp H rfl fun a H => ?_
                      refine pi_f0 _ rfl (fun w' hS' => r_pick_t (H.ev rfl) (H.ev rfl)) ?_; refine kp H rfl fun a H => ?_
                      refine pi_nil (NoPanic.normal ?_)
                      have hall := hS.1
                      have k0 := hS.2.1
                      have hown : TOwn _ w.heap.size v5 (L.take k) := hS.2.2
                      clear hS
                      refine c_next ?_
                      refine c_cond_f H rfl ?_
                      refine wp_exit ?_
                      refine e_then ?_
                      refine e_then ?_
                      refine e_here ?_
                      refine c_next ?_
                      refine wp_seq ?_
                      refine wp_seq ?_
                      have htl : (L.take (k)).length ≤ L.length := (by rw [List.length_take]; exact Nat.min_le_right _ _)
                      obtain ⟨f, hF⟩ := findP_of hR.out.1 hk hle hex
                      have hsf := had_state hR.out hF HS.out
                      have hf2 : f = decide (s ≠ 0) := by cases f with | true => exact (decide_eq_true (hsf.1 rfl)).symm | false => exact (decide_eq_false (fun h => h (hsf.2 rfl))).symm
                      clear hsf hex hle
                      refine wp_region_lit ?_
                      refine wl_v _ (r_move (H.ev rfl)) ?_; refine kl H rfl fun a H => ?_
                      by_cases c15 : tq ≠ 0
                      · skip
                        refine wl_v _ (r_ne Try.underlying3 (H.ev rfl) evc (dec_t (c15))) ?_; refine kl H rfl fun a H => ?_
                        refine wpList_nil ?_
                        refine c_next ?_
                        refine c_cond_t H rfl ?_
                        refine wp_region_lit ?_
                        refine wl_v _ (r_move (H.ev rfl)) ?_; refine kl H rfl fun a H => ?_
                        refine wl_v _ (r_row (cs := [.int .i64 peer, .int .i64 who, .int .i64 tq]) (H.ev rfl) (block_range k0) (by kernel_rfl) s37 rfl) ?_; refine kl H rfl fun a H => ?_
                        refine op_litv 22 1 #[(0, .agg #[.int .i64 peer, .int .i64 who, .int .i64 tq])] 37 #[.int .i64 peer, .int .i64 who, .int .i64 tq] (by simp [evc, H.ev (j := 107) rfl]) (fun w => by kernel_rfl) fun w4 b4 hge hb k4 => ?_; have g4 := Nat.le_trans hall.size hge; replace hown := own_ups hown hb; replace k0 := Block.ups k0 hb; replace hall := hall.trans (hb.mono hall.size); clear hb; clear hge; refine kl H rfl fun a H => ?_
                        refine op_append 22 37 (.tmp 106) (.tmp 108) w.heap.size (.agg #[.int .i64 0, .int .i64 0, .int .i64 0]) 3 24 v5 _ _ (some ⟨b4, 0, none⟩) 1 1 (FV encT [(peer, who, tq)]) (H.ev rfl) (H.ev rfl) Try.underlying22 i37 rfl (by omega) hown (by rw [FV_len encT_len]; rfl) (block_x k4) (FV_one _ _) (by unfold maxLen; omega) (by omega) hall.size fun v9 w9 hown2 hg9 hv9 hb2 => ?_; replace hall := hall.trans hb2; clear hb2 hown; have hown := hown2; clear hown2 hg9 hv9; refine kl H rfl fun a H => ?_
                        refine wl_v _ (r_assign (H.ev rfl)) ?_; refine kl H rfl fun a H => ?_
                        refine wpList_nil ?_
                        refine c_next ?_
                        refine wp_seq ?_
                        refine wp_seq ?_
                        refine wp_region_lit ?_
                        refine wl_v _ (r_move (H.ev rfl)) ?_; refine kl H rfl fun a H => ?_
                        refine wl_v _ (r_ne Try.underlying3 (H.ev rfl) evc (dec_t (by omega))) ?_; refine kl H rfl fun a H => ?_
                        refine wpList_nil ?_
                        refine c_next ?_
                        refine c_cond_t H rfl ?_
                        have hfe : f = true := by rw [hf2]; exact decide_eq_true (by omega)
                        obtain ⟨u, hu, _⟩ := hF.2.2.2.1 hfe
                        have hku := (List.getElem?_eq_some_iff.1 hu).1
                        refine wp_region_lit ?_
                        refine wl_v _ (r_move (H.ev rfl)) ?_; refine kl H rfl fun a H => ?_
                        refine wl_v _ (r_add (q := ((k + 1 : Nat) : Int)) Try.underlying3 (H.ev rfl) evc (by omega) (by omega)) ?_; refine kl H rfl fun a H => ?_
                        refine wl_v _ (r_assign (H.ev rfl)) ?_; refine kl H rfl fun a H => ?_
                        refine wpList_nil ?_
                        refine c_next ?_
                        refine wp_seq ?_
                        refine wp_region_lit ?_
                        refine wl_v _ (r_move (H.ev rfl)) ?_; refine kl H rfl fun a H => ?_
                        refine wl_v _ (r_move (H.ev rfl)) ?_; refine kl H rfl fun a H => ?_
                        refine wl_v _ (r_move (H.ev rfl)) ?_; refine kl H rfl fun a H => ?_
                        refine wl_v (.slice (slAt (some ⟨b, o, none⟩) c (k + 1) 3) (L.length - (k + 1)) (c - (k + 1))) (run_op_slice Try.underlying22 (.slice (some ⟨b, o, none⟩) L.length c) (some (.int .i64 (k + 1 : Nat))) none none (H.ev rfl) (by simp [H.ev (j := 116) rfl]) rfl rfl (slice_any (k + 1) L.length Try.underlying22 s37 _ _ (.inr rfl) (.inl ⟨rfl, rfl⟩) (by omega) (by omega) rfl rfl rfl)) ?_; refine kl H rfl fun a H => ?_
                        refine op_append 22 37 (.tmp 114) (.tmp 117) w.heap.size (.agg #[.int .i64 0, .int .i64 0, .int .i64 0]) 3 24 v9 _ _ (slAt (some ⟨b, o, none⟩) c (k + 1) 3) (L.length - (k + 1)) (c - (k + 1)) (FV encT (L.drop (k + 1))) (H.ev rfl) (H.ev rfl) Try.underlying22 i37 rfl (by omega) hown (by rw [FV_len encT_len, List.length_drop]) (rs_src (hh.out.up hall) h1 (k + 1)) (FV_one _ _) (by unfold maxLen; omega) (by omega) hall.size fun vz wz hown2 hg9 hv9 hb2 => ?_; replace hall := hall.trans hb2; clear hb2 hown; have hown := hown2; clear hown2 hg9 hv9; refine kl H rfl fun a H => ?_
                        refine wl_v _ (r_assign (H.ev rfl)) ?_; refine kl H rfl fun a H => ?_
                        refine wl_v _ (r_assign evc) ?_; refine kl H rfl fun a H => ?_
                        refine wpList_nil ?_
                        refine c_next ?_
                        refine wp_ret ?_
                        subst hfe
                        rw [if_neg (by omega), if_neg (by rintro ⟨hq, hq2⟩; rw [HFU.out] at hq2; have := of_decide_eq_true hq2; omega)] at HD
                        exact k_ret2 H rfl rfl rfl ⟨⟨_, by rw [HD.out], by rw [HD.out]; show TOwn _ _ _ (putF L peer who tq); rw [← put_of hR.out.1 hF tq, if_neg (by omega)]; exact own_cast hown (by show _ = FV encT (L.take (k) ++ ([(peer, who, tq)] ++ L.drop (k + 1))); simp only [FV_append, List.append_assoc, List.nil_append])⟩, hall⟩
                      · skip
                        refine wl_v _ (r_ne Try.underlying3 (H.ev rfl) evc (dec_f (c15))) ?_; refine kl H rfl fun a H => ?_
                        refine wpList_nil ?_
                        refine c_next ?_
                        refine c_cond_f H rfl ?_
                        refine wp_skip ?_
                        refine c_next ?_
                        refine wp_seq ?_
                        refine wp_seq ?_
                        refine wp_region_lit ?_
                        refine wl_v _ (r_move (H.ev rfl)) ?_; refine kl H rfl fun a H => ?_
                        refine wl_v _ (r_ne Try.underlying3 (H.ev rfl) evc (dec_t (by omega))) ?_; refine kl H rfl fun a H => ?_
                        refine wpList_nil ?_
                        refine c_next ?_
                        refine c_cond_t H rfl ?_
                        have hfe : f = true := by rw [hf2]; exact decide_eq_true (by omega)
                        obtain ⟨u, hu, _⟩ := hF.2.2.2.1 hfe
                        have hku := (List.getElem?_eq_some_iff.1 hu).1
                        refine wp_region_lit ?_
                        refine wl_v _ (r_move (H.ev rfl)) ?_; refine kl H rfl fun a H => ?_
                        refine wl_v _ (r_add (q := ((k + 1 : Nat) : Int)) Try.underlying3 (H.ev rfl) evc (by omega) (by omega)) ?_; refine kl H rfl fun a H => ?_
                        refine wl_v _ (r_assign (H.ev rfl)) ?_; refine kl H rfl fun a H => ?_
                        refine wpList_nil ?_
                        refine c_next ?_
                        refine wp_seq ?_
                        refine wp_region_lit ?_
                        refine wl_v _ (r_move (H.ev rfl)) ?_; refine kl H rfl fun a H => ?_
                        refine wl_v _ (r_move (H.ev rfl)) ?_; refine kl H rfl fun a H => ?_
                        refine wl_v _ (r_move (H.ev rfl)) ?_; refine kl H rfl fun a H => ?_
                        refine wl_v (.slice (slAt (some ⟨b, o, none⟩) c (k + 1) 3) (L.length - (k + 1)) (c - (k + 1))) (run_op_slice Try.underlying22 (.slice (some ⟨b, o, none⟩) L.length c) (some (.int .i64 (k + 1 : Nat))) none none (H.ev rfl) (by simp [H.ev (j := 116) rfl]) rfl rfl (slice_any (k + 1) L.length Try.underlying22 s37 _ _ (.inr rfl) (.inl ⟨rfl, rfl⟩) (by omega) (by omega) rfl rfl rfl)) ?_; refine kl H rfl fun a H => ?_
                        refine op_append 22 37 (.tmp 114) (.tmp 117) w.heap.size (.agg #[.int .i64 0, .int .i64 0, .int .i64 0]) 3 24 v5 _ _ (slAt (some ⟨b, o, none⟩) c (k + 1) 3) (L.length - (k + 1)) (c - (k + 1)) (FV encT (L.drop (k + 1))) (H.ev rfl) (H.ev rfl) Try.underlying22 i37 rfl (by omega) hown (by rw [FV_len encT_len, List.length_drop]) (rs_src (hh.out.up hall) h1 (k + 1)) (FV_one _ _) (by unfold maxLen; omega) (by omega) hall.size fun vz wz hown2 hg9 hv9 hb2 => ?_; replace hall := hall.trans hb2; clear hb2 hown; have hown := hown2; clear hown2 hg9 hv9; refine kl H rfl fun a H => ?_
                        refine wl_v _ (r_assign (H.ev rfl)) ?_; refine kl H rfl fun a H => ?_
                        refine wl_v _ (r_assign evc) ?_; refine kl H rfl fun a H => ?_
                        refine wpList_nil ?_
                        refine c_next ?_
                        refine wp_ret ?_
                        obtain rfl : tq = 0 := by omega
                        subst hfe
                        rw [if_neg (by omega), if_neg (by rintro ⟨hq, hq2⟩; rw [HFU.out] at hq2; have := of_decide_eq_true hq2; omega)] at HD
                        exact k_ret2 H rfl rfl rfl ⟨⟨_, by rw [HD.out], by rw [HD.out]; show TOwn _ _ _ (putF L peer who 0); rw [← put_of hR.out.1 hF 0, if_pos rfl]; exact own_cast hown (by show _ = FV encT (L.take (k) ++ ([] ++ L.drop (k + 1))); simp only [FV_append, List.append_assoc, List.nil_append])⟩, hall⟩
                    · skip
                      refine wp_seq ?_
                      refine wp_seq ?_
                      have hS : SDo w b0 peer who tq v5 (L.take k) _ := ⟨hall.drew, k0, own_block hown (fun _ _ => rfl)⟩
                      refine region_pi (SDo w b0 peer who tq v5 (L.take k)) [(0, true), (1, true), (2, true), (3, true), (4, true), (5, true), (6, true), (7, true), (8, true), (9, true), (10, false), (11, true)] (by kernel_rfl) (by kernel_rfl) rfl (by kernel_rfl) hS ?_
                      clear hall k0 hown
                      refine pi_f0 _ rfl (fun w' hS' => r_move (H.ev rfl)) ?_; refine kp H rfl fun a H => ?_
                      refine pi_f0 _ rfl (fun w' hS' => r_move (H.ev rfl)) ?_; refine kp H rfl fun a H => ?_
                      refine pi_f0 _ rfl (fun w' hS' => r_len Try.underlying22 (H.ev rfl)) ?_; refine kp H rfl fun a H => ?_
                      refine pi_f0 _ rfl (fun w' hS' => r_lt Try.underlying3 (H.ev rfl) (H.ev rfl) (dec_t (by omega))) ?_; refine kp H rfl fun a H => ?_
                      refine pi_f0 _ rfl (fun w' hS' => r_move (H.ev rfl)) ?_; refine kp H rfl fun a H => ?_
                      refine pi_f1 _ rfl rfl rfl (H.ev rfl) (fun w' hS' => r_move (H.ev rfl)) ?_; refine kp H rfl fun a H => ?_
                      refine pi_f1 _ rfl rfl rfl (H.ev rfl) (fun w' hS' => r_move (H.ev rfl)) ?_; refine kp H rfl fun a H => ?_
                      refine pi_f1 _ rfl rfl rfl (H.ev rfl) (fun w' hS' => r_idx (j := k) (q := o + k * 3) Try.underlying22 s37 (H.ev rfl) (H.ev rfl) (by omega) rfl) ?_; refine kp H rfl fun a H => ?_
                      refine pi_f1 _ rfl rfl rfl (H.ev rfl) (fun w' hS' => r_row (cs := [.int .i64 y.1, .int .i64 y.2.1, .int .i64 y.2.2]) (H.ev rfl) (range_ups HRG.out hS'.1) (by kernel_rfl) s37 rfl) ?_; refine kp H rfl fun a H => ?_
                      refine pi_f1 _ rfl rfl rfl (H.ev rfl) (fun w' hS' => r_row (cs := [.int .i64 peer, .int .i64 who, .int .i64 tq]) (H.ev rfl) (block_range (hS'.2.1)) (by kernel_rfl) s37 rfl) ?_; refine kp H rfl fun a H => ?_
                      refine pi_a1 rfl rfl rfl (H.ev rfl) (fun K hK => ?_); refine wpo_call _ _ _ (less_any y (peer, who, tq) _) (r_call2 cf29 (H.ev rfl) (H.ev rfl)) ?_; rintro e w9 ⟨rfl, hb9⟩; refine ⟨_, rfl, ?_⟩; rw [HLS.out]; replace hS := hS.up hb9; clear hb9; refine hK _ _ ⟨hS, ?_⟩; clear hK; clear K; refine kp H rfl fun a H => ?_
                      refine pi_f0 _ rfl (fun w' hS' => r_pick_t (H.ev rfl) (H.ev rfl)) ?_; refine kp H rfl fun a H => ?_
                      refine pi_nil (NoPanic.normal ?_)
                      have hall := hS.1
                      have k0 := hS.2.1
                      have hown : TOwn _ w.heap.size v5 (L.take k) := hS.2.2
                      clear hS
                      refine c_next ?_
                      refine c_cond_t H rfl ?_
                      refine wp_skip ?_
                      refine c_next ?_
                      refine wp_block ?_
                      refine wp_seq ?_
                      have htl : (L.take k).length ≤ L.length := (by rw [List.length_take]; exact Nat.min_le_right _ _)
                      refine wp_region_lit ?_
                      refine wl_v _ (r_move (H.ev rfl)) ?_; refine kl H rfl fun a H => ?_
                      refine wl_v _ (r_move (H.ev rfl)) ?_; refine kl H rfl fun a H => ?_
                      refine wl_v _ (r_move (H.ev rfl)) ?_; refine kl H rfl fun a H => ?_
                      refine wl_v _ (r_idx (j := k) (q := o + k * 3) Try.underlying22 s37 (H.ev rfl) (H.ev rfl) (by omega) rfl) ?_; refine kl H rfl fun a H => ?_
                      refine wl_v _ (r_row (cs := [.int .i64 y.1, .int .i64 y.2.1, .int .i64 y.2.2]) (H.ev rfl) (range_ups HRG.out hall) (by kernel_rfl) s37 rfl) ?_; refine kl H rfl fun a H => ?_
                      refine op_litv 22 1 #[(0, .agg #[.int .i64 y.1, .int .i64 y.2.1, .int .i64 y.2.2])] 37 #[.int .i64 y.1, .int .i64 y.2.1, .int .i64 y.2.2] (by simp [evc, H.ev (j := 99) rfl]) (fun w => by kernel_rfl) fun w5 b5 hge hb k5 => ?_; have g5 := Nat.le_trans hall.size hge; replace hown := own_ups hown hb; replace k0 := Block.ups k0 hb; replace hall := hall.trans (hb.mono hall.size); clear hb; clear hge; refine kl H rfl fun a H => ?_
                      refine op_append 22 37 (.tmp 95) (.tmp 100) w.heap.size (.agg #[.int .i64 0, .int .i64 0, .int .i64 0]) 3 24 v5 _ _ (some ⟨b5, 0, none⟩) 1 1 (FV encT [y]) (H.ev rfl) (H.ev rfl) Try.underlying22 i37 rfl (by omega) hown (by rw [FV_len encT_len]; rfl) (block_x k5) (FV_one _ _) (by unfold maxLen; omega) (by omega) hall.size fun v9 w9 hown2 hg9 hv9 hb2 => ?_; have hnx : v9.ownBlock ≠ some b0 := (app_ne hv9 hne k0.lt); replace k0 := Block.grown k0 hg9 (fun e => hne e.symm); replace hall := hall.trans hb2; clear hb2 hown; have hown := hown2; clear hown2 hg9 hv9; replace hown := take_own HY.out hown; refine kl H rfl fun a H => ?_
                      refine wl_v _ (r_assign (H.ev rfl)) ?_; refine kl H rfl fun a H => ?_
                      refine wpList_nil ?_
                      refine c_next ?_
                      refine wp_region_lit ?_
                      refine wl_v _ (r_move (H.ev rfl)) ?_; refine kl H rfl fun a H => ?_
                      refine wl_v _ (r_add (q := ((k + 1 : Nat) : Int)) Try.underlying3 (H.ev rfl) evc (by omega) (by omega)) ?_; refine kl H rfl fun a H => ?_
                      refine wl_v _ (r_assign (H.ev rfl)) ?_; refine kl H rfl fun a H => ?_
                      refine wpList_nil ?_
                      refine n_block ?_
                      refine n_then ⟨⟨k + 1, v9, H.pick [0, 11, 12, 13, 15, 16], by omega, lt_next hle HY.out (of_decide_eq_true HLS.out), hown, hnx, k0, hall⟩, ?_⟩
                      rw [H.ev (j := 16) rfl, H0.ev (j := 16) rfl]
                      simp only [intOf]
                      omega
                  · skip
                    obtain rfl : k = L.length := by omega
                    have hex : ∀ y, L[L.length]? = some y → ¬ Lt y (peer, who, 0) := (fun u hu => by simp at hu)
                    refine wp_seq ?_
                    refine wp_seq ?_
                    have hS : SDo w b0 peer who tq v5 (L.take L.length) _ := ⟨hall.drew, k0, own_block hown (fun _ _ => rfl)⟩
                    refine region_pi (SDo w b0 peer who tq v5 (L.take L.length)) [(0, true), (1, true), (2, true), (3, true), (4, true), (5, true), (6, true), (7, true), (8, true), (9, true), (10, false), (11, true)] (by kernel_rfl) (by kernel_rfl) rfl (by kernel_rfl) hS ?_
                    clear hall k0 hown
                    refine pi_f0 _ rfl (fun w' hS' => r_move (H.ev rfl)) ?_; refine kp H rfl fun a H => ?_
                    refine pi_f0 _ rfl (fun w' hS' => r_move (H.ev rfl)) ?_; refine kp H rfl fun a H => ?_
                    refine pi_f0 _ rfl (fun w' hS' => r_len Try.underlying22 (H.ev rfl)) ?_; refine kp H rfl fun a H => ?_
                    refine pi_f0 _ rfl (fun w' hS' => r_lt Try.underlying3 (H.ev rfl) (H.ev rfl) (dec_f (by omega))) ?_; refine kp H rfl fun a H => ?_
                    refine pi_f0 _ rfl (fun w' hS' => r_move (H.ev rfl)) ?_; refine kp H rfl fun a H => ?_
                    refine pi_s1 rfl rfl rfl (H.ev rfl) ?_; refine kp H rfl fun a H => ?_
                    refine pi_s1 rfl rfl rfl (H.ev rfl) ?_; refine kp H rfl fun a H => ?_
                    refine pi_s1 rfl rfl rfl (H.ev rfl) ?_; refine kp H rfl fun a H => ?_
                    refine pi_s1 rfl rfl rfl (H.ev rfl) ?_; refine kp H rfl fun a H => ?_
                    refine pi_s1 rfl rfl rfl (H.ev rfl) ?_; refine kp H rfl fun a H => ?_
                    refine pi_s1 rfl rfl rfl (H.ev rfl) ?_; refine kp H rfl fun a H => ?_
                    refine pi_f0 _ rfl (fun w' hS' => r_pick_f (H.ev rfl) evc) ?_; refine kp H rfl fun a H => ?_
                    refine pi_nil (NoPanic.normal ?_)
                    have hall := hS.1
                    have k0 := hS.2.1
                    have hown : TOwn _ w.heap.size v5 (L.take L.length) := hS.2.2
                    clear hS
                    refine c_next ?_
                    refine c_cond_f H rfl ?_
                    refine wp_exit ?_
                    refine e_then ?_
                    refine e_then ?_
                    refine e_here ?_
                    refine c_next ?_
                    refine wp_seq ?_
                    refine wp_seq ?_
                    have htl : (L.take (L.length)).length ≤ L.length := (by rw [List.length_take]; exact Nat.min_le_right _ _)
                    obtain ⟨f, hF⟩ := findP_of hR.out.1 hk hle hex
                    have hsf := had_state hR.out hF HS.out
                    have hf2 : f = decide (s ≠ 0) := by cases f with | true => exact (decide_eq_true (hsf.1 rfl)).symm | false => exact (decide_eq_false (fun h => h (hsf.2 rfl))).symm
                    clear hsf hex hle
                    refine wp_region_lit ?_
                    refine wl_v _ (r_move (H.ev rfl)) ?_; refine kl H rfl fun a H => ?_
                    by_cases c16 : tq ≠ 0
                    · skip
                      refine wl_v _ (r_ne Try.underlying3 (H.ev rfl) evc (dec_t (c16))) ?_; refine kl H rfl fun a H => ?_
                      refine wpList_nil ?_
                      refine c_next ?_
                      refine c_cond_t H rfl ?_
                      refine wp_region_lit ?_
                      refine wl_v _ (r_move (H.ev rfl)) ?_; refine kl H rfl fun a H => ?_
                      refine wl_v _ (r_row (cs := [.int .i64 peer, .int .i64 who, .int .i64 tq]) (H.ev rfl) (block_range k0) (by kernel_rfl) s37 rfl) ?_; refine kl H rfl fun a H => ?_
                      refine op_litv 22 1 #[(0, .agg #[.int .i64 peer, .int .i64 who, .int .i64 tq])] 37 #[.int .i64 peer, .int .i64 who, .int .i64 tq] (by simp [evc, H.ev (j := 107) rfl]) (fun w => by kernel_rfl) fun w6 b6 hge hb k6 => ?_; have g6 := Nat.le_trans hall.size hge; replace hown := own_ups hown hb; replace k0 := Block.ups k0 hb; replace hall := hall.trans (hb.mono hall.size); clear hb; clear hge; refine kl H rfl fun a H => ?_
                      refine op_append 22 37 (.tmp 106) (.tmp 108) w.heap.size (.agg #[.int .i64 0, .int .i64 0, .int .i64 0]) 3 24 v5 _ _ (some ⟨b6, 0, none⟩) 1 1 (FV encT [(peer, who, tq)]) (H.ev rfl) (H.ev rfl) Try.underlying22 i37 rfl (by omega) hown (by rw [FV_len encT_len]; rfl) (block_x k6) (FV_one _ _) (by unfold maxLen; omega) (by omega) hall.size fun v9 w9 hown2 hg9 hv9 hb2 => ?_; replace hall := hall.trans hb2; clear hb2 hown; have hown := hown2; clear hown2 hg9 hv9; refine kl H rfl fun a H => ?_
                      refine wl_v _ (r_assign (H.ev rfl)) ?_; refine kl H rfl fun a H => ?_
                      refine wpList_nil ?_
                      refine c_next ?_
                      refine wp_seq ?_
                      refine wp_seq ?_
                      refine wp_region_lit ?_
                      refine wl_v _ (r_move (H.ev rfl)) ?_; refine kl H rfl fun a H => ?_
                      refine wl_v _ (r_ne Try.underlying3 (H.ev rfl) evc (dec_t (by omega))) ?_; refine kl H rfl fun a H => ?_
                      refine wpList_nil ?_
                      refine c_next ?_
                      refine c_cond_t H rfl ?_
                      have hfe : f = true := by rw [hf2]; exact decide_eq_true (by omega)
                      obtain ⟨u, hu, _⟩ := hF.2.2.2.1 hfe
                      have hku := (List.getElem?_eq_some_iff.1 hu).1
                      refine wp_region_lit ?_
                      refine wl_v _ (r_move (H.ev rfl)) ?_; refine kl H rfl fun a H => ?_
                      refine wl_v _ (r_add (q := ((L.length + 1 : Nat) : Int)) Try.underlying3 (H.ev rfl) evc (by omega) (by omega)) ?_; refine kl H rfl fun a H => ?_
                      refine wl_v _ (r_assign (H.ev rfl)) ?_; refine kl H rfl fun a H => ?_
                      refine wpList_nil ?_
                      refine c_next ?_
                      refine wp_seq ?_
                      refine wp_region_lit ?_
                      refine wl_v _ (r_move (H.ev rfl)) ?_; refine kl H rfl fun a H => ?_
                      refine wl_v _ (r_move (H.ev rfl)) ?_; refine kl H rfl fun a H => ?_
                      refine wl_v _ (r_move (H.ev rfl)) ?_; refine kl H rfl fun a H => ?_
                      refine wl_v (.slice (slAt A c (L.length + 1) 3) (L.length - (L.length + 1)) (c - (L.length + 1))) (run_op_slice Try.underlying22 (.slice A L.length c) (some (.int .i64 (L.length + 1 : Nat))) none none (H.ev rfl) (by simp [H.ev (j := 116) rfl]) rfl rfl (slice_any (L.length + 1) L.length Try.underlying22 s37 _ _ (.inr rfl) (.inl ⟨rfl, rfl⟩) (by omega) (by omega) rfl rfl rfl)) ?_; refine kl H rfl fun a H => ?_
                      refine op_append 22 37 (.tmp 114) (.tmp 117) w.heap.size (.agg #[.int .i64 0, .int .i64 0, .int .i64 0]) 3 24 v9 _ _ (slAt A c (L.length + 1) 3) (L.length - (L.length + 1)) (c - (L.length + 1)) (FV encT (L.drop (L.length + 1))) (H.ev rfl) (H.ev rfl) Try.underlying22 i37 rfl (by omega) hown (by rw [FV_len encT_len, List.length_drop]) (rs_src (hh.out.up hall) h1 (L.length + 1)) (FV_one _ _) (by unfold maxLen; omega) (by omega) hall.size fun vz wz hown2 hg9 hv9 hb2 => ?_; replace hall := hall.trans hb2; clear hb2 hown; have hown := hown2; clear hown2 hg9 hv9; refine kl H rfl fun a H => ?_
                      refine wl_v _ (r_assign (H.ev rfl)) ?_; refine kl H rfl fun a H => ?_
                      refine wl_v _ (r_assign evc) ?_; refine kl H rfl fun a H => ?_
                      refine wpList_nil ?_
                      refine c_next ?_
                      refine wp_ret ?_
                      subst hfe
                      rw [if_neg (by omega), if_neg (by rintro ⟨hq, hq2⟩; rw [HFU.out] at hq2; have := of_decide_eq_true hq2; omega)] at HD
                      exact k_ret2 H rfl rfl rfl ⟨⟨_, by rw [HD.out], by rw [HD.out]; show TOwn _ _ _ (putF L peer who tq); rw [← put_of hR.out.1 hF tq, if_neg (by omega)]; exact own_cast hown (by show _ = FV encT (L.take (L.length) ++ ([(peer, who, tq)] ++ L.drop (L.length + 1))); simp only [FV_append, List.append_assoc, List.nil_append])⟩, hall⟩
                    · skip
                      refine wl_v _ (r_ne Try.underlying3 (H.ev rfl) evc (dec_f (c16))) ?_; refine kl H rfl fun a H => ?_
                      refine wpList_nil ?_
                      refine c_next ?_
                      refine c_cond_f H rfl ?_
                      refine wp_skip ?_
                      refine c_next ?_
                      refine wp_seq ?_
                      refine wp_seq ?_
                      refine wp_region_lit ?_
                      refine wl_v _ (r_move (H.ev rfl)) ?_; refine kl H rfl fun a H => ?_
                      refine wl_v _ (r_ne Try.underlying3 (H.ev rfl) evc (dec_t (by omega))) ?_; refine kl H rfl fun a H => ?_
                      refine wpList_nil ?_
                      refine c_next ?_
                      refine c_cond_t H rfl ?_
                      have hfe : f = true := by rw [hf2]; exact decide_eq_true (by omega)
                      obtain ⟨u, hu, _⟩ := hF.2.2.2.1 hfe
                      have hku := (List.getElem?_eq_some_iff.1 hu).1
                      refine wp_region_lit ?_
                      refine wl_v _ (r_move (H.ev rfl)) ?_; refine kl H rfl fun a H => ?_
                      refine wl_v _ (r_add (q := ((L.length + 1 : Nat) : Int)) Try.underlying3 (H.ev rfl) evc (by omega) (by omega)) ?_; refine kl H rfl fun a H => ?_
                      refine wl_v _ (r_assign (H.ev rfl)) ?_; refine kl H rfl fun a H => ?_
                      refine wpList_nil ?_
                      refine c_next ?_
                      refine wp_seq ?_
                      refine wp_region_lit ?_
                      refine wl_v _ (r_move (H.ev rfl)) ?_; refine kl H rfl fun a H => ?_
                      refine wl_v _ (r_move (H.ev rfl)) ?_; refine kl H rfl fun a H => ?_
                      refine wl_v _ (r_move (H.ev rfl)) ?_; refine kl H rfl fun a H => ?_
                      refine wl_v (.slice (slAt A c (L.length + 1) 3) (L.length - (L.length + 1)) (c - (L.length + 1))) (run_op_slice Try.underlying22 (.slice A L.length c) (some (.int .i64 (L.length + 1 : Nat))) none none (H.ev rfl) (by simp [H.ev (j := 116) rfl]) rfl rfl (slice_any (L.length + 1) L.length Try.underlying22 s37 _ _ (.inr rfl) (.inl ⟨rfl, rfl⟩) (by omega) (by omega) rfl rfl rfl)) ?_; refine kl H rfl fun a H => ?_
                      refine op_append 22 37 (.tmp 114) (.tmp 117) w.heap.size (.agg #[.int .i64 0, .int .i64 0, .int .i64 0]) 3 24 v5 _ _ (slAt A c (L.length + 1) 3) (L.length - (L.length + 1)) (c - (L.length + 1)) (FV encT (L.drop (L.length + 1))) (H.ev rfl) (H.ev rfl) Try.underlying22 i37 rfl (by omega) hown (by rw [FV_len encT_len, List.length_drop]) (rs_src (hh.out.up hall) h1 (L.length + 1)) (FV_one _ _) (by unfold maxLen; omega) (by omega) hall.size fun vz wz hown2 hg9 hv9 hb2 => ?_; replace hall := hall.trans hb2; clear hb2 hown; have hown := hown2; clear hown2 hg9 hv9; refine kl H rfl fun a H => ?_
                      refine wl_v _ (r_assign (H.ev rfl)) ?_; refine kl H rfl fun a H => ?_
                      refine wl_v _ (r_assign evc) ?_; refine kl H rfl fun a H => ?_
                      refine wpList_nil ?_
                      refine c_next ?_
                      refine wp_ret ?_
                      obtain rfl : tq = 0 := by omega
                      subst hfe
                      rw [if_neg (by omega), if_neg (by rintro ⟨hq, hq2⟩; rw [HFU.out] at hq2; have := of_decide_eq_true hq2; omega)] at HD
                      exact k_ret2 H rfl rfl rfl ⟨⟨_, by rw [HD.out], by rw [HD.out]; show TOwn _ _ _ (putF L peer who 0); rw [← put_of hR.out.1 hF 0, if_pos rfl]; exact own_cast hown (by show _ = FV encT (L.take (L.length) ++ ([] ++ L.drop (L.length + 1))); simp only [FV_append, List.append_assoc, List.nil_append])⟩, hall⟩
            · skip
              refine wp_region_lit ?_
              refine wl_v _ (r_move (H.ev rfl)) ?_; refine kl H rfl fun a H => ?_
              refine wl_v _ (r_move (H.ev rfl)) ?_; refine kl H rfl fun a H => ?_
              refine wl_v _ (r_build #[(0, .int .i64 peer), (1, .int .i64 who)] (.agg #[.int .i64 peer, .int .i64 who, .int .i64 0]) (by simp [evc, H.ev (j := 42) rfl, H.ev (j := 43) rfl]) (fun w => by kernel_rfl)) ?_; refine kl H rfl fun a H => ?_
              refine op_new 37 11 (.tmp 44) #[.int .i64 peer, .int .i64 who, .int .i64 0] _ z37 s37 rfl (ints_one [peer, who, 0]) (fun p => (H.put 11 p rfl).ev rfl) (fun p => (H.put 11 p rfl).ev rfl) fun w7 b7 hge hb k7 => ?_; have g7 := Nat.le_trans hall.size hge; have hne7 : v1.ownBlock ≠ some b7 := (fun e => by have := (hown.lt b7 e).2; omega); replace hown := own_ups hown hb; replace hall := hall.trans (hb.mono hall.size); clear hb; clear hge; refine kl H rfl fun a H => ?_
              refine wpList_nil ?_
              refine c_next ?_
              refine wp_seq ?_
              refine wp_seq ?_
              refine wp_region_lit ?_
              refine wl_v _ (r_move (H.ev rfl)) ?_; refine kl H rfl fun a H => ?_
              refine wl_call _ _ _ (rmine_any _ _) (r_call1 cf36 (H.ev rfl)) ?_; rintro e w9 ⟨rfl, rfl⟩; refine ⟨_, rfl, ?_⟩; rw [HMI.out]; skip; refine kl H rfl fun a H => ?_
              refine wpList_nil ?_
              refine c_next ?_
              refine c_cond_t H rfl ?_
              refine wp_region_lit ?_
              refine wl_v _ (r_move (H.ev rfl)) ?_; refine kl H rfl fun a H => ?_
              refine wl_v _ (r_move (H.ev rfl)) ?_; refine kl H rfl fun a H => ?_
              refine wl_v _ (r_build #[(0, .int .i64 who), (1, .int .i64 peer)] (.agg #[.int .i64 who, .int .i64 peer, .int .i64 0]) (by simp [evc, H.ev (j := 47) rfl, H.ev (j := 48) rfl]) (fun w => by kernel_rfl)) ?_; refine kl H rfl fun a H => ?_
              refine op_store1 37 (.tmp 11) (.tmp 49) b7 0 37 (.agg #[.int .i64 who, .int .i64 peer, .int .i64 0]) _ (H.ev rfl) (H.ev rfl) k7 s37 (by simp [Value.cells]) (ints_one [who, peer, 0]) fun w' hb ho kq => ?_; clear k7; have k7 : Block _ b7 37 #[.int .i64 who, .int .i64 peer, .int .i64 0] := kq; clear kq; replace hown := own_block hown (fun q e => ho q (fun e2 => hne7 (by rw [← e2]; exact e))); replace hall := hall.trans (hb _ g7); clear hb ho; refine kl0 H fun a H => ?_
              refine wpList_nil ?_
              refine c_next ?_
              refine wp_seq ?_
              obtain ⟨s, hs⟩ : ∃ s, stF L who peer = s := ⟨_, rfl⟩
              obtain ⟨tq, hto⟩ : ∃ tq, (stepF s op).1 = tq := ⟨_, rfl⟩
              obtain ⟨er, her⟩ : ∃ er, (stepF s op).2 = er := ⟨_, rfl⟩
              obtain ⟨m, hm⟩ : ∃ m, manyF L who = m := ⟨_, rfl⟩
              obtain ⟨fu, hfu⟩ : ∃ fu, fullB L who = fu := ⟨_, rfl⟩
              have HS := Lib.hid hs
              have HTO := Lib.hid hto
              have HER := Lib.hid her
              have HM := Lib.hid hm
              have HFU : Hid (fu = decide (8 ≤ m ∨ 64 ≤ L.length)) := Lib.hid (by rw [← hfu, ← hm]; rfl)
              have HG : Hid (¬ badP op who peer) := Lib.hid (by unfold badP; rw [HU1.out, HU2.out]; simp; omega)
              have HD := Lib.hid (do_eq HG.out HMI.out HS.out HTO.out HER.out hfu)
              have hml : m ≤ 64 := by rw [← hm]; exact Nat.le_trans List.countP_le_length hR.out.2.2.2
              clear hs hto her hm hfu
              refine wp_region_lit ?_
              refine wl_v _ (r_move (H.ev rfl)) ?_; refine kl H rfl fun a H => ?_
              refine wl_v _ (r_fld (q := 0) fld37_0 (H.ev rfl) rfl) ?_; refine kl H rfl fun a H => ?_
              refine wl_v _ (r_ld Try.underlying3 rfl (H.ev rfl) ((Block.cell k7 0).trans rfl)) ?_; refine kl H rfl fun a H => ?_
              refine wl_v _ (r_fld (q := 1) fld37_1 (H.ev rfl) rfl) ?_; refine kl H rfl fun a H => ?_
              refine wl_v _ (r_ld Try.underlying3 rfl (H.ev rfl) ((Block.cell k7 1).trans rfl)) ?_; refine kl H rfl fun a H => ?_
              refine wl_call _ _ _ (rstate_any _ _ L who peer (Row.up h.out hall) (by omega)) (r_call3 cf17 (H.ev rfl) (H.ev rfl) (H.ev rfl)) ?_; rintro e w9 ⟨rfl, rfl⟩; refine ⟨_, rfl, ?_⟩; rw [HS.out]; skip; refine kl H rfl fun a H => ?_
              refine wl_v _ (r_assign (H.ev rfl)) ?_; refine kl H rfl fun a H => ?_
              refine wpList_nil ?_
              refine c_next ?_
              refine wp_seq ?_
              refine wp_region_lit ?_
              refine wl_v _ (r_move (H.ev rfl)) ?_; refine kl H rfl fun a H => ?_
              refine wl_v _ (r_move (H.ev rfl)) ?_; refine kl H rfl fun a H => ?_
              refine wl_call _ _ _ (rstep_any s op _) (r_call2 cf37 (H.ev rfl) (H.ev rfl)) ?_; rintro e w9 ⟨rfl, rfl⟩; refine ⟨_, rfl, ?_⟩; rw [HTO.out, HER.out]; skip; refine kl H rfl fun a H => ?_
              refine wl_v _ (r_move (H.ev rfl)) ?_; refine kl H rfl fun a H => ?_
              refine wl_v _ (r_extract (v := .int .i64 tq) (H.ev rfl) rfl) ?_; refine kl H rfl fun a H => ?_
              refine wl_v _ (r_extract (v := .int .i64 er) (H.ev rfl) rfl) ?_; refine kl H rfl fun a H => ?_
              refine wl_v _ (r_assign (H.ev rfl)) ?_; refine kl H rfl fun a H => ?_
              refine wl_v _ (r_assign (H.ev rfl)) ?_; refine kl H rfl fun a H => ?_
              refine wpList_nil ?_
              refine c_next ?_
              refine wp_seq ?_
              refine wp_seq ?_
              refine wp_region_lit ?_
              refine wl_v _ (r_move (H.ev rfl)) ?_; refine kl H rfl fun a H => ?_
              by_cases c17 : er ≠ 0
              · skip
                refine wl_v _ (r_ne Try.underlying28 (H.ev rfl) evc (dec_t (c17))) ?_; refine kl H rfl fun a H => ?_
                refine wpList_nil ?_
                refine c_next ?_
                refine c_cond_t H rfl ?_
                refine wp_seq ?_
                refine wp_region_lit ?_
                refine wl_v _ (r_move (H.ev rfl)) ?_; refine kl H rfl fun a H => ?_
                refine wl_v _ (r_move (H.ev rfl)) ?_; refine kl H rfl fun a H => ?_
                refine wl_v _ (r_assign (H.ev rfl)) ?_; refine kl H rfl fun a H => ?_
                refine wl_v _ (r_assign (H.ev rfl)) ?_; refine kl H rfl fun a H => ?_
                refine wpList_nil ?_
                refine c_next ?_
                refine wp_ret ?_
                refine r_then ?_
                rw [if_pos (by omega)] at HD
                exact k_ret2 H rfl rfl rfl ⟨⟨_, by rw [HD.out], by rw [HD.out]; exact hown⟩, hall⟩
              · skip
                refine wl_v _ (r_ne Try.underlying28 (H.ev rfl) evc (dec_f (c17))) ?_; refine kl H rfl fun a H => ?_
                refine wpList_nil ?_
                refine c_next ?_
                refine c_cond_f H rfl ?_
                refine wp_skip ?_
                refine c_next ?_
                refine wp_seq ?_
                refine wp_seq ?_
                refine wp_region_lit ?_
                refine wl_v _ (r_move (H.ev rfl)) ?_; refine kl H rfl fun a H => ?_
                by_cases c18 : s = 0
                · skip
                  refine wl_v _ (r_eq Try.underlying3 (H.ev rfl) evc (dec_t (c18))) ?_; refine kl H rfl fun a H => ?_
                  refine wl_v _ (r_move (H.ev rfl)) ?_; refine kl H rfl fun a H => ?_
                  refine op_unguard _ _ (kg_yes rfl H rfl rfl rfl) ?_; refine wl_v _ (r_move (H.ev rfl)) ?_; refine kl H rfl fun a H => ?_
                  refine op_unguard _ _ (kg_yes rfl H rfl rfl rfl) ?_; refine wl_v _ (r_len Try.underlying22 (H.ev rfl)) ?_; refine kl H rfl fun a H => ?_
                  by_cases c19 : ((L.length : Nat) : Int) ≥ 64
                  · skip
                    refine op_unguard _ _ (kg_yes rfl H rfl rfl rfl) ?_; refine wl_v _ (r_ge Try.underlying3 (H.ev rfl) evc (dec_t (c19))) ?_; refine kl H rfl fun a H => ?_
                    refine op_unguard _ _ (kg_yes rfl H rfl rfl rfl) ?_; refine wl_v _ (r_move (H.ev rfl)) ?_; refine kl H rfl fun a H => ?_
                    refine wl_s (kg_no rfl H rfl rfl rfl) ?_; refine kl H rfl fun a H => ?_
                    refine wl_s (kg_no rfl H rfl rfl rfl) ?_; refine kl H rfl fun a H => ?_
                    refine wl_s (kg_no rfl H rfl rfl rfl) ?_; refine kl H rfl fun a H => ?_
                    refine wl_s (kg_no rfl H rfl rfl rfl) ?_; refine kl H rfl fun a H => ?_
                    refine wl_s (kg_no rfl H rfl rfl rfl) ?_; refine kl H rfl fun a H => ?_
                    refine op_unguard _ _ (kg_yes rfl H rfl rfl rfl) ?_; refine wl_v _ (r_pick_t (H.ev rfl) evc) ?_; refine kl H rfl fun a H => ?_
                    refine wl_v _ (r_pick_t (H.ev rfl) (H.ev rfl)) ?_; refine kl H rfl fun a H => ?_
                    refine wpList_nil ?_
                    refine c_next ?_
                    refine c_cond_t H rfl ?_
                    refine wp_seq ?_
                    refine wp_region_lit ?_
                    refine wl_v _ (r_move (H.ev rfl)) ?_; refine kl H rfl fun a H => ?_
                    refine wl_v _ (r_assign (H.ev rfl)) ?_; refine kl H rfl fun a H => ?_
                    refine wl_v _ (r_assign evc) ?_; refine kl H rfl fun a H => ?_
                    refine wpList_nil ?_
                    refine c_next ?_
                    refine wp_ret ?_
                    refine r_then ?_
                    rw [if_neg (by omega), if_pos ⟨by omega, by rw [HFU.out]; exact decide_eq_true (by omega)⟩] at HD
                    exact k_ret2 H rfl rfl rfl ⟨⟨_, by rw [HD.out], by rw [HD.out]; exact hown⟩, hall⟩
                  · skip
                    refine op_unguard _ _ (kg_yes rfl H rfl rfl rfl) ?_; refine wl_v _ (r_ge Try.underlying3 (H.ev rfl) evc (dec_f (c19))) ?_; refine kl H rfl fun a H => ?_
                    refine op_unguard _ _ (kg_yes rfl H rfl rfl rfl) ?_; refine wl_v _ (r_move (H.ev rfl)) ?_; refine kl H rfl fun a H => ?_
                    refine op_unguard _ _ (kg_yes rfl H rfl rfl rfl) ?_; refine wl_v _ (r_move (H.ev rfl)) ?_; refine kl H rfl fun a H => ?_
                    refine op_unguard _ _ (kg_yes rfl H rfl rfl rfl) ?_; refine wl_v _ (r_fld (q := 0) fld37_0 (H.ev rfl) rfl) ?_; refine kl H rfl fun a H => ?_
                    refine op_unguard _ _ (kg_yes rfl H rfl rfl rfl) ?_; refine wl_v _ (r_ld Try.underlying3 rfl (H.ev rfl) ((Block.cell k7 0).trans rfl)) ?_; refine kl H rfl fun a H => ?_
                    refine op_unguard _ _ (kg_yes rfl H rfl rfl rfl) ?_; refine wl_call _ _ _ (many_any _ _ L who (Row.up h.out hall) (by omega)) (r_call2 cf28 (H.ev rfl) (H.ev rfl)) ?_; rintro e w9 ⟨rfl, rfl⟩; refine ⟨_, rfl, ?_⟩; rw [HM.out]; skip; refine kl H rfl fun a H => ?_
                    by_cases c20 : ((m : Nat) : Int) ≥ 8
                    · skip
                      refine op_unguard _ _ (kg_yes rfl H rfl rfl rfl) ?_; refine wl_v _ (r_ge Try.underlying3 (H.ev rfl) evc (dec_t (c20))) ?_; refine kl H rfl fun a H => ?_
                      refine op_unguard _ _ (kg_yes rfl H rfl rfl rfl) ?_; refine wl_v _ (r_pick_f (H.ev rfl) (H.ev rfl)) ?_; refine kl H rfl fun a H => ?_
                      refine wl_v _ (r_pick_t (H.ev rfl) (H.ev rfl)) ?_; refine kl H rfl fun a H => ?_
                      refine wpList_nil ?_
                      refine c_next ?_
                      refine c_cond_t H rfl ?_
                      refine wp_seq ?_
                      refine wp_region_lit ?_
                      refine wl_v _ (r_move (H.ev rfl)) ?_; refine kl H rfl fun a H => ?_
                      refine wl_v _ (r_assign (H.ev rfl)) ?_; refine kl H rfl fun a H => ?_
                      refine wl_v _ (r_assign evc) ?_; refine kl H rfl fun a H => ?_
                      refine wpList_nil ?_
                      refine c_next ?_
                      refine wp_ret ?_
                      refine r_then ?_
                      rw [if_neg (by omega), if_pos ⟨by omega, by rw [HFU.out]; exact decide_eq_true (by omega)⟩] at HD
                      exact k_ret2 H rfl rfl rfl ⟨⟨_, by rw [HD.out], by rw [HD.out]; exact hown⟩, hall⟩
                    · skip
                      refine op_unguard _ _ (kg_yes rfl H rfl rfl rfl) ?_; refine wl_v _ (r_ge Try.underlying3 (H.ev rfl) evc (dec_f (c20))) ?_; refine kl H rfl fun a H => ?_
                      refine op_unguard _ _ (kg_yes rfl H rfl rfl rfl) ?_; refine wl_v _ (r_pick_f (H.ev rfl) (H.ev rfl)) ?_; refine kl H rfl fun a H => ?_
                      refine wl_v _ (r_pick_t (H.ev rfl) (H.ev rfl)) ?_; refine kl H rfl fun a H => ?_
                      refine wpList_nil ?_
                      refine c_next ?_
                      refine c_cond_f H rfl ?_
                      refine wp_skip ?_
                      refine c_next ?_
                      refine wp_seq ?_
                      clear hown
                      refine wp_region_lit ?_
                      refine wl_v _ (r_move (H.ev rfl)) ?_; refine kl H rfl fun a H => ?_
                      refine wl_v _ (r_fld (q := 2) fld37_2 (H.ev rfl) rfl) ?_; refine kl H rfl fun a H => ?_
                      refine op_store1 3 (.tmp 82) (.tmp 81) b7 2 37 (.int .i64 tq) _ (H.ev rfl) (H.ev rfl) k7 s3 (by simp [Value.cells]) (ints_one [tq]) fun w' hb ho kq => ?_; clear k7; have k7 : Block _ b7 37 #[.int .i64 who, .int .i64 peer, .int .i64 tq] := kq; clear kq; replace hall := hall.trans (hb _ g7); clear hb ho; refine kl0 H fun a H => ?_
                      refine wpList_nil ?_
                      refine c_next ?_
                      refine wp_seq ?_
                      refine wp_region_lit ?_
                      refine wl_v _ (r_assign evc) ?_; refine kl H rfl fun a H => ?_
                      refine wpList_nil ?_
                      refine c_next ?_
                      refine wp_seq ?_
                      refine wp_region_lit ?_
                      refine wl_v _ (r_assign evc) ?_; refine kl H rfl fun a H => ?_
                      refine wpList_nil ?_
                      refine c_next ?_
                      refine wp_seq ?_
                      refine wp_block ?_
                      refine wp_loop (RdI w A c L b7 who peer tq s) (fun a _ => L.length - (intOf (a.eval (.tmp 16))).toNat) ⟨0, _, H.pick [0, 11, 12, 13, 15, 16], by omega, fun j y hj => by omega, World.ownsRow_nil _ _ _ _, (fun e => by cases e), k7, hall⟩ ?_
                      clear H hall k7
                      rintro a w' ⟨k, v5, H, hk, hle, hown, hne, k7, hall⟩
                      have H0 := H
                      by_cases hlt : k < L.length
                      · skip
                        obtain ⟨b, o, hA, hr⟩ := flat_some encT_len hh.out (by omega) hlt
                        subst hA
                        have hy : L[k]? = some L[k] := List.getElem?_eq_getElem hlt
                        have HY := Lib.hid hy
                        have HRG := Lib.hid hr
                        generalize L[k] = y at *
                        clear hy hr
                        obtain ⟨ls, hls⟩ : ∃ ls, lessB y (who, peer, tq) = ls := ⟨_, rfl⟩
                        have HLS := Lib.hid hls
                        clear hls
                        cases ls
                        · skip
                          have hex : ∀ y, L[k]? = some y → ¬ Lt y (who, peer, 0) := (fun u hu => by rw [HY.out] at hu; injection hu with hu; subst hu; exact of_decide_eq_false HLS.out)
                          refine wp_seq ?_
                          refine wp_seq ?_
                          have hS : SDo w b7 who peer tq v5 (L.take k) _ := ⟨hall.drew, k7, own_block hown (fun _ _ => rfl)⟩
                          refine region_pi (SDo w b7 who peer tq v5 (L.take k)) [(0, true), (1, true), (2, true), (3, true), (4, true), (5, true), (6, true), (7, true), (8, true), (9, true), (10, false), (11, true)] (by kernel_rfl) (by kernel_rfl) rfl (by kernel_rfl) hS ?_
                          clear hall k7 hown
                          refine pi_f0 _ rfl (fun w' hS' => r_move (H.ev rfl)) ?_; refine kp H rfl fun a H => ?_
                          refine pi_f0 _ rfl (fun w' hS' => r_move (H.ev rfl)) ?_; refine kp H rfl fun a H => ?_
                          refine pi_f0 _ rfl (fun w' hS' => r_len Try.underlying22 (H.ev rfl)) ?_; refine kp H rfl fun a H => ?_
                          refine pi_f0 _ rfl (fun w' hS' => r_lt Try.underlying3 (H.ev rfl) (H.ev rfl) (dec_t (by omega))) ?_; refine kp H rfl fun a H => ?_
                          refine pi_f0 _ rfl (fun w' hS' => r_move (H.ev rfl)) ?_; refine kp H rfl fun a H => ?_
                          refine pi_f1 _ rfl rfl rfl (H.ev rfl) (fun w' hS' => r_move (H.ev rfl)) ?_; refine kp H rfl fun a H => ?_
                          refine pi_f1 _ rfl rfl rfl (H.ev rfl) (fun w' hS' => r_move (H.ev rfl)) ?_; refine kp H rfl fun a H => ?_
                          refine pi_f1 _ rfl rfl rfl (H.ev rfl) (fun w' hS' => r_idx (j := k) (q := o + k * 3) Try.underlying22 s37 (H.ev rfl) (H.ev rfl) (by omega) rfl) ?_; refine kp H rfl fun a H => ?_
                          refine pi_f1 _ rfl rfl rfl (H.ev rfl) (fun w' hS' => r_row (cs := [.int .i64 y.1, .int .i64 y.2.1, .int .i64 y.2.2]) (H.ev rfl) (range_ups HRG.out hS'.1) (by kernel_rfl) s37 rfl) ?_; refine kp H rfl fun a H => ?_
                          refine pi_f1 _ rfl rfl rfl (H.ev rfl) (fun w' hS' => r_row (cs := [.int .i64 who, .int .i64 peer, .int .i64 tq]) (H.ev rfl) (block_range (hS'.2.1)) (by kernel_rfl) s37 rfl) ?_; refine kp H rfl fun a H => ?_
                          refine pi_a1 rfl rfl rfl (H.ev rfl) (fun K hK => ?_); refine wpo_call _ _ _ (less_any y (who, peer, tq) _) (r_call2 cf29 (H.ev rfl) (H.ev rfl)) ?_; rintro e w9 ⟨rfl, hb9⟩; refine ⟨_, rfl, ?_⟩; rw [HLS.out]; replace hS := hS.up hb9; clear hb9; refine hK _ _ ⟨hS, ?_⟩; clear hK; clear K; refine kp H rfl fun a H => ?_
                          refine pi_f0 _ rfl (fun w' hS' => r_pick_t (H.ev rfl) (H.ev rfl)) ?_; refine kp H rfl fun a H => ?_
                          refine pi_nil (NoPanic.normal ?_)
                          have hall := hS.1
                          have k7 := hS.2.1
                          have hown : TOwn _ w.heap.size v5 (L.take k) := hS.2.2
                          clear hS
                          refine c_next ?_
                          refine c_cond_f H rfl ?_
                          refine wp_exit ?_
                          refine e_then ?_
                          refine e_then ?_
                          refine e_here ?_
                          refine c_next ?_
                          refine wp_seq ?_
                          refine wp_seq ?_
                          have htl : (L.take (k)).length ≤ L.length := (by rw [List.length_take]; exact Nat.min_le_right _ _)
                          obtain ⟨f, hF⟩ := findP_of hR.out.1 hk hle hex
                          have hsf := had_state hR.out hF HS.out
                          have hf2 : f = decide (s ≠ 0) := by cases f with | true => exact (decide_eq_true (hsf.1 rfl)).symm | false => exact (decide_eq_false (fun h => h (hsf.2 rfl))).symm
                          clear hsf hex hle
                          refine wp_region_lit ?_
                          refine wl_v _ (r_move (H.ev rfl)) ?_; refine kl H rfl fun a H => ?_
                          by_cases c21 : tq ≠ 0
                          · skip
                            refine wl_v _ (r_ne Try.underlying3 (H.ev rfl) evc (dec_t (c21))) ?_; refine kl H rfl fun a H => ?_
                            refine wpList_nil ?_
                            refine c_next ?_
                            refine c_cond_t H rfl ?_
                            refine wp_region_lit ?_
                            refine wl_v _ (r_move (H.ev rfl)) ?_; refine kl H rfl fun a H => ?_
                            refine wl_v _ (r_row (cs := [.int .i64 who, .int .i64 peer, .int .i64 tq]) (H.ev rfl) (block_range k7) (by kernel_rfl) s37 rfl) ?_; refine kl H rfl fun a H => ?_
                            refine op_litv 22 1 #[(0, .agg #[.int .i64 who, .int .i64 peer, .int .i64 tq])] 37 #[.int .i64 who, .int .i64 peer, .int .i64 tq] (by simp [evc, H.ev (j := 107) rfl]) (fun w => by kernel_rfl) fun w8 b8 hge hb k8 => ?_; have g8 := Nat.le_trans hall.size hge; replace hown := own_ups hown hb; replace k7 := Block.ups k7 hb; replace hall := hall.trans (hb.mono hall.size); clear hb; clear hge; refine kl H rfl fun a H => ?_
                            refine op_append 22 37 (.tmp 106) (.tmp 108) w.heap.size (.agg #[.int .i64 0, .int .i64 0, .int .i64 0]) 3 24 v5 _ _ (some ⟨b8, 0, none⟩) 1 1 (FV encT [(who, peer, tq)]) (H.ev rfl) (H.ev rfl) Try.underlying22 i37 rfl (by omega) hown (by rw [FV_len encT_len]; rfl) (block_x k8) (FV_one _ _) (by unfold maxLen; omega) (by omega) hall.size fun v9 w9 hown2 hg9 hv9 hb2 => ?_; replace hall := hall.trans hb2; clear hb2 hown; have hown := hown2; clear hown2 hg9 hv9; refine kl H rfl fun a H => ?_
                            refine wl_v _ (r_assign (H.ev rfl)) ?_; refine kl H rfl fun a H => ?_
                            refine wpList_nil ?_
                            refine c_next ?_
                            refine wp_seq ?_
                            refine wp_seq ?_
                            refine wp_region_lit ?_
                            refine wl_v _ (r_move (H.ev rfl)) ?_; refine kl H rfl fun a H => ?_
                            refine wl_v _ (r_ne Try.underlying3 (H.ev rfl) evc (dec_f (by omega))) ?_; refine kl H rfl fun a H => ?_
                            refine wpList_nil ?_
                            refine c_next ?_
                            refine c_cond_f H rfl ?_
                            refine wp_skip ?_
                            refine c_next ?_
                            refine wp_seq ?_
                            refine wp_region_lit ?_
                            refine wl_v _ (r_move (H.ev rfl)) ?_; refine kl H rfl fun a H => ?_
                            refine wl_v _ (r_move (H.ev rfl)) ?_; refine kl H rfl fun a H => ?_
                            refine wl_v _ (r_move (H.ev rfl)) ?_; refine kl H rfl fun a H => ?_
                            refine wl_v (.slice (slAt (some ⟨b, o, none⟩) c (k) 3) (L.length - (k)) (c - (k))) (run_op_slice Try.underlying22 (.slice (some ⟨b, o, none⟩) L.length c) (some (.int .i64 (k : Nat))) none none (H.ev rfl) (by simp [H.ev (j := 116) rfl]) rfl rfl (slice_any (k) L.length Try.underlying22 s37 _ _ (.inr rfl) (.inl ⟨rfl, rfl⟩) (by omega) (by omega) rfl rfl rfl)) ?_; refine kl H rfl fun a H => ?_
                            refine op_append 22 37 (.tmp 114) (.tmp 117) w.heap.size (.agg #[.int .i64 0, .int .i64 0, .int .i64 0]) 3 24 v9 _ _ (slAt (some ⟨b, o, none⟩) c (k) 3) (L.length - (k)) (c - (k)) (FV encT (L.drop (k))) (H.ev rfl) (H.ev rfl) Try.underlying22 i37 rfl (by omega) hown (by rw [FV_len encT_len, List.length_drop]) (rs_src (hh.out.up hall) h1 (k)) (FV_one _ _) (by unfold maxLen; omega) (by omega) hall.size fun vz wz hown2 hg9 hv9 hb2 => ?_; replace hall := hall.trans hb2; clear hb2 hown; have hown := hown2; clear hown2 hg9 hv9; refine kl H rfl fun a H => ?_
                            refine wl_v _ (r_assign (H.ev rfl)) ?_; refine kl H rfl fun a H => ?_
                            refine wl_v _ (r_assign evc) ?_; refine kl H rfl fun a H => ?_
                            refine wpList_nil ?_
                            refine c_next ?_
                            refine wp_ret ?_
                            have hfe : f = false := by rw [hf2]; exact decide_eq_false (by omega)
                            subst hfe
                            rw [if_neg (by omega), if_neg (by rintro ⟨hq, hq2⟩; rw [HFU.out] at hq2; have := of_decide_eq_true hq2; omega)] at HD
                            exact k_ret2 H rfl rfl rfl ⟨⟨_, by rw [HD.out], by rw [HD.out]; show TOwn _ _ _ (putF L who peer tq); rw [← put_of hR.out.1 hF tq, if_neg (by omega)]; exact own_cast hown (by show _ = FV encT (L.take (k) ++ ([(who, peer, tq)] ++ L.drop (k))); simp only [FV_append, List.append_assoc, List.nil_append])⟩, hall⟩
                          · skip
                            refine wl_v _ (r_ne Try.underlying3 (H.ev rfl) evc (dec_f (c21))) ?_; refine kl H rfl fun a H => ?_
                            refine wpList_nil ?_
                            refine c_next ?_
                            refine c_cond_f H rfl ?_
                            refine wp_skip ?_
                            refine c_next ?_
                            refine wp_seq ?_
                            refine wp_seq ?_
                            refine wp_region_lit ?_
                            refine wl_v _ (r_move (H.ev rfl)) ?_; refine kl H rfl fun a H => ?_
                            refine wl_v _ (r_ne Try.underlying3 (H.ev rfl) evc (dec_f (by omega))) ?_; refine kl H rfl fun a H => ?_
                            refine wpList_nil ?_
                            refine c_next ?_
                            refine c_cond_f H rfl ?_
                            refine wp_skip ?_
                            refine c_next ?_
                            refine wp_seq ?_
                            refine wp_region_lit ?_
                            refine wl_v _ (r_move (H.ev rfl)) ?_; refine kl H rfl fun a H => ?_
                            refine wl_v _ (r_move (H.ev rfl)) ?_; refine kl H rfl fun a H => ?_
                            refine wl_v _ (r_move (H.ev rfl)) ?_; refine kl H rfl fun a H => ?_
                            refine wl_v (.slice (slAt (some ⟨b, o, none⟩) c (k) 3) (L.length - (k)) (c - (k))) (run_op_slice Try.underlying22 (.slice (some ⟨b, o, none⟩) L.length c) (some (.int .i64 (k : Nat))) none none (H.ev rfl) (by simp [H.ev (j := 116) rfl]) rfl rfl (slice_any (k) L.length Try.underlying22 s37 _ _ (.inr rfl) (.inl ⟨rfl, rfl⟩) (by omega) (by omega) rfl rfl rfl)) ?_; refine kl H rfl fun a H => ?_
                            refine op_append 22 37 (.tmp 114) (.tmp 117) w.heap.size (.agg #[.int .i64 0, .int .i64 0, .int .i64 0]) 3 24 v5 _ _ (slAt (some ⟨b, o, none⟩) c (k) 3) (L.length - (k)) (c - (k)) (FV encT (L.drop (k))) (H.ev rfl) (H.ev rfl) Try.underlying22 i37 rfl (by omega) hown (by rw [FV_len encT_len, List.length_drop]) (rs_src (hh.out.up hall) h1 (k)) (FV_one _ _) (by unfold maxLen; omega) (by omega) hall.size fun vz wz hown2 hg9 hv9 hb2 => ?_; replace hall := hall.trans hb2; clear hb2 hown; have hown := hown2; clear hown2 hg9 hv9; refine kl H rfl fun a H => ?_
                            refine wl_v _ (r_assign (H.ev rfl)) ?_; refine kl H rfl fun a H => ?_
                            refine wl_v _ (r_assign evc) ?_; refine kl H rfl fun a H => ?_
                            refine wpList_nil ?_
                            refine c_next ?_
                            refine wp_ret ?_
                            obtain rfl : tq = 0 := by omega
                            have hfe : f = false := by rw [hf2]; exact decide_eq_false (by omega)
                            subst hfe
                            rw [if_neg (by omega), if_neg (by rintro ⟨hq, hq2⟩; rw [HFU.out] at hq2; have := of_decide_eq_true hq2; omega)] at HD
                            exact k_ret2 H rfl rfl rfl ⟨⟨_, by rw [HD.out], by rw [HD.out]; show TOwn _ _ _ (putF L who peer 0); rw [← put_of hR.out.1 hF 0, if_pos rfl]; exact own_cast hown (by show _ = FV encT (L.take (k) ++ ([] ++ L.drop (k))); simp only [FV_append, List.append_assoc, List.nil_append])⟩, hall⟩
                        · skip
                          refine wp_seq ?_
                          refine wp_seq ?_
                          have hS : SDo w b7 who peer tq v5 (L.take k) _ := ⟨hall.drew, k7, own_block hown (fun _ _ => rfl)⟩
                          refine region_pi (SDo w b7 who peer tq v5 (L.take k)) [(0, true), (1, true), (2, true), (3, true), (4, true), (5, true), (6, true), (7, true), (8, true), (9, true), (10, false), (11, true)] (by kernel_rfl) (by kernel_rfl) rfl (by kernel_rfl) hS ?_
                          clear hall k7 hown
                          refine pi_f0 _ rfl (fun w' hS' => r_move (H.ev rfl)) ?_; refine kp H rfl fun a H => ?_
                          refine pi_f0 _ rfl (fun w' hS' => r_move (H.ev rfl)) ?_; refine kp H rfl fun a H => ?_
                          refine pi_f0 _ rfl (fun w' hS' => r_len Try.underlying22 (H.ev rfl)) ?_; refine kp H rfl fun a H => ?_
                          refine pi_f0 _ rfl (fun w' hS' => r_lt Try.underlying3 (H.ev rfl) (H.ev rfl) (dec_t (by omega))) ?_; refine kp H rfl fun a H => ?_
                          refine pi_f0 _ rfl (fun w' hS' => r_move (H.ev rfl)) ?_; refine kp H rfl fun a H => ?_
                          refine pi_f1 _ rfl rfl rfl (H.ev rfl) (fun w' hS' => r_move (H.ev rfl)) ?_; refine kp H rfl fun a H => ?_
                          refine pi_f1 _ rfl rfl rfl (H.ev rfl) (fun w' hS' => r_move (H.ev rfl)) ?_; refine kp H rfl fun a H => ?_
                          refine pi_f1 _ rfl rfl rfl (H.ev rfl) (fun w' hS' => r_idx (j := k) (q := o + k * 3) Try.underlying22 s37 (H.ev rfl) (H.ev rfl) (by omega) rfl) ?_; refine kp H rfl fun a H => ?_
                          refine pi_f1 _ rfl rfl rfl (H.ev rfl) (fun w' hS' => r_row (cs := [.int .i64 y.1, .int .i64 y.2.1, .int .i64 y.2.2]) (H.ev rfl) (range_ups HRG.out hS'.1) (by kernel_rfl) s37 rfl) ?_; refine kp H rfl fun a H => ?_
                          refine pi_f1 _ rfl rfl rfl (H.ev rfl) (fun w' hS' => r_row (cs := [.int .i64 who, .int .i64 peer, .int .i64 tq]) (H.ev rfl) (block_range (hS'.2.1)) (by kernel_rfl) s37 rfl) ?_; refine kp H rfl fun a H => ?_
                          refine pi_a1 rfl rfl rfl (H.ev rfl) (fun K hK => ?_); refine wpo_call _ _ _ (less_any y (who, peer, tq) _) (r_call2 cf29 (H.ev rfl) (H.ev rfl)) ?_; rintro e w9 ⟨rfl, hb9⟩; refine ⟨_, rfl, ?_⟩; rw [HLS.out]; replace hS := hS.up hb9; clear hb9; refine hK _ _ ⟨hS, ?_⟩; clear hK; clear K; refine kp H rfl fun a H => ?_
                          refine pi_f0 _ rfl (fun w' hS' => r_pick_t (H.ev rfl) (H.ev rfl)) ?_; refine kp H rfl fun a H => ?_
                          refine pi_nil (NoPanic.normal ?_)
                          have hall := hS.1
                          have k7 := hS.2.1
                          have hown : TOwn _ w.heap.size v5 (L.take k) := hS.2.2
                          clear hS
                          refine c_next ?_
                          refine c_cond_t H rfl ?_
                          refine wp_skip ?_
                          refine c_next ?_
                          refine wp_block ?_
                          refine wp_seq ?_
                          have htl : (L.take k).length ≤ L.length := (by rw [List.length_take]; exact Nat.min_le_right _ _)
                          refine wp_region_lit ?_
                          refine wl_v _ (r_move (H.ev rfl)) ?_; refine kl H rfl fun a H => ?_
                          refine wl_v _ (r_move (H.ev rfl)) ?_; refine kl H rfl fun a H => ?_
                          refine wl_v _ (r_move (H.ev rfl)) ?_; refine kl H rfl fun a H => ?_
                          refine wl_v _ (r_idx (j := k) (q := o + k * 3) Try.underlying22 s37 (H.ev rfl) (H.ev rfl) (by omega) rfl) ?_; refine kl H rfl fun a H => ?_
                          refine wl_v _ (r_row (cs := [.int .i64 y.1, .int .i64 y.2.1, .int .i64 y.2.2]) (H.ev rfl) (range_ups HRG.out hall) (by kernel_rfl) s37 rfl) ?_; refine kl H rfl fun a H => ?_
                          refine op_litv 22 1 #[(0, .agg #[.int .i64 y.1, .int .i64 y.2.1, .int .i64 y.2.2])] 37 #[.int .i64 y.1, .int .i64 y.2.1, .int .i64 y.2.2] (by simp [evc, H.ev (j := 99) rfl]) (fun w => by kernel_rfl) fun w9 b9 hge hb k9 => ?_; have g9 := Nat.le_trans hall.size hge; replace hown := own_ups hown hb; replace k7 := Block.ups k7 hb; replace hall := hall.trans (hb.mono hall.size); clear hb; clear hge; refine kl H rfl fun a H => ?_
                          refine op_append 22 37 (.tmp 95) (.tmp 100) w.heap.size (.agg #[.int .i64 0, .int .i64 0, .int .i64 0]) 3 24 v5 _ _ (some ⟨b9, 0, none⟩) 1 1 (FV encT [y]) (H.ev rfl) (H.ev rfl) Try.underlying22 i37 rfl (by omega) hown (by rw [FV_len encT_len]; rfl) (block_x k9) (FV_one _ _) (by unfold maxLen; omega) (by omega) hall.size fun v9 w9 hown2 hg9 hv9 hb2 => ?_; have hnx : v9.ownBlock ≠ some b7 := (app_ne hv9 hne k7.lt); replace k7 := Block.grown k7 hg9 (fun e => hne e.symm); replace hall := hall.trans hb2; clear hb2 hown; have hown := hown2; clear hown2 hg9 hv9; replace hown := take_own HY.out hown; refine kl H rfl fun a H => ?_
                          refine wl_v _ (r_assign (H.ev rfl)) ?_; refine kl H rfl fun a H => ?_
                          refine wpList_nil ?_
                          refine c_next ?_
                          refine wp_region_lit ?_
                          refine wl_v _ (r_move (H.ev rfl)) ?_; refine kl H rfl fun a H => ?_
                          refine wl_v _ (r_add (q := ((k + 1 : Nat) : Int)) Try.underlying3 (H.ev rfl) evc (by omega) (by omega)) ?_; refine kl H rfl fun a H => ?_
                          refine wl_v _ (r_assign (H.ev rfl)) ?_; refine kl H rfl fun a H => ?_
                          refine wpList_nil ?_
                          refine n_block ?_
                          refine n_then ⟨⟨k + 1, v9, H.pick [0, 11, 12, 13, 15, 16], by omega, lt_next hle HY.out (of_decide_eq_true HLS.out), hown, hnx, k7, hall⟩, ?_⟩
                          rw [H.ev (j := 16) rfl, H0.ev (j := 16) rfl]
                          simp only [intOf]
                          omega
                      · skip
                        obtain rfl : k = L.length := by omega
                        have hex : ∀ y, L[L.length]? = some y → ¬ Lt y (who, peer, 0) := (fun u hu => by simp at hu)
                        refine wp_seq ?_
                        refine wp_seq ?_
                        have hS : SDo w b7 who peer tq v5 (L.take L.length) _ := ⟨hall.drew, k7, own_block hown (fun _ _ => rfl)⟩
                        refine region_pi (SDo w b7 who peer tq v5 (L.take L.length)) [(0, true), (1, true), (2, true), (3, true), (4, true), (5, true), (6, true), (7, true), (8, true), (9, true), (10, false), (11, true)] (by kernel_rfl) (by kernel_rfl) rfl (by kernel_rfl) hS ?_
                        clear hall k7 hown
                        refine pi_f0 _ rfl (fun w' hS' => r_move (H.ev rfl)) ?_; refine kp H rfl fun a H => ?_
                        refine pi_f0 _ rfl (fun w' hS' => r_move (H.ev rfl)) ?_; refine kp H rfl fun a H => ?_
                        refine pi_f0 _ rfl (fun w' hS' => r_len Try.underlying22 (H.ev rfl)) ?_; refine kp H rfl fun a H => ?_
                        refine pi_f0 _ rfl (fun w' hS' => r_lt Try.underlying3 (H.ev rfl) (H.ev rfl) (dec_f (by omega))) ?_; refine kp H rfl fun a H => ?_
                        refine pi_f0 _ rfl (fun w' hS' => r_move (H.ev rfl)) ?_; refine kp H rfl fun a H => ?_
                        refine pi_s1 rfl rfl rfl (H.ev rfl) ?_; refine kp H rfl fun a H => ?_
                        refine pi_s1 rfl rfl rfl (H.ev rfl) ?_; refine kp H rfl fun a H => ?_
                        refine pi_s1 rfl rfl rfl (H.ev rfl) ?_; refine kp H rfl fun a H => ?_
                        refine pi_s1 rfl rfl rfl (H.ev rfl) ?_; refine kp H rfl fun a H => ?_
                        refine pi_s1 rfl rfl rfl (H.ev rfl) ?_; refine kp H rfl fun a H => ?_
                        refine pi_s1 rfl rfl rfl (H.ev rfl) ?_; refine kp H rfl fun a H => ?_
                        refine pi_f0 _ rfl (fun w' hS' => r_pick_f (H.ev rfl) evc) ?_; refine kp H rfl fun a H => ?_
                        refine pi_nil (NoPanic.normal ?_)
                        have hall := hS.1
                        have k7 := hS.2.1
                        have hown : TOwn _ w.heap.size v5 (L.take L.length) := hS.2.2
                        clear hS
                        refine c_next ?_
                        refine c_cond_f H rfl ?_
                        refine wp_exit ?_
                        refine e_then ?_
                        refine e_then ?_
                        refine e_here ?_
                        refine c_next ?_
                        refine wp_seq ?_
                        refine wp_seq ?_
                        have htl : (L.take (L.length)).length ≤ L.length := (by rw [List.length_take]; exact Nat.min_le_right _ _)
                        obtain ⟨f, hF⟩ := findP_of hR.out.1 hk hle hex
                        have hsf := had_state hR.out hF HS.out
                        have hf2 : f = decide (s ≠ 0) := by cases f with | true => exact (decide_eq_true (hsf.1 rfl)).symm | false => exact (decide_eq_false (fun h => h (hsf.2 rfl))).symm
                        clear hsf hex hle
                        refine wp_region_lit ?_
                        refine wl_v _ (r_move (H.ev rfl)) ?_; refine kl H rfl fun a H => ?_
                        by_cases c22 : tq ≠ 0
                        · skip
                          refine wl_v _ (r_ne Try.underlying3 (H.ev rfl) evc (dec_t (c22))) ?_; refine kl H rfl fun a H => ?_
                          refine wpList_nil ?_
                          refine c_next ?_
                          refine c_cond_t H rfl ?_
                          refine wp_region_lit ?_
                          refine wl_v _ (r_move (H.ev rfl)) ?_; refine kl H rfl fun a H => ?_
                          refine wl_v _ (r_row (cs := [.int .i64 who, .int .i64 peer, .int .i64 tq]) (H.ev rfl) (block_range k7) (by kernel_rfl) s37 rfl) ?_; refine kl H rfl fun a H => ?_
                          refine op_litv 22 1 #[(0, .agg #[.int .i64 who, .int .i64 peer, .int .i64 tq])] 37 #[.int .i64 who, .int .i64 peer, .int .i64 tq] (by simp [evc, H.ev (j := 107) rfl]) (fun w => by kernel_rfl) fun w10 b10 hge hb k10 => ?_; have g10 := Nat.le_trans hall.size hge; replace hown := own_ups hown hb; replace k7 := Block.ups k7 hb; replace hall := hall.trans (hb.mono hall.size); clear hb; clear hge; refine kl H rfl fun a H => ?_
                          refine op_append 22 37 (.tmp 106) (.tmp 108) w.heap.size (.agg #[.int .i64 0, .int .i64 0, .int .i64 0]) 3 24 v5 _ _ (some ⟨b10, 0, none⟩) 1 1 (FV encT [(who, peer, tq)]) (H.ev rfl) (H.ev rfl) Try.underlying22 i37 rfl (by omega) hown (by rw [FV_len encT_len]; rfl) (block_x k10) (FV_one _ _) (by unfold maxLen; omega) (by omega) hall.size fun v9 w9 hown2 hg9 hv9 hb2 => ?_; replace hall := hall.trans hb2; clear hb2 hown; have hown := hown2; clear hown2 hg9 hv9; refine kl H rfl fun a H => ?_
                          refine wl_v _ (r_assign (H.ev rfl)) ?_; refine kl H rfl fun a H => ?_
                          refine wpList_nil ?_
                          refine c_next ?_
                          refine wp_seq ?_
                          refine wp_seq ?_
                          refine wp_region_lit ?_
                          refine wl_v _ (r_move (H.ev rfl)) ?_; refine kl H rfl fun a H => ?_
                          refine wl_v _ (r_ne Try.underlying3 (H.ev rfl) evc (dec_f (by omega))) ?_; refine kl H rfl fun a H => ?_
                          refine wpList_nil ?_
                          refine c_next ?_
                          refine c_cond_f H rfl ?_
                          refine wp_skip ?_
                          refine c_next ?_
                          refine wp_seq ?_
                          refine wp_region_lit ?_
                          refine wl_v _ (r_move (H.ev rfl)) ?_; refine kl H rfl fun a H => ?_
                          refine wl_v _ (r_move (H.ev rfl)) ?_; refine kl H rfl fun a H => ?_
                          refine wl_v _ (r_move (H.ev rfl)) ?_; refine kl H rfl fun a H => ?_
                          refine wl_v (.slice (slAt A c (L.length) 3) (L.length - (L.length)) (c - (L.length))) (run_op_slice Try.underlying22 (.slice A L.length c) (some (.int .i64 (L.length : Nat))) none none (H.ev rfl) (by simp [H.ev (j := 116) rfl]) rfl rfl (slice_any (L.length) L.length Try.underlying22 s37 _ _ (.inr rfl) (.inl ⟨rfl, rfl⟩) (by omega) (by omega) rfl rfl rfl)) ?_; refine kl H rfl fun a H => ?_
                          refine op_append 22 37 (.tmp 114) (.tmp 117) w.heap.size (.agg #[.int .i64 0, .int .i64 0, .int .i64 0]) 3 24 v9 _ _ (slAt A c (L.length) 3) (L.length - (L.length)) (c - (L.length)) (FV encT (L.drop (L.length))) (H.ev rfl) (H.ev rfl) Try.underlying22 i37 rfl (by omega) hown (by rw [FV_len encT_len, List.length_drop]) (rs_src (hh.out.up hall) h1 (L.length)) (FV_one _ _) (by unfold maxLen; omega) (by omega) hall.size fun vz wz hown2 hg9 hv9 hb2 => ?_; replace hall := hall.trans hb2; clear hb2 hown; have hown := hown2; clear hown2 hg9 hv9; refine kl H rfl fun a H => ?_
                          refine wl_v _ (r_assign (H.ev rfl)) ?_; refine kl H rfl fun a H => ?_
                          refine wl_v _ (r_assign evc) ?_; refine kl H rfl fun a H => ?_
                          refine wpList_nil ?_
                          refine c_next ?_
                          refine wp_ret ?_
                          have hfe : f = false := by rw [hf2]; exact decide_eq_false (by omega)
                          subst hfe
                          rw [if_neg (by omega), if_neg (by rintro ⟨hq, hq2⟩; rw [HFU.out] at hq2; have := of_decide_eq_true hq2; omega)] at HD
                          exact k_ret2 H rfl rfl rfl ⟨⟨_, by rw [HD.out], by rw [HD.out]; show TOwn _ _ _ (putF L who peer tq); rw [← put_of hR.out.1 hF tq, if_neg (by omega)]; exact own_cast hown (by show _ = FV encT (L.take (L.length) ++ ([(who, peer, tq)] ++ L.drop (L.length))); simp only [FV_append, List.append_assoc, List.nil_append])⟩, hall⟩
                        · skip
                          refine wl_v _ (r_ne Try.underlying3 (H.ev rfl) evc (dec_f (c22))) ?_; refine kl H rfl fun a H => ?_
                          refine wpList_nil ?_
                          refine c_next ?_
                          refine c_cond_f H rfl ?_
                          refine wp_skip ?_
                          refine c_next ?_
                          refine wp_seq ?_
                          refine wp_seq ?_
                          refine wp_region_lit ?_
                          refine wl_v _ (r_move (H.ev rfl)) ?_; refine kl H rfl fun a H => ?_
                          refine wl_v _ (r_ne Try.underlying3 (H.ev rfl) evc (dec_f (by omega))) ?_; refine kl H rfl fun a H => ?_
                          refine wpList_nil ?_
                          refine c_next ?_
                          refine c_cond_f H rfl ?_
                          refine wp_skip ?_
                          refine c_next ?_
                          refine wp_seq ?_
                          refine wp_region_lit ?_
                          refine wl_v _ (r_move (H.ev rfl)) ?_; refine kl H rfl fun a H => ?_
                          refine wl_v _ (r_move (H.ev rfl)) ?_; refine kl H rfl fun a H => ?_
                          refine wl_v _ (r_move (H.ev rfl)) ?_; refine kl H rfl fun a H => ?_
                          refine wl_v (.slice (slAt A c (L.length) 3) (L.length - (L.length)) (c - (L.length))) (run_op_slice Try.underlying22 (.slice A L.length c) (some (.int .i64 (L.length : Nat))) none none (H.ev rfl) (by simp [H.ev (j := 116) rfl]) rfl rfl (slice_any (L.length) L.length Try.underlying22 s37 _ _ (.inr rfl) (.inl ⟨rfl, rfl⟩) (by omega) (by omega) rfl rfl rfl)) ?_; refine kl H rfl fun a H => ?_
                          refine op_append 22 37 (.tmp 114) (.tmp 117) w.heap.size (.agg #[.int .i64 0, .int .i64 0, .int .i64 0]) 3 24 v5 _ _ (slAt A c (L.length) 3) (L.length - (L.length)) (c - (L.length)) (FV encT (L.drop (L.length))) (H.ev rfl) (H.ev rfl) Try.underlying22 i37 rfl (by omega) hown (by rw [FV_len encT_len, List.length_drop]) (rs_src (hh.out.up hall) h1 (L.length)) (FV_one _ _) (by unfold maxLen; omega) (by omega) hall.size fun vz wz hown2 hg9 hv9 hb2 => ?_; replace hall := hall.trans hb2; clear hb2 hown; have hown := hown2; clear hown2 hg9 hv9; refine kl H rfl fun a H => ?_
                          refine wl_v _ (r_assign (H.ev rfl)) ?_; refine kl H rfl fun a H => ?_
                          refine wl_v _ (r_assign evc) ?_; refine kl H rfl fun a H => ?_
                          refine wpList_nil ?_
                          refine c_next ?_
                          refine wp_ret ?_
                          obtain rfl : tq = 0 := by omega
                          have hfe : f = false := by rw [hf2]; exact decide_eq_false (by omega)
                          subst hfe
                          rw [if_neg (by omega), if_neg (by rintro ⟨hq, hq2⟩; rw [HFU.out] at hq2; have := of_decide_eq_true hq2; omega)] at HD
                          exact k_ret2 H rfl rfl rfl ⟨⟨_, by rw [HD.out], by rw [HD.out]; show TOwn _ _ _ (putF L who peer 0); rw [← put_of hR.out.1 hF 0, if_pos rfl]; exact own_cast hown (by show _ = FV encT (L.take (L.length) ++ ([] ++ L.drop (L.length))); simp only [FV_append, List.append_assoc, List.nil_append])⟩, hall⟩
                · skip
                  refine wl_v _ (r_eq Try.underlying3 (H.ev rfl) evc (dec_f (c18))) ?_; refine kl H rfl fun a H => ?_
                  refine wl_v _ (r_move (H.ev rfl)) ?_; refine kl H rfl fun a H => ?_
                  refine wl_s (kg_no rfl H rfl rfl rfl) ?_; refine kl H rfl fun a H => ?_
                  refine wl_s (kg_no rfl H rfl rfl rfl) ?_; refine kl H rfl fun a H => ?_
                  refine wl_s (kg_no rfl H rfl rfl rfl) ?_; refine kl H rfl fun a H => ?_
                  refine wl_s (kg_no rfl H rfl rfl rfl) ?_; refine kl H rfl fun a H => ?_
                  refine wl_s (kg_un rfl H rfl rfl rfl) ?_; refine kl H rfl fun a H => ?_
                  refine wl_s (kg_un rfl H rfl rfl rfl) ?_; refine kl H rfl fun a H => ?_
                  refine wl_s (kg_un rfl H rfl rfl rfl) ?_; refine kl H rfl fun a H => ?_
                  refine wl_s (kg_un rfl H rfl rfl rfl) ?_; refine kl H rfl fun a H => ?_
                  refine wl_s (kg_un rfl H rfl rfl rfl) ?_; refine kl H rfl fun a H => ?_
                  refine wl_s (kg_no rfl H rfl rfl rfl) ?_; refine kl H rfl fun a H => ?_
                  refine wl_v _ (r_pick_f (H.ev rfl) evc) ?_; refine kl H rfl fun a H => ?_
                  refine wpList_nil ?_
                  refine c_next ?_
                  refine c_cond_f H rfl ?_
                  refine wp_skip ?_
                  refine c_next ?_
                  refine wp_seq ?_
                  clear hown
                  refine wp_region_lit ?_
                  refine wl_v _ (r_move (H.ev rfl)) ?_; refine kl H rfl fun a H => ?_
                  refine wl_v _ (r_fld (q := 2) fld37_2 (H.ev rfl) rfl) ?_; refine kl H rfl fun a H => ?_
                  refine op_store1 3 (.tmp 82) (.tmp 81) b7 2 37 (.int .i64 tq) _ (H.ev rfl) (H.ev rfl) k7 s3 (by simp [Value.cells]) (ints_one [tq]) fun w' hb ho kq => ?_; clear k7; have k7 : Block _ b7 37 #[.int .i64 who, .int .i64 peer, .int .i64 tq] := kq; clear kq; replace hall := hall.trans (hb _ g7); clear hb ho; refine kl0 H fun a H => ?_
                  refine wpList_nil ?_
                  refine c_next ?_
                  refine wp_seq ?_
                  refine wp_region_lit ?_
                  refine wl_v _ (r_assign evc) ?_; refine kl H rfl fun a H => ?_
                  refine wpList_nil ?_
                  refine c_next ?_
                  refine wp_seq ?_
                  refine wp_region_lit ?_
                  refine wl_v _ (r_assign evc) ?_; refine kl H rfl fun a H => ?_
                  refine wpList_nil ?_
                  refine c_next ?_
                  refine wp_seq ?_
                  refine wp_block ?_
                  refine wp_loop (RdI w A c L b7 who peer tq s) (fun a _ => L.length - (intOf (a.eval (.tmp 16))).toNat) ⟨0, _, H.pick [0, 11, 12, 13, 15, 16], by omega, fun j y hj => by omega, World.ownsRow_nil _ _ _ _, (fun e => by cases e), k7, hall⟩ ?_
                  clear H hall k7
                  rintro a w' ⟨k, v5, H, hk, hle, hown, hne, k7, hall⟩
                  have H0 := H
                  by_cases hlt : k < L.length
                  · skip
                    obtain ⟨b, o, hA, hr⟩ := flat_some encT_len hh.out (by omega) hlt
                    subst hA
                    have hy : L[k]? = some L[k] := List.getElem?_eq_getElem hlt
                    have HY := Lib.hid hy
                    have HRG := Lib.hid hr
                    generalize L[k] = y at *
                    clear hy hr
                    obtain ⟨ls, hls⟩ : ∃ ls, lessB y (who, peer, tq) = ls := ⟨_, rfl⟩
                    have HLS := Lib.hid hls
                    clear hls
                    cases ls
                    · skip
                      have hex : ∀ y, L[k]? = some y → ¬ Lt y (who, peer, 0) := (fun u hu => by rw [HY.out] at hu; injection hu with hu; subst hu; exact of_decide_eq_false HLS.out)
                      refine wp_seq ?_
                      refine wp_seq ?_
                      have hS : SDo w b7 who peer tq v5 (L.take k) _ := ⟨hall.drew, k7, own_block hown (fun _ _ => rfl)⟩
                      refine region_pi (SDo w b7 who peer tq v5 (L.take k)) [(0, true), (1, true), (2, true), (3, true), (4, true), (5, true), (6, true), (7, true), (8, true), (9, true), (10, false), (11, true)] (by kernel_rfl) (by kernel_rfl) rfl (by kernel_rfl) hS ?_
                      clear hall k7 hown
                      refine pi_f0 _ rfl (fun w' hS' => r_move (H.ev rfl)) ?_; refine kp H rfl fun a H => ?_
                      refine pi_f0 _ rfl (fun w' hS' => r_move (H.ev rfl)) ?_; refine kp H rfl fun a H => ?_
                      refine pi_f0 _ rfl (fun w' hS' => r_len Try.underlying22 (H.ev rfl)) ?_; refine kp H rfl fun a H => ?_
                      refine pi_f0 _ rfl (fun w' hS' => r_lt Try.underlying3 (H.ev rfl) (H.ev rfl) (dec_t (by omega))) ?_; refine kp H rfl fun a H => ?_
                      refine pi_f0 _ rfl (fun w' hS' => r_move (H.ev rfl)) ?_; refine kp H rfl fun a H => ?_
                      refine pi_f1 _ rfl rfl rfl (H.ev rfl) (fun w' hS' => r_move (H.ev rfl)) ?_; refine kp H rfl fun a H => ?_
                      refine pi_f1 _ rfl rfl rfl (H.ev rfl) (fun w' hS' => r_move (H.ev rfl)) ?_; refine kp H rfl fun a H => ?_
                      refine pi_f1 _ rfl rfl rfl (H.ev rfl) (fun w' hS' => r_idx (j := k) (q := o + k * 3) Try.underlying22 s37 (H.ev rfl) (H.ev rfl) (by omega) rfl) ?_; refine kp H rfl fun a H => ?_
                      refine pi_f1 _ rfl rfl rfl (H.ev rfl) (fun w' hS' => r_row (cs := [.int .i64 y.1, .int .i64 y.2.1, .int .i64 y.2.2]) (H.ev rfl) (range_ups HRG.out hS'.1) (by kernel_rfl) s37 rfl) ?_; refine kp H rfl fun a H => ?_
                      refine pi_f1 _ rfl rfl rfl (H.ev rfl) (fun w' hS' => r_row (cs := [.int .i64 who, .int .i64 peer, .int .i64 tq]) (H.ev rfl) (block_range (hS'.2.1)) (by kernel_rfl) s37 rfl) ?_; refine kp H rfl fun a H => ?_
                      refine pi_a1 rfl rfl rfl (H.ev rfl) (fun K hK => ?_); refine wpo_call _ _ _ (less_any y (who, peer, tq) _) (r_call2 cf29 (H.ev rfl) (H.ev rfl)) ?_; rintro e w9 ⟨rfl, hb9⟩; refine ⟨_, rfl, ?_⟩; rw [HLS.out]; replace hS := hS.up hb9; clear hb9; refine hK _ _ ⟨hS, ?_⟩; clear hK; clear K; refine kp H rfl fun a H => ?_
                      refine pi_f0 _ rfl (fun w' hS' => r_pick_t (H.ev rfl) (H.ev rfl)) ?_; refine kp H rfl fun a H => ?_
                      refine pi_nil (NoPanic.normal ?_)
                      have hall := hS.1
                      have k7 := hS.2.1
                      have hown : TOwn _ w.heap.size v5 (L.take k) := hS.2.2
                      clear hS
                      refine c_next ?_
                      refine c_cond_f H rfl ?_
                      refine wp_exit ?_
                      refine e_then ?_
                      refine e_then ?_
                      refine e_here ?_
                      refine c_next ?_
                      refine wp_seq ?_
                      refine wp_seq ?_
                      have htl : (L.take (k)).length ≤ L.length := (by rw [List.length_take]; exact Nat.min_le_right _ _)
                      obtain ⟨f, hF⟩ := findP_of hR.out.1 hk hle hex
                      have hsf := had_state hR.out hF HS.out
                      have hf2 : f = decide (s ≠ 0) := by cases f with | true => exact (decide_eq_true (hsf.1 rfl)).symm | false => exact (decide_eq_false (fun h => h (hsf.2 rfl))).symm
                      clear hsf hex hle
                      refine wp_region_lit ?_
                      refine wl_v _ (r_move (H.ev rfl)) ?_; refine kl H rfl fun a H => ?_
                      by_cases c23 : tq ≠ 0
                      · skip
                        refine wl_v _ (r_ne Try.underlying3 (H.ev rfl) evc (dec_t (c23))) ?_; refine kl H rfl fun a H => ?_
                        refine wpList_nil ?_
                        refine c_next ?_
                        refine c_cond_t H rfl ?_
                        refine wp_region_lit ?_
                        refine wl_v _ (r_move (H.ev rfl)) ?_; refine kl H rfl fun a H => ?_
                        refine wl_v _ (r_row (cs := [.int .i64 who, .int .i64 peer, .int .i64 tq]) (H.ev rfl) (block_range k7) (by kernel_rfl) s37 rfl) ?_; refine kl H rfl fun a H => ?_
                        refine op_litv 22 1 #[(0, .agg #[.int .i64 who, .int .i64 peer, .int .i64 tq])] 37 #[.int .i64 who, .int .i64 peer, .int .i64 tq] (by simp [evc, H.ev (j := 107) rfl]) (fun w => by kernel_rfl) fun w11 b11 hge hb k11 => ?_; have g11 := Nat.le_trans hall.size hge; replace hown := own_ups hown hb; replace k7 := Block.ups k7 hb; replace hall := hall.trans (hb.mono hall.size); clear hb; clear hge; refine kl H rfl fun a H => ?_
                        refine op_append 22 37 (.tmp 106) (.tmp 108) w.heap.size (.agg #[.int .i64 0, .int .i64 0, .int .i64 0]) 3 24 v5 _ _ (some ⟨b11, 0, none⟩) 1 1 (FV encT [(who, peer, tq)]) (H.ev rfl) (H.ev rfl) Try.underlying22 i37 rfl (by omega) hown (by rw [FV_len encT_len]; rfl) (block_x k11) (FV_one _ _) (by unfold maxLen; omega) (by omega) hall.size fun v9 w9 hown2 hg9 hv9 hb2 => ?_; replace hall := hall.trans hb2; clear hb2 hown; have hown := hown2; clear hown2 hg9 hv9; refine kl H rfl fun a H => ?_
                        refine wl_v _ (r_assign (H.ev rfl)) ?_; refine kl H rfl fun a H => ?_
                        refine wpList_nil ?_
                        refine c_next ?_
                        refine wp_seq ?_
                        refine wp_seq ?_
                        refine wp_region_lit ?_
                        refine wl_v _ (r_move (H.ev rfl)) ?_; refine kl H rfl fun a H => ?_
                        refine wl_v _ (r_ne Try.underlying3 (H.ev rfl) evc (dec_t (by omega))) ?_; refine kl H rfl fun a H => ?_
                        refine wpList_nil ?_
                        refine c_next ?_
                        refine c_cond_t H rfl ?_
                        have hfe : f = true := by rw [hf2]; exact decide_eq_true (by omega)
                        obtain ⟨u, hu, _⟩ := hF.2.2.2.1 hfe
                        have hku := (List.getElem?_eq_some_iff.1 hu).1
                        refine wp_region_lit ?_
                        refine wl_v _ (r_move (H.ev rfl)) ?_; refine kl H rfl fun a H => ?_
                        refine wl_v _ (r_add (q := ((k + 1 : Nat) : Int)) Try.underlying3 (H.ev rfl) evc (by omega) (by omega)) ?_; refine kl H rfl fun a H => ?_
                        refine wl_v _ (r_assign (H.ev rfl)) ?_; refine kl H rfl fun a H => ?_
                        refine wpList_nil ?_
                        refine c_next ?_
                        refine wp_seq ?_
                        refine wp_region_lit ?_
                        refine wl_v _ (r_move (H.ev rfl)) ?_; refine kl H rfl fun a H => ?_
                        refine wl_v _ (r_move (H.ev rfl)) ?_; refine kl H rfl fun a H => ?_
                        refine wl_v _ (r_move (H.ev rfl)) ?_; refine kl H rfl fun a H => ?_
                        refine wl_v (.slice (slAt (some ⟨b, o, none⟩) c (k + 1) 3) (L.length - (k + 1)) (c - (k + 1))) (run_op_slice Try.underlying22 (.slice (some ⟨b, o, none⟩) L.length c) (some (.int .i64 (k + 1 : Nat))) none none (H.ev rfl) (by simp [H.ev (j := 116) rfl]) rfl rfl (slice_any (k + 1) L.length Try.underlying22 s37 _ _ (.inr rfl) (.inl ⟨rfl, rfl⟩) (by omega) (by omega) rfl rfl rfl)) ?_; refine kl H rfl fun a H => ?_
                        refine op_append 22 37 (.tmp 114) (.tmp 117) w.heap.size (.agg #[.int .i64 0, .int .i64 0, .int .i64 0]) 3 24 v9 _ _ (slAt (some ⟨b, o, none⟩) c (k + 1) 3) (L.length - (k + 1)) (c - (k + 1)) (FV encT (L.drop (k + 1))) (H.ev rfl) (H.ev rfl) Try.underlying22 i37 rfl (by omega) hown (by rw [FV_len encT_len, List.length_drop]) (rs_src (hh.out.up hall) h1 (k + 1)) (FV_one _ _) (by unfold maxLen; omega) (by omega) hall.size fun vz wz hown2 hg9 hv9 hb2 => ?_; replace hall := hall.trans hb2; clear hb2 hown; have hown := hown2; clear hown2 hg9 hv9; refine kl H rfl fun a H => ?_
                        refine wl_v _ (r_assign (H.ev rfl)) ?_; refine kl H rfl fun a H => ?_
                        refine wl_v _ (r_assign evc) ?_; refine kl H rfl fun a H => ?_
                        refine wpList_nil ?_
                        refine c_next ?_
                        refine wp_ret ?_
                        subst hfe
                        rw [if_neg (by omega), if_neg (by rintro ⟨hq, hq2⟩; rw [HFU.out] at hq2; have := of_decide_eq_true hq2; omega)] at HD
                        exact k_ret2 H rfl rfl rfl ⟨⟨_, by rw [HD.out], by rw [HD.out]; show TOwn _ _ _ (putF L who peer tq); rw [← put_of hR.out.1 hF tq, if_neg (by omega)]; exact own_cast hown (by show _ = FV encT (L.take (k) ++ ([(who, peer, tq)] ++ L.drop (k + 1))); simp only [FV_append, List.append_assoc, List.nil_append])⟩, hall⟩
                      · skip
                        refine wl_v _ (r_ne Try.underlying3 (H.ev rfl) evc (dec_f (c23))) ?_; refine kl H rfl fun a H => ?_
                        refine wpList_nil ?_
                        refine c_next ?_
                        refine c_cond_f H rfl ?_
                        refine wp_skip ?_
                        refine c_next ?_
                        refine wp_seq ?_
                        refine wp_seq ?_
                        refine wp_region_lit ?_
                        refine wl_v _ (r_move (H.ev rfl)) ?_; refine kl H rfl fun a H => ?_
                        refine wl_v _ (r_ne Try.underlying3 (H.ev rfl) evc (dec_t (by omega))) ?_; refine kl H rfl fun a H => ?_
                        refine wpList_nil ?_
                        refine c_next ?_
                        refine c_cond_t H rfl ?_
                        have hfe : f = true := by rw [hf2]; exact decide_eq_true (by omega)
                        obtain ⟨u, hu, _⟩ := hF.2.2.2.1 hfe
                        have hku := (List.getElem?_eq_some_iff.1 hu).1
                        refine wp_region_lit ?_
                        refine wl_v _ (r_move (H.ev rfl)) ?_; refine kl H rfl fun a H => ?_
                        refine wl_v _ (r_add (q := ((k + 1 : Nat) : Int)) Try.underlying3 (H.ev rfl) evc (by omega) (by omega)) ?_; refine kl H rfl fun a H => ?_
                        refine wl_v _ (r_assign (H.ev rfl)) ?_; refine kl H rfl fun a H => ?_
                        refine wpList_nil ?_
                        refine c_next ?_
                        refine wp_seq ?_
                        refine wp_region_lit ?_
                        refine wl_v _ (r_move (H.ev rfl)) ?_; refine kl H rfl fun a H => ?_
                        refine wl_v _ (r_move (H.ev rfl)) ?_; refine kl H rfl fun a H => ?_
                        refine wl_v _ (r_move (H.ev rfl)) ?_; refine kl H rfl fun a H => ?_
                        refine wl_v (.slice (slAt (some ⟨b, o, none⟩) c (k + 1) 3) (L.length - (k + 1)) (c - (k + 1))) (run_op_slice Try.underlying22 (.slice (some ⟨b, o, none⟩) L.length c) (some (.int .i64 (k + 1 : Nat))) none none (H.ev rfl) (by simp [H.ev (j := 116) rfl]) rfl rfl (slice_any (k + 1) L.length Try.underlying22 s37 _ _ (.inr rfl) (.inl ⟨rfl, rfl⟩) (by omega) (by omega) rfl rfl rfl)) ?_; refine kl H rfl fun a H => ?_
                        refine op_append 22 37 (.tmp 114) (.tmp 117) w.heap.size (.agg #[.int .i64 0, .int .i64 0, .int .i64 0]) 3 24 v5 _ _ (slAt (some ⟨b, o, none⟩) c (k + 1) 3) (L.length - (k + 1)) (c - (k + 1)) (FV encT (L.drop (k + 1))) (H.ev rfl) (H.ev rfl) Try.underlying22 i37 rfl (by omega) hown (by rw [FV_len encT_len, List.length_drop]) (rs_src (hh.out.up hall) h1 (k + 1)) (FV_one _ _) (by unfold maxLen; omega) (by omega) hall.size fun vz wz hown2 hg9 hv9 hb2 => ?_; replace hall := hall.trans hb2; clear hb2 hown; have hown := hown2; clear hown2 hg9 hv9; refine kl H rfl fun a H => ?_
                        refine wl_v _ (r_assign (H.ev rfl)) ?_; refine kl H rfl fun a H => ?_
                        refine wl_v _ (r_assign evc) ?_; refine kl H rfl fun a H => ?_
                        refine wpList_nil ?_
                        refine c_next ?_
                        refine wp_ret ?_
                        obtain rfl : tq = 0 := by omega
                        subst hfe
                        rw [if_neg (by omega), if_neg (by rintro ⟨hq, hq2⟩; rw [HFU.out] at hq2; have := of_decide_eq_true hq2; omega)] at HD
                        exact k_ret2 H rfl rfl rfl ⟨⟨_, by rw [HD.out], by rw [HD.out]; show TOwn _ _ _ (putF L who peer 0); rw [← put_of hR.out.1 hF 0, if_pos rfl]; exact own_cast hown (by show _ = FV encT (L.take (k) ++ ([] ++ L.drop (k + 1))); simp only [FV_append, List.append_assoc, List.nil_append])⟩, hall⟩
                    · skip
                      refine wp_seq ?_
                      refine wp_seq ?_
                      have hS : SDo w b7 who peer tq v5 (L.take k) _ := ⟨hall.drew, k7, own_block hown (fun _ _ => rfl)⟩
                      refine region_pi (SDo w b7 who peer tq v5 (L.take k)) [(0, true), (1, true), (2, true), (3, true), (4, true), (5, true), (6, true), (7, true), (8, true), (9, true), (10, false), (11, true)] (by kernel_rfl) (by kernel_rfl) rfl (by kernel_rfl) hS ?_
                      clear hall k7 hown
                      refine pi_f0 _ rfl (fun w' hS' => r_move (H.ev rfl)) ?_; refine kp H rfl fun a H => ?_
                      refine pi_f0 _ rfl (fun w' hS' => r_move (H.ev rfl)) ?_; refine kp H rfl fun a H => ?_
                      refine pi_f0 _ rfl (fun w' hS' => r_len Try.underlying22 (H.ev rfl)) ?_; refine kp H rfl fun a H => ?_
                      refine pi_f0 _ rfl (fun w' hS' => r_lt Try.underlying3 (H.ev rfl) (H.ev rfl) (dec_t (by omega))) ?_; refine kp H rfl fun a H => ?_
                      refine pi_f0 _ rfl (fun w' hS' => r_move (H.ev rfl)) ?_; refine kp H rfl fun a H => ?_
                      refine pi_f1 _ rfl rfl rfl (H.ev rfl) (fun w' hS' => r_move (H.ev rfl)) ?_; refine kp H rfl fun a H => ?_
                      refine pi_f1 _ rfl rfl rfl (H.ev rfl) (fun w' hS' => r_move (H.ev rfl)) ?_; refine kp H rfl fun a H => ?_
                      refine pi_f1 _ rfl rfl rfl (H.ev rfl) (fun w' hS' => r_idx (j := k) (q := o + k * 3) Try.underlying22 s37 (H.ev rfl) (H.ev rfl) (by omega) rfl) ?_; refine kp H rfl fun a H => ?_
                      refine pi_f1 _ rfl rfl rfl (H.ev rfl) (fun w' hS' => r_row (cs := [.int .i64 y.1, .int .i64 y.2.1, .int .i64 y.2.2]) (H.ev rfl) (range_ups HRG.out hS'.1) (by kernel_rfl) s37 rfl) ?_; refine kp H rfl fun a H => ?_
                      refine pi_f1 _ rfl rfl rfl (H.ev rfl) (fun w' hS' => r_row (cs := [.int .i64 who, .int .i64 peer, .int .i64 tq]) (H.ev rfl) (block_range (hS'.2.1)) (by kernel_rfl) s37 rfl) ?_; refine kp H rfl fun a H => ?_
                      refine pi_a1 rfl rfl rfl (H.ev rfl) (fun K hK => ?_); refine wpo_call _ _ _ (less_any y (who, peer, tq) _) (r_call2 cf29 (H.ev rfl) (H.ev rfl)) ?_; rintro e w9 ⟨rfl, hb9⟩; refine ⟨_, rfl, ?_⟩; rw [HLS.out]; replace hS := hS.up hb9; clear hb9; refine hK _ _ ⟨hS, ?_⟩; clear hK; clear K; refine kp H rfl fun a H => ?_
                      refine pi_f0 _ rfl (fun w' hS' => r_pick_t (H.ev rfl) (H.ev rfl)) ?_; refine kp H rfl fun a H => ?_
                      refine pi_nil (NoPanic.normal ?_)
                      have hall := hS.1
                      have k7 := hS.2.1
                      have hown : TOwn _ w.heap.size v5 (L.take k) := hS.2.2
                      clear hS
                      refine c_next ?_
                      refine c_cond_t H rfl ?_
                      refine wp_skip ?_
                      refine c_next ?_
                      refine wp_block ?_
                      refine wp_seq ?_
                      have htl : (L.take k).length ≤ L.length := (by rw [List.length_take]; exact Nat.min_le_right _ _)
                      refine wp_region_lit ?_
                      refine wl_v _ (r_move (H.ev rfl)) ?_; refine kl H rfl fun a H => ?_
                      refine wl_v _ (r_move (H.ev rfl)) ?_; refine kl H rfl fun a H => ?_
                      refine wl_v _ (r_move (H.ev rfl)) ?_; refine kl H rfl fun a H => ?_
                      refine wl_v _ (r_idx (j := k) (q := o + k * 3) Try.underlying22 s37 (H.ev rfl) (H.ev rfl) (by omega) rfl) ?_; refine kl H rfl fun a H => ?_
                      refine wl_v _ (r_row (cs := [.int .i64 y.1, .int .i64 y.2.1, .int .i64 y.2.2]) (H.ev rfl) (range_ups HRG.out hall) (by kernel_rfl) s37 rfl) ?_; refine kl H rfl fun a H => ?_
                      refine op_litv 22 1 #[(0, .agg #[.int .i64 y.1, .int .i64 y.2.1, .int .i64 y.2.2])] 37 #[.int .i64 y.1, .int .i64 y.2.1, .int .i64 y.2.2] (by simp [evc, H.ev (j := 99) rfl]) (fun w => by kernel_rfl) fun w12 b12 hge hb k12 => ?_; have g12 := Nat.le_trans hall.size hge; replace hown := own_ups hown hb; replace k7 := Block.ups k7 hb; replace hall := hall.trans (hb.mono hall.size); clear hb; clear hge; refine kl H rfl fun a H => ?_
                      refine op_append 22 37 (.tmp 95) (.tmp 100) w.heap.size (.agg #[.int .i64 0, .int .i64 0, .int .i64 0]) 3 24 v5 _ _ (some ⟨b12, 0, none⟩) 1 1 (FV encT [y]) (H.ev rfl) (H.ev rfl) Try.underlying22 i37 rfl (by omega) hown (by rw [FV_len encT_len]; rfl) (block_x k12) (FV_one _ _) (by unfold maxLen; omega) (by omega) hall.size fun v9 w9 hown2 hg9 hv9 hb2 => ?_; have hnx : v9.ownBlock ≠ some b7 := (app_ne hv9 hne k7.lt); replace k7 := Block.grown k7 hg9 (fun e => hne e.symm); replace hall := hall.trans hb2; clear hb2 hown; have hown := hown2; clear hown2 hg9 hv9; replace hown := take_own HY.out hown; refine kl H rfl fun a H => ?_
                      refine wl_v _ (r_assign (H.ev rfl)) ?_; refine kl H rfl fun a H => ?_
                      refine wpList_nil ?_
                      refine c_next ?_
                      refine wp_region_lit ?_
                      refine wl_v _ (r_move (H.ev rfl)) ?_; refine kl H rfl fun a H => ?_
                      refine wl_v _ (r_add (q := ((k + 1 : Nat) : Int)) Try.underlying3 (H.ev rfl) evc (by omega) (by omega)) ?_; refine kl H rfl fun a H => ?_
                      refine wl_v _ (r_assign (H.ev rfl)) ?_; refine kl H rfl fun a H => ?_
                      refine wpList_nil ?_
                      refine n_block ?_
                      refine n_then ⟨⟨k + 1, v9, H.pick [0, 11, 12, 13, 15, 16], by omega, lt_next hle HY.out (of_decide_eq_true HLS.out), hown, hnx, k7, hall⟩, ?_⟩
                      rw [H.ev (j := 16) rfl, H0.ev (j := 16) rfl]
                      simp only [intOf]
                      omega
                  · skip
                    obtain rfl : k = L.length := by omega
                    have hex : ∀ y, L[L.length]? = some y → ¬ Lt y (who, peer, 0) := (fun u hu => by simp at hu)
                    refine wp_seq ?_
                    refine wp_seq ?_
                    have hS : SDo w b7 who peer tq v5 (L.take L.length) _ := ⟨hall.drew, k7, own_block hown (fun _ _ => rfl)⟩
                    refine region_pi (SDo w b7 who peer tq v5 (L.take L.length)) [(0, true), (1, true), (2, true), (3, true), (4, true), (5, true), (6, true), (7, true), (8, true), (9, true), (10, false), (11, true)] (by kernel_rfl) (by kernel_rfl) rfl (by kernel_rfl) hS ?_
                    clear hall k7 hown
                    refine pi_f0 _ rfl (fun w' hS' => r_move (H.ev rfl)) ?_; refine kp H rfl fun a H => ?_
                    refine pi_f0 _ rfl (fun w' hS' => r_move (H.ev rfl)) ?_; refine kp H rfl fun a H => ?_
                    refine pi_f0 _ rfl (fun w' hS' => r_len Try.underlying22 (H.ev rfl)) ?_; refine kp H rfl fun a H => ?_
                    refine pi_f0 _ rfl (fun w' hS' => r_lt Try.underlying3 (H.ev rfl) (H.ev rfl) (dec_f (by omega))) ?_; refine kp H rfl fun a H => ?_
                    refine pi_f0 _ rfl (fun w' hS' => r_move (H.ev rfl)) ?_; refine kp H rfl fun a H => ?_
                    refine pi_s1 rfl rfl rfl (H.ev rfl) ?_; refine kp H rfl fun a H => ?_
                    refine pi_s1 rfl rfl rfl (H.ev rfl) ?_; refine kp H rfl fun a H => ?_
                    refine pi_s1 rfl rfl rfl (H.ev rfl) ?_; refine kp H rfl fun a H => ?_
                    refine pi_s1 rfl rfl rfl (H.ev rfl) ?_; refine kp H rfl fun a H => ?_
                    refine pi_s1 rfl rfl rfl (H.ev rfl) ?_; refine kp H rfl fun a H => ?_
                    refine pi_s1 rfl rfl rfl (H.ev rfl) ?_; refine kp H rfl fun a H => ?_
                    refine pi_f0 _ rfl (fun w' hS' => r_pick_f (H.ev rfl) evc) ?_; refine kp H rfl fun a H => ?_
                    refine pi_nil (NoPanic.normal ?_)
                    have hall := hS.1
                    have k7 := hS.2.1
                    have hown : TOwn _ w.heap.size v5 (L.take L.length) := hS.2.2
                    clear hS
                    refine c_next ?_
                    refine c_cond_f H rfl ?_
                    refine wp_exit ?_
                    refine e_then ?_
                    refine e_then ?_
                    refine e_here ?_
                    refine c_next ?_
                    refine wp_seq ?_
                    refine wp_seq ?_
                    have htl : (L.take (L.length)).length ≤ L.length := (by rw [List.length_take]; exact Nat.min_le_right _ _)
                    obtain ⟨f, hF⟩ := findP_of hR.out.1 hk hle hex
                    have hsf := had_state hR.out hF HS.out
                    have hf2 : f = decide (s ≠ 0) := by cases f with | true => exact (decide_eq_true (hsf.1 rfl)).symm | false => exact (decide_eq_false (fun h => h (hsf.2 rfl))).symm
                    clear hsf hex hle
                    refine wp_region_lit ?_
                    refine wl_v _ (r_move (H.ev rfl)) ?_; refine kl H rfl fun a H => ?_
                    by_cases c24 : tq ≠ 0
                    · skip
                      refine wl_v _ (r_ne Try.underlying3 (H.ev rfl) evc (dec_t (c24))) ?_; refine kl H rfl fun a H => ?_
                      refine wpList_nil ?_
                      refine c_next ?_
                      refine c_cond_t H rfl ?_
                      refine wp_region_lit ?_
                      refine wl_v _ (r_move (H.ev rfl)) ?_; refine kl H rfl fun a H => ?_
                      refine wl_v _ (r_row (cs := [.int .i64 who, .int .i64 peer, .int .i64 tq]) (H.ev rfl) (block_range k7) (by kernel_rfl) s37 rfl) ?_; refine kl H rfl fun a H => ?_
                      refine op_litv 22 1 #[(0, .agg #[.int .i64 who, .int .i64 peer, .int .i64 tq])] 37 #[.int .i64 who, .int .i64 peer, .int .i64 tq] (by simp [evc, H.ev (j := 107) rfl]) (fun w => by kernel_rfl) fun w13 b13 hge hb k13 => ?_; have g13 := Nat.le_trans hall.size hge; replace hown := own_ups hown hb; replace k7 := Block.ups k7 hb; replace hall := hall.trans (hb.mono hall.size); clear hb; clear hge; refine kl H rfl fun a H => ?_
                      refine op_append 22 37 (.tmp 106) (.tmp 108) w.heap.size (.agg #[.int .i64 0, .int .i64 0, .int .i64 0]) 3 24 v5 _ _ (some ⟨b13, 0, none⟩) 1 1 (FV encT [(who, peer, tq)]) (H.ev rfl) (H.ev rfl) Try.underlying22 i37 rfl (by omega) hown (by rw [FV_len encT_len]; rfl) (block_x k13) (FV_one _ _) (by unfold maxLen; omega) (by omega) hall.size fun v9 w9 hown2 hg9 hv9 hb2 => ?_; replace hall := hall.trans hb2; clear hb2 hown; have hown := hown2; clear hown2 hg9 hv9; refine kl H rfl fun a H => ?_
                      refine wl_v _ (r_assign (H.ev rfl)) ?_; refine kl H rfl fun a H => ?_
                      refine wpList_nil ?_
                      refine c_next ?_
                      refine wp_seq ?_
                      refine wp_seq ?_
                      refine wp_region_lit ?_
                      refine wl_v _ (r_move (H.ev rfl)) ?_; refine kl H rfl fun a H => ?_
                      refine wl_v _ (r_ne Try.underlying3 (H.ev rfl) evc (dec_t (by omega))) ?_; refine kl H rfl fun a H => ?_
                      refine wpList_nil ?_
                      refine c_next ?_
                      refine c_cond_t H rfl ?_
                      have hfe : f = true := by rw [hf2]; exact decide_eq_true (by omega)
                      obtain ⟨u, hu, _⟩ := hF.2.2.2.1 hfe
                      have hku := (List.getElem?_eq_some_iff.1 hu).1
                      refine wp_region_lit ?_
                      refine wl_v _ (r_move (H.ev rfl)) ?_; refine kl H rfl fun a H => ?_
                      refine wl_v _ (r_add (q := ((L.length + 1 : Nat) : Int)) Try.underlying3 (H.ev rfl) evc (by omega) (by omega)) ?_; refine kl H rfl fun a H => ?_
                      refine wl_v _ (r_assign (H.ev rfl)) ?_; refine kl H rfl fun a H => ?_
                      refine wpList_nil ?_
                      refine c_next ?_
                      refine wp_seq ?_
                      refine wp_region_lit ?_
                      refine wl_v _ (r_move (H.ev rfl)) ?_; refine kl H rfl fun a H => ?_
                      refine wl_v _ (r_move (H.ev rfl)) ?_; refine kl H rfl fun a H => ?_
                      refine wl_v _ (r_move (H.ev rfl)) ?_; refine kl H rfl fun a H => ?_
                      refine wl_v (.slice (slAt A c (L.length + 1) 3) (L.length - (L.length + 1)) (c - (L.length + 1))) (run_op_slice Try.underlying22 (.slice A L.length c) (some (.int .i64 (L.length + 1 : Nat))) none none (H.ev rfl) (by simp [H.ev (j := 116) rfl]) rfl rfl (slice_any (L.length + 1) L.length Try.underlying22 s37 _ _ (.inr rfl) (.inl ⟨rfl, rfl⟩) (by omega) (by omega) rfl rfl rfl)) ?_; refine kl H rfl fun a H => ?_
                      refine op_append 22 37 (.tmp 114) (.tmp 117) w.heap.size (.agg #[.int .i64 0, .int .i64 0, .int .i64 0]) 3 24 v9 _ _ (slAt A c (L.length + 1) 3) (L.length - (L.length + 1)) (c - (L.length + 1)) (FV encT (L.drop (L.length + 1))) (H.ev rfl) (H.ev rfl) Try.underlying22 i37 rfl (by omega) hown (by rw [FV_len encT_len, List.length_drop]) (rs_src (hh.out.up hall) h1 (L.length + 1)) (FV_one _ _) (by unfold maxLen; omega) (by omega) hall.size fun vz wz hown2 hg9 hv9 hb2 => ?_; replace hall := hall.trans hb2; clear hb2 hown; have hown := hown2; clear hown2 hg9 hv9; refine kl H rfl fun a H => ?_
                      refine wl_v _ (r_assign (H.ev rfl)) ?_; refine kl H rfl fun a H => ?_
                      refine wl_v _ (r_assign evc) ?_; refine kl H rfl fun a H => ?_
                      refine wpList_nil ?_
                      refine c_next ?_
                      refine wp_ret ?_
                      subst hfe
                      rw [if_neg (by omega), if_neg (by rintro ⟨hq, hq2⟩; rw [HFU.out] at hq2; have := of_decide_eq_true hq2; omega)] at HD
                      exact k_ret2 H rfl rfl rfl ⟨⟨_, by rw [HD.out], by rw [HD.out]; show TOwn _ _ _ (putF L who peer tq); rw [← put_of hR.out.1 hF tq, if_neg (by omega)]; exact own_cast hown (by show _ = FV encT (L.take (L.length) ++ ([(who, peer, tq)] ++ L.drop (L.length + 1))); simp only [FV_append, List.append_assoc, List.nil_append])⟩, hall⟩
                    · skip
                      refine wl_v _ (r_ne Try.underlying3 (H.ev rfl) evc (dec_f (c24))) ?_; refine kl H rfl fun a H => ?_
                      refine wpList_nil ?_
                      refine c_next ?_
                      refine c_cond_f H rfl ?_
                      refine wp_skip ?_
                      refine c_next ?_
                      refine wp_seq ?_
                      refine wp_seq ?_
                      refine wp_region_lit ?_
                      refine wl_v _ (r_move (H.ev rfl)) ?_; refine kl H rfl fun a H => ?_
                      refine wl_v _ (r_ne Try.underlying3 (H.ev rfl) evc (dec_t (by omega))) ?_; refine kl H rfl fun a H => ?_
                      refine wpList_nil ?_
                      refine c_next ?_
                      refine c_cond_t H rfl ?_
                      have hfe : f = true := by rw [hf2]; exact decide_eq_true (by omega)
                      obtain ⟨u, hu, _⟩ := hF.2.2.2.1 hfe
                      have hku := (List.getElem?_eq_some_iff.1 hu).1
                      refine wp_region_lit ?_
                      refine wl_v _ (r_move (H.ev rfl)) ?_; refine kl H rfl fun a H => ?_
                      refine wl_v _ (r_add (q := ((L.length + 1 : Nat) : Int)) Try.underlying3 (H.ev rfl) evc (by omega) (by omega)) ?_; refine kl H rfl fun a H => ?_
                      refine wl_v _ (r_assign (H.ev rfl)) ?_; refine kl H rfl fun a H => ?_
                      refine wpList_nil ?_
                      refine c_next ?_
                      refine wp_seq ?_
                      refine wp_region_lit ?_
                      refine wl_v _ (r_move (H.ev rfl)) ?_; refine kl H rfl fun a H => ?_
                      refine wl_v _ (r_move (H.ev rfl)) ?_; refine kl H rfl fun a H => ?_
                      refine wl_v _ (r_move (H.ev rfl)) ?_; refine kl H rfl fun a H => ?_
                      refine wl_v (.slice (slAt A c (L.length + 1) 3) (L.length - (L.length + 1)) (c - (L.length + 1))) (run_op_slice Try.underlying22 (.slice A L.length c) (some (.int .i64 (L.length + 1 : Nat))) none none (H.ev rfl) (by simp [H.ev (j := 116) rfl]) rfl rfl (slice_any (L.length + 1) L.length Try.underlying22 s37 _ _ (.inr rfl) (.inl ⟨rfl, rfl⟩) (by omega) (by omega) rfl rfl rfl)) ?_; refine kl H rfl fun a H => ?_
                      refine op_append 22 37 (.tmp 114) (.tmp 117) w.heap.size (.agg #[.int .i64 0, .int .i64 0, .int .i64 0]) 3 24 v5 _ _ (slAt A c (L.length + 1) 3) (L.length - (L.length + 1)) (c - (L.length + 1)) (FV encT (L.drop (L.length + 1))) (H.ev rfl) (H.ev rfl) Try.underlying22 i37 rfl (by omega) hown (by rw [FV_len encT_len, List.length_drop]) (rs_src (hh.out.up hall) h1 (L.length + 1)) (FV_one _ _) (by unfold maxLen; omega) (by omega) hall.size fun vz wz hown2 hg9 hv9 hb2 => ?_; replace hall := hall.trans hb2; clear hb2 hown; have hown := hown2; clear hown2 hg9 hv9; refine kl H rfl fun a H => ?_
                      refine wl_v _ (r_assign (H.ev rfl)) ?_; refine kl H rfl fun a H => ?_
                      refine wl_v _ (r_assign evc) ?_; refine kl H rfl fun a H => ?_
                      refine wpList_nil ?_
                      refine c_next ?_
                      refine wp_ret ?_
                      obtain rfl : tq = 0 := by omega
                      subst hfe
                      rw [if_neg (by omega), if_neg (by rintro ⟨hq, hq2⟩; rw [HFU.out] at hq2; have := of_decide_eq_true hq2; omega)] at HD
                      exact k_ret2 H rfl rfl rfl ⟨⟨_, by rw [HD.out], by rw [HD.out]; show TOwn _ _ _ (putF L who peer 0); rw [← put_of hR.out.1 hF 0, if_pos rfl]; exact own_cast hown (by show _ = FV encT (L.take (L.length) ++ ([] ++ L.drop (L.length + 1))); simp only [FV_append, List.append_assoc, List.nil_append])⟩, hall⟩
end Go.Proofs.Ytfehhenbdiageaa
