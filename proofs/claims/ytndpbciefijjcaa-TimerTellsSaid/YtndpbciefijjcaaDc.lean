/- Timer: the document's Set. -/
import Derived.Test.YtndpbciefijjcaaDb
namespace Go.Proofs.Ytndpbciefijjcaa
open Go.RowKit
set_option linter.unusedVariables false
set_option linter.unusedSimpArgs false

def rinsF (M : List Tm) (x : Tm) : List Tm := M.takeWhile (fun y => lessB y x) ++ x :: M.dropWhile (fun y => lessB y x)
def rsetF (L : List Tm) (id at' : Int) : List Tm := if 64 ≤ (wthF L id).length then wthF L id else rinsF (wthF L id) (id, at')
def LessTo (M : List Tm) (x : Tm) (k : Nat) : Prop := ∀ j : Nat, j < k → ∀ y, M[j]? = some y → lessB y x = true
theorem les_next {M : List Tm} {x y : Tm} {k : Nat} (h : LessTo M x k) (hy : M[k]? = some y) (hl : lessB y x = true) : LessTo M x (k + 1) := by
  intro j hj z hz
  by_cases e : j = k
  · subst e
    rw [hy] at hz
    injection hz with hz
    rw [← hz]; exact hl
  · exact h j (by omega) z hz
theorem rins_of {x : Tm} : ∀ {M : List Tm} {k : Nat}, k ≤ M.length → LessTo M x k → (∀ z, M[k]? = some z → lessB z x = false) → M.take k ++ x :: M.drop k = rinsF M x
  | [], k, hk, _, _ => by
    have : k = 0 := by simpa using hk
    subst this; rfl
  | y :: M, 0, _, _, h2 => by
    have := h2 y rfl
    simp [rinsF, List.takeWhile_cons, List.dropWhile_cons, this]
  | y :: M, k + 1, hk, h1, h2 => by
    have h0 := h1 0 (by omega) y rfl
    have := rins_of (M := M) (k := k) (by simpa using hk) (fun j hj z hz => h1 (j + 1) (by omega) z (by simpa using hz)) (fun z hz => h2 z (by simpa using hz))
    simp only [rinsF, List.takeWhile_cons, List.dropWhile_cons, h0, if_true, List.take_succ_cons, List.drop_succ_cons, List.cons_append] at this ⊢
    rw [this]
theorem BelowOf.step {W w w' : World} (h : BelowOf W w) (hb : Below w.heap.size w w') : BelowOf W w' := Below.trans h (hb.mono (Below.size h))
theorem BelowOf.step2 {W w w' : World} (h : BelowOf W w) (hb : Below W.heap.size w w') : BelowOf W w' := Below.trans h hb
theorem BelowOf.size {W w : World} (h : BelowOf W w) : W.heap.size ≤ w.heap.size := Below.size h
theorem Block.grown {w w' : World} {g : Nat} {t : TypeId} {C : Array Value} {row : Option Nat} (h : Block w g t C) (hg : w.grownBy w' row) (hne : some g ≠ row) : Block w' g t C := (hg.block g h.lt hne).trans h
theorem slAt_zero {A : Option Addr} {c size : Nat} : slAt A c 0 size = A := by
  unfold slAt
  split
  · rfl
  · cases A with
    | none => rfl
    | some a => obtain ⟨b, o, s⟩ := a; simp [Addr.add]
theorem rs_src {w : World} {A : Option Addr} {c : Nat} {M : List Tm} (h : Holds w A (FV encT M)) (hc : M.length ≤ c) (k : Nat) : Holds w (slAt A c k 2) (FV encT (M.drop k)) := by
  rw [FV_drop encT_len]
  exact slAt_holds (FV_len encT_len M) hc h k
theorem rs_end {w : World} {base : Nat} {v : Value} {M : List Tm} {x : Tm} {k : Nat} (hk : k ≤ M.length) (h : w.ownsRow base 40 2 v (0 + k + 1 + (M.length - k)) ([] ++ FV encT (M.take k) ++ FV encT [x] ++ FV encT (M.drop k))) : TOwn w base v (M.take k ++ x :: M.drop k) := by
  unfold TOwn
  have e : (M.take k ++ x :: M.drop k).length = 0 + k + 1 + (M.length - k) := by simp; omega
  rw [e, FV_append, show x :: M.drop k = [x] ++ M.drop k from rfl, FV_append, ← List.append_assoc]
  exact h
abbrev BelowTo {B : Nat} {W w : World} (_ : Below B W w) : World := w
def SRs (W : World) (bx : Nat) (A : Option Addr) (M : List Tm) (id at' : Int) (w : World) : Prop := Below W.heap.size W w ∧ Block w bx 40 #[.int .i64 id, .int .i64 at'] ∧ Holds w A (FV encT M)
theorem SRs.up {W w w' : World} {bx : Nat} {A : Option Addr} {M : List Tm} {id at' : Int} (h : SRs W bx A M id at' w) (hb : Below w.heap.size w w') : SRs W bx A M id at' w' := ⟨h.1.trans (hb.mono h.1.size), h.2.1.ups hb, h.2.2.up hb⟩
def RsI (W : World) (A : Option Addr) (c bx : Nat) (M : List Tm) (id at' : Int) (a : Act) (w : World) : Prop :=
  ∃ k : Nat, Kn a 47 [(8, .slice A M.length c), (9, .pointer (some ⟨bx, 0, none⟩)), (10, .int .i64 (k : Nat))] ∧ k ≤ M.length ∧ LessTo M (id, at') k ∧ Block w bx 40 #[.int .i64 id, .int .i64 at'] ∧ Holds w A (FV encT M) ∧ Below W.heap.size W w
set_option maxHeartbeats 2000000 in
theorem rset_any (w : World) (v : Value) (L : List Tm) (id at' : Int) (h : TRow w v L) (hn : L.length ≤ 90000) :
    Calls Try.prog 11 #[v, .int .i64 id, .int .i64 at'] w fun e w' => (∃ v', e = .returned (.tuple #[v', .bool (decide ((wthF L id).length < 64))]) ∧ TOwn w' w.heap.size v' (rsetF L id at')) ∧ Below w.heap.size w w' := by
  replace hn : L.length ≤ 100000 := by omega
  have hall := Below.refl w.heap.size w
  obtain ⟨M, hM⟩ : ∃ M, wthF L id = M := ⟨_, rfl⟩
  have hl : M.length ≤ 100000 := by rw [← hM]; have := List.length_filter_le (fun x : Tm => decide (x.1 ≠ id)) L; unfold wthF; omega
  have HM := Lib.hid hM
  by_cases h64 : 64 ≤ M.length
  · skip
    have HS : Hid (rsetF L id at' = M) := Lib.hid (by unfold rsetF; rw [hM, if_pos h64])
    have HF : Hid (decide ((wthF L id).length < 64) = false) := Lib.hid (by rw [hM]; simp; omega)
    clear hM
    refine K_enter 47 Try.func11 rfl rfl fun a H => ?_
    replace H := H.pick [0, 1, 2]
    refine wp_seq ?_
    refine wp_region_lit ?_
    refine wl_v _ (r_assign evc) ?_; refine kl H rfl fun a H => ?_
    refine wl_v _ (r_assign evc) ?_; refine kl H rfl fun a H => ?_
    refine wpList_nil ?_
    refine c_next ?_
    refine wp_seq ?_
    refine wp_region_lit ?_
    refine wl_v _ (r_move (H.ev rfl)) ?_; refine kl H rfl fun a H => ?_
    refine wl_v _ (r_move (H.ev rfl)) ?_; refine kl H rfl fun a H => ?_
    refine wl_call _ _ _ (without_any _ _ L id h hn) (r_call2 cf26 (H.ev rfl) (H.ev rfl)) ?_; rintro e w9 ⟨⟨v1, rfl, hown⟩, hb⟩; refine ⟨_, rfl, ?_⟩; rw [HM.out] at hown; replace hall := hall.trans (hb.mono hall.size); clear hb h; obtain ⟨A, c, rfl, hh, hmc, hcm⟩ := own_slice hown; refine kl H rfl fun a H => ?_
    refine wl_v _ (r_assign (H.ev rfl)) ?_; refine kl H rfl fun a H => ?_
    refine wpList_nil ?_
    refine c_next ?_
    refine wp_seq ?_
    refine wp_seq ?_
    refine wp_region_lit ?_
    refine wl_v _ (r_move (H.ev rfl)) ?_; refine kl H rfl fun a H => ?_
    refine wl_v _ (r_len Try.underlying22 (H.ev rfl)) ?_; refine kl H rfl fun a H => ?_
    refine wl_v _ (r_ge Try.underlying3 (H.ev rfl) evc (dec_t (by omega))) ?_; refine kl H rfl fun a H => ?_
    refine wpList_nil ?_
    refine c_next ?_
    refine c_cond_t H rfl ?_
    refine wp_seq ?_
    refine wp_region_lit ?_
    refine wl_v _ (r_move (H.ev rfl)) ?_; refine kl H rfl fun a H => ?_
    refine wl_v _ (r_assign (H.ev rfl)) ?_; refine kl H rfl fun a H => ?_
    refine wl_v _ (r_assign evc) ?_; refine kl H rfl fun a H => ?_
    refine wpList_nil ?_
    refine c_next ?_
    refine wp_ret ?_
    refine r_then ?_
    exact k_ret2 H rfl rfl rfl ⟨⟨_, by rw [HF.out], by rw [HS.out]; exact hown⟩, hall⟩
  · skip
    have HS : Hid (rsetF L id at' = rinsF M (id, at')) := Lib.hid (by unfold rsetF; rw [hM, if_neg h64])
    have HF : Hid (decide ((wthF L id).length < 64) = true) := Lib.hid (by rw [hM]; simp; omega)
    clear hM
    refine K_enter 47 Try.func11 rfl rfl fun a H => ?_
    replace H := H.pick [0, 1, 2]
    refine wp_seq ?_
    refine wp_region_lit ?_
    refine wl_v _ (r_assign evc) ?_; refine kl H rfl fun a H => ?_
    refine wl_v _ (r_assign evc) ?_; refine kl H rfl fun a H => ?_
    refine wpList_nil ?_
    refine c_next ?_
    refine wp_seq ?_
    refine wp_region_lit ?_
    refine wl_v _ (r_move (H.ev rfl)) ?_; refine kl H rfl fun a H => ?_
    refine wl_v _ (r_move (H.ev rfl)) ?_; refine kl H rfl fun a H => ?_
    refine wl_call _ _ _ (without_any _ _ L id h hn) (r_call2 cf26 (H.ev rfl) (H.ev rfl)) ?_; rintro e w9 ⟨⟨v1, rfl, hown⟩, hb⟩; refine ⟨_, rfl, ?_⟩; rw [HM.out] at hown; replace hall := hall.trans (hb.mono hall.size); clear hb h; obtain ⟨A, c, rfl, hh, hmc, hcm⟩ := own_slice hown; refine kl H rfl fun a H => ?_
    refine wl_v _ (r_assign (H.ev rfl)) ?_; refine kl H rfl fun a H => ?_
    refine wpList_nil ?_
    refine c_next ?_
    refine wp_seq ?_
    refine wp_seq ?_
    refine wp_region_lit ?_
    refine wl_v _ (r_move (H.ev rfl)) ?_; refine kl H rfl fun a H => ?_
    refine wl_v _ (r_len Try.underlying22 (H.ev rfl)) ?_; refine kl H rfl fun a H => ?_
    refine wl_v _ (r_ge Try.underlying3 (H.ev rfl) evc (dec_f (by omega))) ?_; refine kl H rfl fun a H => ?_
    refine wpList_nil ?_
    refine c_next ?_
    refine c_cond_f H rfl ?_
    refine wp_skip ?_
    refine c_next ?_
    refine wp_seq ?_
    refine wp_region_lit ?_
    refine wl_v _ (r_move (H.ev rfl)) ?_; refine kl H rfl fun a H => ?_
    refine wl_v _ (r_move (H.ev rfl)) ?_; refine kl H rfl fun a H => ?_
    refine wl_v (.agg #[.int .i64 id, .int .i64 at']) (r_build #[(0, .int .i64 id), (1, .int .i64 at')] _ (by simp [H.ev (j := 18) rfl, H.ev (j := 19) rfl]) (fun w => by kernel_rfl)) ?_; refine kl H rfl fun a H => ?_
    refine op_new 40 9 (.tmp 20) #[.int .i64 id, .int .i64 at'] #[.int .i64 0, .int .i64 0] z40 s40 rfl (ints_one [id, at']) (fun p => (H.put 9 p rfl).ev rfl) (fun p => (H.put 9 p rfl).ev rfl) fun w2 bx hge hb hk => ?_; replace hown := own_ups hown hb; replace hh := hh.up hb; replace hall := hall.trans (hb.mono hall.size); clear hb hge; refine kl H rfl fun a H => ?_
    refine wpList_nil ?_
    refine c_next ?_
    refine wp_seq ?_
    refine wp_region_lit ?_
    refine wl_v _ (r_assign evc) ?_; refine kl H rfl fun a H => ?_
    refine wpList_nil ?_
    refine c_next ?_
    refine wp_seq ?_
    refine wp_block ?_
    refine wp_loop (RsI w A c bx M id at') (fun a _ => M.length - (intOf (a.eval (.tmp 10))).toNat) ⟨0, H.pick [8, 9, 10], by omega, fun j hj => by omega, hk, hh, hall⟩ ?_
    clear hall hk hh hown H
    rintro a w' ⟨k, H, hkl, hles, hk, hh, hall⟩
    have H0 := H
    by_cases hlt : k < M.length
    · skip
      obtain ⟨b, o, hA, hr⟩ := flat_some encT_len hh (by omega) hlt
      subst hA
      have hy : M[k]? = some M[k] := List.getElem?_eq_getElem hlt
      have HY := Lib.hid hy
      have HRF := Lib.hid (fun (w' : World) (hw' : Holds w' (some ⟨b, o, none⟩) (FV encT M)) => flat_range encT_len hw' rfl hlt)
      generalize M[k] = y at *
      clear hy hr
      cases hls : lessB y (id, at')
      · skip
        have HI := Lib.hid (rins_of hkl hles (fun z hz => by rw [HY.out] at hz; injection hz with hz; rw [← hz]; exact hls))
        refine wp_seq ?_
        refine wp_seq ?_
        have hS : SRs w bx (some ⟨b, o, none⟩) M id at' _ := ⟨hall.drew, hk, hh⟩
        refine region_pi (SRs w bx (some ⟨b, o, none⟩) M id at') [(0, true), (1, true), (2, true), (3, true), (4, true), (5, true), (6, true), (7, true), (8, true), (9, true), (10, false), (11, true)] (by kernel_rfl) (by kernel_rfl) rfl (by kernel_rfl) hS ?_
        clear hall hk hh
        refine pi_f0 _ rfl (fun w' hS' => r_move (H.ev rfl)) ?_; refine kp H rfl fun a H => ?_
        refine pi_f0 _ rfl (fun w' hS' => r_move (H.ev rfl)) ?_; refine kp H rfl fun a H => ?_
        refine pi_f0 _ rfl (fun w' hS' => r_len Try.underlying22 (H.ev rfl)) ?_; refine kp H rfl fun a H => ?_
        refine pi_f0 _ rfl (fun w' hS' => r_lt Try.underlying3 (H.ev rfl) (H.ev rfl) (dec_t (by omega))) ?_; refine kp H rfl fun a H => ?_
        refine pi_f0 _ rfl (fun w' hS' => r_move (H.ev rfl)) ?_; refine kp H rfl fun a H => ?_
        refine pi_f1 _ rfl rfl rfl (H.ev rfl) (fun w' hS' => r_move (H.ev rfl)) ?_; refine kp H rfl fun a H => ?_
        refine pi_f1 _ rfl rfl rfl (H.ev rfl) (fun w' hS' => r_move (H.ev rfl)) ?_; refine kp H rfl fun a H => ?_
        refine pi_f1 _ rfl rfl rfl (H.ev rfl) (fun w' hS' => r_idx (j := k) (q := o + k * 2) Try.underlying22 s40 (H.ev rfl) (H.ev rfl) (by omega) rfl) ?_; refine kp H rfl fun a H => ?_
        refine pi_f1 _ rfl rfl rfl (H.ev rfl) (fun w' hS' => r_row (cs := [.int .i64 y.1, .int .i64 y.2]) (H.ev rfl) (HRF.out _ hS'.2.2) (by kernel_rfl) s40 rfl) ?_; refine kp H rfl fun a H => ?_
        refine pi_f1 _ rfl rfl rfl (H.ev rfl) (fun w' hS' => r_row (cs := [.int .i64 id, .int .i64 at']) (H.ev rfl) (range_block (x := (id, at')) hS'.2.1) (by kernel_rfl) s40 rfl) ?_; refine kp H rfl fun a H => ?_
        refine pi_a1 rfl rfl rfl (H.ev rfl) (fun K hK => ?_); refine wpo_call _ _ _ (less_any _ y (id, at')) (r_call2 cf23 (H.ev rfl) (H.ev rfl)) ?_; rintro e w9 ⟨rfl, hb9⟩; refine ⟨_, rfl, ?_⟩; rw [hls]; replace hS := hS.up hb9; clear hb9; refine hK _ _ ⟨hS, ?_⟩; clear hK; clear K; refine kp H rfl fun a H => ?_
        refine pi_f0 _ rfl (fun w' hS' => r_pick_t (H.ev rfl) (H.ev rfl)) ?_; refine kp H rfl fun a H => ?_
        refine pi_nil (NoPanic.normal ?_)
        have hall := hS.1
        have hk := hS.2.1
        have hh := hS.2.2
        clear hS
        refine c_next ?_
        refine c_cond_f H rfl ?_
        refine wp_exit ?_
        refine e_then ?_
        refine e_then ?_
        refine e_here ?_
        refine c_next ?_
        refine wp_seq ?_
        have hall8 := hall
        have hS : BelowOf (BelowTo hall8) _ := Below.drew (Below.refl _ (BelowTo hall8))
        refine region_tree (BelowOf (BelowTo hall8)) 14 (.fl 1 (.fl 2 (.fl 3 (.fl 5 (.fl 8 (.fl 9 (.fl 10 (.two 0 (.two 4 (.one 6 (.one 7 (.one 11 (.fl 12 (.fl 13 .done))))) 6 (.one 4 (.one 7 (.one 11 (.fl 12 (.fl 13 .done)))))) 6 (.one 0 (.one 4 (.one 7 (.one 11 (.fl 12 (.fl 13 .done)))))))))))))) (by kernel_rfl) (by kernel_rfl) rfl (by kernel_rfl) hS ?_
        refine pt_f0 _ rfl (fun w' hS' => r_move (H.ev rfl)) ?_; refine kt H rfl fun a H => ?_
        refine pt_f0 _ rfl (fun w' hS' => r_move (H.ev rfl)) ?_; refine kt H rfl fun a H => ?_
        refine pt_f0 (.slice (some ⟨b, o, none⟩) k c) rfl (fun w' hS' => run_op_slice Try.underlying22 (.slice (some ⟨b, o, none⟩) M.length c) none (some (.int .i64 (k : Nat))) none (H.ev rfl) rfl (by simp [H.ev (j := 37) rfl]) rfl (slice_any 0 k Try.underlying22 s40 _ _ (.inl ⟨rfl, rfl⟩) (.inr rfl) (by omega) (by omega) slAt_zero (by omega) (by omega))) ?_; refine kt H rfl fun a H => ?_
        refine pt_f0 (.agg #[.int .i64 id, .int .i64 at']) rfl (fun w' hS' => r_row (cs := [.int .i64 id, .int .i64 at']) (H.ev rfl) (range_block (x := (id, at')) (Block.ups hk hS')) (by kernel_rfl) s40 rfl) ?_; refine kt H rfl fun a H => ?_
        refine pt_f0 _ rfl (fun w' hS' => r_move (H.ev rfl)) ?_; refine kt H rfl fun a H => ?_
        refine pt_f0 _ rfl (fun w' hS' => r_move (H.ev rfl)) ?_; refine kt H rfl fun a H => ?_
        refine pt_f0 (.slice (slAt (some ⟨b, o, none⟩) c k 2) (M.length - k) (c - k)) rfl (fun w' hS' => run_op_slice Try.underlying22 (.slice (some ⟨b, o, none⟩) M.length c) (some (.int .i64 (k : Nat))) none none (H.ev rfl) (by simp [H.ev (j := 44) rfl]) rfl rfl (slice_any k M.length Try.underlying22 s40 _ _ (.inr rfl) (.inl ⟨rfl, rfl⟩) (by omega) (by omega) rfl rfl rfl)) ?_; refine kt H rfl fun a H => ?_
        refine pt_two (fun K hK => ?_) (fun K hK => ?_)
        · skip
          refine st_a0 rfl ?_; refine wpo_litv 22 0 #[] 40 #[] (by simp) (fun w => by kernel_rfl) fun w1 bl hge hb kk => ?_; have q0 := own_empty (base := (BelowTo hall8).heap.size) (size := 2) kk (Nat.le_trans (BelowOf.size hS) hge); have q0l := kk.lt; (try have hne : b1 ≠ bl := (by have := k1.lt; omega)); (try replace k1 := k1.ups hb); replace hS := BelowOf.step hS hb; clear hb hge kk; refine hK _ _ ⟨(fun _ => hS), ?_⟩; clear hK; clear K; refine kt H rfl fun a H => ?_
          refine pt_two (fun K hK => ?_) (fun K hK => ?_)
          · skip
            refine st_a0 rfl ?_; refine wpo_append 22 40 (.tmp 35) (.tmp 38) (BelowTo hall8).heap.size (.agg #[.int .i64 0, .int .i64 0]) 2 16 _ 0 [] (some ⟨b, o, none⟩) k c (FV encT (M.take k)) (H.ev rfl) (H.ev rfl) Try.underlying22 i40 rfl (by omega) q0 (by rw [FV_len encT_len, List.length_take]; omega) ((hh.up hS).take_fv encT_len k) (FV_one _ _) (by unfold maxLen; omega) (by omega) (BelowOf.size hS) fun v4 w4 q4 hg hv hb2 => ?_; (try replace k1 := Block.grown k1 hg (by simp [Value.ownBlock]; omega)); replace hS := BelowOf.step2 hS hb2; clear hb2 hg hv q0; refine hK _ _ ⟨(fun _ => hS), ?_⟩; clear hK; clear K; refine kt H rfl fun a H => ?_
            refine pt_one (fun K hK => ?_)
            refine st_a0 rfl ?_; refine wpo_litv 22 1 #[(0, .agg #[.int .i64 id, .int .i64 at'])] 40 #[.int .i64 id, .int .i64 at'] (by simp [H.ev (j := 40) rfl]) (fun w => by kernel_rfl) fun w1 b1 hge hb k1 => ?_; (try have hne : b1 ≠ bl := (by omega)); (try replace q0 := own_ups q0 hb); (try replace q4 := own_ups q4 hb); replace hS := BelowOf.step hS hb; clear hb hge; refine hK _ _ ⟨(fun _ => hS), ?_⟩; clear hK; clear K; refine kt H rfl fun a H => ?_
            refine pt_one (fun K hK => ?_)
            refine st_a0 rfl ?_; refine wpo_append 22 40 (.tmp 39) (.tmp 41) (BelowTo hall8).heap.size (.agg #[.int .i64 0, .int .i64 0]) 2 16 v4 _ _ (some ⟨b1, 0, none⟩) 1 1 (FV encT [(id, at')]) (H.ev rfl) (H.ev rfl) Try.underlying22 i40 rfl (by omega) q4 (by rw [FV_len encT_len]; rfl) (block_x k1) (FV_one _ _) (by unfold maxLen; omega) (by omega) (BelowOf.size hS) fun v7 w7 q7 _ _ hb2 => ?_; replace hS := BelowOf.step2 hS hb2; clear hb2 q4 k1; refine hK _ _ ⟨(fun _ => hS), ?_⟩; clear hK; clear K; refine kt H rfl fun a H => ?_
            refine pt_one (fun K hK => ?_)
            refine st_a0 rfl ?_; refine wpo_append 22 40 (.tmp 42) (.tmp 45) (BelowTo hall8).heap.size (.agg #[.int .i64 0, .int .i64 0]) 2 16 v7 _ _ (slAt (some ⟨b, o, none⟩) c k 2) (M.length - k) (c - k) (FV encT (M.drop k)) (H.ev rfl) (H.ev rfl) Try.underlying22 i40 rfl (by omega) q7 (by rw [FV_len encT_len, List.length_drop]) (rs_src (hh.up hS) hmc k) (FV_one _ _) (by unfold maxLen; omega) (by omega) (BelowOf.size hS) fun v11 w11 q11 _ _ hb2 => ?_; replace hS := BelowOf.step2 hS hb2; clear hb2 q7; refine hK _ _ ⟨(fun _ => hS), ?_⟩; clear hK; clear K; refine kt H rfl fun a H => ?_
            refine pt_f0 _ rfl (fun w' hS' => r_assign (H.ev rfl)) ?_; refine kt H rfl fun a H => ?_
            refine pt_f0 _ rfl (fun w' hS' => r_assign evc) ?_; refine kt H rfl fun a H => ?_
            refine pt_done (NoPanic.normal ?_)
            have hS0 : Below (BelowTo hall8).heap.size (BelowTo hall8) _ := hS
            refine c_next ?_
            refine wp_ret ?_
            exact k_ret2 H rfl rfl rfl ⟨⟨_, by rw [HF.out], by rw [HS.out, ← HI.out]; exact own_base (rs_end hkl q11) hall.size⟩, hall.trans (Below.mono hS0 hall.size)⟩
          · skip
            refine st_a0 rfl ?_; refine wpo_litv 22 1 #[(0, .agg #[.int .i64 id, .int .i64 at'])] 40 #[.int .i64 id, .int .i64 at'] (by simp [H.ev (j := 40) rfl]) (fun w => by kernel_rfl) fun w1 b1 hge hb k1 => ?_; (try have hne : b1 ≠ bl := (by omega)); (try replace q0 := own_ups q0 hb); (try replace q4 := own_ups q4 hb); replace hS := BelowOf.step hS hb; clear hb hge; refine hK _ _ ⟨(fun _ => hS), ?_⟩; clear hK; clear K; refine kt H rfl fun a H => ?_
            refine pt_one (fun K hK => ?_)
            refine st_a0 rfl ?_; refine wpo_append 22 40 (.tmp 35) (.tmp 38) (BelowTo hall8).heap.size (.agg #[.int .i64 0, .int .i64 0]) 2 16 _ 0 [] (some ⟨b, o, none⟩) k c (FV encT (M.take k)) (H.ev rfl) (H.ev rfl) Try.underlying22 i40 rfl (by omega) q0 (by rw [FV_len encT_len, List.length_take]; omega) ((hh.up hS).take_fv encT_len k) (FV_one _ _) (by unfold maxLen; omega) (by omega) (BelowOf.size hS) fun v4 w4 q4 hg hv hb2 => ?_; (try replace k1 := Block.grown k1 hg (by simp [Value.ownBlock]; omega)); replace hS := BelowOf.step2 hS hb2; clear hb2 hg hv q0; refine hK _ _ ⟨(fun _ => hS), ?_⟩; clear hK; clear K; refine kt H rfl fun a H => ?_
            refine pt_one (fun K hK => ?_)
            refine st_a0 rfl ?_; refine wpo_append 22 40 (.tmp 39) (.tmp 41) (BelowTo hall8).heap.size (.agg #[.int .i64 0, .int .i64 0]) 2 16 v4 _ _ (some ⟨b1, 0, none⟩) 1 1 (FV encT [(id, at')]) (H.ev rfl) (H.ev rfl) Try.underlying22 i40 rfl (by omega) q4 (by rw [FV_len encT_len]; rfl) (block_x k1) (FV_one _ _) (by unfold maxLen; omega) (by omega) (BelowOf.size hS) fun v7 w7 q7 _ _ hb2 => ?_; replace hS := BelowOf.step2 hS hb2; clear hb2 q4 k1; refine hK _ _ ⟨(fun _ => hS), ?_⟩; clear hK; clear K; refine kt H rfl fun a H => ?_
            refine pt_one (fun K hK => ?_)
            refine st_a0 rfl ?_; refine wpo_append 22 40 (.tmp 42) (.tmp 45) (BelowTo hall8).heap.size (.agg #[.int .i64 0, .int .i64 0]) 2 16 v7 _ _ (slAt (some ⟨b, o, none⟩) c k 2) (M.length - k) (c - k) (FV encT (M.drop k)) (H.ev rfl) (H.ev rfl) Try.underlying22 i40 rfl (by omega) q7 (by rw [FV_len encT_len, List.length_drop]) (rs_src (hh.up hS) hmc k) (FV_one _ _) (by unfold maxLen; omega) (by omega) (BelowOf.size hS) fun v11 w11 q11 _ _ hb2 => ?_; replace hS := BelowOf.step2 hS hb2; clear hb2 q7; refine hK _ _ ⟨(fun _ => hS), ?_⟩; clear hK; clear K; refine kt H rfl fun a H => ?_
            refine pt_f0 _ rfl (fun w' hS' => r_assign (H.ev rfl)) ?_; refine kt H rfl fun a H => ?_
            refine pt_f0 _ rfl (fun w' hS' => r_assign evc) ?_; refine kt H rfl fun a H => ?_
            refine pt_done (NoPanic.normal ?_)
            have hS0 : Below (BelowTo hall8).heap.size (BelowTo hall8) _ := hS
            refine c_next ?_
            refine wp_ret ?_
            exact k_ret2 H rfl rfl rfl ⟨⟨_, by rw [HF.out], by rw [HS.out, ← HI.out]; exact own_base (rs_end hkl q11) hall.size⟩, hall.trans (Below.mono hS0 hall.size)⟩
        · skip
          refine st_a0 rfl ?_; refine wpo_litv 22 1 #[(0, .agg #[.int .i64 id, .int .i64 at'])] 40 #[.int .i64 id, .int .i64 at'] (by simp [H.ev (j := 40) rfl]) (fun w => by kernel_rfl) fun w1 b1 hge hb k1 => ?_; (try have hne : b1 ≠ bl := (by omega)); (try replace q0 := own_ups q0 hb); (try replace q4 := own_ups q4 hb); replace hS := BelowOf.step hS hb; clear hb hge; refine hK _ _ ⟨(fun _ => hS), ?_⟩; clear hK; clear K; refine kt H rfl fun a H => ?_
          refine pt_one (fun K hK => ?_)
          refine st_a0 rfl ?_; refine wpo_litv 22 0 #[] 40 #[] (by simp) (fun w => by kernel_rfl) fun w1 bl hge hb kk => ?_; have q0 := own_empty (base := (BelowTo hall8).heap.size) (size := 2) kk (Nat.le_trans (BelowOf.size hS) hge); have q0l := kk.lt; (try have hne : b1 ≠ bl := (by have := k1.lt; omega)); (try replace k1 := k1.ups hb); replace hS := BelowOf.step hS hb; clear hb hge kk; refine hK _ _ ⟨(fun _ => hS), ?_⟩; clear hK; clear K; refine kt H rfl fun a H => ?_
          refine pt_one (fun K hK => ?_)
          refine st_a0 rfl ?_; refine wpo_append 22 40 (.tmp 35) (.tmp 38) (BelowTo hall8).heap.size (.agg #[.int .i64 0, .int .i64 0]) 2 16 _ 0 [] (some ⟨b, o, none⟩) k c (FV encT (M.take k)) (H.ev rfl) (H.ev rfl) Try.underlying22 i40 rfl (by omega) q0 (by rw [FV_len encT_len, List.length_take]; omega) ((hh.up hS).take_fv encT_len k) (FV_one _ _) (by unfold maxLen; omega) (by omega) (BelowOf.size hS) fun v4 w4 q4 hg hv hb2 => ?_; (try replace k1 := Block.grown k1 hg (by simp [Value.ownBlock]; omega)); replace hS := BelowOf.step2 hS hb2; clear hb2 hg hv q0; refine hK _ _ ⟨(fun _ => hS), ?_⟩; clear hK; clear K; refine kt H rfl fun a H => ?_
          refine pt_one (fun K hK => ?_)
          refine st_a0 rfl ?_; refine wpo_append 22 40 (.tmp 39) (.tmp 41) (BelowTo hall8).heap.size (.agg #[.int .i64 0, .int .i64 0]) 2 16 v4 _ _ (some ⟨b1, 0, none⟩) 1 1 (FV encT [(id, at')]) (H.ev rfl) (H.ev rfl) Try.underlying22 i40 rfl (by omega) q4 (by rw [FV_len encT_len]; rfl) (block_x k1) (FV_one _ _) (by unfold maxLen; omega) (by omega) (BelowOf.size hS) fun v7 w7 q7 _ _ hb2 => ?_; replace hS := BelowOf.step2 hS hb2; clear hb2 q4 k1; refine hK _ _ ⟨(fun _ => hS), ?_⟩; clear hK; clear K; refine kt H rfl fun a H => ?_
          refine pt_one (fun K hK => ?_)
          refine st_a0 rfl ?_; refine wpo_append 22 40 (.tmp 42) (.tmp 45) (BelowTo hall8).heap.size (.agg #[.int .i64 0, .int .i64 0]) 2 16 v7 _ _ (slAt (some ⟨b, o, none⟩) c k 2) (M.length - k) (c - k) (FV encT (M.drop k)) (H.ev rfl) (H.ev rfl) Try.underlying22 i40 rfl (by omega) q7 (by rw [FV_len encT_len, List.length_drop]) (rs_src (hh.up hS) hmc k) (FV_one _ _) (by unfold maxLen; omega) (by omega) (BelowOf.size hS) fun v11 w11 q11 _ _ hb2 => ?_; replace hS := BelowOf.step2 hS hb2; clear hb2 q7; refine hK _ _ ⟨(fun _ => hS), ?_⟩; clear hK; clear K; refine kt H rfl fun a H => ?_
          refine pt_f0 _ rfl (fun w' hS' => r_assign (H.ev rfl)) ?_; refine kt H rfl fun a H => ?_
          refine pt_f0 _ rfl (fun w' hS' => r_assign evc) ?_; refine kt H rfl fun a H => ?_
          refine pt_done (NoPanic.normal ?_)
          have hS0 : Below (BelowTo hall8).heap.size (BelowTo hall8) _ := hS
          refine c_next ?_
          refine wp_ret ?_
          exact k_ret2 H rfl rfl rfl ⟨⟨_, by rw [HF.out], by rw [HS.out, ← HI.out]; exact own_base (rs_end hkl q11) hall.size⟩, hall.trans (Below.mono hS0 hall.size)⟩
      · skip
        refine wp_seq ?_
        refine wp_seq ?_
        have hS : SRs w bx (some ⟨b, o, none⟩) M id at' _ := ⟨hall.drew, hk, hh⟩
        refine region_pi (SRs w bx (some ⟨b, o, none⟩) M id at') [(0, true), (1, true), (2, true), (3, true), (4, true), (5, true), (6, true), (7, true), (8, true), (9, true), (10, false), (11, true)] (by kernel_rfl) (by kernel_rfl) rfl (by kernel_rfl) hS ?_
        clear hall hk hh
        refine pi_f0 _ rfl (fun w' hS' => r_move (H.ev rfl)) ?_; refine kp H rfl fun a H => ?_
        refine pi_f0 _ rfl (fun w' hS' => r_move (H.ev rfl)) ?_; refine kp H rfl fun a H => ?_
        refine pi_f0 _ rfl (fun w' hS' => r_len Try.underlying22 (H.ev rfl)) ?_; refine kp H rfl fun a H => ?_
        refine pi_f0 _ rfl (fun w' hS' => r_lt Try.underlying3 (H.ev rfl) (H.ev rfl) (dec_t (by omega))) ?_; refine kp H rfl fun a H => ?_
        refine pi_f0 _ rfl (fun w' hS' => r_move (H.ev rfl)) ?_; refine kp H rfl fun a H => ?_
        refine pi_f1 _ rfl rfl rfl (H.ev rfl) (fun w' hS' => r_move (H.ev rfl)) ?_; refine kp H rfl fun a H => ?_
        refine pi_f1 _ rfl rfl rfl (H.ev rfl) (fun w' hS' => r_move (H.ev rfl)) ?_; refine kp H rfl fun a H => ?_
        refine pi_f1 _ rfl rfl rfl (H.ev rfl) (fun w' hS' => r_idx (j := k) (q := o + k * 2) Try.underlying22 s40 (H.ev rfl) (H.ev rfl) (by omega) rfl) ?_; refine kp H rfl fun a H => ?_
        refine pi_f1 _ rfl rfl rfl (H.ev rfl) (fun w' hS' => r_row (cs := [.int .i64 y.1, .int .i64 y.2]) (H.ev rfl) (HRF.out _ hS'.2.2) (by kernel_rfl) s40 rfl) ?_; refine kp H rfl fun a H => ?_
        refine pi_f1 _ rfl rfl rfl (H.ev rfl) (fun w' hS' => r_row (cs := [.int .i64 id, .int .i64 at']) (H.ev rfl) (range_block (x := (id, at')) hS'.2.1) (by kernel_rfl) s40 rfl) ?_; refine kp H rfl fun a H => ?_
        refine pi_a1 rfl rfl rfl (H.ev rfl) (fun K hK => ?_); refine wpo_call _ _ _ (less_any _ y (id, at')) (r_call2 cf23 (H.ev rfl) (H.ev rfl)) ?_; rintro e w9 ⟨rfl, hb9⟩; refine ⟨_, rfl, ?_⟩; rw [hls]; replace hS := hS.up hb9; clear hb9; refine hK _ _ ⟨hS, ?_⟩; clear hK; clear K; refine kp H rfl fun a H => ?_
        refine pi_f0 _ rfl (fun w' hS' => r_pick_t (H.ev rfl) (H.ev rfl)) ?_; refine kp H rfl fun a H => ?_
        refine pi_nil (NoPanic.normal ?_)
        have hall := hS.1
        have hk := hS.2.1
        have hh := hS.2.2
        clear hS
        refine c_next ?_
        refine c_cond_t H rfl ?_
        refine wp_skip ?_
        refine c_next ?_
        refine wp_block ?_
        refine wp_region_lit ?_
        refine wl_v _ (r_move (H.ev rfl)) ?_; refine kl H rfl fun a H => ?_
        refine wl_v _ (r_add (q := ((k + 1 : Nat) : Int)) Try.underlying3 (H.ev rfl) evc (by omega) (by omega)) ?_; refine kl H rfl fun a H => ?_
        refine wl_v _ (r_assign (H.ev rfl)) ?_; refine kl H rfl fun a H => ?_
        refine wpList_nil ?_
        refine n_block ?_
        refine n_then ⟨⟨k + 1, H.pick [8, 9, 10], by omega, les_next hles HY.out hls, hk, hh, hall⟩, ?_⟩
        rw [H.ev (j := 10) rfl, H0.ev (j := 10) rfl]
        simp only [intOf]
        omega
    · skip
      have HI := Lib.hid (rins_of hkl hles (fun z hz => absurd (List.getElem?_eq_some_iff.1 hz).1 hlt))
      refine wp_seq ?_
      refine wp_seq ?_
      have hS : SRs w bx A M id at' _ := ⟨hall.drew, hk, hh⟩
      refine region_pi (SRs w bx A M id at') [(0, true), (1, true), (2, true), (3, true), (4, true), (5, true), (6, true), (7, true), (8, true), (9, true), (10, false), (11, true)] (by kernel_rfl) (by kernel_rfl) rfl (by kernel_rfl) hS ?_
      clear hall hk hh
      refine pi_f0 _ rfl (fun w' hS' => r_move (H.ev rfl)) ?_; refine kp H rfl fun a H => ?_
      refine pi_f0 _ rfl (fun w' hS' => r_move (H.ev rfl)) ?_; refine kp H rfl fun a H => ?_
      refine pi_f0 _ rfl (fun w' hS' => r_len Try.underlying22 (H.ev rfl)) ?_; refine kp H rfl fun a H => ?_
      refine pi_f0 _ rfl (fun w' hS' => r_lt Try.underlying3 (H.ev rfl) (H.ev rfl) (dec_f (by omega))) ?_; refine kp H rfl fun a H => ?_
      refine pi_f0 _ rfl (fun w' hS' => r_move (H.ev rfl)) ?_; refine kp H rfl fun a H => ?_
      refine pi_s1 rfl rfl rfl (H.ev rfl) ?_; refine kp H rfl fun a H => ?_
      refine pi_s1 rfl rfl rfl (H.ev rfl) ?_; refine kp H rfl fun a H => ?_
      refine pi_s1 rfl rfl rfl (H.ev rfl) ?_; refine kp H rfl fun a H => ?_
      refine pi_s1 rfl rfl rfl (H.ev rfl) ?_; refine kp H rfl fun a H => ?_
      refine pi_s1 rfl rfl rfl (H.ev rfl) ?_; refine kp H rfl fun a H => ?_
      refine pi_s1 rfl rfl rfl (H.ev rfl) ?_; refine kp H rfl fun a H => ?_
      refine pi_f0 _ rfl (fun w' hS' => r_pick_f (H.ev rfl) evc) ?_; refine kp H rfl fun a H => ?_
      refine pi_nil (NoPanic.normal ?_)
      have hall := hS.1
      have hk := hS.2.1
      have hh := hS.2.2
      clear hS
      refine c_next ?_
      refine c_cond_f H rfl ?_
      refine wp_exit ?_
      refine e_then ?_
      refine e_then ?_
      refine e_here ?_
      refine c_next ?_
      refine wp_seq ?_
      have hall8 := hall
      have hS : BelowOf (BelowTo hall8) _ := Below.drew (Below.refl _ (BelowTo hall8))
      refine region_tree (BelowOf (BelowTo hall8)) 14 (.fl 1 (.fl 2 (.fl 3 (.fl 5 (.fl 8 (.fl 9 (.fl 10 (.two 0 (.two 4 (.one 6 (.one 7 (.one 11 (.fl 12 (.fl 13 .done))))) 6 (.one 4 (.one 7 (.one 11 (.fl 12 (.fl 13 .done)))))) 6 (.one 0 (.one 4 (.one 7 (.one 11 (.fl 12 (.fl 13 .done)))))))))))))) (by kernel_rfl) (by kernel_rfl) rfl (by kernel_rfl) hS ?_
      refine pt_f0 _ rfl (fun w' hS' => r_move (H.ev rfl)) ?_; refine kt H rfl fun a H => ?_
      refine pt_f0 _ rfl (fun w' hS' => r_move (H.ev rfl)) ?_; refine kt H rfl fun a H => ?_
      refine pt_f0 (.slice A k c) rfl (fun w' hS' => run_op_slice Try.underlying22 (.slice A M.length c) none (some (.int .i64 (k : Nat))) none (H.ev rfl) rfl (by simp [H.ev (j := 37) rfl]) rfl (slice_any 0 k Try.underlying22 s40 _ _ (.inl ⟨rfl, rfl⟩) (.inr rfl) (by omega) (by omega) slAt_zero (by omega) (by omega))) ?_; refine kt H rfl fun a H => ?_
      refine pt_f0 (.agg #[.int .i64 id, .int .i64 at']) rfl (fun w' hS' => r_row (cs := [.int .i64 id, .int .i64 at']) (H.ev rfl) (range_block (x := (id, at')) (Block.ups hk hS')) (by kernel_rfl) s40 rfl) ?_; refine kt H rfl fun a H => ?_
      refine pt_f0 _ rfl (fun w' hS' => r_move (H.ev rfl)) ?_; refine kt H rfl fun a H => ?_
      refine pt_f0 _ rfl (fun w' hS' => r_move (H.ev rfl)) ?_; refine kt H rfl fun a H => ?_
      refine pt_f0 (.slice (slAt A c k 2) (M.length - k) (c - k)) rfl (fun w' hS' => run_op_slice Try.underlying22 (.slice A M.length c) (some (.int .i64 (k : Nat))) none none (H.ev rfl) (by simp [H.ev (j := 44) rfl]) rfl rfl (slice_any k M.length Try.underlying22 s40 _ _ (.inr rfl) (.inl ⟨rfl, rfl⟩) (by omega) (by omega) rfl rfl rfl)) ?_; refine kt H rfl fun a H => ?_
      refine pt_two (fun K hK => ?_) (fun K hK => ?_)
      · skip
        refine st_a0 rfl ?_; refine wpo_litv 22 0 #[] 40 #[] (by simp) (fun w => by kernel_rfl) fun w1 bl hge hb kk => ?_; have q0 := own_empty (base := (BelowTo hall8).heap.size) (size := 2) kk (Nat.le_trans (BelowOf.size hS) hge); have q0l := kk.lt; (try have hne : b1 ≠ bl := (by have := k1.lt; omega)); (try replace k1 := k1.ups hb); replace hS := BelowOf.step hS hb; clear hb hge kk; refine hK _ _ ⟨(fun _ => hS), ?_⟩; clear hK; clear K; refine kt H rfl fun a H => ?_
        refine pt_two (fun K hK => ?_) (fun K hK => ?_)
        · skip
          refine st_a0 rfl ?_; refine wpo_append 22 40 (.tmp 35) (.tmp 38) (BelowTo hall8).heap.size (.agg #[.int .i64 0, .int .i64 0]) 2 16 _ 0 [] A k c (FV encT (M.take k)) (H.ev rfl) (H.ev rfl) Try.underlying22 i40 rfl (by omega) q0 (by rw [FV_len encT_len, List.length_take]; omega) ((hh.up hS).take_fv encT_len k) (FV_one _ _) (by unfold maxLen; omega) (by omega) (BelowOf.size hS) fun v4 w4 q4 hg hv hb2 => ?_; (try replace k1 := Block.grown k1 hg (by simp [Value.ownBlock]; omega)); replace hS := BelowOf.step2 hS hb2; clear hb2 hg hv q0; refine hK _ _ ⟨(fun _ => hS), ?_⟩; clear hK; clear K; refine kt H rfl fun a H => ?_
          refine pt_one (fun K hK => ?_)
          refine st_a0 rfl ?_; refine wpo_litv 22 1 #[(0, .agg #[.int .i64 id, .int .i64 at'])] 40 #[.int .i64 id, .int .i64 at'] (by simp [H.ev (j := 40) rfl]) (fun w => by kernel_rfl) fun w1 b1 hge hb k1 => ?_; (try have hne : b1 ≠ bl := (by omega)); (try replace q0 := own_ups q0 hb); (try replace q4 := own_ups q4 hb); replace hS := BelowOf.step hS hb; clear hb hge; refine hK _ _ ⟨(fun _ => hS), ?_⟩; clear hK; clear K; refine kt H rfl fun a H => ?_
          refine pt_one (fun K hK => ?_)
          refine st_a0 rfl ?_; refine wpo_append 22 40 (.tmp 39) (.tmp 41) (BelowTo hall8).heap.size (.agg #[.int .i64 0, .int .i64 0]) 2 16 v4 _ _ (some ⟨b1, 0, none⟩) 1 1 (FV encT [(id, at')]) (H.ev rfl) (H.ev rfl) Try.underlying22 i40 rfl (by omega) q4 (by rw [FV_len encT_len]; rfl) (block_x k1) (FV_one _ _) (by unfold maxLen; omega) (by omega) (BelowOf.size hS) fun v7 w7 q7 _ _ hb2 => ?_; replace hS := BelowOf.step2 hS hb2; clear hb2 q4 k1; refine hK _ _ ⟨(fun _ => hS), ?_⟩; clear hK; clear K; refine kt H rfl fun a H => ?_
          refine pt_one (fun K hK => ?_)
          refine st_a0 rfl ?_; refine wpo_append 22 40 (.tmp 42) (.tmp 45) (BelowTo hall8).heap.size (.agg #[.int .i64 0, .int .i64 0]) 2 16 v7 _ _ (slAt A c k 2) (M.length - k) (c - k) (FV encT (M.drop k)) (H.ev rfl) (H.ev rfl) Try.underlying22 i40 rfl (by omega) q7 (by rw [FV_len encT_len, List.length_drop]) (rs_src (hh.up hS) hmc k) (FV_one _ _) (by unfold maxLen; omega) (by omega) (BelowOf.size hS) fun v11 w11 q11 _ _ hb2 => ?_; replace hS := BelowOf.step2 hS hb2; clear hb2 q7; refine hK _ _ ⟨(fun _ => hS), ?_⟩; clear hK; clear K; refine kt H rfl fun a H => ?_
          refine pt_f0 _ rfl (fun w' hS' => r_assign (H.ev rfl)) ?_; refine kt H rfl fun a H => ?_
          refine pt_f0 _ rfl (fun w' hS' => r_assign evc) ?_; refine kt H rfl fun a H => ?_
          refine pt_done (NoPanic.normal ?_)
          have hS0 : Below (BelowTo hall8).heap.size (BelowTo hall8) _ := hS
          refine c_next ?_
          refine wp_ret ?_
          exact k_ret2 H rfl rfl rfl ⟨⟨_, by rw [HF.out], by rw [HS.out, ← HI.out]; exact own_base (rs_end hkl q11) hall.size⟩, hall.trans (Below.mono hS0 hall.size)⟩
        · skip
          refine st_a0 rfl ?_; refine wpo_litv 22 1 #[(0, .agg #[.int .i64 id, .int .i64 at'])] 40 #[.int .i64 id, .int .i64 at'] (by simp [H.ev (j := 40) rfl]) (fun w => by kernel_rfl) fun w1 b1 hge hb k1 => ?_; (try have hne : b1 ≠ bl := (by omega)); (try replace q0 := own_ups q0 hb); (try replace q4 := own_ups q4 hb); replace hS := BelowOf.step hS hb; clear hb hge; refine hK _ _ ⟨(fun _ => hS), ?_⟩; clear hK; clear K; refine kt H rfl fun a H => ?_
          refine pt_one (fun K hK => ?_)
          refine st_a0 rfl ?_; refine wpo_append 22 40 (.tmp 35) (.tmp 38) (BelowTo hall8).heap.size (.agg #[.int .i64 0, .int .i64 0]) 2 16 _ 0 [] A k c (FV encT (M.take k)) (H.ev rfl) (H.ev rfl) Try.underlying22 i40 rfl (by omega) q0 (by rw [FV_len encT_len, List.length_take]; omega) ((hh.up hS).take_fv encT_len k) (FV_one _ _) (by unfold maxLen; omega) (by omega) (BelowOf.size hS) fun v4 w4 q4 hg hv hb2 => ?_; (try replace k1 := Block.grown k1 hg (by simp [Value.ownBlock]; omega)); replace hS := BelowOf.step2 hS hb2; clear hb2 hg hv q0; refine hK _ _ ⟨(fun _ => hS), ?_⟩; clear hK; clear K; refine kt H rfl fun a H => ?_
          refine pt_one (fun K hK => ?_)
          refine st_a0 rfl ?_; refine wpo_append 22 40 (.tmp 39) (.tmp 41) (BelowTo hall8).heap.size (.agg #[.int .i64 0, .int .i64 0]) 2 16 v4 _ _ (some ⟨b1, 0, none⟩) 1 1 (FV encT [(id, at')]) (H.ev rfl) (H.ev rfl) Try.underlying22 i40 rfl (by omega) q4 (by rw [FV_len encT_len]; rfl) (block_x k1) (FV_one _ _) (by unfold maxLen; omega) (by omega) (BelowOf.size hS) fun v7 w7 q7 _ _ hb2 => ?_; replace hS := BelowOf.step2 hS hb2; clear hb2 q4 k1; refine hK _ _ ⟨(fun _ => hS), ?_⟩; clear hK; clear K; refine kt H rfl fun a H => ?_
          refine pt_one (fun K hK => ?_)
          refine st_a0 rfl ?_; refine wpo_append 22 40 (.tmp 42) (.tmp 45) (BelowTo hall8).heap.size (.agg #[.int .i64 0, .int .i64 0]) 2 16 v7 _ _ (slAt A c k 2) (M.length - k) (c - k) (FV encT (M.drop k)) (H.ev rfl) (H.ev rfl) Try.underlying22 i40 rfl (by omega) q7 (by rw [FV_len encT_len, List.length_drop]) (rs_src (hh.up hS) hmc k) (FV_one _ _) (by unfold maxLen; omega) (by omega) (BelowOf.size hS) fun v11 w11 q11 _ _ hb2 => ?_; replace hS := BelowOf.step2 hS hb2; clear hb2 q7; refine hK _ _ ⟨(fun _ => hS), ?_⟩; clear hK; clear K; refine kt H rfl fun a H => ?_
          refine pt_f0 _ rfl (fun w' hS' => r_assign (H.ev rfl)) ?_; refine kt H rfl fun a H => ?_
          refine pt_f0 _ rfl (fun w' hS' => r_assign evc) ?_; refine kt H rfl fun a H => ?_
          refine pt_done (NoPanic.normal ?_)
          have hS0 : Below (BelowTo hall8).heap.size (BelowTo hall8) _ := hS
          refine c_next ?_
          refine wp_ret ?_
          exact k_ret2 H rfl rfl rfl ⟨⟨_, by rw [HF.out], by rw [HS.out, ← HI.out]; exact own_base (rs_end hkl q11) hall.size⟩, hall.trans (Below.mono hS0 hall.size)⟩
      · skip
        refine st_a0 rfl ?_; refine wpo_litv 22 1 #[(0, .agg #[.int .i64 id, .int .i64 at'])] 40 #[.int .i64 id, .int .i64 at'] (by simp [H.ev (j := 40) rfl]) (fun w => by kernel_rfl) fun w1 b1 hge hb k1 => ?_; (try have hne : b1 ≠ bl := (by omega)); (try replace q0 := own_ups q0 hb); (try replace q4 := own_ups q4 hb); replace hS := BelowOf.step hS hb; clear hb hge; refine hK _ _ ⟨(fun _ => hS), ?_⟩; clear hK; clear K; refine kt H rfl fun a H => ?_
        refine pt_one (fun K hK => ?_)
        refine st_a0 rfl ?_; refine wpo_litv 22 0 #[] 40 #[] (by simp) (fun w => by kernel_rfl) fun w1 bl hge hb kk => ?_; have q0 := own_empty (base := (BelowTo hall8).heap.size) (size := 2) kk (Nat.le_trans (BelowOf.size hS) hge); have q0l := kk.lt; (try have hne : b1 ≠ bl := (by have := k1.lt; omega)); (try replace k1 := k1.ups hb); replace hS := BelowOf.step hS hb; clear hb hge kk; refine hK _ _ ⟨(fun _ => hS), ?_⟩; clear hK; clear K; refine kt H rfl fun a H => ?_
        refine pt_one (fun K hK => ?_)
        refine st_a0 rfl ?_; refine wpo_append 22 40 (.tmp 35) (.tmp 38) (BelowTo hall8).heap.size (.agg #[.int .i64 0, .int .i64 0]) 2 16 _ 0 [] A k c (FV encT (M.take k)) (H.ev rfl) (H.ev rfl) Try.underlying22 i40 rfl (by omega) q0 (by rw [FV_len encT_len, List.length_take]; omega) ((hh.up hS).take_fv encT_len k) (FV_one _ _) (by unfold maxLen; omega) (by omega) (BelowOf.size hS) fun v4 w4 q4 hg hv hb2 => ?_; (try replace k1 := Block.grown k1 hg (by simp [Value.ownBlock]; omega)); replace hS := BelowOf.step2 hS hb2; clear hb2 hg hv q0; refine hK _ _ ⟨(fun _ => hS), ?_⟩; clear hK; clear K; refine kt H rfl fun a H => ?_
        refine pt_one (fun K hK => ?_)
        refine st_a0 rfl ?_; refine wpo_append 22 40 (.tmp 39) (.tmp 41) (BelowTo hall8).heap.size (.agg #[.int .i64 0, .int .i64 0]) 2 16 v4 _ _ (some ⟨b1, 0, none⟩) 1 1 (FV encT [(id, at')]) (H.ev rfl) (H.ev rfl) Try.underlying22 i40 rfl (by omega) q4 (by rw [FV_len encT_len]; rfl) (block_x k1) (FV_one _ _) (by unfold maxLen; omega) (by omega) (BelowOf.size hS) fun v7 w7 q7 _ _ hb2 => ?_; replace hS := BelowOf.step2 hS hb2; clear hb2 q4 k1; refine hK _ _ ⟨(fun _ => hS), ?_⟩; clear hK; clear K; refine kt H rfl fun a H => ?_
        refine pt_one (fun K hK => ?_)
        refine st_a0 rfl ?_; refine wpo_append 22 40 (.tmp 42) (.tmp 45) (BelowTo hall8).heap.size (.agg #[.int .i64 0, .int .i64 0]) 2 16 v7 _ _ (slAt A c k 2) (M.length - k) (c - k) (FV encT (M.drop k)) (H.ev rfl) (H.ev rfl) Try.underlying22 i40 rfl (by omega) q7 (by rw [FV_len encT_len, List.length_drop]) (rs_src (hh.up hS) hmc k) (FV_one _ _) (by unfold maxLen; omega) (by omega) (BelowOf.size hS) fun v11 w11 q11 _ _ hb2 => ?_; replace hS := BelowOf.step2 hS hb2; clear hb2 q7; refine hK _ _ ⟨(fun _ => hS), ?_⟩; clear hK; clear K; refine kt H rfl fun a H => ?_
        refine pt_f0 _ rfl (fun w' hS' => r_assign (H.ev rfl)) ?_; refine kt H rfl fun a H => ?_
        refine pt_f0 _ rfl (fun w' hS' => r_assign evc) ?_; refine kt H rfl fun a H => ?_
        refine pt_done (NoPanic.normal ?_)
        have hS0 : Below (BelowTo hall8).heap.size (BelowTo hall8) _ := hS
        refine c_next ?_
        refine wp_ret ?_
        exact k_ret2 H rfl rfl rfl ⟨⟨_, by rw [HF.out], by rw [HS.out, ← HI.out]; exact own_base (rs_end hkl q11) hall.size⟩, hall.trans (Below.mono hS0 hall.size)⟩
end Go.Proofs.Ytndpbciefijjcaa
