/- Roster: the document's Right. -/
import Derived.Test.YtfehhenbdiageaaUd
namespace Go.Proofs.Ytfehhenbdiageaa
open Go.RowKit
set_option linter.unusedVariables false
set_option linter.unusedSimpArgs false

def RightL (L : List Tm) : Prop := L.Pairwise Lt ∧ (∀ y ∈ L, okB y = true) ∧ (∀ y ∈ L, manyF L y.1 ≤ 8) ∧ L.length ≤ 64
instance (L : List Tm) : Decidable (RightL L) := by unfold RightL; infer_instance
def rightF (L : List Tm) : Bool := decide (RightL L)
/-- the first k are right, where a count is asked for -/
def OkG (cnt : Nat → Tm → Nat) (L : List Tm) (k : Nat) : Prop := ∀ (j : Nat) (y : Tm), j < k → L[j]? = some y → okB y = true ∧ cnt j y ≤ 8 ∧ ∀ i p, j = i + 1 → L[i]? = some p → Lt p y
theorem prev_ok {L : List Tm} {k j : Nat} {p y : Tm} (hj : k = j + 1) (hp : L[j]? = some p) (h : Lt p y) : ∀ i p, k = i + 1 → L[i]? = some p → Lt p y := by
  intro i p' e hp'
  obtain rfl : i = j := by omega
  rw [hp] at hp'
  injection hp' with hp'
  rw [← hp']; exact h
theorem okg_next {cnt : Nat → Tm → Nat} {L : List Tm} {k : Nat} {y : Tm} (h : OkG cnt L k) (hy : L[k]? = some y) (h1 : okB y = true) (h2 : cnt k y ≤ 8) (h3 : ∀ i p, k = i + 1 → L[i]? = some p → Lt p y) : OkG cnt L (k + 1) := by
  intro j z hj hz
  by_cases e : j = k
  · subst e
    rw [hy] at hz
    injection hz with hz
    subst hz
    exact ⟨h1, h2, h3⟩
  · exact h j z (by omega) hz
theorem sorted_of_steps : ∀ {L : List Tm}, (∀ j p y, L[j]? = some p → L[j + 1]? = some y → Lt p y) → L.Pairwise Lt
  | [], _ => .nil
  | [a], _ => by simp
  | a :: b :: L, h => by
    have ih : (b :: L).Pairwise Lt := sorted_of_steps (L := b :: L) fun j p y hp hy => h (j + 1) p y (by simpa using hp) (by simpa using hy)
    have hab : Lt a b := h 0 a b rfl rfl
    rw [List.pairwise_cons]
    refine ⟨fun y hy => ?_, ih⟩
    rcases List.mem_cons.1 hy with rfl | hy
    · exact hab
    · exact hab.trans ((List.pairwise_cons.1 ih).1 y hy)
theorem right_long {L : List Tm} (h : 64 < L.length) : rightF L = false := by
  unfold rightF
  apply decide_eq_false
  rintro ⟨_, _, _, h4⟩
  omega
/-- counts up to each one suffice -/
theorem many_all {L : List Tm} (h : ∀ (j : Nat) y, L[j]? = some y → manyF (L.take (j + 1)) y.1 ≤ 8) (x : Int) : ∀ k, k ≤ L.length → manyF (L.take k) x ≤ 8
  | 0, _ => by simp [manyF]
  | k + 1, hk => by
    have ih := many_all h x k (by omega)
    have hy : L[k]? = some L[k] := List.getElem?_eq_getElem (by omega)
    by_cases e : L[k].1 = x
    · rw [← e]; exact h k _ hy
    · rw [many_no (m := manyF (L.take k) x) hy e rfl]; exact ih
theorem right_true {cnt : Nat → Tm → Nat} {L : List Tm} (h : OkG cnt L L.length) (hc : ∀ (j : Nat) y, L[j]? = some y → manyF (L.take (j + 1)) y.1 ≤ cnt j y) (hl : L.length ≤ 64) : rightF L = true := by
  unfold rightF
  apply decide_eq_true
  refine ⟨sorted_of_steps fun j p y hp hy => (h (j + 1) y (List.getElem?_eq_some_iff.1 hy).1 hy).2.2 j p rfl hp, fun y hy => ?_, fun y hy => ?_, hl⟩
  · obtain ⟨j, hj, rfl⟩ := List.mem_iff_getElem.1 hy
    exact (h j _ hj (List.getElem?_eq_getElem hj)).1
  · have := many_all (L := L) (fun j y hy => Nat.le_trans (hc j y hy) (h j y (List.getElem?_eq_some_iff.1 hy).1 hy).2.1) y.1 L.length (Nat.le_refl _)
    rwa [List.take_length] at this
theorem many_le (L : List Tm) (k : Nat) (x : Int) : manyF (L.take k) x ≤ manyF L x := List.Sublist.countP_le (List.take_sublist _ _)
theorem right_no {L : List Tm} {k : Nat} {y : Tm} (hy : L[k]? = some y) (h : okB y = false ∨ 8 < manyF L y.1 ∨ ∃ j p, k = j + 1 ∧ L[j]? = some p ∧ ¬ Lt p y) : rightF L = false := by
  unfold rightF
  apply decide_eq_false
  rintro ⟨h1, h2, h3, _⟩
  have hm := List.mem_of_getElem? hy
  rcases h with h | h | ⟨j, p, rfl, hp, hn⟩
  · rw [h2 y hm] at h; cases h
  · have := h3 y hm; omega
  · obtain ⟨hj, rfl⟩ := List.getElem?_eq_some_iff.1 hy
    obtain ⟨hj', rfl⟩ := List.getElem?_eq_some_iff.1 hp
    exact hn (List.pairwise_iff_getElem.1 h1 j (j + 1) hj' hj (by omega))
def SRr (W : World) (bx : Nat) (y : Tm) (w : World) : Prop := Below W.heap.size W w ∧ Block w bx 37 #[.int .i64 y.1, .int .i64 y.2.1, .int .i64 y.2.2]
theorem SRr.up {W w w' : World} {bx : Nat} {y : Tm} (h : SRr W bx y w) (hb : Below w.heap.size w w') : SRr W bx y w' := ⟨h.1.trans (hb.mono h.1.size), h.2.ups hb⟩
def RrI (W : World) (A : Option Addr) (c : Nat) (L : List Tm) (a : Act) (w : World) : Prop :=
  ∃ k : Nat, Kn a 66 [(0, .slice A L.length c), (3, .int .i64 (k : Nat))] ∧ k ≤ L.length ∧ OkG (fun _ y => manyF L y.1) L k ∧ Below W.heap.size W w
set_option maxHeartbeats 4000000 in
theorem rright_any (w : World) (v : Value) (L : List Tm) (h0 : TRow w v L) (hn : L.length ≤ 9223372036854775807) :
    Calls Try.prog 12 #[v] w fun e w' => e = .returned (.bool (rightF L)) ∧ Below w.heap.size w w' := by
  have hall := Below.refl w.heap.size w
  obtain ⟨A, c, rfl, h1, h2, h3, hh⟩ := h0
  have h : Hid (TRow w (.slice A L.length c) L) := Lib.hid ⟨A, c, rfl, h1, h2, h3, hh⟩
  replace hh := Lib.hid hh
  by_cases hlong : ((L.length : Nat) : Int) > 64
  · skip
    refine K_enter 66 Try.func12 rfl rfl fun a H => ?_
    replace H := H.pick [0]
    refine wp_seq ?_
    refine wp_region_lit ?_
    refine wl_v _ (r_assign evc) ?_; refine kl H rfl fun a H => ?_
    refine wpList_nil ?_
    refine c_next ?_
    refine wp_seq ?_
    refine wp_seq ?_
    refine wp_region_lit ?_
    refine wl_v _ (r_move (H.ev rfl)) ?_; refine kl H rfl fun a H => ?_
    refine wl_v _ (r_len Try.underlying22 (H.ev rfl)) ?_; refine kl H rfl fun a H => ?_
    refine wl_v _ (r_gt Try.underlying3 (H.ev rfl) evc (dec_t (hlong))) ?_; refine kl H rfl fun a H => ?_
    refine wpList_nil ?_
    refine c_next ?_
    refine c_cond_t H rfl ?_
    refine wp_seq ?_
    refine wp_region_lit ?_
    refine wl_v _ (r_assign evc) ?_; refine kl H rfl fun a H => ?_
    refine wpList_nil ?_
    refine c_next ?_
    refine wp_ret ?_
    refine r_then ?_
    exact k_ret1 H rfl rfl ⟨by rw [right_long (by omega)], hall⟩
  · skip
    refine K_enter 66 Try.func12 rfl rfl fun a H => ?_
    replace H := H.pick [0]
    refine wp_seq ?_
    refine wp_region_lit ?_
    refine wl_v _ (r_assign evc) ?_; refine kl H rfl fun a H => ?_
    refine wpList_nil ?_
    refine c_next ?_
    refine wp_seq ?_
    refine wp_seq ?_
    refine wp_region_lit ?_
    refine wl_v _ (r_move (H.ev rfl)) ?_; refine kl H rfl fun a H => ?_
    refine wl_v _ (r_len Try.underlying22 (H.ev rfl)) ?_; refine kl H rfl fun a H => ?_
    refine wl_v _ (r_gt Try.underlying3 (H.ev rfl) evc (dec_f (hlong))) ?_; refine kl H rfl fun a H => ?_
    refine wpList_nil ?_
    refine c_next ?_
    refine c_cond_f H rfl ?_
    refine wp_skip ?_
    refine c_next ?_
    refine wp_seq ?_
    refine wp_seq ?_
    refine wp_region_lit ?_
    refine wl_v _ (r_assign evc) ?_; refine kl H rfl fun a H => ?_
    refine wpList_nil ?_
    refine c_next ?_
    refine wp_block ?_
    refine wp_loop (RrI w A c L) (fun a _ => L.length - (intOf (a.eval (.tmp 3))).toNat) ⟨0, H.pick [0, 3], by omega, fun j y hj => by omega, hall⟩ ?_
    clear H hall
    rintro a w' ⟨k, H, hk, hok, hall⟩
    have H0 := H
    by_cases hlt : k < L.length
    · skip
      obtain ⟨b, o, hA, hr⟩ := flat_some encT_len hh.out (by omega) hlt
      subst hA
      have hy : L[k]? = some L[k] := List.getElem?_eq_getElem hlt
      have HY := Lib.hid hy
      have HRG := Lib.hid hr
      generalize L[k] = y at *
      clear hy hr
      refine wp_seq ?_
      refine wp_seq ?_
      refine wp_region_lit ?_
      refine wl_v _ (r_move (H.ev rfl)) ?_; refine kl H rfl fun a H => ?_
      refine wl_v _ (r_move (H.ev rfl)) ?_; refine kl H rfl fun a H => ?_
      refine wl_v _ (r_len Try.underlying22 (H.ev rfl)) ?_; refine kl H rfl fun a H => ?_
      refine wl_v _ (r_lt Try.underlying3 (H.ev rfl) (H.ev rfl) (dec_t (by omega))) ?_; refine kl H rfl fun a H => ?_
      refine wpList_nil ?_
      refine c_next ?_
      refine c_cond_t H rfl ?_
      refine wp_skip ?_
      refine c_next ?_
      refine wp_seq ?_
      refine wp_block ?_
      refine wp_seq ?_
      refine wp_region_lit ?_
      refine wl_v _ (r_move (H.ev rfl)) ?_; refine kl H rfl fun a H => ?_
      refine wl_v _ (r_move (H.ev rfl)) ?_; refine kl H rfl fun a H => ?_
      refine wl_v _ (r_idx (j := k) (q := o + k * 3) Try.underlying22 s37 (H.ev rfl) (H.ev rfl) (by omega) rfl) ?_; refine kl H rfl fun a H => ?_
      refine wl_v _ (r_row (cs := [.int .i64 y.1, .int .i64 y.2.1, .int .i64 y.2.2]) (H.ev rfl) (range_ups HRG.out hall) (by kernel_rfl) s37 rfl) ?_; refine kl H rfl fun a H => ?_
      refine op_new 37 4 (.tmp 17) #[.int .i64 y.1, .int .i64 y.2.1, .int .i64 y.2.2] _ z37 s37 rfl (ints_one [y.1, y.2.1, y.2.2]) (fun p => (H.put 4 p rfl).ev rfl) (fun p => (H.put 4 p rfl).ev rfl) fun w0 b0 hge hb k0 => ?_; have g0 := Nat.le_trans hall.size hge; replace hall := hall.trans (hb.mono hall.size); clear hb; clear hge; refine kl H rfl fun a H => ?_
      refine wpList_nil ?_
      refine c_next ?_
      refine wp_seq ?_
      obtain ⟨u1, hu1⟩ : ∃ u1, userB y.1 = u1 := ⟨_, rfl⟩
      obtain ⟨u2, hu2⟩ : ∃ u2, userB y.2.1 = u2 := ⟨_, rfl⟩
      obtain ⟨m, hm⟩ : ∃ m, manyF L y.1 = m := ⟨_, rfl⟩
      have HU1 := Lib.hid hu1
      have HU2 := Lib.hid hu2
      have HM := Lib.hid hm
      clear hu1 hu2 hm
      by_cases h0 : k = 0
      · skip
        cases u1
        · skip
          cases u2
          · skip
            have hS : SRr w b0 y _ := ⟨hall.drew, k0⟩
            refine region_pi (SRr w b0 y) [(0, true), (1, true), (2, false), (3, true), (4, true), (5, true), (6, true), (7, false), (8, true), (9, true), (10, true), (11, true), (12, true), (13, true), (14, true), (15, true), (16, true), (17, true), (18, true), (19, true), (20, true), (21, true), (22, true), (23, true), (24, true), (25, true), (26, true), (27, true), (28, true), (29, true), (30, true), (31, false), (32, true), (33, true), (34, true), (35, true), (36, true), (37, true), (38, true), (39, true), (40, true), (41, true), (42, true), (43, true), (44, false), (45, true), (46, true), (47, true)] (by kernel_rfl) (by kernel_rfl) rfl (by kernel_rfl) hS ?_
            clear hall k0
            refine pi_f0 _ rfl (fun w' hS' => r_fld (q := 0) fld37_0 (H.ev rfl) rfl) ?_; refine kp H rfl fun a H => ?_
            refine pi_f0 _ rfl (fun w' hS' => r_ld Try.underlying3 rfl (H.ev rfl) ((Block.cell (hS'.2) 0).trans rfl)) ?_; refine kp H rfl fun a H => ?_
            refine pi_a0 rfl (fun K hK => ?_); refine wpo_call _ _ _ (ruser_any _ _) (r_call1 cf27 (H.ev rfl)) ?_; rintro e w9 ⟨rfl, rfl⟩; refine ⟨_, rfl, ?_⟩; rw [HU1.out]; skip; refine hK _ _ ⟨hS, ?_⟩; clear hK; clear K; refine kp H rfl fun a H => ?_
            refine pi_f0 _ rfl (fun w' hS' => r_not (H.ev rfl) rfl) ?_; refine kp H rfl fun a H => ?_
            refine pi_f0 _ rfl (fun w' hS' => r_move (H.ev rfl)) ?_; refine kp H rfl fun a H => ?_
            refine pi_s1 rfl rfl rfl (H.ev rfl) ?_; refine kp H rfl fun a H => ?_
            refine pi_s1 rfl rfl rfl (H.ev rfl) ?_; refine kp H rfl fun a H => ?_
            refine pi_s1 rfl rfl rfl (H.ev rfl) ?_; refine kp H rfl fun a H => ?_
            refine pi_s1 rfl rfl rfl (H.ev rfl) ?_; refine kp H rfl fun a H => ?_
            refine pi_f0 _ rfl (fun w' hS' => r_pick_t (H.ev rfl) evc) ?_; refine kp H rfl fun a H => ?_
            refine pi_f0 _ rfl (fun w' hS' => r_move (H.ev rfl)) ?_; refine kp H rfl fun a H => ?_
            refine pi_s1 rfl rfl rfl (H.ev rfl) ?_; refine kp H rfl fun a H => ?_
            refine pi_s1 rfl rfl rfl (H.ev rfl) ?_; refine kp H rfl fun a H => ?_
            refine pi_s1 rfl rfl rfl (H.ev rfl) ?_; refine kp H rfl fun a H => ?_
            refine pi_s1 rfl rfl rfl (H.ev rfl) ?_; refine kp H rfl fun a H => ?_
            refine pi_s1 rfl rfl rfl (H.ev rfl) ?_; refine kp H rfl fun a H => ?_
            refine pi_f0 _ rfl (fun w' hS' => r_pick_t (H.ev rfl) evc) ?_; refine kp H rfl fun a H => ?_
            refine pi_f0 _ rfl (fun w' hS' => r_move (H.ev rfl)) ?_; refine kp H rfl fun a H => ?_
            refine pi_s1 rfl rfl rfl (H.ev rfl) ?_; refine kp H rfl fun a H => ?_
            refine pi_s1 rfl rfl rfl (H.ev rfl) ?_; refine kp H rfl fun a H => ?_
            refine pi_s1 rfl rfl rfl (H.ev rfl) ?_; refine kp H rfl fun a H => ?_
            refine pi_f0 _ rfl (fun w' hS' => r_pick_t (H.ev rfl) evc) ?_; refine kp H rfl fun a H => ?_
            refine pi_f0 _ rfl (fun w' hS' => r_move (H.ev rfl)) ?_; refine kp H rfl fun a H => ?_
            refine pi_s1 rfl rfl rfl (H.ev rfl) ?_; refine kp H rfl fun a H => ?_
            refine pi_s1 rfl rfl rfl (H.ev rfl) ?_; refine kp H rfl fun a H => ?_
            refine pi_s1 rfl rfl rfl (H.ev rfl) ?_; refine kp H rfl fun a H => ?_
            refine pi_f0 _ rfl (fun w' hS' => r_pick_t (H.ev rfl) evc) ?_; refine kp H rfl fun a H => ?_
            refine pi_f0 _ rfl (fun w' hS' => r_move (H.ev rfl)) ?_; refine kp H rfl fun a H => ?_
            refine pi_s1 rfl rfl rfl (H.ev rfl) ?_; refine kp H rfl fun a H => ?_
            refine pi_s1 rfl rfl rfl (H.ev rfl) ?_; refine kp H rfl fun a H => ?_
            refine pi_s1 rfl rfl rfl (H.ev rfl) ?_; refine kp H rfl fun a H => ?_
            refine pi_s1 rfl rfl rfl (H.ev rfl) ?_; refine kp H rfl fun a H => ?_
            refine pi_s1 rfl rfl rfl (H.ev rfl) ?_; refine kp H rfl fun a H => ?_
            refine pi_f0 _ rfl (fun w' hS' => r_pick_t (H.ev rfl) evc) ?_; refine kp H rfl fun a H => ?_
            refine pi_f0 _ rfl (fun w' hS' => r_move (H.ev rfl)) ?_; refine kp H rfl fun a H => ?_
            refine pi_s1 rfl rfl rfl (H.ev rfl) ?_; refine kp H rfl fun a H => ?_
            refine pi_s1 rfl rfl rfl (H.ev rfl) ?_; refine kp H rfl fun a H => ?_
            refine pi_s1 rfl rfl rfl (H.ev rfl) ?_; refine kp H rfl fun a H => ?_
            refine pi_s2 rfl rfl rfl (H.ev rfl) ?_; refine kp H rfl fun a H => ?_
            refine pi_s2 rfl rfl rfl (H.ev rfl) ?_; refine kp H rfl fun a H => ?_
            refine pi_s2 rfl rfl rfl (H.ev rfl) ?_; refine kp H rfl fun a H => ?_
            refine pi_s2 rfl rfl rfl (H.ev rfl) ?_; refine kp H rfl fun a H => ?_
            refine pi_s2 rfl rfl rfl (H.ev rfl) ?_; refine kp H rfl fun a H => ?_
            refine pi_s2 rfl rfl rfl (H.ev rfl) ?_; refine kp H rfl fun a H => ?_
            refine pi_s2 rfl rfl rfl (H.ev rfl) ?_; refine kp H rfl fun a H => ?_
            refine pi_s2 rfl rfl rfl (H.ev rfl) ?_; refine kp H rfl fun a H => ?_
            refine pi_s1 rfl rfl rfl (H.ev rfl) ?_; refine kp H rfl fun a H => ?_
            refine pi_f0 _ rfl (fun w' hS' => r_pick_t (H.ev rfl) evc) ?_; refine kp H rfl fun a H => ?_
            refine pi_nil (NoPanic.normal ?_)
            have hall := hS.1
            clear hS
            refine c_next ?_
            refine c_cond_t H rfl ?_
            refine wp_seq ?_
            refine wp_region_lit ?_
            refine wl_v _ (r_assign evc) ?_; refine kl H rfl fun a H => ?_
            refine wpList_nil ?_
            refine c_next ?_
            refine wp_ret ?_
            refine r_block ?_
            refine r_then ?_
            refine r_then ?_
            refine r_block ?_
            refine r_then ?_
            exact k_ret1 H rfl rfl ⟨by rw [right_no HY.out (by first | exact .inl (ok_f (.inl HU1.out)) | exact .inl (ok_f (.inr (.inl HU2.out))) | exact .inl (ok_f (.inr (.inr (by omega)))) | exact .inr (.inl (by rw [HM.out]; omega)) | exact .inr (.inr ⟨j, p, HJ.out, HPY.out, of_decide_eq_false HLS.out⟩))], hall⟩
          · skip
            have hS : SRr w b0 y _ := ⟨hall.drew, k0⟩
            refine region_pi (SRr w b0 y) [(0, true), (1, true), (2, false), (3, true), (4, true), (5, true), (6, true), (7, false), (8, true), (9, true), (10, true), (11, true), (12, true), (13, true), (14, true), (15, true), (16, true), (17, true), (18, true), (19, true), (20, true), (21, true), (22, true), (23, true), (24, true), (25, true), (26, true), (27, true), (28, true), (29, true), (30, true), (31, false), (32, true), (33, true), (34, true), (35, true), (36, true), (37, true), (38, true), (39, true), (40, true), (41, true), (42, true), (43, true), (44, false), (45, true), (46, true), (47, true)] (by kernel_rfl) (by kernel_rfl) rfl (by kernel_rfl) hS ?_
            clear hall k0
            refine pi_f0 _ rfl (fun w' hS' => r_fld (q := 0) fld37_0 (H.ev rfl) rfl) ?_; refine kp H rfl fun a H => ?_
            refine pi_f0 _ rfl (fun w' hS' => r_ld Try.underlying3 rfl (H.ev rfl) ((Block.cell (hS'.2) 0).trans rfl)) ?_; refine kp H rfl fun a H => ?_
            refine pi_a0 rfl (fun K hK => ?_); refine wpo_call _ _ _ (ruser_any _ _) (r_call1 cf27 (H.ev rfl)) ?_; rintro e w9 ⟨rfl, rfl⟩; refine ⟨_, rfl, ?_⟩; rw [HU1.out]; skip; refine hK _ _ ⟨hS, ?_⟩; clear hK; clear K; refine kp H rfl fun a H => ?_
            refine pi_f0 _ rfl (fun w' hS' => r_not (H.ev rfl) rfl) ?_; refine kp H rfl fun a H => ?_
            refine pi_f0 _ rfl (fun w' hS' => r_move (H.ev rfl)) ?_; refine kp H rfl fun a H => ?_
            refine pi_s1 rfl rfl rfl (H.ev rfl) ?_; refine kp H rfl fun a H => ?_
            refine pi_s1 rfl rfl rfl (H.ev rfl) ?_; refine kp H rfl fun a H => ?_
            refine pi_s1 rfl rfl rfl (H.ev rfl) ?_; refine kp H rfl fun a H => ?_
            refine pi_s1 rfl rfl rfl (H.ev rfl) ?_; refine kp H rfl fun a H => ?_
            refine pi_f0 _ rfl (fun w' hS' => r_pick_t (H.ev rfl) evc) ?_; refine kp H rfl fun a H => ?_
            refine pi_f0 _ rfl (fun w' hS' => r_move (H.ev rfl)) ?_; refine kp H rfl fun a H => ?_
            refine pi_s1 rfl rfl rfl (H.ev rfl) ?_; refine kp H rfl fun a H => ?_
            refine pi_s1 rfl rfl rfl (H.ev rfl) ?_; refine kp H rfl fun a H => ?_
            refine pi_s1 rfl rfl rfl (H.ev rfl) ?_; refine kp H rfl fun a H => ?_
            refine pi_s1 rfl rfl rfl (H.ev rfl) ?_; refine kp H rfl fun a H => ?_
            refine pi_s1 rfl rfl rfl (H.ev rfl) ?_; refine kp H rfl fun a H => ?_
            refine pi_f0 _ rfl (fun w' hS' => r_pick_t (H.ev rfl) evc) ?_; refine kp H rfl fun a H => ?_
            refine pi_f0 _ rfl (fun w' hS' => r_move (H.ev rfl)) ?_; refine kp H rfl fun a H => ?_
            refine pi_s1 rfl rfl rfl (H.ev rfl) ?_; refine kp H rfl fun a H => ?_
            refine pi_s1 rfl rfl rfl (H.ev rfl) ?_; refine kp H rfl fun a H => ?_
            refine pi_s1 rfl rfl rfl (H.ev rfl) ?_; refine kp H rfl fun a H => ?_
            refine pi_f0 _ rfl (fun w' hS' => r_pick_t (H.ev rfl) evc) ?_; refine kp H rfl fun a H => ?_
            refine pi_f0 _ rfl (fun w' hS' => r_move (H.ev rfl)) ?_; refine kp H rfl fun a H => ?_
            refine pi_s1 rfl rfl rfl (H.ev rfl) ?_; refine kp H rfl fun a H => ?_
            refine pi_s1 rfl rfl rfl (H.ev rfl) ?_; refine kp H rfl fun a H => ?_
            refine pi_s1 rfl rfl rfl (H.ev rfl) ?_; refine kp H rfl fun a H => ?_
            refine pi_f0 _ rfl (fun w' hS' => r_pick_t (H.ev rfl) evc) ?_; refine kp H rfl fun a H => ?_
            refine pi_f0 _ rfl (fun w' hS' => r_move (H.ev rfl)) ?_; refine kp H rfl fun a H => ?_
            refine pi_s1 rfl rfl rfl (H.ev rfl) ?_; refine kp H rfl fun a H => ?_
            refine pi_s1 rfl rfl rfl (H.ev rfl) ?_; refine kp H rfl fun a H => ?_
            refine pi_s1 rfl rfl rfl (H.ev rfl) ?_; refine kp H rfl fun a H => ?_
            refine pi_s1 rfl rfl rfl (H.ev rfl) ?_; refine kp H rfl fun a H => ?_
            refine pi_s1 rfl rfl rfl (H.ev rfl) ?_; refine kp H rfl fun a H => ?_
            refine pi_f0 _ rfl (fun w' hS' => r_pick_t (H.ev rfl) evc) ?_; refine kp H rfl fun a H => ?_
            refine pi_f0 _ rfl (fun w' hS' => r_move (H.ev rfl)) ?_; refine kp H rfl fun a H => ?_
            refine pi_s1 rfl rfl rfl (H.ev rfl) ?_; refine kp H rfl fun a H => ?_
            refine pi_s1 rfl rfl rfl (H.ev rfl) ?_; refine kp H rfl fun a H => ?_
            refine pi_s1 rfl rfl rfl (H.ev rfl) ?_; refine kp H rfl fun a H => ?_
            refine pi_s2 rfl rfl rfl (H.ev rfl) ?_; refine kp H rfl fun a H => ?_
            refine pi_s2 rfl rfl rfl (H.ev rfl) ?_; refine kp H rfl fun a H => ?_
            refine pi_s2 rfl rfl rfl (H.ev rfl) ?_; refine kp H rfl fun a H => ?_
            refine pi_s2 rfl rfl rfl (H.ev rfl) ?_; refine kp H rfl fun a H => ?_
            refine pi_s2 rfl rfl rfl (H.ev rfl) ?_; refine kp H rfl fun a H => ?_
            refine pi_s2 rfl rfl rfl (H.ev rfl) ?_; refine kp H rfl fun a H => ?_
            refine pi_s2 rfl rfl rfl (H.ev rfl) ?_; refine kp H rfl fun a H => ?_
            refine pi_s2 rfl rfl rfl (H.ev rfl) ?_; refine kp H rfl fun a H => ?_
            refine pi_s1 rfl rfl rfl (H.ev rfl) ?_; refine kp H rfl fun a H => ?_
            refine pi_f0 _ rfl (fun w' hS' => r_pick_t (H.ev rfl) evc) ?_; refine kp H rfl fun a H => ?_
            refine pi_nil (NoPanic.normal ?_)
            have hall := hS.1
            clear hS
            refine c_next ?_
            refine c_cond_t H rfl ?_
            refine wp_seq ?_
            refine wp_region_lit ?_
            refine wl_v _ (r_assign evc) ?_; refine kl H rfl fun a H => ?_
            refine wpList_nil ?_
            refine c_next ?_
            refine wp_ret ?_
            refine r_block ?_
            refine r_then ?_
            refine r_then ?_
            refine r_block ?_
            refine r_then ?_
            exact k_ret1 H rfl rfl ⟨by rw [right_no HY.out (by first | exact .inl (ok_f (.inl HU1.out)) | exact .inl (ok_f (.inr (.inl HU2.out))) | exact .inl (ok_f (.inr (.inr (by omega)))) | exact .inr (.inl (by rw [HM.out]; omega)) | exact .inr (.inr ⟨j, p, HJ.out, HPY.out, of_decide_eq_false HLS.out⟩))], hall⟩
        · skip
          cases u2
          · skip
            have hS : SRr w b0 y _ := ⟨hall.drew, k0⟩
            refine region_pi (SRr w b0 y) [(0, true), (1, true), (2, false), (3, true), (4, true), (5, true), (6, true), (7, false), (8, true), (9, true), (10, true), (11, true), (12, true), (13, true), (14, true), (15, true), (16, true), (17, true), (18, true), (19, true), (20, true), (21, true), (22, true), (23, true), (24, true), (25, true), (26, true), (27, true), (28, true), (29, true), (30, true), (31, false), (32, true), (33, true), (34, true), (35, true), (36, true), (37, true), (38, true), (39, true), (40, true), (41, true), (42, true), (43, true), (44, false), (45, true), (46, true), (47, true)] (by kernel_rfl) (by kernel_rfl) rfl (by kernel_rfl) hS ?_
            clear hall k0
            refine pi_f0 _ rfl (fun w' hS' => r_fld (q := 0) fld37_0 (H.ev rfl) rfl) ?_; refine kp H rfl fun a H => ?_
            refine pi_f0 _ rfl (fun w' hS' => r_ld Try.underlying3 rfl (H.ev rfl) ((Block.cell (hS'.2) 0).trans rfl)) ?_; refine kp H rfl fun a H => ?_
            refine pi_a0 rfl (fun K hK => ?_); refine wpo_call _ _ _ (ruser_any _ _) (r_call1 cf27 (H.ev rfl)) ?_; rintro e w9 ⟨rfl, rfl⟩; refine ⟨_, rfl, ?_⟩; rw [HU1.out]; skip; refine hK _ _ ⟨hS, ?_⟩; clear hK; clear K; refine kp H rfl fun a H => ?_
            refine pi_f0 _ rfl (fun w' hS' => r_not (H.ev rfl) rfl) ?_; refine kp H rfl fun a H => ?_
            refine pi_f0 _ rfl (fun w' hS' => r_move (H.ev rfl)) ?_; refine kp H rfl fun a H => ?_
            refine pi_f1 _ rfl rfl rfl (H.ev rfl) (fun w' hS' => r_fld (q := 1) fld37_1 (H.ev rfl) rfl) ?_; refine kp H rfl fun a H => ?_
            refine pi_f1 _ rfl rfl rfl (H.ev rfl) (fun w' hS' => r_ld Try.underlying3 rfl (H.ev rfl) ((Block.cell (hS'.2) 1).trans rfl)) ?_; refine kp H rfl fun a H => ?_
            refine pi_a1 rfl rfl rfl (H.ev rfl) (fun K hK => ?_); refine wpo_call _ _ _ (ruser_any _ _) (r_call1 cf27 (H.ev rfl)) ?_; rintro e w9 ⟨rfl, rfl⟩; refine ⟨_, rfl, ?_⟩; rw [HU2.out]; skip; refine hK _ _ ⟨hS, ?_⟩; clear hK; clear K; refine kp H rfl fun a H => ?_
            refine pi_f1 _ rfl rfl rfl (H.ev rfl) (fun w' hS' => r_not (H.ev rfl) rfl) ?_; refine kp H rfl fun a H => ?_
            refine pi_f0 _ rfl (fun w' hS' => r_pick_f (H.ev rfl) (H.ev rfl)) ?_; refine kp H rfl fun a H => ?_
            refine pi_f0 _ rfl (fun w' hS' => r_move (H.ev rfl)) ?_; refine kp H rfl fun a H => ?_
            refine pi_s1 rfl rfl rfl (H.ev rfl) ?_; refine kp H rfl fun a H => ?_
            refine pi_s1 rfl rfl rfl (H.ev rfl) ?_; refine kp H rfl fun a H => ?_
            refine pi_s1 rfl rfl rfl (H.ev rfl) ?_; refine kp H rfl fun a H => ?_
            refine pi_s1 rfl rfl rfl (H.ev rfl) ?_; refine kp H rfl fun a H => ?_
            refine pi_s1 rfl rfl rfl (H.ev rfl) ?_; refine kp H rfl fun a H => ?_
            refine pi_f0 _ rfl (fun w' hS' => r_pick_t (H.ev rfl) evc) ?_; refine kp H rfl fun a H => ?_
            refine pi_f0 _ rfl (fun w' hS' => r_move (H.ev rfl)) ?_; refine kp H rfl fun a H => ?_
            refine pi_s1 rfl rfl rfl (H.ev rfl) ?_; refine kp H rfl fun a H => ?_
            refine pi_s1 rfl rfl rfl (H.ev rfl) ?_; refine kp H rfl fun a H => ?_
            refine pi_s1 rfl rfl rfl (H.ev rfl) ?_; refine kp H rfl fun a H => ?_
            refine pi_f0 _ rfl (fun w' hS' => r_pick_t (H.ev rfl) evc) ?_; refine kp H rfl fun a H => ?_
            refine pi_f0 _ rfl (fun w' hS' => r_move (H.ev rfl)) ?_; refine kp H rfl fun a H => ?_
            refine pi_s1 rfl rfl rfl (H.ev rfl) ?_; refine kp H rfl fun a H => ?_
            refine pi_s1 rfl rfl rfl (H.ev rfl) ?_; refine kp H rfl fun a H => ?_
            refine pi_s1 rfl rfl rfl (H.ev rfl) ?_; refine kp H rfl fun a H => ?_
            refine pi_f0 _ rfl (fun w' hS' => r_pick_t (H.ev rfl) evc) ?_; refine kp H rfl fun a H => ?_
            refine pi_f0 _ rfl (fun w' hS' => r_move (H.ev rfl)) ?_; refine kp H rfl fun a H => ?_
            refine pi_s1 rfl rfl rfl (H.ev rfl) ?_; refine kp H rfl fun a H => ?_
            refine pi_s1 rfl rfl rfl (H.ev rfl) ?_; refine kp H rfl fun a H => ?_
            refine pi_s1 rfl rfl rfl (H.ev rfl) ?_; refine kp H rfl fun a H => ?_
            refine pi_s1 rfl rfl rfl (H.ev rfl) ?_; refine kp H rfl fun a H => ?_
            refine pi_s1 rfl rfl rfl (H.ev rfl) ?_; refine kp H rfl fun a H => ?_
            refine pi_f0 _ rfl (fun w' hS' => r_pick_t (H.ev rfl) evc) ?_; refine kp H rfl fun a H => ?_
            refine pi_f0 _ rfl (fun w' hS' => r_move (H.ev rfl)) ?_; refine kp H rfl fun a H => ?_
            refine pi_s1 rfl rfl rfl (H.ev rfl) ?_; refine kp H rfl fun a H => ?_
            refine pi_s1 rfl rfl rfl (H.ev rfl) ?_; refine kp H rfl fun a H => ?_
            refine pi_s1 rfl rfl rfl (H.ev rfl) ?_; refine kp H rfl fun a H => ?_
            refine pi_s2 rfl rfl rfl (H.ev rfl) ?_; refine kp H rfl fun a H => ?_
            refine pi_s2 rfl rfl rfl (H.ev rfl) ?_; refine kp H rfl fun a H => ?_
            refine pi_s2 rfl rfl rfl (H.ev rfl) ?_; refine kp H rfl fun a H => ?_
            refine pi_s2 rfl rfl rfl (H.ev rfl) ?_; refine kp H rfl fun a H => ?_
            refine pi_s2 rfl rfl rfl (H.ev rfl) ?_; refine kp H rfl fun a H => ?_
            refine pi_s2 rfl rfl rfl (H.ev rfl) ?_; refine kp H rfl fun a H => ?_
            refine pi_s2 rfl rfl rfl (H.ev rfl) ?_; refine kp H rfl fun a H => ?_
            refine pi_s2 rfl rfl rfl (H.ev rfl) ?_; refine kp H rfl fun a H => ?_
            refine pi_s1 rfl rfl rfl (H.ev rfl) ?_; refine kp H rfl fun a H => ?_
            refine pi_f0 _ rfl (fun w' hS' => r_pick_t (H.ev rfl) evc) ?_; refine kp H rfl fun a H => ?_
            refine pi_nil (NoPanic.normal ?_)
            have hall := hS.1
            clear hS
            refine c_next ?_
            refine c_cond_t H rfl ?_
            refine wp_seq ?_
            refine wp_region_lit ?_
            refine wl_v _ (r_assign evc) ?_; refine kl H rfl fun a H => ?_
            refine wpList_nil ?_
            refine c_next ?_
            refine wp_ret ?_
            refine r_block ?_
            refine r_then ?_
            refine r_then ?_
            refine r_block ?_
            refine r_then ?_
            exact k_ret1 H rfl rfl ⟨by rw [right_no HY.out (by first | exact .inl (ok_f (.inl HU1.out)) | exact .inl (ok_f (.inr (.inl HU2.out))) | exact .inl (ok_f (.inr (.inr (by omega)))) | exact .inr (.inl (by rw [HM.out]; omega)) | exact .inr (.inr ⟨j, p, HJ.out, HPY.out, of_decide_eq_false HLS.out⟩))], hall⟩
          · skip
            have hS : SRr w b0 y _ := ⟨hall.drew, k0⟩
            refine region_pi (SRr w b0 y) [(0, true), (1, true), (2, false), (3, true), (4, true), (5, true), (6, true), (7, false), (8, true), (9, true), (10, true), (11, true), (12, true), (13, true), (14, true), (15, true), (16, true), (17, true), (18, true), (19, true), (20, true), (21, true), (22, true), (23, true), (24, true), (25, true), (26, true), (27, true), (28, true), (29, true), (30, true), (31, false), (32, true), (33, true), (34, true), (35, true), (36, true), (37, true), (38, true), (39, true), (40, true), (41, true), (42, true), (43, true), (44, false), (45, true), (46, true), (47, true)] (by kernel_rfl) (by kernel_rfl) rfl (by kernel_rfl) hS ?_
            clear hall k0
            refine pi_f0 _ rfl (fun w' hS' => r_fld (q := 0) fld37_0 (H.ev rfl) rfl) ?_; refine kp H rfl fun a H => ?_
            refine pi_f0 _ rfl (fun w' hS' => r_ld Try.underlying3 rfl (H.ev rfl) ((Block.cell (hS'.2) 0).trans rfl)) ?_; refine kp H rfl fun a H => ?_
            refine pi_a0 rfl (fun K hK => ?_); refine wpo_call _ _ _ (ruser_any _ _) (r_call1 cf27 (H.ev rfl)) ?_; rintro e w9 ⟨rfl, rfl⟩; refine ⟨_, rfl, ?_⟩; rw [HU1.out]; skip; refine hK _ _ ⟨hS, ?_⟩; clear hK; clear K; refine kp H rfl fun a H => ?_
            refine pi_f0 _ rfl (fun w' hS' => r_not (H.ev rfl) rfl) ?_; refine kp H rfl fun a H => ?_
            refine pi_f0 _ rfl (fun w' hS' => r_move (H.ev rfl)) ?_; refine kp H rfl fun a H => ?_
            refine pi_f1 _ rfl rfl rfl (H.ev rfl) (fun w' hS' => r_fld (q := 1) fld37_1 (H.ev rfl) rfl) ?_; refine kp H rfl fun a H => ?_
            refine pi_f1 _ rfl rfl rfl (H.ev rfl) (fun w' hS' => r_ld Try.underlying3 rfl (H.ev rfl) ((Block.cell (hS'.2) 1).trans rfl)) ?_; refine kp H rfl fun a H => ?_
            refine pi_a1 rfl rfl rfl (H.ev rfl) (fun K hK => ?_); refine wpo_call _ _ _ (ruser_any _ _) (r_call1 cf27 (H.ev rfl)) ?_; rintro e w9 ⟨rfl, rfl⟩; refine ⟨_, rfl, ?_⟩; rw [HU2.out]; skip; refine hK _ _ ⟨hS, ?_⟩; clear hK; clear K; refine kp H rfl fun a H => ?_
            refine pi_f1 _ rfl rfl rfl (H.ev rfl) (fun w' hS' => r_not (H.ev rfl) rfl) ?_; refine kp H rfl fun a H => ?_
            refine pi_f0 _ rfl (fun w' hS' => r_pick_f (H.ev rfl) (H.ev rfl)) ?_; refine kp H rfl fun a H => ?_
            refine pi_f0 _ rfl (fun w' hS' => r_move (H.ev rfl)) ?_; refine kp H rfl fun a H => ?_
            refine pi_f1 _ rfl rfl rfl (H.ev rfl) (fun w' hS' => r_fld (q := 0) fld37_0 (H.ev rfl) rfl) ?_; refine kp H rfl fun a H => ?_
            refine pi_f1 _ rfl rfl rfl (H.ev rfl) (fun w' hS' => r_ld Try.underlying3 rfl (H.ev rfl) ((Block.cell (hS'.2) 0).trans rfl)) ?_; refine kp H rfl fun a H => ?_
            refine pi_f1 _ rfl rfl rfl (H.ev rfl) (fun w' hS' => r_fld (q := 1) fld37_1 (H.ev rfl) rfl) ?_; refine kp H rfl fun a H => ?_
            refine pi_f1 _ rfl rfl rfl (H.ev rfl) (fun w' hS' => r_ld Try.underlying3 rfl (H.ev rfl) ((Block.cell (hS'.2) 1).trans rfl)) ?_; refine kp H rfl fun a H => ?_
            by_cases c0 : y.1 = y.2.1
            · skip
              refine pi_f1 _ rfl rfl rfl (H.ev rfl) (fun w' hS' => r_eq Try.underlying3 (H.ev rfl) (H.ev rfl) (dec_t (c0))) ?_; refine kp H rfl fun a H => ?_
              refine pi_f0 _ rfl (fun w' hS' => r_pick_f (H.ev rfl) (H.ev rfl)) ?_; refine kp H rfl fun a H => ?_
              refine pi_f0 _ rfl (fun w' hS' => r_move (H.ev rfl)) ?_; refine kp H rfl fun a H => ?_
              refine pi_s1 rfl rfl rfl (H.ev rfl) ?_; refine kp H rfl fun a H => ?_
              refine pi_s1 rfl rfl rfl (H.ev rfl) ?_; refine kp H rfl fun a H => ?_
              refine pi_s1 rfl rfl rfl (H.ev rfl) ?_; refine kp H rfl fun a H => ?_
              refine pi_f0 _ rfl (fun w' hS' => r_pick_t (H.ev rfl) evc) ?_; refine kp H rfl fun a H => ?_
              refine pi_f0 _ rfl (fun w' hS' => r_move (H.ev rfl)) ?_; refine kp H rfl fun a H => ?_
              refine pi_s1 rfl rfl rfl (H.ev rfl) ?_; refine kp H rfl fun a H => ?_
              refine pi_s1 rfl rfl rfl (H.ev rfl) ?_; refine kp H rfl fun a H => ?_
              refine pi_s1 rfl rfl rfl (H.ev rfl) ?_; refine kp H rfl fun a H => ?_
              refine pi_f0 _ rfl (fun w' hS' => r_pick_t (H.ev rfl) evc) ?_; refine kp H rfl fun a H => ?_
              refine pi_f0 _ rfl (fun w' hS' => r_move (H.ev rfl)) ?_; refine kp H rfl fun a H => ?_
              refine pi_s1 rfl rfl rfl (H.ev rfl) ?_; refine kp H rfl fun a H => ?_
              refine pi_s1 rfl rfl rfl (H.ev rfl) ?_; refine kp H rfl fun a H => ?_
              refine pi_s1 rfl rfl rfl (H.ev rfl) ?_; refine kp H rfl fun a H => ?_
              refine pi_s1 rfl rfl rfl (H.ev rfl) ?_; refine kp H rfl fun a H => ?_
              refine pi_s1 rfl rfl rfl (H.ev rfl) ?_; refine kp H rfl fun a H => ?_
              refine pi_f0 _ rfl (fun w' hS' => r_pick_t (H.ev rfl) evc) ?_; refine kp H rfl fun a H => ?_
              refine pi_f0 _ rfl (fun w' hS' => r_move (H.ev rfl)) ?_; refine kp H rfl fun a H => ?_
              refine pi_s1 rfl rfl rfl (H.ev rfl) ?_; refine kp H rfl fun a H => ?_
              refine pi_s1 rfl rfl rfl (H.ev rfl) ?_; refine kp H rfl fun a H => ?_
              refine pi_s1 rfl rfl rfl (H.ev rfl) ?_; refine kp H rfl fun a H => ?_
              refine pi_s2 rfl rfl rfl (H.ev rfl) ?_; refine kp H rfl fun a H => ?_
              refine pi_s2 rfl rfl rfl (H.ev rfl) ?_; refine kp H rfl fun a H => ?_
              refine pi_s2 rfl rfl rfl (H.ev rfl) ?_; refine kp H rfl fun a H => ?_
              refine pi_s2 rfl rfl rfl (H.ev rfl) ?_; refine kp H rfl fun a H => ?_
              refine pi_s2 rfl rfl rfl (H.ev rfl) ?_; refine kp H rfl fun a H => ?_
              refine pi_s2 rfl rfl rfl (H.ev rfl) ?_; refine kp H rfl fun a H => ?_
              refine pi_s2 rfl rfl rfl (H.ev rfl) ?_; refine kp H rfl fun a H => ?_
              refine pi_s2 rfl rfl rfl (H.ev rfl) ?_; refine kp H rfl fun a H => ?_
              refine pi_s1 rfl rfl rfl (H.ev rfl) ?_; refine kp H rfl fun a H => ?_
              refine pi_f0 _ rfl (fun w' hS' => r_pick_t (H.ev rfl) evc) ?_; refine kp H rfl fun a H => ?_
              refine pi_nil (NoPanic.normal ?_)
              have hall := hS.1
              clear hS
              refine c_next ?_
              refine c_cond_t H rfl ?_
              refine wp_seq ?_
              refine wp_region_lit ?_
              refine wl_v _ (r_assign evc) ?_; refine kl H rfl fun a H => ?_
              refine wpList_nil ?_
              refine c_next ?_
              refine wp_ret ?_
              refine r_block ?_
              refine r_then ?_
              refine r_then ?_
              refine r_block ?_
              refine r_then ?_
              exact k_ret1 H rfl rfl ⟨by rw [right_no HY.out (by first | exact .inl (ok_f (.inl HU1.out)) | exact .inl (ok_f (.inr (.inl HU2.out))) | exact .inl (ok_f (.inr (.inr (by omega)))) | exact .inr (.inl (by rw [HM.out]; omega)) | exact .inr (.inr ⟨j, p, HJ.out, HPY.out, of_decide_eq_false HLS.out⟩))], hall⟩
            · skip
              refine pi_f1 _ rfl rfl rfl (H.ev rfl) (fun w' hS' => r_eq Try.underlying3 (H.ev rfl) (H.ev rfl) (dec_f (c0))) ?_; refine kp H rfl fun a H => ?_
              refine pi_f0 _ rfl (fun w' hS' => r_pick_f (H.ev rfl) (H.ev rfl)) ?_; refine kp H rfl fun a H => ?_
              refine pi_f0 _ rfl (fun w' hS' => r_move (H.ev rfl)) ?_; refine kp H rfl fun a H => ?_
              refine pi_f1 _ rfl rfl rfl (H.ev rfl) (fun w' hS' => r_fld (q := 2) fld37_2 (H.ev rfl) rfl) ?_; refine kp H rfl fun a H => ?_
              refine pi_f1 _ rfl rfl rfl (H.ev rfl) (fun w' hS' => r_ld Try.underlying3 rfl (H.ev rfl) ((Block.cell (hS'.2) 2).trans rfl)) ?_; refine kp H rfl fun a H => ?_
              by_cases c1 : y.2.2 < 1
              · skip
                refine pi_f1 _ rfl rfl rfl (H.ev rfl) (fun w' hS' => r_lt Try.underlying3 (H.ev rfl) evc (dec_t (c1))) ?_; refine kp H rfl fun a H => ?_
                refine pi_f0 _ rfl (fun w' hS' => r_pick_f (H.ev rfl) (H.ev rfl)) ?_; refine kp H rfl fun a H => ?_
                refine pi_f0 _ rfl (fun w' hS' => r_move (H.ev rfl)) ?_; refine kp H rfl fun a H => ?_
                refine pi_s1 rfl rfl rfl (H.ev rfl) ?_; refine kp H rfl fun a H => ?_
                refine pi_s1 rfl rfl rfl (H.ev rfl) ?_; refine kp H rfl fun a H => ?_
                refine pi_s1 rfl rfl rfl (H.ev rfl) ?_; refine kp H rfl fun a H => ?_
                refine pi_f0 _ rfl (fun w' hS' => r_pick_t (H.ev rfl) evc) ?_; refine kp H rfl fun a H => ?_
                refine pi_f0 _ rfl (fun w' hS' => r_move (H.ev rfl)) ?_; refine kp H rfl fun a H => ?_
                refine pi_s1 rfl rfl rfl (H.ev rfl) ?_; refine kp H rfl fun a H => ?_
                refine pi_s1 rfl rfl rfl (H.ev rfl) ?_; refine kp H rfl fun a H => ?_
                refine pi_s1 rfl rfl rfl (H.ev rfl) ?_; refine kp H rfl fun a H => ?_
                refine pi_s1 rfl rfl rfl (H.ev rfl) ?_; refine kp H rfl fun a H => ?_
                refine pi_s1 rfl rfl rfl (H.ev rfl) ?_; refine kp H rfl fun a H => ?_
                refine pi_f0 _ rfl (fun w' hS' => r_pick_t (H.ev rfl) evc) ?_; refine kp H rfl fun a H => ?_
                refine pi_f0 _ rfl (fun w' hS' => r_move (H.ev rfl)) ?_; refine kp H rfl fun a H => ?_
                refine pi_s1 rfl rfl rfl (H.ev rfl) ?_; refine kp H rfl fun a H => ?_
                refine pi_s1 rfl rfl rfl (H.ev rfl) ?_; refine kp H rfl fun a H => ?_
                refine pi_s1 rfl rfl rfl (H.ev rfl) ?_; refine kp H rfl fun a H => ?_
                refine pi_s2 rfl rfl rfl (H.ev rfl) ?_; refine kp H rfl fun a H => ?_
                refine pi_s2 rfl rfl rfl (H.ev rfl) ?_; refine kp H rfl fun a H => ?_
                refine pi_s2 rfl rfl rfl (H.ev rfl) ?_; refine kp H rfl fun a H => ?_
                refine pi_s2 rfl rfl rfl (H.ev rfl) ?_; refine kp H rfl fun a H => ?_
                refine pi_s2 rfl rfl rfl (H.ev rfl) ?_; refine kp H rfl fun a H => ?_
                refine pi_s2 rfl rfl rfl (H.ev rfl) ?_; refine kp H rfl fun a H => ?_
                refine pi_s2 rfl rfl rfl (H.ev rfl) ?_; refine kp H rfl fun a H => ?_
                refine pi_s2 rfl rfl rfl (H.ev rfl) ?_; refine kp H rfl fun a H => ?_
                refine pi_s1 rfl rfl rfl (H.ev rfl) ?_; refine kp H rfl fun a H => ?_
                refine pi_f0 _ rfl (fun w' hS' => r_pick_t (H.ev rfl) evc) ?_; refine kp H rfl fun a H => ?_
                refine pi_nil (NoPanic.normal ?_)
                have hall := hS.1
                clear hS
                refine c_next ?_
                refine c_cond_t H rfl ?_
                refine wp_seq ?_
                refine wp_region_lit ?_
                refine wl_v _ (r_assign evc) ?_; refine kl H rfl fun a H => ?_
                refine wpList_nil ?_
                refine c_next ?_
                refine wp_ret ?_
                refine r_block ?_
                refine r_then ?_
                refine r_then ?_
                refine r_block ?_
                refine r_then ?_
                exact k_ret1 H rfl rfl ⟨by rw [right_no HY.out (by first | exact .inl (ok_f (.inl HU1.out)) | exact .inl (ok_f (.inr (.inl HU2.out))) | exact .inl (ok_f (.inr (.inr (by omega)))) | exact .inr (.inl (by rw [HM.out]; omega)) | exact .inr (.inr ⟨j, p, HJ.out, HPY.out, of_decide_eq_false HLS.out⟩))], hall⟩
              · skip
                refine pi_f1 _ rfl rfl rfl (H.ev rfl) (fun w' hS' => r_lt Try.underlying3 (H.ev rfl) evc (dec_f (c1))) ?_; refine kp H rfl fun a H => ?_
                refine pi_f0 _ rfl (fun w' hS' => r_pick_f (H.ev rfl) (H.ev rfl)) ?_; refine kp H rfl fun a H => ?_
                refine pi_f0 _ rfl (fun w' hS' => r_move (H.ev rfl)) ?_; refine kp H rfl fun a H => ?_
                refine pi_f1 _ rfl rfl rfl (H.ev rfl) (fun w' hS' => r_fld (q := 2) fld37_2 (H.ev rfl) rfl) ?_; refine kp H rfl fun a H => ?_
                refine pi_f1 _ rfl rfl rfl (H.ev rfl) (fun w' hS' => r_ld Try.underlying3 rfl (H.ev rfl) ((Block.cell (hS'.2) 2).trans rfl)) ?_; refine kp H rfl fun a H => ?_
                by_cases c2 : y.2.2 > 4
                · skip
                  refine pi_f1 _ rfl rfl rfl (H.ev rfl) (fun w' hS' => r_gt Try.underlying3 (H.ev rfl) evc (dec_t (c2))) ?_; refine kp H rfl fun a H => ?_
                  refine pi_f0 _ rfl (fun w' hS' => r_pick_f (H.ev rfl) (H.ev rfl)) ?_; refine kp H rfl fun a H => ?_
                  refine pi_f0 _ rfl (fun w' hS' => r_move (H.ev rfl)) ?_; refine kp H rfl fun a H => ?_
                  refine pi_s1 rfl rfl rfl (H.ev rfl) ?_; refine kp H rfl fun a H => ?_
                  refine pi_s1 rfl rfl rfl (H.ev rfl) ?_; refine kp H rfl fun a H => ?_
                  refine pi_s1 rfl rfl rfl (H.ev rfl) ?_; refine kp H rfl fun a H => ?_
                  refine pi_s1 rfl rfl rfl (H.ev rfl) ?_; refine kp H rfl fun a H => ?_
                  refine pi_s1 rfl rfl rfl (H.ev rfl) ?_; refine kp H rfl fun a H => ?_
                  refine pi_f0 _ rfl (fun w' hS' => r_pick_t (H.ev rfl) evc) ?_; refine kp H rfl fun a H => ?_
                  refine pi_f0 _ rfl (fun w' hS' => r_move (H.ev rfl)) ?_; refine kp H rfl fun a H => ?_
                  refine pi_s1 rfl rfl rfl (H.ev rfl) ?_; refine kp H rfl fun a H => ?_
                  refine pi_s1 rfl rfl rfl (H.ev rfl) ?_; refine kp H rfl fun a H => ?_
                  refine pi_s1 rfl rfl rfl (H.ev rfl) ?_; refine kp H rfl fun a H => ?_
                  refine pi_s2 rfl rfl rfl (H.ev rfl) ?_; refine kp H rfl fun a H => ?_
                  refine pi_s2 rfl rfl rfl (H.ev rfl) ?_; refine kp H rfl fun a H => ?_
                  refine pi_s2 rfl rfl rfl (H.ev rfl) ?_; refine kp H rfl fun a H => ?_
                  refine pi_s2 rfl rfl rfl (H.ev rfl) ?_; refine kp H rfl fun a H => ?_
                  refine pi_s2 rfl rfl rfl (H.ev rfl) ?_; refine kp H rfl fun a H => ?_
                  refine pi_s2 rfl rfl rfl (H.ev rfl) ?_; refine kp H rfl fun a H => ?_
                  refine pi_s2 rfl rfl rfl (H.ev rfl) ?_; refine kp H rfl fun a H => ?_
                  refine pi_s2 rfl rfl rfl (H.ev rfl) ?_; refine kp H rfl fun a H => ?_
                  refine pi_s1 rfl rfl rfl (H.ev rfl) ?_; refine kp H rfl fun a H => ?_
                  refine pi_f0 _ rfl (fun w' hS' => r_pick_t (H.ev rfl) evc) ?_; refine kp H rfl fun a H => ?_
                  refine pi_nil (NoPanic.normal ?_)
                  have hall := hS.1
                  clear hS
                  refine c_next ?_
                  refine c_cond_t H rfl ?_
                  refine wp_seq ?_
                  refine wp_region_lit ?_
                  refine wl_v _ (r_assign evc) ?_; refine kl H rfl fun a H => ?_
                  refine wpList_nil ?_
                  refine c_next ?_
                  refine wp_ret ?_
                  refine r_block ?_
                  refine r_then ?_
                  refine r_then ?_
                  refine r_block ?_
                  refine r_then ?_
                  exact k_ret1 H rfl rfl ⟨by rw [right_no HY.out (by first | exact .inl (ok_f (.inl HU1.out)) | exact .inl (ok_f (.inr (.inl HU2.out))) | exact .inl (ok_f (.inr (.inr (by omega)))) | exact .inr (.inl (by rw [HM.out]; omega)) | exact .inr (.inr ⟨j, p, HJ.out, HPY.out, of_decide_eq_false HLS.out⟩))], hall⟩
                · skip
                  refine pi_f1 _ rfl rfl rfl (H.ev rfl) (fun w' hS' => r_gt Try.underlying3 (H.ev rfl) evc (dec_f (c2))) ?_; refine kp H rfl fun a H => ?_
                  refine pi_f0 _ rfl (fun w' hS' => r_pick_f (H.ev rfl) (H.ev rfl)) ?_; refine kp H rfl fun a H => ?_
                  refine pi_f0 _ rfl (fun w' hS' => r_move (H.ev rfl)) ?_; refine kp H rfl fun a H => ?_
                  refine pi_f1 _ rfl rfl rfl (H.ev rfl) (fun w' hS' => r_move (H.ev rfl)) ?_; refine kp H rfl fun a H => ?_
                  refine pi_f1 _ rfl rfl rfl (H.ev rfl) (fun w' hS' => r_fld (q := 0) fld37_0 (H.ev rfl) rfl) ?_; refine kp H rfl fun a H => ?_
                  refine pi_f1 _ rfl rfl rfl (H.ev rfl) (fun w' hS' => r_ld Try.underlying3 rfl (H.ev rfl) ((Block.cell (hS'.2) 0).trans rfl)) ?_; refine kp H rfl fun a H => ?_
                  refine pi_a1 rfl rfl rfl (H.ev rfl) (fun K hK => ?_); refine wpo_call _ _ _ (many_any _ _ L _ (Row.up h.out hS.1) (by omega)) (r_call2 cf28 (H.ev rfl) (H.ev rfl)) ?_; rintro e w9 ⟨rfl, rfl⟩; refine ⟨_, rfl, ?_⟩; rw [HM.out]; skip; refine hK _ _ ⟨hS, ?_⟩; clear hK; clear K; refine kp H rfl fun a H => ?_
                  by_cases c3 : ((m : Nat) : Int) > 8
                  · skip
                    refine pi_f1 _ rfl rfl rfl (H.ev rfl) (fun w' hS' => r_gt Try.underlying3 (H.ev rfl) evc (dec_t (c3))) ?_; refine kp H rfl fun a H => ?_
                    refine pi_f0 _ rfl (fun w' hS' => r_pick_f (H.ev rfl) (H.ev rfl)) ?_; refine kp H rfl fun a H => ?_
                    refine pi_f0 _ rfl (fun w' hS' => r_move (H.ev rfl)) ?_; refine kp H rfl fun a H => ?_
                    refine pi_s1 rfl rfl rfl (H.ev rfl) ?_; refine kp H rfl fun a H => ?_
                    refine pi_s1 rfl rfl rfl (H.ev rfl) ?_; refine kp H rfl fun a H => ?_
                    refine pi_s1 rfl rfl rfl (H.ev rfl) ?_; refine kp H rfl fun a H => ?_
                    refine pi_s2 rfl rfl rfl (H.ev rfl) ?_; refine kp H rfl fun a H => ?_
                    refine pi_s2 rfl rfl rfl (H.ev rfl) ?_; refine kp H rfl fun a H => ?_
                    refine pi_s2 rfl rfl rfl (H.ev rfl) ?_; refine kp H rfl fun a H => ?_
                    refine pi_s2 rfl rfl rfl (H.ev rfl) ?_; refine kp H rfl fun a H => ?_
                    refine pi_s2 rfl rfl rfl (H.ev rfl) ?_; refine kp H rfl fun a H => ?_
                    refine pi_s2 rfl rfl rfl (H.ev rfl) ?_; refine kp H rfl fun a H => ?_
                    refine pi_s2 rfl rfl rfl (H.ev rfl) ?_; refine kp H rfl fun a H => ?_
                    refine pi_s2 rfl rfl rfl (H.ev rfl) ?_; refine kp H rfl fun a H => ?_
                    refine pi_s1 rfl rfl rfl (H.ev rfl) ?_; refine kp H rfl fun a H => ?_
                    refine pi_f0 _ rfl (fun w' hS' => r_pick_t (H.ev rfl) evc) ?_; refine kp H rfl fun a H => ?_
                    refine pi_nil (NoPanic.normal ?_)
                    have hall := hS.1
                    clear hS
                    refine c_next ?_
                    refine c_cond_t H rfl ?_
                    refine wp_seq ?_
                    refine wp_region_lit ?_
                    refine wl_v _ (r_assign evc) ?_; refine kl H rfl fun a H => ?_
                    refine wpList_nil ?_
                    refine c_next ?_
                    refine wp_ret ?_
                    refine r_block ?_
                    refine r_then ?_
                    refine r_then ?_
                    refine r_block ?_
                    refine r_then ?_
                    exact k_ret1 H rfl rfl ⟨by rw [right_no HY.out (by first | exact .inl (ok_f (.inl HU1.out)) | exact .inl (ok_f (.inr (.inl HU2.out))) | exact .inl (ok_f (.inr (.inr (by omega)))) | exact .inr (.inl (by rw [HM.out]; omega)) | exact .inr (.inr ⟨j, p, HJ.out, HPY.out, of_decide_eq_false HLS.out⟩))], hall⟩
                  · skip
                    refine pi_f1 _ rfl rfl rfl (H.ev rfl) (fun w' hS' => r_gt Try.underlying3 (H.ev rfl) evc (dec_f (c3))) ?_; refine kp H rfl fun a H => ?_
                    refine pi_f0 _ rfl (fun w' hS' => r_pick_f (H.ev rfl) (H.ev rfl)) ?_; refine kp H rfl fun a H => ?_
                    refine pi_f0 _ rfl (fun w' hS' => r_move (H.ev rfl)) ?_; refine kp H rfl fun a H => ?_
                    refine pi_f1 _ rfl rfl rfl (H.ev rfl) (fun w' hS' => r_move (H.ev rfl)) ?_; refine kp H rfl fun a H => ?_
                    refine pi_f1 _ rfl rfl rfl (H.ev rfl) (fun w' hS' => r_gt Try.underlying3 (H.ev rfl) evc (dec_f (by omega))) ?_; refine kp H rfl fun a H => ?_
                    refine pi_f1 _ rfl rfl rfl (H.ev rfl) (fun w' hS' => r_move (H.ev rfl)) ?_; refine kp H rfl fun a H => ?_
                    refine pi_s1 rfl rfl rfl (H.ev rfl) ?_; refine kp H rfl fun a H => ?_
                    refine pi_s1 rfl rfl rfl (H.ev rfl) ?_; refine kp H rfl fun a H => ?_
                    refine pi_s1 rfl rfl rfl (H.ev rfl) ?_; refine kp H rfl fun a H => ?_
                    refine pi_s1 rfl rfl rfl (H.ev rfl) ?_; refine kp H rfl fun a H => ?_
                    refine pi_s1 rfl rfl rfl (H.ev rfl) ?_; refine kp H rfl fun a H => ?_
                    refine pi_s1 rfl rfl rfl (H.ev rfl) ?_; refine kp H rfl fun a H => ?_
                    refine pi_s1 rfl rfl rfl (H.ev rfl) ?_; refine kp H rfl fun a H => ?_
                    refine pi_s1 rfl rfl rfl (H.ev rfl) ?_; refine kp H rfl fun a H => ?_
                    refine pi_f1 _ rfl rfl rfl (H.ev rfl) (fun w' hS' => r_pick_f (H.ev rfl) evc) ?_; refine kp H rfl fun a H => ?_
                    refine pi_f0 _ rfl (fun w' hS' => r_pick_f (H.ev rfl) (H.ev rfl)) ?_; refine kp H rfl fun a H => ?_
                    refine pi_nil (NoPanic.normal ?_)
                    have hall := hS.1
                    clear hS
                    refine c_next ?_
                    refine c_cond_f H rfl ?_
                    refine wp_skip ?_
                    refine n_block ?_
                    refine c_next ?_
                    refine wp_region_lit ?_
                    refine wl_v _ (r_move (H.ev rfl)) ?_; refine kl H rfl fun a H => ?_
                    refine wl_v _ (r_add (q := ((k + 1 : Nat) : Int)) Try.underlying3 (H.ev rfl) evc (by omega) (by omega)) ?_; refine kl H rfl fun a H => ?_
                    refine wl_v _ (r_assign (H.ev rfl)) ?_; refine kl H rfl fun a H => ?_
                    refine wpList_nil ?_
                    refine n_then ⟨⟨k + 1, H.pick [0, 3], by omega, okg_next hok HY.out (ok_t HU1.out HU2.out (by omega) (by omega) (by omega)) (by rw [HM.out]; omega) (fun i p e => by omega), hall⟩, ?_⟩
                    rw [H.ev (j := 3) rfl, H0.ev (j := 3) rfl]
                    simp only [intOf]
                    omega
      · skip
        obtain ⟨j, hj⟩ : ∃ j, k = j + 1 := ⟨k - 1, by omega⟩
        have HJ := Lib.hid hj
        have hj1 : k ≤ j + 1 := by omega
        have hj2 : j + 1 ≤ k := by omega
        clear hj
        have hj : j < L.length := by omega
        have hp : L[j]? = some L[j] := List.getElem?_eq_getElem hj
        have HPY := Lib.hid hp
        have HP := Lib.hid (flat_range encT_len hh.out rfl hj)
        generalize L[j] = p at *
        clear hp
        obtain ⟨ls, hls⟩ : ∃ ls, lessB p y = ls := ⟨_, rfl⟩
        have HLS := Lib.hid hls
        clear hls h0
        cases ls
        · skip
          cases u1
          · skip
            cases u2
            · skip
              have hS : SRr w b0 y _ := ⟨hall.drew, k0⟩
              refine region_pi (SRr w b0 y) [(0, true), (1, true), (2, false), (3, true), (4, true), (5, true), (6, true), (7, false), (8, true), (9, true), (10, true), (11, true), (12, true), (13, true), (14, true), (15, true), (16, true), (17, true), (18, true), (19, true), (20, true), (21, true), (22, true), (23, true), (24, true), (25, true), (26, true), (27, true), (28, true), (29, true), (30, true), (31, false), (32, true), (33, true), (34, true), (35, true), (36, true), (37, true), (38, true), (39, true), (40, true), (41, true), (42, true), (43, true), (44, false), (45, true), (46, true), (47, true)] (by kernel_rfl) (by kernel_rfl) rfl (by kernel_rfl) hS ?_
              clear hall k0
              refine pi_f0 _ rfl (fun w' hS' => r_fld (q := 0) fld37_0 (H.ev rfl) rfl) ?_; refine kp H rfl fun a H => ?_
              refine pi_f0 _ rfl (fun w' hS' => r_ld Try.underlying3 rfl (H.ev rfl) ((Block.cell (hS'.2) 0).trans rfl)) ?_; refine kp H rfl fun a H => ?_
              refine pi_a0 rfl (fun K hK => ?_); refine wpo_call _ _ _ (ruser_any _ _) (r_call1 cf27 (H.ev rfl)) ?_; rintro e w9 ⟨rfl, rfl⟩; refine ⟨_, rfl, ?_⟩; rw [HU1.out]; skip; refine hK _ _ ⟨hS, ?_⟩; clear hK; clear K; refine kp H rfl fun a H => ?_
              refine pi_f0 _ rfl (fun w' hS' => r_not (H.ev rfl) rfl) ?_; refine kp H rfl fun a H => ?_
              refine pi_f0 _ rfl (fun w' hS' => r_move (H.ev rfl)) ?_; refine kp H rfl fun a H => ?_
              refine pi_s1 rfl rfl rfl (H.ev rfl) ?_; refine kp H rfl fun a H => ?_
              refine pi_s1 rfl rfl rfl (H.ev rfl) ?_; refine kp H rfl fun a H => ?_
              refine pi_s1 rfl rfl rfl (H.ev rfl) ?_; refine kp H rfl fun a H => ?_
              refine pi_s1 rfl rfl rfl (H.ev rfl) ?_; refine kp H rfl fun a H => ?_
              refine pi_f0 _ rfl (fun w' hS' => r_pick_t (H.ev rfl) evc) ?_; refine kp H rfl fun a H => ?_
              refine pi_f0 _ rfl (fun w' hS' => r_move (H.ev rfl)) ?_; refine kp H rfl fun a H => ?_
              refine pi_s1 rfl rfl rfl (H.ev rfl) ?_; refine kp H rfl fun a H => ?_
              refine pi_s1 rfl rfl rfl (H.ev rfl) ?_; refine kp H rfl fun a H => ?_
              refine pi_s1 rfl rfl rfl (H.ev rfl) ?_; refine kp H rfl fun a H => ?_
              refine pi_s1 rfl rfl rfl (H.ev rfl) ?_; refine kp H rfl fun a H => ?_
              refine pi_s1 rfl rfl rfl (H.ev rfl) ?_; refine kp H rfl fun a H => ?_
              refine pi_f0 _ rfl (fun w' hS' => r_pick_t (H.ev rfl) evc) ?_; refine kp H rfl fun a H => ?_
              refine pi_f0 _ rfl (fun w' hS' => r_move (H.ev rfl)) ?_; refine kp H rfl fun a H => ?_
              refine pi_s1 rfl rfl rfl (H.ev rfl) ?_; refine kp H rfl fun a H => ?_
              refine pi_s1 rfl rfl rfl (H.ev rfl) ?_; refine kp H rfl fun a H => ?_
              refine pi_s1 rfl rfl rfl (H.ev rfl) ?_; refine kp H rfl fun a H => ?_
              refine pi_f0 _ rfl (fun w' hS' => r_pick_t (H.ev rfl) evc) ?_; refine kp H rfl fun a H => ?_
              refine pi_f0 _ rfl (fun w' hS' => r_move (H.ev rfl)) ?_; refine kp H rfl fun a H => ?_
              refine pi_s1 rfl rfl rfl (H.ev rfl) ?_; refine kp H rfl fun a H => ?_
              refine pi_s1 rfl rfl rfl (H.ev rfl) ?_; refine kp H rfl fun a H => ?_
              refine pi_s1 rfl rfl rfl (H.ev rfl) ?_; refine kp H rfl fun a H => ?_
              refine pi_f0 _ rfl (fun w' hS' => r_pick_t (H.ev rfl) evc) ?_; refine kp H rfl fun a H => ?_
              refine pi_f0 _ rfl (fun w' hS' => r_move (H.ev rfl)) ?_; refine kp H rfl fun a H => ?_
              refine pi_s1 rfl rfl rfl (H.ev rfl) ?_; refine kp H rfl fun a H => ?_
              refine pi_s1 rfl rfl rfl (H.ev rfl) ?_; refine kp H rfl fun a H => ?_
              refine pi_s1 rfl rfl rfl (H.ev rfl) ?_; refine kp H rfl fun a H => ?_
              refine pi_s1 rfl rfl rfl (H.ev rfl) ?_; refine kp H rfl fun a H => ?_
              refine pi_s1 rfl rfl rfl (H.ev rfl) ?_; refine kp H rfl fun a H => ?_
              refine pi_f0 _ rfl (fun w' hS' => r_pick_t (H.ev rfl) evc) ?_; refine kp H rfl fun a H => ?_
              refine pi_f0 _ rfl (fun w' hS' => r_move (H.ev rfl)) ?_; refine kp H rfl fun a H => ?_
              refine pi_s1 rfl rfl rfl (H.ev rfl) ?_; refine kp H rfl fun a H => ?_
              refine pi_s1 rfl rfl rfl (H.ev rfl) ?_; refine kp H rfl fun a H => ?_
              refine pi_s1 rfl rfl rfl (H.ev rfl) ?_; refine kp H rfl fun a H => ?_
              refine pi_s2 rfl rfl rfl (H.ev rfl) ?_; refine kp H rfl fun a H => ?_
              refine pi_s2 rfl rfl rfl (H.ev rfl) ?_; refine kp H rfl fun a H => ?_
              refine pi_s2 rfl rfl rfl (H.ev rfl) ?_; refine kp H rfl fun a H => ?_
              refine pi_s2 rfl rfl rfl (H.ev rfl) ?_; refine kp H rfl fun a H => ?_
              refine pi_s2 rfl rfl rfl (H.ev rfl) ?_; refine kp H rfl fun a H => ?_
              refine pi_s2 rfl rfl rfl (H.ev rfl) ?_; refine kp H rfl fun a H => ?_
              refine pi_s2 rfl rfl rfl (H.ev rfl) ?_; refine kp H rfl fun a H => ?_
              refine pi_s2 rfl rfl rfl (H.ev rfl) ?_; refine kp H rfl fun a H => ?_
              refine pi_s1 rfl rfl rfl (H.ev rfl) ?_; refine kp H rfl fun a H => ?_
              refine pi_f0 _ rfl (fun w' hS' => r_pick_t (H.ev rfl) evc) ?_; refine kp H rfl fun a H => ?_
              refine pi_nil (NoPanic.normal ?_)
              have hall := hS.1
              clear hS
              refine c_next ?_
              refine c_cond_t H rfl ?_
              refine wp_seq ?_
              refine wp_region_lit ?_
              refine wl_v _ (r_assign evc) ?_; refine kl H rfl fun a H => ?_
              refine wpList_nil ?_
              refine c_next ?_
              refine wp_ret ?_
              refine r_block ?_
              refine r_then ?_
              refine r_then ?_
              refine r_block ?_
              refine r_then ?_
              exact k_ret1 H rfl rfl ⟨by rw [right_no HY.out (by first | exact .inl (ok_f (.inl HU1.out)) | exact .inl (ok_f (.inr (.inl HU2.out))) | exact .inl (ok_f (.inr (.inr (by omega)))) | exact .inr (.inl (by rw [HM.out]; omega)) | exact .inr (.inr ⟨j, p, HJ.out, HPY.out, of_decide_eq_false HLS.out⟩))], hall⟩
            · skip
              have hS : SRr w b0 y _ := ⟨hall.drew, k0⟩
              refine region_pi (SRr w b0 y) [(0, true), (1, true), (2, false), (3, true), (4, true), (5, true), (6, true), (7, false), (8, true), (9, true), (10, true), (11, true), (12, true), (13, true), (14, true), (15, true), (16, true), (17, true), (18, true), (19, true), (20, true), (21, true), (22, true), (23, true), (24, true), (25, true), (26, true), (27, true), (28, true), (29, true), (30, true), (31, false), (32, true), (33, true), (34, true), (35, true), (36, true), (37, true), (38, true), (39, true), (40, true), (41, true), (42, true), (43, true), (44, false), (45, true), (46, true), (47, true)] (by kernel_rfl) (by kernel_rfl) rfl (by kernel_rfl) hS ?_
              clear hall k0
              refine pi_f0 _ rfl (fun w' hS' => r_fld (q := 0) fld37_0 (H.ev rfl) rfl) ?_; refine kp H rfl fun a H => ?_
              refine pi_f0 _ rfl (fun w' hS' => r_ld Try.underlying3 rfl (H.ev rfl) ((Block.cell (hS'.2) 0).trans rfl)) ?_; refine kp H rfl fun a H => ?_
              refine pi_a0 rfl (fun K hK => ?_); refine wpo_call _ _ _ (ruser_any _ _) (r_call1 cf27 (H.ev rfl)) ?_; rintro e w9 ⟨rfl, rfl⟩; refine ⟨_, rfl, ?_⟩; rw [HU1.out]; skip; refine hK _ _ ⟨hS, ?_⟩; clear hK; clear K; refine kp H rfl fun a H => ?_
              refine pi_f0 _ rfl (fun w' hS' => r_not (H.ev rfl) rfl) ?_; refine kp H rfl fun a H => ?_
              refine pi_f0 _ rfl (fun w' hS' => r_move (H.ev rfl)) ?_; refine kp H rfl fun a H => ?_
              refine pi_s1 rfl rfl rfl (H.ev rfl) ?_; refine kp H rfl fun a H => ?_
              refine pi_s1 rfl rfl rfl (H.ev rfl) ?_; refine kp H rfl fun a H => ?_
              refine pi_s1 rfl rfl rfl (H.ev rfl) ?_; refine kp H rfl fun a H => ?_
              refine pi_s1 rfl rfl rfl (H.ev rfl) ?_; refine kp H rfl fun a H => ?_
              refine pi_f0 _ rfl (fun w' hS' => r_pick_t (H.ev rfl) evc) ?_; refine kp H rfl fun a H => ?_
              refine pi_f0 _ rfl (fun w' hS' => r_move (H.ev rfl)) ?_; refine kp H rfl fun a H => ?_
              refine pi_s1 rfl rfl rfl (H.ev rfl) ?_; refine kp H rfl fun a H => ?_
              refine pi_s1 rfl rfl rfl (H.ev rfl) ?_; refine kp H rfl fun a H => ?_
              refine pi_s1 rfl rfl rfl (H.ev rfl) ?_; refine kp H rfl fun a H => ?_
              refine pi_s1 rfl rfl rfl (H.ev rfl) ?_; refine kp H rfl fun a H => ?_
              refine pi_s1 rfl rfl rfl (H.ev rfl) ?_; refine kp H rfl fun a H => ?_
              refine pi_f0 _ rfl (fun w' hS' => r_pick_t (H.ev rfl) evc) ?_; refine kp H rfl fun a H => ?_
              refine pi_f0 _ rfl (fun w' hS' => r_move (H.ev rfl)) ?_; refine kp H rfl fun a H => ?_
              refine pi_s1 rfl rfl rfl (H.ev rfl) ?_; refine kp H rfl fun a H => ?_
              refine pi_s1 rfl rfl rfl (H.ev rfl) ?_; refine kp H rfl fun a H => ?_
              refine pi_s1 rfl rfl rfl (H.ev rfl) ?_; refine kp H rfl fun a H => ?_
              refine pi_f0 _ rfl (fun w' hS' => r_pick_t (H.ev rfl) evc) ?_; refine kp H rfl fun a H => ?_
              refine pi_f0 _ rfl (fun w' hS' => r_move (H.ev rfl)) ?_; refine kp H rfl fun a H => ?_
              refine pi_s1 rfl rfl rfl (H.ev rfl) ?_; refine kp H rfl fun a H => ?_
              refine pi_s1 rfl rfl rfl (H.ev rfl) ?_; refine kp H rfl fun a H => ?_
              refine pi_s1 rfl rfl rfl (H.ev rfl) ?_; refine kp H rfl fun a H => ?_
              refine pi_f0 _ rfl (fun w' hS' => r_pick_t (H.ev rfl) evc) ?_; refine kp H rfl fun a H => ?_
              refine pi_f0 _ rfl (fun w' hS' => r_move (H.ev rfl)) ?_; refine kp H rfl fun a H => ?_
              refine pi_s1 rfl rfl rfl (H.ev rfl) ?_; refine kp H rfl fun a H => ?_
              refine pi_s1 rfl rfl rfl (H.ev rfl) ?_; refine kp H rfl fun a H => ?_
              refine pi_s1 rfl rfl rfl (H.ev rfl) ?_; refine kp H rfl fun a H => ?_
              refine pi_s1 rfl rfl rfl (H.ev rfl) ?_; refine kp H rfl fun a H => ?_
              refine pi_s1 rfl rfl rfl (H.ev rfl) ?_; refine kp H rfl fun a H => ?_
              refine pi_f0 _ rfl (fun w' hS' => r_pick_t (H.ev rfl) evc) ?_; refine kp H rfl fun a H => ?_
              refine pi_f0 _ rfl (fun w' hS' => r_move (H.ev rfl)) ?_; refine kp H rfl fun a H => ?_
              refine pi_s1 rfl rfl rfl (H.ev rfl) ?_; refine kp H rfl fun a H => ?_
              refine pi_s1 rfl rfl rfl (H.ev rfl) ?_; refine kp H rfl fun a H => ?_
              refine pi_s1 rfl rfl rfl (H.ev rfl) ?_; refine kp H rfl fun a H => ?_
              refine pi_s2 rfl rfl rfl (H.ev rfl) ?_; refine kp H rfl fun a H => ?_
              refine pi_s2 rfl rfl rfl (H.ev rfl) ?_; refine kp H rfl fun a H => ?_
              refine pi_s2 rfl rfl rfl (H.ev rfl) ?_; refine kp H rfl fun a H => ?_
              refine pi_s2 rfl rfl rfl (H.ev rfl) ?_; refine kp H rfl fun a H => ?_
              refine pi_s2 rfl rfl rfl (H.ev rfl) ?_; refine kp H rfl fun a H => ?_
              refine pi_s2 rfl rfl rfl (H.ev rfl) ?_; refine kp H rfl fun a H => ?_
              refine pi_s2 rfl rfl rfl (H.ev rfl) ?_; refine kp H rfl fun a H => ?_
              refine pi_s2 rfl rfl rfl (H.ev rfl) ?_; refine kp H rfl fun a H => ?_
              refine pi_s1 rfl rfl rfl (H.ev rfl) ?_; refine kp H rfl fun a H => ?_
              refine pi_f0 _ rfl (fun w' hS' => r_pick_t (H.ev rfl) evc) ?_; refine kp H rfl fun a H => ?_
              refine pi_nil (NoPanic.normal ?_)
              have hall := hS.1
              clear hS
              refine c_next ?_
              refine c_cond_t H rfl ?_
              refine wp_seq ?_
              refine wp_region_lit ?_
              refine wl_v _ (r_assign evc) ?_; refine kl H rfl fun a H => ?_
              refine wpList_nil ?_
              refine c_next ?_
              refine wp_ret ?_
              refine r_block ?_
              refine r_then ?_
              refine r_then ?_
              refine r_block ?_
              refine r_then ?_
              exact k_ret1 H rfl rfl ⟨by rw [right_no HY.out (by first | exact .inl (ok_f (.inl HU1.out)) | exact .inl (ok_f (.inr (.inl HU2.out))) | exact .inl (ok_f (.inr (.inr (by omega)))) | exact .inr (.inl (by rw [HM.out]; omega)) | exact .inr (.inr ⟨j, p, HJ.out, HPY.out, of_decide_eq_false HLS.out⟩))], hall⟩
          · skip
            cases u2
            · skip
              have hS : SRr w b0 y _ := ⟨hall.drew, k0⟩
              refine region_pi (SRr w b0 y) [(0, true), (1, true), (2, false), (3, true), (4, true), (5, true), (6, true), (7, false), (8, true), (9, true), (10, true), (11, true), (12, true), (13, true), (14, true), (15, true), (16, true), (17, true), (18, true), (19, true), (20, true), (21, true), (22, true), (23, true), (24, true), (25, true), (26, true), (27, true), (28, true), (29, true), (30, true), (31, false), (32, true), (33, true), (34, true), (35, true), (36, true), (37, true), (38, true), (39, true), (40, true), (41, true), (42, true), (43, true), (44, false), (45, true), (46, true), (47, true)] (by kernel_rfl) (by kernel_rfl) rfl (by kernel_rfl) hS ?_
              clear hall k0
              refine pi_f0 _ rfl (fun w' hS' => r_fld (q := 0) fld37_0 (H.ev rfl) rfl) ?_; refine kp H rfl fun a H => ?_
              refine pi_f0 _ rfl (fun w' hS' => r_ld Try.underlying3 rfl (H.ev rfl) ((Block.cell (hS'.2) 0).trans rfl)) ?_; refine kp H rfl fun a H => ?_
              refine pi_a0 rfl (fun K hK => ?_); refine wpo_call _ _ _ (ruser_any _ _) (r_call1 cf27 (H.ev rfl)) ?_; rintro e w9 ⟨rfl, rfl⟩; refine ⟨_, rfl, ?_⟩; rw [HU1.out]; skip; refine hK _ _ ⟨hS, ?_⟩; clear hK; clear K; refine kp H rfl fun a H => ?_
              refine pi_f0 _ rfl (fun w' hS' => r_not (H.ev rfl) rfl) ?_; refine kp H rfl fun a H => ?_
              refine pi_f0 _ rfl (fun w' hS' => r_move (H.ev rfl)) ?_; refine kp H rfl fun a H => ?_
              refine pi_f1 _ rfl rfl rfl (H.ev rfl) (fun w' hS' => r_fld (q := 1) fld37_1 (H.ev rfl) rfl) ?_; refine kp H rfl fun a H => ?_
              refine pi_f1 _ rfl rfl rfl (H.ev rfl) (fun w' hS' => r_ld Try.underlying3 rfl (H.ev rfl) ((Block.cell (hS'.2) 1).trans rfl)) ?_; refine kp H rfl fun a H => ?_
              refine pi_a1 rfl rfl rfl (H.ev rfl) (fun K hK => ?_); refine wpo_call _ _ _ (ruser_any _ _) (r_call1 cf27 (H.ev rfl)) ?_; rintro e w9 ⟨rfl, rfl⟩; refine ⟨_, rfl, ?_⟩; rw [HU2.out]; skip; refine hK _ _ ⟨hS, ?_⟩; clear hK; clear K; refine kp H rfl fun a H => ?_
              refine pi_f1 _ rfl rfl rfl (H.ev rfl) (fun w' hS' => r_not (H.ev rfl) rfl) ?_; refine kp H rfl fun a H => ?_
              refine pi_f0 _ rfl (fun w' hS' => r_pick_f (H.ev rfl) (H.ev rfl)) ?_; refine kp H rfl fun a H => ?_
              refine pi_f0 _ rfl (fun w' hS' => r_move (H.ev rfl)) ?_; refine kp H rfl fun a H => ?_
              refine pi_s1 rfl rfl rfl (H.ev rfl) ?_; refine kp H rfl fun a H => ?_
              refine pi_s1 rfl rfl rfl (H.ev rfl) ?_; refine kp H rfl fun a H => ?_
              refine pi_s1 rfl rfl rfl (H.ev rfl) ?_; refine kp H rfl fun a H => ?_
              refine pi_s1 rfl rfl rfl (H.ev rfl) ?_; refine kp H rfl fun a H => ?_
              refine pi_s1 rfl rfl rfl (H.ev rfl) ?_; refine kp H rfl fun a H => ?_
              refine pi_f0 _ rfl (fun w' hS' => r_pick_t (H.ev rfl) evc) ?_; refine kp H rfl fun a H => ?_
              refine pi_f0 _ rfl (fun w' hS' => r_move (H.ev rfl)) ?_; refine kp H rfl fun a H => ?_
              refine pi_s1 rfl rfl rfl (H.ev rfl) ?_; refine kp H rfl fun a H => ?_
              refine pi_s1 rfl rfl rfl (H.ev rfl) ?_; refine kp H rfl fun a H => ?_
              refine pi_s1 rfl rfl rfl (H.ev rfl) ?_; refine kp H rfl fun a H => ?_
              refine pi_f0 _ rfl (fun w' hS' => r_pick_t (H.ev rfl) evc) ?_; refine kp H rfl fun a H => ?_
              refine pi_f0 _ rfl (fun w' hS' => r_move (H.ev rfl)) ?_; refine kp H rfl fun a H => ?_
              refine pi_s1 rfl rfl rfl (H.ev rfl) ?_; refine kp H rfl fun a H => ?_
              refine pi_s1 rfl rfl rfl (H.ev rfl) ?_; refine kp H rfl fun a H => ?_
              refine pi_s1 rfl rfl rfl (H.ev rfl) ?_; refine kp H rfl fun a H => ?_
              refine pi_f0 _ rfl (fun w' hS' => r_pick_t (H.ev rfl) evc) ?_; refine kp H rfl fun a H => ?_
              refine pi_f0 _ rfl (fun w' hS' => r_move (H.ev rfl)) ?_; refine kp H rfl fun a H => ?_
              refine pi_s1 rfl rfl rfl (H.ev rfl) ?_; refine kp H rfl fun a H => ?_
              refine pi_s1 rfl rfl rfl (H.ev rfl) ?_; refine kp H rfl fun a H => ?_
              refine pi_s1 rfl rfl rfl (H.ev rfl) ?_; refine kp H rfl fun a H => ?_
              refine pi_s1 rfl rfl rfl (H.ev rfl) ?_; refine kp H rfl fun a H => ?_
              refine pi_s1 rfl rfl rfl (H.ev rfl) ?_; refine kp H rfl fun a H => ?_
              refine pi_f0 _ rfl (fun w' hS' => r_pick_t (H.ev rfl) evc) ?_; refine kp H rfl fun a H => ?_
              refine pi_f0 _ rfl (fun w' hS' => r_move (H.ev rfl)) ?_; refine kp H rfl fun a H => ?_
              refine pi_s1 rfl rfl rfl (H.ev rfl) ?_; refine kp H rfl fun a H => ?_
              refine pi_s1 rfl rfl rfl (H.ev rfl) ?_; refine kp H rfl fun a H => ?_
              refine pi_s1 rfl rfl rfl (H.ev rfl) ?_; refine kp H rfl fun a H => ?_
              refine pi_s2 rfl rfl rfl (H.ev rfl) ?_; refine kp H rfl fun a H => ?_
              refine pi_s2 rfl rfl rfl (H.ev rfl) ?_; refine kp H rfl fun a H => ?_
              refine pi_s2 rfl rfl rfl (H.ev rfl) ?_; refine kp H rfl fun a H => ?_
              refine pi_s2 rfl rfl rfl (H.ev rfl) ?_; refine kp H rfl fun a H => ?_
              refine pi_s2 rfl rfl rfl (H.ev rfl) ?_; refine kp H rfl fun a H => ?_
              refine pi_s2 rfl rfl rfl (H.ev rfl) ?_; refine kp H rfl fun a H => ?_
              refine pi_s2 rfl rfl rfl (H.ev rfl) ?_; refine kp H rfl fun a H => ?_
              refine pi_s2 rfl rfl rfl (H.ev rfl) ?_; refine kp H rfl fun a H => ?_
              refine pi_s1 rfl rfl rfl (H.ev rfl) ?_; refine kp H rfl fun a H => ?_
              refine pi_f0 _ rfl (fun w' hS' => r_pick_t (H.ev rfl) evc) ?_; refine kp H rfl fun a H => ?_
              refine pi_nil (NoPanic.normal ?_)
              have hall := hS.1
              clear hS
              refine c_next ?_
              refine c_cond_t H rfl ?_
              refine wp_seq ?_
              refine wp_region_lit ?_
              refine wl_v _ (r_assign evc) ?_; refine kl H rfl fun a H => ?_
              refine wpList_nil ?_
              refine c_next ?_
              refine wp_ret ?_
              refine r_block ?_
              refine r_then ?_
              refine r_then ?_
              refine r_block ?_
              refine r_then ?_
              exact k_ret1 H rfl rfl ⟨by rw [right_no HY.out (by first | exact .inl (ok_f (.inl HU1.out)) | exact .inl (ok_f (.inr (.inl HU2.out))) | exact .inl (ok_f (.inr (.inr (by omega)))) | exact .inr (.inl (by rw [HM.out]; omega)) | exact .inr (.inr ⟨j, p, HJ.out, HPY.out, of_decide_eq_false HLS.out⟩))], hall⟩
            · skip
              have hS : SRr w b0 y _ := ⟨hall.drew, k0⟩
              refine region_pi (SRr w b0 y) [(0, true), (1, true), (2, false), (3, true), (4, true), (5, true), (6, true), (7, false), (8, true), (9, true), (10, true), (11, true), (12, true), (13, true), (14, true), (15, true), (16, true), (17, true), (18, true), (19, true), (20, true), (21, true), (22, true), (23, true), (24, true), (25, true), (26, true), (27, true), (28, true), (29, true), (30, true), (31, false), (32, true), (33, true), (34, true), (35, true), (36, true), (37, true), (38, true), (39, true), (40, true), (41, true), (42, true), (43, true), (44, false), (45, true), (46, true), (47, true)] (by kernel_rfl) (by kernel_rfl) rfl (by kernel_rfl) hS ?_
              clear hall k0
              refine pi_f0 _ rfl (fun w' hS' => r_fld (q := 0) fld37_0 (H.ev rfl) rfl) ?_; refine kp H rfl fun a H => ?_
              refine pi_f0 _ rfl (fun w' hS' => r_ld Try.underlying3 rfl (H.ev rfl) ((Block.cell (hS'.2) 0).trans rfl)) ?_; refine kp H rfl fun a H => ?_
              refine pi_a0 rfl (fun K hK => ?_); refine wpo_call _ _ _ (ruser_any _ _) (r_call1 cf27 (H.ev rfl)) ?_; rintro e w9 ⟨rfl, rfl⟩; refine ⟨_, rfl, ?_⟩; rw [HU1.out]; skip; refine hK _ _ ⟨hS, ?_⟩; clear hK; clear K; refine kp H rfl fun a H => ?_
              refine pi_f0 _ rfl (fun w' hS' => r_not (H.ev rfl) rfl) ?_; refine kp H rfl fun a H => ?_
              refine pi_f0 _ rfl (fun w' hS' => r_move (H.ev rfl)) ?_; refine kp H rfl fun a H => ?_
              refine pi_f1 _ rfl rfl rfl (H.ev rfl) (fun w' hS' => r_fld (q := 1) fld37_1 (H.ev rfl) rfl) ?_; refine kp H rfl fun a H => ?_
              refine pi_f1 _ rfl rfl rfl (H.ev rfl) (fun w' hS' => r_ld Try.underlying3 rfl (H.ev rfl) ((Block.cell (hS'.2) 1).trans rfl)) ?_; refine kp H rfl fun a H => ?_
              refine pi_a1 rfl rfl rfl (H.ev rfl) (fun K hK => ?_); refine wpo_call _ _ _ (ruser_any _ _) (r_call1 cf27 (H.ev rfl)) ?_; rintro e w9 ⟨rfl, rfl⟩; refine ⟨_, rfl, ?_⟩; rw [HU2.out]; skip; refine hK _ _ ⟨hS, ?_⟩; clear hK; clear K; refine kp H rfl fun a H => ?_
              refine pi_f1 _ rfl rfl rfl (H.ev rfl) (fun w' hS' => r_not (H.ev rfl) rfl) ?_; refine kp H rfl fun a H => ?_
              refine pi_f0 _ rfl (fun w' hS' => r_pick_f (H.ev rfl) (H.ev rfl)) ?_; refine kp H rfl fun a H => ?_
              refine pi_f0 _ rfl (fun w' hS' => r_move (H.ev rfl)) ?_; refine kp H rfl fun a H => ?_
              refine pi_f1 _ rfl rfl rfl (H.ev rfl) (fun w' hS' => r_fld (q := 0) fld37_0 (H.ev rfl) rfl) ?_; refine kp H rfl fun a H => ?_
              refine pi_f1 _ rfl rfl rfl (H.ev rfl) (fun w' hS' => r_ld Try.underlying3 rfl (H.ev rfl) ((Block.cell (hS'.2) 0).trans rfl)) ?_; refine kp H rfl fun a H => ?_
              refine pi_f1 _ rfl rfl rfl (H.ev rfl) (fun w' hS' => r_fld (q := 1) fld37_1 (H.ev rfl) rfl) ?_; refine kp H rfl fun a H => ?_
              refine pi_f1 _ rfl rfl rfl (H.ev rfl) (fun w' hS' => r_ld Try.underlying3 rfl (H.ev rfl) ((Block.cell (hS'.2) 1).trans rfl)) ?_; refine kp H rfl fun a H => ?_
              by_cases c4 : y.1 = y.2.1
              · skip
                refine pi_f1 _ rfl rfl rfl (H.ev rfl) (fun w' hS' => r_eq Try.underlying3 (H.ev rfl) (H.ev rfl) (dec_t (c4))) ?_; refine kp H rfl fun a H => ?_
                refine pi_f0 _ rfl (fun w' hS' => r_pick_f (H.ev rfl) (H.ev rfl)) ?_; refine kp H rfl fun a H => ?_
                refine pi_f0 _ rfl (fun w' hS' => r_move (H.ev rfl)) ?_; refine kp H rfl fun a H => ?_
                refine pi_s1 rfl rfl rfl (H.ev rfl) ?_; refine kp H rfl fun a H => ?_
                refine pi_s1 rfl rfl rfl (H.ev rfl) ?_; refine kp H rfl fun a H => ?_
                refine pi_s1 rfl rfl rfl (H.ev rfl) ?_; refine kp H rfl fun a H => ?_
                refine pi_f0 _ rfl (fun w' hS' => r_pick_t (H.ev rfl) evc) ?_; refine kp H rfl fun a H => ?_
                refine pi_f0 _ rfl (fun w' hS' => r_move (H.ev rfl)) ?_; refine kp H rfl fun a H => ?_
                refine pi_s1 rfl rfl rfl (H.ev rfl) ?_; refine kp H rfl fun a H => ?_
                refine pi_s1 rfl rfl rfl (H.ev rfl) ?_; refine kp H rfl fun a H => ?_
                refine pi_s1 rfl rfl rfl (H.ev rfl) ?_; refine kp H rfl fun a H => ?_
                refine pi_f0 _ rfl (fun w' hS' => r_pick_t (H.ev rfl) evc) ?_; refine kp H rfl fun a H => ?_
                refine pi_f0 _ rfl (fun w' hS' => r_move (H.ev rfl)) ?_; refine kp H rfl fun a H => ?_
                refine pi_s1 rfl rfl rfl (H.ev rfl) ?_; refine kp H rfl fun a H => ?_
                refine pi_s1 rfl rfl rfl (H.ev rfl) ?_; refine kp H rfl fun a H => ?_
                refine pi_s1 rfl rfl rfl (H.ev rfl) ?_; refine kp H rfl fun a H => ?_
                refine pi_s1 rfl rfl rfl (H.ev rfl) ?_; refine kp H rfl fun a H => ?_
                refine pi_s1 rfl rfl rfl (H.ev rfl) ?_; refine kp H rfl fun a H => ?_
                refine pi_f0 _ rfl (fun w' hS' => r_pick_t (H.ev rfl) evc) ?_; refine kp H rfl fun a H => ?_
                refine pi_f0 _ rfl (fun w' hS' => r_move (H.ev rfl)) ?_; refine kp H rfl fun a H => ?_
                refine pi_s1 rfl rfl rfl (H.ev rfl) ?_; refine kp H rfl fun a H => ?_
                refine pi_s1 rfl rfl rfl (H.ev rfl) ?_; refine kp H rfl fun a H => ?_
                refine pi_s1 rfl rfl rfl (H.ev rfl) ?_; refine kp H rfl fun a H => ?_
                refine pi_s2 rfl rfl rfl (H.ev rfl) ?_; refine kp H rfl fun a H => ?_
                refine pi_s2 rfl rfl rfl (H.ev rfl) ?_; refine kp H rfl fun a H => ?_
                refine pi_s2 rfl rfl rfl (H.ev rfl) ?_; refine kp H rfl fun a H => ?_
                refine pi_s2 rfl rfl rfl (H.ev rfl) ?_; refine kp H rfl fun a H => ?_
                refine pi_s2 rfl rfl rfl (H.ev rfl) ?_; refine kp H rfl fun a H => ?_
                refine pi_s2 rfl rfl rfl (H.ev rfl) ?_; refine kp H rfl fun a H => ?_
                refine pi_s2 rfl rfl rfl (H.ev rfl) ?_; refine kp H rfl fun a H => ?_
                refine pi_s2 rfl rfl rfl (H.ev rfl) ?_; refine kp H rfl fun a H => ?_
                refine pi_s1 rfl rfl rfl (H.ev rfl) ?_; refine kp H rfl fun a H => ?_
                refine pi_f0 _ rfl (fun w' hS' => r_pick_t (H.ev rfl) evc) ?_; refine kp H rfl fun a H => ?_
                refine pi_nil (NoPanic.normal ?_)
                have hall := hS.1
                clear hS
                refine c_next ?_
                refine c_cond_t H rfl ?_
                refine wp_seq ?_
                refine wp_region_lit ?_
                refine wl_v _ (r_assign evc) ?_; refine kl H rfl fun a H => ?_
                refine wpList_nil ?_
                refine c_next ?_
                refine wp_ret ?_
                refine r_block ?_
                refine r_then ?_
                refine r_then ?_
                refine r_block ?_
                refine r_then ?_
                exact k_ret1 H rfl rfl ⟨by rw [right_no HY.out (by first | exact .inl (ok_f (.inl HU1.out)) | exact .inl (ok_f (.inr (.inl HU2.out))) | exact .inl (ok_f (.inr (.inr (by omega)))) | exact .inr (.inl (by rw [HM.out]; omega)) | exact .inr (.inr ⟨j, p, HJ.out, HPY.out, of_decide_eq_false HLS.out⟩))], hall⟩
              · skip
                refine pi_f1 _ rfl rfl rfl (H.ev rfl) (fun w' hS' => r_eq Try.underlying3 (H.ev rfl) (H.ev rfl) (dec_f (c4))) ?_; refine kp H rfl fun a H => ?_
                refine pi_f0 _ rfl (fun w' hS' => r_pick_f (H.ev rfl) (H.ev rfl)) ?_; refine kp H rfl fun a H => ?_
                refine pi_f0 _ rfl (fun w' hS' => r_move (H.ev rfl)) ?_; refine kp H rfl fun a H => ?_
                refine pi_f1 _ rfl rfl rfl (H.ev rfl) (fun w' hS' => r_fld (q := 2) fld37_2 (H.ev rfl) rfl) ?_; refine kp H rfl fun a H => ?_
                refine pi_f1 _ rfl rfl rfl (H.ev rfl) (fun w' hS' => r_ld Try.underlying3 rfl (H.ev rfl) ((Block.cell (hS'.2) 2).trans rfl)) ?_; refine kp H rfl fun a H => ?_
                by_cases c5 : y.2.2 < 1
                · skip
                  refine pi_f1 _ rfl rfl rfl (H.ev rfl) (fun w' hS' => r_lt Try.underlying3 (H.ev rfl) evc (dec_t (c5))) ?_; refine kp H rfl fun a H => ?_
                  refine pi_f0 _ rfl (fun w' hS' => r_pick_f (H.ev rfl) (H.ev rfl)) ?_; refine kp H rfl fun a H => ?_
                  refine pi_f0 _ rfl (fun w' hS' => r_move (H.ev rfl)) ?_; refine kp H rfl fun a H => ?_
                  refine pi_s1 rfl rfl rfl (H.ev rfl) ?_; refine kp H rfl fun a H => ?_
                  refine pi_s1 rfl rfl rfl (H.ev rfl) ?_; refine kp H rfl fun a H => ?_
                  refine pi_s1 rfl rfl rfl (H.ev rfl) ?_; refine kp H rfl fun a H => ?_
                  refine pi_f0 _ rfl (fun w' hS' => r_pick_t (H.ev rfl) evc) ?_; refine kp H rfl fun a H => ?_
                  refine pi_f0 _ rfl (fun w' hS' => r_move (H.ev rfl)) ?_; refine kp H rfl fun a H => ?_
                  refine pi_s1 rfl rfl rfl (H.ev rfl) ?_; refine kp H rfl fun a H => ?_
                  refine pi_s1 rfl rfl rfl (H.ev rfl) ?_; refine kp H rfl fun a H => ?_
                  refine pi_s1 rfl rfl rfl (H.ev rfl) ?_; refine kp H rfl fun a H => ?_
                  refine pi_s1 rfl rfl rfl (H.ev rfl) ?_; refine kp H rfl fun a H => ?_
                  refine pi_s1 rfl rfl rfl (H.ev rfl) ?_; refine kp H rfl fun a H => ?_
                  refine pi_f0 _ rfl (fun w' hS' => r_pick_t (H.ev rfl) evc) ?_; refine kp H rfl fun a H => ?_
                  refine pi_f0 _ rfl (fun w' hS' => r_move (H.ev rfl)) ?_; refine kp H rfl fun a H => ?_
                  refine pi_s1 rfl rfl rfl (H.ev rfl) ?_; refine kp H rfl fun a H => ?_
                  refine pi_s1 rfl rfl rfl (H.ev rfl) ?_; refine kp H rfl fun a H => ?_
                  refine pi_s1 rfl rfl rfl (H.ev rfl) ?_; refine kp H rfl fun a H => ?_
                  refine pi_s2 rfl rfl rfl (H.ev rfl) ?_; refine kp H rfl fun a H => ?_
                  refine pi_s2 rfl rfl rfl (H.ev rfl) ?_; refine kp H rfl fun a H => ?_
                  refine pi_s2 rfl rfl rfl (H.ev rfl) ?_; refine kp H rfl fun a H => ?_
                  refine pi_s2 rfl rfl rfl (H.ev rfl) ?_; refine kp H rfl fun a H => ?_
                  refine pi_s2 rfl rfl rfl (H.ev rfl) ?_; refine kp H rfl fun a H => ?_
                  refine pi_s2 rfl rfl rfl (H.ev rfl) ?_; refine kp H rfl fun a H => ?_
                  refine pi_s2 rfl rfl rfl (H.ev rfl) ?_; refine kp H rfl fun a H => ?_
                  refine pi_s2 rfl rfl rfl (H.ev rfl) ?_; refine kp H rfl fun a H => ?_
                  refine pi_s1 rfl rfl rfl (H.ev rfl) ?_; refine kp H rfl fun a H => ?_
                  refine pi_f0 _ rfl (fun w' hS' => r_pick_t (H.ev rfl) evc) ?_; refine kp H rfl fun a H => ?_
                  refine pi_nil (NoPanic.normal ?_)
                  have hall := hS.1
                  clear hS
                  refine c_next ?_
                  refine c_cond_t H rfl ?_
                  refine wp_seq ?_
                  refine wp_region_lit ?_
                  refine wl_v _ (r_assign evc) ?_; refine kl H rfl fun a H => ?_
                  refine wpList_nil ?_
                  refine c_next ?_
                  refine wp_ret ?_
                  refine r_block ?_
                  refine r_then ?_
                  refine r_then ?_
                  refine r_block ?_
                  refine r_then ?_
                  exact k_ret1 H rfl rfl ⟨by rw [right_no HY.out (by first | exact .inl (ok_f (.inl HU1.out)) | exact .inl (ok_f (.inr (.inl HU2.out))) | exact .inl (ok_f (.inr (.inr (by omega)))) | exact .inr (.inl (by rw [HM.out]; omega)) | exact .inr (.inr ⟨j, p, HJ.out, HPY.out, of_decide_eq_false HLS.out⟩))], hall⟩
                · skip
                  refine pi_f1 _ rfl rfl rfl (H.ev rfl) (fun w' hS' => r_lt Try.underlying3 (H.ev rfl) evc (dec_f (c5))) ?_; refine kp H rfl fun a H => ?_
                  refine pi_f0 _ rfl (fun w' hS' => r_pick_f (H.ev rfl) (H.ev rfl)) ?_; refine kp H rfl fun a H => ?_
                  refine pi_f0 _ rfl (fun w' hS' => r_move (H.ev rfl)) ?_; refine kp H rfl fun a H => ?_
                  refine pi_f1 _ rfl rfl rfl (H.ev rfl) (fun w' hS' => r_fld (q := 2) fld37_2 (H.ev rfl) rfl) ?_; refine kp H rfl fun a H => ?_
                  refine pi_f1 _ rfl rfl rfl (H.ev rfl) (fun w' hS' => r_ld Try.underlying3 rfl (H.ev rfl) ((Block.cell (hS'.2) 2).trans rfl)) ?_; refine kp H rfl fun a H => ?_
                  by_cases c6 : y.2.2 > 4
                  · skip
                    refine pi_f1 _ rfl rfl rfl (H.ev rfl) (fun w' hS' => r_gt Try.underlying3 (H.ev rfl) evc (dec_t (c6))) ?_; refine kp H rfl fun a H => ?_
                    refine pi_f0 _ rfl (fun w' hS' => r_pick_f (H.ev rfl) (H.ev rfl)) ?_; refine kp H rfl fun a H => ?_
                    refine pi_f0 _ rfl (fun w' hS' => r_move (H.ev rfl)) ?_; refine kp H rfl fun a H => ?_
                    refine pi_s1 rfl rfl rfl (H.ev rfl) ?_; refine kp H rfl fun a H => ?_
                    refine pi_s1 rfl rfl rfl (H.ev rfl) ?_; refine kp H rfl fun a H => ?_
                    refine pi_s1 rfl rfl rfl (H.ev rfl) ?_; refine kp H rfl fun a H => ?_
                    refine pi_s1 rfl rfl rfl (H.ev rfl) ?_; refine kp H rfl fun a H => ?_
                    refine pi_s1 rfl rfl rfl (H.ev rfl) ?_; refine kp H rfl fun a H => ?_
                    refine pi_f0 _ rfl (fun w' hS' => r_pick_t (H.ev rfl) evc) ?_; refine kp H rfl fun a H => ?_
                    refine pi_f0 _ rfl (fun w' hS' => r_move (H.ev rfl)) ?_; refine kp H rfl fun a H => ?_
                    refine pi_s1 rfl rfl rfl (H.ev rfl) ?_; refine kp H rfl fun a H => ?_
                    refine pi_s1 rfl rfl rfl (H.ev rfl) ?_; refine kp H rfl fun a H => ?_
                    refine pi_s1 rfl rfl rfl (H.ev rfl) ?_; refine kp H rfl fun a H => ?_
                    refine pi_s2 rfl rfl rfl (H.ev rfl) ?_; refine kp H rfl fun a H => ?_
                    refine pi_s2 rfl rfl rfl (H.ev rfl) ?_; refine kp H rfl fun a H => ?_
                    refine pi_s2 rfl rfl rfl (H.ev rfl) ?_; refine kp H rfl fun a H => ?_
                    refine pi_s2 rfl rfl rfl (H.ev rfl) ?_; refine kp H rfl fun a H => ?_
                    refine pi_s2 rfl rfl rfl (H.ev rfl) ?_; refine kp H rfl fun a H => ?_
                    refine pi_s2 rfl rfl rfl (H.ev rfl) ?_; refine kp H rfl fun a H => ?_
                    refine pi_s2 rfl rfl rfl (H.ev rfl) ?_; refine kp H rfl fun a H => ?_
                    refine pi_s2 rfl rfl rfl (H.ev rfl) ?_; refine kp H rfl fun a H => ?_
                    refine pi_s1 rfl rfl rfl (H.ev rfl) ?_; refine kp H rfl fun a H => ?_
                    refine pi_f0 _ rfl (fun w' hS' => r_pick_t (H.ev rfl) evc) ?_; refine kp H rfl fun a H => ?_
                    refine pi_nil (NoPanic.normal ?_)
                    have hall := hS.1
                    clear hS
                    refine c_next ?_
                    refine c_cond_t H rfl ?_
                    refine wp_seq ?_
                    refine wp_region_lit ?_
                    refine wl_v _ (r_assign evc) ?_; refine kl H rfl fun a H => ?_
                    refine wpList_nil ?_
                    refine c_next ?_
                    refine wp_ret ?_
                    refine r_block ?_
                    refine r_then ?_
                    refine r_then ?_
                    refine r_block ?_
                    refine r_then ?_
                    exact k_ret1 H rfl rfl ⟨by rw [right_no HY.out (by first | exact .inl (ok_f (.inl HU1.out)) | exact .inl (ok_f (.inr (.inl HU2.out))) | exact .inl (ok_f (.inr (.inr (by omega)))) | exact .inr (.inl (by rw [HM.out]; omega)) | exact .inr (.inr ⟨j, p, HJ.out, HPY.out, of_decide_eq_false HLS.out⟩))], hall⟩
                  · skip
                    refine pi_f1 _ rfl rfl rfl (H.ev rfl) (fun w' hS' => r_gt Try.underlying3 (H.ev rfl) evc (dec_f (c6))) ?_; refine kp H rfl fun a H => ?_
                    refine pi_f0 _ rfl (fun w' hS' => r_pick_f (H.ev rfl) (H.ev rfl)) ?_; refine kp H rfl fun a H => ?_
                    refine pi_f0 _ rfl (fun w' hS' => r_move (H.ev rfl)) ?_; refine kp H rfl fun a H => ?_
                    refine pi_f1 _ rfl rfl rfl (H.ev rfl) (fun w' hS' => r_move (H.ev rfl)) ?_; refine kp H rfl fun a H => ?_
                    refine pi_f1 _ rfl rfl rfl (H.ev rfl) (fun w' hS' => r_fld (q := 0) fld37_0 (H.ev rfl) rfl) ?_; refine kp H rfl fun a H => ?_
                    refine pi_f1 _ rfl rfl rfl (H.ev rfl) (fun w' hS' => r_ld Try.underlying3 rfl (H.ev rfl) ((Block.cell (hS'.2) 0).trans rfl)) ?_; refine kp H rfl fun a H => ?_
                    refine pi_a1 rfl rfl rfl (H.ev rfl) (fun K hK => ?_); refine wpo_call _ _ _ (many_any _ _ L _ (Row.up h.out hS.1) (by omega)) (r_call2 cf28 (H.ev rfl) (H.ev rfl)) ?_; rintro e w9 ⟨rfl, rfl⟩; refine ⟨_, rfl, ?_⟩; rw [HM.out]; skip; refine hK _ _ ⟨hS, ?_⟩; clear hK; clear K; refine kp H rfl fun a H => ?_
                    by_cases c7 : ((m : Nat) : Int) > 8
                    · skip
                      refine pi_f1 _ rfl rfl rfl (H.ev rfl) (fun w' hS' => r_gt Try.underlying3 (H.ev rfl) evc (dec_t (c7))) ?_; refine kp H rfl fun a H => ?_
                      refine pi_f0 _ rfl (fun w' hS' => r_pick_f (H.ev rfl) (H.ev rfl)) ?_; refine kp H rfl fun a H => ?_
                      refine pi_f0 _ rfl (fun w' hS' => r_move (H.ev rfl)) ?_; refine kp H rfl fun a H => ?_
                      refine pi_s1 rfl rfl rfl (H.ev rfl) ?_; refine kp H rfl fun a H => ?_
                      refine pi_s1 rfl rfl rfl (H.ev rfl) ?_; refine kp H rfl fun a H => ?_
                      refine pi_s1 rfl rfl rfl (H.ev rfl) ?_; refine kp H rfl fun a H => ?_
                      refine pi_s2 rfl rfl rfl (H.ev rfl) ?_; refine kp H rfl fun a H => ?_
                      refine pi_s2 rfl rfl rfl (H.ev rfl) ?_; refine kp H rfl fun a H => ?_
                      refine pi_s2 rfl rfl rfl (H.ev rfl) ?_; refine kp H rfl fun a H => ?_
                      refine pi_s2 rfl rfl rfl (H.ev rfl) ?_; refine kp H rfl fun a H => ?_
                      refine pi_s2 rfl rfl rfl (H.ev rfl) ?_; refine kp H rfl fun a H => ?_
                      refine pi_s2 rfl rfl rfl (H.ev rfl) ?_; refine kp H rfl fun a H => ?_
                      refine pi_s2 rfl rfl rfl (H.ev rfl) ?_; refine kp H rfl fun a H => ?_
                      refine pi_s2 rfl rfl rfl (H.ev rfl) ?_; refine kp H rfl fun a H => ?_
                      refine pi_s1 rfl rfl rfl (H.ev rfl) ?_; refine kp H rfl fun a H => ?_
                      refine pi_f0 _ rfl (fun w' hS' => r_pick_t (H.ev rfl) evc) ?_; refine kp H rfl fun a H => ?_
                      refine pi_nil (NoPanic.normal ?_)
                      have hall := hS.1
                      clear hS
                      refine c_next ?_
                      refine c_cond_t H rfl ?_
                      refine wp_seq ?_
                      refine wp_region_lit ?_
                      refine wl_v _ (r_assign evc) ?_; refine kl H rfl fun a H => ?_
                      refine wpList_nil ?_
                      refine c_next ?_
                      refine wp_ret ?_
                      refine r_block ?_
                      refine r_then ?_
                      refine r_then ?_
                      refine r_block ?_
                      refine r_then ?_
                      exact k_ret1 H rfl rfl ⟨by rw [right_no HY.out (by first | exact .inl (ok_f (.inl HU1.out)) | exact .inl (ok_f (.inr (.inl HU2.out))) | exact .inl (ok_f (.inr (.inr (by omega)))) | exact .inr (.inl (by rw [HM.out]; omega)) | exact .inr (.inr ⟨j, p, HJ.out, HPY.out, of_decide_eq_false HLS.out⟩))], hall⟩
                    · skip
                      refine pi_f1 _ rfl rfl rfl (H.ev rfl) (fun w' hS' => r_gt Try.underlying3 (H.ev rfl) evc (dec_f (c7))) ?_; refine kp H rfl fun a H => ?_
                      refine pi_f0 _ rfl (fun w' hS' => r_pick_f (H.ev rfl) (H.ev rfl)) ?_; refine kp H rfl fun a H => ?_
                      refine pi_f0 _ rfl (fun w' hS' => r_move (H.ev rfl)) ?_; refine kp H rfl fun a H => ?_
                      refine pi_f1 _ rfl rfl rfl (H.ev rfl) (fun w' hS' => r_move (H.ev rfl)) ?_; refine kp H rfl fun a H => ?_
                      refine pi_f1 _ rfl rfl rfl (H.ev rfl) (fun w' hS' => r_gt Try.underlying3 (H.ev rfl) evc (dec_t (by omega))) ?_; refine kp H rfl fun a H => ?_
                      refine pi_f1 _ rfl rfl rfl (H.ev rfl) (fun w' hS' => r_move (H.ev rfl)) ?_; refine kp H rfl fun a H => ?_
                      refine pi_f1 _ rfl rfl rfl (H.ev rfl) (fun w' hS' => r_move (H.ev rfl)) ?_; refine kp H rfl fun a H => ?_
                      refine pi_f1 _ rfl rfl rfl (H.ev rfl) (fun w' hS' => r_move (H.ev rfl)) ?_; refine kp H rfl fun a H => ?_
                      refine pi_f1 (.int .i64 (j : Nat)) rfl rfl rfl (H.ev rfl) (fun w' hS' => r_sub (q := ((j : Nat) : Int)) Try.underlying3 (H.ev rfl) evc (by omega) (by omega)) ?_; refine kp H rfl fun a H => ?_
                      refine pi_f1 _ rfl rfl rfl (H.ev rfl) (fun w' hS' => r_idx (j := j) (q := o + j * 3) Try.underlying22 s37 (H.ev rfl) (H.ev rfl) (by omega) rfl) ?_; refine kp H rfl fun a H => ?_
                      refine pi_f1 _ rfl rfl rfl (H.ev rfl) (fun w' hS' => r_row (cs := [.int .i64 p.1, .int .i64 p.2.1, .int .i64 p.2.2]) (H.ev rfl) (range_ups HP.out hS'.1) (by kernel_rfl) s37 rfl) ?_; refine kp H rfl fun a H => ?_
                      refine pi_f1 _ rfl rfl rfl (H.ev rfl) (fun w' hS' => r_row (cs := [.int .i64 y.1, .int .i64 y.2.1, .int .i64 y.2.2]) (H.ev rfl) (block_range (hS'.2)) (by kernel_rfl) s37 rfl) ?_; refine kp H rfl fun a H => ?_
                      refine pi_a1 rfl rfl rfl (H.ev rfl) (fun K hK => ?_); refine wpo_call _ _ _ (less_any p y _) (r_call2 cf29 (H.ev rfl) (H.ev rfl)) ?_; rintro e w9 ⟨rfl, hb9⟩; refine ⟨_, rfl, ?_⟩; rw [HLS.out]; replace hS := hS.up hb9; clear hb9; refine hK _ _ ⟨hS, ?_⟩; clear hK; clear K; refine kp H rfl fun a H => ?_
                      refine pi_f1 _ rfl rfl rfl (H.ev rfl) (fun w' hS' => r_not (H.ev rfl) rfl) ?_; refine kp H rfl fun a H => ?_
                      refine pi_f1 _ rfl rfl rfl (H.ev rfl) (fun w' hS' => r_pick_t (H.ev rfl) (H.ev rfl)) ?_; refine kp H rfl fun a H => ?_
                      refine pi_f0 _ rfl (fun w' hS' => r_pick_f (H.ev rfl) (H.ev rfl)) ?_; refine kp H rfl fun a H => ?_
                      refine pi_nil (NoPanic.normal ?_)
                      have hall := hS.1
                      clear hS
                      refine c_next ?_
                      refine c_cond_t H rfl ?_
                      refine wp_seq ?_
                      refine wp_region_lit ?_
                      refine wl_v _ (r_assign evc) ?_; refine kl H rfl fun a H => ?_
                      refine wpList_nil ?_
                      refine c_next ?_
                      refine wp_ret ?_
                      refine r_block ?_
                      refine r_then ?_
                      refine r_then ?_
                      refine r_block ?_
                      refine r_then ?_
                      exact k_ret1 H rfl rfl ⟨by rw [right_no HY.out (by first | exact .inl (ok_f (.inl HU1.out)) | exact .inl (ok_f (.inr (.inl HU2.out))) | exact .inl (ok_f (.inr (.inr (by omega)))) | exact .inr (.inl (by rw [HM.out]; omega)) | exact .inr (.inr ⟨j, p, HJ.out, HPY.out, of_decide_eq_false HLS.out⟩))], hall⟩
        · skip
          cases u1
          · skip
            cases u2
            · skip
              have hS : SRr w b0 y _ := ⟨hall.drew, k0⟩
              refine region_pi (SRr w b0 y) [(0, true), (1, true), (2, false), (3, true), (4, true), (5, true), (6, true), (7, false), (8, true), (9, true), (10, true), (11, true), (12, true), (13, true), (14, true), (15, true), (16, true), (17, true), (18, true), (19, true), (20, true), (21, true), (22, true), (23, true), (24, true), (25, true), (26, true), (27, true), (28, true), (29, true), (30, true), (31, false), (32, true), (33, true), (34, true), (35, true), (36, true), (37, true), (38, true), (39, true), (40, true), (41, true), (42, true), (43, true), (44, false), (45, true), (46, true), (47, true)] (by kernel_rfl) (by kernel_rfl) rfl (by kernel_rfl) hS ?_
              clear hall k0
              refine pi_f0 _ rfl (fun w' hS' => r_fld (q := 0) fld37_0 (H.ev rfl) rfl) ?_; refine kp H rfl fun a H => ?_
              refine pi_f0 _ rfl (fun w' hS' => r_ld Try.underlying3 rfl (H.ev rfl) ((Block.cell (hS'.2) 0).trans rfl)) ?_; refine kp H rfl fun a H => ?_
              refine pi_a0 rfl (fun K hK => ?_); refine wpo_call _ _ _ (ruser_any _ _) (r_call1 cf27 (H.ev rfl)) ?_; rintro e w9 ⟨rfl, rfl⟩; refine ⟨_, rfl, ?_⟩; rw [HU1.out]; skip; refine hK _ _ ⟨hS, ?_⟩; clear hK; clear K; refine kp H rfl fun a H => ?_
              refine pi_f0 _ rfl (fun w' hS' => r_not (H.ev rfl) rfl) ?_; refine kp H rfl fun a H => ?_
              refine pi_f0 _ rfl (fun w' hS' => r_move (H.ev rfl)) ?_; refine kp H rfl fun a H => ?_
              refine pi_s1 rfl rfl rfl (H.ev rfl) ?_; refine kp H rfl fun a H => ?_
              refine pi_s1 rfl rfl rfl (H.ev rfl) ?_; refine kp H rfl fun a H => ?_
              refine pi_s1 rfl rfl rfl (H.ev rfl) ?_; refine kp H rfl fun a H => ?_
              refine pi_s1 rfl rfl rfl (H.ev rfl) ?_; refine kp H rfl fun a H => ?_
              refine pi_f0 _ rfl (fun w' hS' => r_pick_t (H.ev rfl) evc) ?_; refine kp H rfl fun a H => ?_
              refine pi_f0 _ rfl (fun w' hS' => r_move (H.ev rfl)) ?_; refine kp H rfl fun a H => ?_
              refine pi_s1 rfl rfl rfl (H.ev rfl) ?_; refine kp H rfl fun a H => ?_
              refine pi_s1 rfl rfl rfl (H.ev rfl) ?_; refine kp H rfl fun a H => ?_
              refine pi_s1 rfl rfl rfl (H.ev rfl) ?_; refine kp H rfl fun a H => ?_
              refine pi_s1 rfl rfl rfl (H.ev rfl) ?_; refine kp H rfl fun a H => ?_
              refine pi_s1 rfl rfl rfl (H.ev rfl) ?_; refine kp H rfl fun a H => ?_
              refine pi_f0 _ rfl (fun w' hS' => r_pick_t (H.ev rfl) evc) ?_; refine kp H rfl fun a H => ?_
              refine pi_f0 _ rfl (fun w' hS' => r_move (H.ev rfl)) ?_; refine kp H rfl fun a H => ?_
              refine pi_s1 rfl rfl rfl (H.ev rfl) ?_; refine kp H rfl fun a H => ?_
              refine pi_s1 rfl rfl rfl (H.ev rfl) ?_; refine kp H rfl fun a H => ?_
              refine pi_s1 rfl rfl rfl (H.ev rfl) ?_; refine kp H rfl fun a H => ?_
              refine pi_f0 _ rfl (fun w' hS' => r_pick_t (H.ev rfl) evc) ?_; refine kp H rfl fun a H => ?_
              refine pi_f0 _ rfl (fun w' hS' => r_move (H.ev rfl)) ?_; refine kp H rfl fun a H => ?_
              refine pi_s1 rfl rfl rfl (H.ev rfl) ?_; refine kp H rfl fun a H => ?_
              refine pi_s1 rfl rfl rfl (H.ev rfl) ?_; refine kp H rfl fun a H => ?_
              refine pi_s1 rfl rfl rfl (H.ev rfl) ?_; refine kp H rfl fun a H => ?_
              refine pi_f0 _ rfl (fun w' hS' => r_pick_t (H.ev rfl) evc) ?_; refine kp H rfl fun a H => ?_
              refine pi_f0 _ rfl (fun w' hS' => r_move (H.ev rfl)) ?_; refine kp H rfl fun a H => ?_
              refine pi_s1 rfl rfl rfl (H.ev rfl) ?_; refine kp H rfl fun a H => ?_
              refine pi_s1 rfl rfl rfl (H.ev rfl) ?_; refine kp H rfl fun a H => ?_
              refine pi_s1 rfl rfl rfl (H.ev rfl) ?_; refine kp H rfl fun a H => ?_
              refine pi_s1 rfl rfl rfl (H.ev rfl) ?_; refine kp H rfl fun a H => ?_
              refine pi_s1 rfl rfl rfl (H.ev rfl) ?_; refine kp H rfl fun a H => ?_
              refine pi_f0 _ rfl (fun w' hS' => r_pick_t (H.ev rfl) evc) ?_; refine kp H rfl fun a H => ?_
              refine pi_f0 _ rfl (fun w' hS' => r_move (H.ev rfl)) ?_; refine kp H rfl fun a H => ?_
              refine pi_s1 rfl rfl rfl (H.ev rfl) ?_; refine kp H rfl fun a H => ?_
              refine pi_s1 rfl rfl rfl (H.ev rfl) ?_; refine kp H rfl fun a H => ?_
              refine pi_s1 rfl rfl rfl (H.ev rfl) ?_; refine kp H rfl fun a H => ?_
              refine pi_s2 rfl rfl rfl (H.ev rfl) ?_; refine kp H rfl fun a H => ?_
              refine pi_s2 rfl rfl rfl (H.ev rfl) ?_; refine kp H rfl fun a H => ?_
              refine pi_s2 rfl rfl rfl (H.ev rfl) ?_; refine kp H rfl fun a H => ?_
              refine pi_s2 rfl rfl rfl (H.ev rfl) ?_; refine kp H rfl fun a H => ?_
              refine pi_s2 rfl rfl rfl (H.ev rfl) ?_; refine kp H rfl fun a H => ?_
              refine pi_s2 rfl rfl rfl (H.ev rfl) ?_; refine kp H rfl fun a H => ?_
              refine pi_s2 rfl rfl rfl (H.ev rfl) ?_; refine kp H rfl fun a H => ?_
              refine pi_s2 rfl rfl rfl (H.ev rfl) ?_; refine kp H rfl fun a H => ?_
              refine pi_s1 rfl rfl rfl (H.ev rfl) ?_; refine kp H rfl fun a H => ?_
              refine pi_f0 _ rfl (fun w' hS' => r_pick_t (H.ev rfl) evc) ?_; refine kp H rfl fun a H => ?_
              refine pi_nil (NoPanic.normal ?_)
              have hall := hS.1
              clear hS
              refine c_next ?_
              refine c_cond_t H rfl ?_
              refine wp_seq ?_
              refine wp_region_lit ?_
              refine wl_v _ (r_assign evc) ?_; refine kl H rfl fun a H => ?_
              refine wpList_nil ?_
              refine c_next ?_
              refine wp_ret ?_
              refine r_block ?_
              refine r_then ?_
              refine r_then ?_
              refine r_block ?_
              refine r_then ?_
              exact k_ret1 H rfl rfl ⟨by rw [right_no HY.out (by first | exact .inl (ok_f (.inl HU1.out)) | exact .inl (ok_f (.inr (.inl HU2.out))) | exact .inl (ok_f (.inr (.inr (by omega)))) | exact .inr (.inl (by rw [HM.out]; omega)) | exact .inr (.inr ⟨j, p, HJ.out, HPY.out, of_decide_eq_false HLS.out⟩))], hall⟩
            · skip
              have hS : SRr w b0 y _ := ⟨hall.drew, k0⟩
              refine region_pi (SRr w b0 y) [(0, true), (1, true), (2, false), (3, true), (4, true), (5, true), (6, true), (7, false), (8, true), (9, true), (10, true), (11, true), (12, true), (13, true), (14, true), (15, true), (16, true), (17, true), (18, true), (19, true), (20, true), (21, true), (22, true), (23, true), (24, true), (25, true), (26, true), (27, true), (28, true), (29, true), (30, true), (31, false), (32, true), (33, true), (34, true), (35, true), (36, true), (37, true), (38, true), (39, true), (40, true), (41, true), (42, true), (43, true), (44, false), (45, true), (46, true), (47, true)] (by kernel_rfl) (by kernel_rfl) rfl (by kernel_rfl) hS ?_
              clear hall k0
              refine pi_f0 _ rfl (fun w' hS' => r_fld (q := 0) fld37_0 (H.ev rfl) rfl) ?_; refine kp H rfl fun a H => ?_
              refine pi_f0 _ rfl (fun w' hS' => r_ld Try.underlying3 rfl (H.ev rfl) ((Block.cell (hS'.2) 0).trans rfl)) ?_; refine kp H rfl fun a H => ?_
              refine pi_a0 rfl (fun K hK => ?_); refine wpo_call _ _ _ (ruser_any _ _) (r_call1 cf27 (H.ev rfl)) ?_; rintro e w9 ⟨rfl, rfl⟩; refine ⟨_, rfl, ?_⟩; rw [HU1.out]; skip; refine hK _ _ ⟨hS, ?_⟩; clear hK; clear K; refine kp H rfl fun a H => ?_
              refine pi_f0 _ rfl (fun w' hS' => r_not (H.ev rfl) rfl) ?_; refine kp H rfl fun a H => ?_
              refine pi_f0 _ rfl (fun w' hS' => r_move (H.ev rfl)) ?_; refine kp H rfl fun a H => ?_
              refine pi_s1 rfl rfl rfl (H.ev rfl) ?_; refine kp H rfl fun a H => ?_
              refine pi_s1 rfl rfl rfl (H.ev rfl) ?_; refine kp H rfl fun a H => ?_
              refine pi_s1 rfl rfl rfl (H.ev rfl) ?_; refine kp H rfl fun a H => ?_
              refine pi_s1 rfl rfl rfl (H.ev rfl) ?_; refine kp H rfl fun a H => ?_
              refine pi_f0 _ rfl (fun w' hS' => r_pick_t (H.ev rfl) evc) ?_; refine kp H rfl fun a H => ?_
              refine pi_f0 _ rfl (fun w' hS' => r_move (H.ev rfl)) ?_; refine kp H rfl fun a H => ?_
              refine pi_s1 rfl rfl rfl (H.ev rfl) ?_; refine kp H rfl fun a H => ?_
              refine pi_s1 rfl rfl rfl (H.ev rfl) ?_; refine kp H rfl fun a H => ?_
              refine pi_s1 rfl rfl rfl (H.ev rfl) ?_; refine kp H rfl fun a H => ?_
              refine pi_s1 rfl rfl rfl (H.ev rfl) ?_; refine kp H rfl fun a H => ?_
              refine pi_s1 rfl rfl rfl (H.ev rfl) ?_; refine kp H rfl fun a H => ?_
              refine pi_f0 _ rfl (fun w' hS' => r_pick_t (H.ev rfl) evc) ?_; refine kp H rfl fun a H => ?_
              refine pi_f0 _ rfl (fun w' hS' => r_move (H.ev rfl)) ?_; refine kp H rfl fun a H => ?_
              refine pi_s1 rfl rfl rfl (H.ev rfl) ?_; refine kp H rfl fun a H => ?_
              refine pi_s1 rfl rfl rfl (H.ev rfl) ?_; refine kp H rfl fun a H => ?_
              refine pi_s1 rfl rfl rfl (H.ev rfl) ?_; refine kp H rfl fun a H => ?_
              refine pi_f0 _ rfl (fun w' hS' => r_pick_t (H.ev rfl) evc) ?_; refine kp H rfl fun a H => ?_
              refine pi_f0 _ rfl (fun w' hS' => r_move (H.ev rfl)) ?_; refine kp H rfl fun a H => ?_
              refine pi_s1 rfl rfl rfl (H.ev rfl) ?_; refine kp H rfl fun a H => ?_
              refine pi_s1 rfl rfl rfl (H.ev rfl) ?_; refine kp H rfl fun a H => ?_
              refine pi_s1 rfl rfl rfl (H.ev rfl) ?_; refine kp H rfl fun a H => ?_
              refine pi_f0 _ rfl (fun w' hS' => r_pick_t (H.ev rfl) evc) ?_; refine kp H rfl fun a H => ?_
              refine pi_f0 _ rfl (fun w' hS' => r_move (H.ev rfl)) ?_; refine kp H rfl fun a H => ?_
              refine pi_s1 rfl rfl rfl (H.ev rfl) ?_; refine kp H rfl fun a H => ?_
              refine pi_s1 rfl rfl rfl (H.ev rfl) ?_; refine kp H rfl fun a H => ?_
              refine pi_s1 rfl rfl rfl (H.ev rfl) ?_; refine kp H rfl fun a H => ?_
              refine pi_s1 rfl rfl rfl (H.ev rfl) ?_; refine kp H rfl fun a H => ?_
              refine pi_s1 rfl rfl rfl (H.ev rfl) ?_; refine kp H rfl fun a H => ?_
              refine pi_f0 _ rfl (fun w' hS' => r_pick_t (H.ev rfl) evc) ?_; refine kp H rfl fun a H => ?_
              refine pi_f0 _ rfl (fun w' hS' => r_move (H.ev rfl)) ?_; refine kp H rfl fun a H => ?_
              refine pi_s1 rfl rfl rfl (H.ev rfl) ?_; refine kp H rfl fun a H => ?_
              refine pi_s1 rfl rfl rfl (H.ev rfl) ?_; refine kp H rfl fun a H => ?_
              refine pi_s1 rfl rfl rfl (H.ev rfl) ?_; refine kp H rfl fun a H => ?_
              refine pi_s2 rfl rfl rfl (H.ev rfl) ?_; refine kp H rfl fun a H => ?_
              refine pi_s2 rfl rfl rfl (H.ev rfl) ?_; refine kp H rfl fun a H => ?_
              refine pi_s2 rfl rfl rfl (H.ev rfl) ?_; refine kp H rfl fun a H => ?_
              refine pi_s2 rfl rfl rfl (H.ev rfl) ?_; refine kp H rfl fun a H => ?_
              refine pi_s2 rfl rfl rfl (H.ev rfl) ?_; refine kp H rfl fun a H => ?_
              refine pi_s2 rfl rfl rfl (H.ev rfl) ?_; refine kp H rfl fun a H => ?_
              refine pi_s2 rfl rfl rfl (H.ev rfl) ?_; refine kp H rfl fun a H => ?_
              refine pi_s2 rfl rfl rfl (H.ev rfl) ?_; refine kp H rfl fun a H => ?_
              refine pi_s1 rfl rfl rfl (H.ev rfl) ?_; refine kp H rfl fun a H => ?_
              refine pi_f0 _ rfl (fun w' hS' => r_pick_t (H.ev rfl) evc) ?_; refine kp H rfl fun a H => ?_
              refine pi_nil (NoPanic.normal ?_)
              have hall := hS.1
              clear hS
              refine c_next ?_
              refine c_cond_t H rfl ?_
              refine wp_seq ?_
              refine wp_region_lit ?_
              refine wl_v _ (r_assign evc) ?_; refine kl H rfl fun a H => ?_
              refine wpList_nil ?_
              refine c_next ?_
              refine wp_ret ?_
              refine r_block ?_
              refine r_then ?_
              refine r_then ?_
              refine r_block ?_
              refine r_then ?_
              exact k_ret1 H rfl rfl ⟨by rw [right_no HY.out (by first | exact .inl (ok_f (.inl HU1.out)) | exact .inl (ok_f (.inr (.inl HU2.out))) | exact .inl (ok_f (.inr (.inr (by omega)))) | exact .inr (.inl (by rw [HM.out]; omega)) | exact .inr (.inr ⟨j, p, HJ.out, HPY.out, of_decide_eq_false HLS.out⟩))], hall⟩
          · skip
            cases u2
            · skip
              have hS : SRr w b0 y _ := ⟨hall.drew, k0⟩
              refine region_pi (SRr w b0 y) [(0, true), (1, true), (2, false), (3, true), (4, true), (5, true), (6, true), (7, false), (8, true), (9, true), (10, true), (11, true), (12, true), (13, true), (14, true), (15, true), (16, true), (17, true), (18, true), (19, true), (20, true), (21, true), (22, true), (23, true), (24, true), (25, true), (26, true), (27, true), (28, true), (29, true), (30, true), (31, false), (32, true), (33, true), (34, true), (35, true), (36, true), (37, true), (38, true), (39, true), (40, true), (41, true), (42, true), (43, true), (44, false), (45, true), (46, true), (47, true)] (by kernel_rfl) (by kernel_rfl) rfl (by kernel_rfl) hS ?_
              clear hall k0
              refine pi_f0 _ rfl (fun w' hS' => r_fld (q := 0) fld37_0 (H.ev rfl) rfl) ?_; refine kp H rfl fun a H => ?_
              refine pi_f0 _ rfl (fun w' hS' => r_ld Try.underlying3 rfl (H.ev rfl) ((Block.cell (hS'.2) 0).trans rfl)) ?_; refine kp H rfl fun a H => ?_
              refine pi_a0 rfl (fun K hK => ?_); refine wpo_call _ _ _ (ruser_any _ _) (r_call1 cf27 (H.ev rfl)) ?_; rintro e w9 ⟨rfl, rfl⟩; refine ⟨_, rfl, ?_⟩; rw [HU1.out]; skip; refine hK _ _ ⟨hS, ?_⟩; clear hK; clear K; refine kp H rfl fun a H => ?_
              refine pi_f0 _ rfl (fun w' hS' => r_not (H.ev rfl) rfl) ?_; refine kp H rfl fun a H => ?_
              refine pi_f0 _ rfl (fun w' hS' => r_move (H.ev rfl)) ?_; refine kp H rfl fun a H => ?_
              refine pi_f1 _ rfl rfl rfl (H.ev rfl) (fun w' hS' => r_fld (q := 1) fld37_1 (H.ev rfl) rfl) ?_; refine kp H rfl fun a H => ?_
              refine pi_f1 _ rfl rfl rfl (H.ev rfl) (fun w' hS' => r_ld Try.underlying3 rfl (H.ev rfl) ((Block.cell (hS'.2) 1).trans rfl)) ?_; refine kp H rfl fun a H => ?_
              refine pi_a1 rfl rfl rfl (H.ev rfl) (fun K hK => ?_); refine wpo_call _ _ _ (ruser_any _ _) (r_call1 cf27 (H.ev rfl)) ?_; rintro e w9 ⟨rfl, rfl⟩; refine ⟨_, rfl, ?_⟩; rw [HU2.out]; skip; refine hK _ _ ⟨hS, ?_⟩; clear hK; clear K; refine kp H rfl fun a H => ?_
              refine pi_f1 _ rfl rfl rfl (H.ev rfl) (fun w' hS' => r_not (H.ev rfl) rfl) ?_; refine kp H rfl fun a H => ?_
              refine pi_f0 _ rfl (fun w' hS' => r_pick_f (H.ev rfl) (H.ev rfl)) ?_; refine kp H rfl fun a H => ?_
              refine pi_f0 _ rfl (fun w' hS' => r_move (H.ev rfl)) ?_; refine kp H rfl fun a H => ?_
              refine pi_s1 rfl rfl rfl (H.ev rfl) ?_; refine kp H rfl fun a H => ?_
              refine pi_s1 rfl rfl rfl (H.ev rfl) ?_; refine kp H rfl fun a H => ?_
              refine pi_s1 rfl rfl rfl (H.ev rfl) ?_; refine kp H rfl fun a H => ?_
              refine pi_s1 rfl rfl rfl (H.ev rfl) ?_; refine kp H rfl fun a H => ?_
              refine pi_s1 rfl rfl rfl (H.ev rfl) ?_; refine kp H rfl fun a H => ?_
              refine pi_f0 _ rfl (fun w' hS' => r_pick_t (H.ev rfl) evc) ?_; refine kp H rfl fun a H => ?_
              refine pi_f0 _ rfl (fun w' hS' => r_move (H.ev rfl)) ?_; refine kp H rfl fun a H => ?_
              refine pi_s1 rfl rfl rfl (H.ev rfl) ?_; refine kp H rfl fun a H => ?_
              refine pi_s1 rfl rfl rfl (H.ev rfl) ?_; refine kp H rfl fun a H => ?_
              refine pi_s1 rfl rfl rfl (H.ev rfl) ?_; refine kp H rfl fun a H => ?_
              refine pi_f0 _ rfl (fun w' hS' => r_pick_t (H.ev rfl) evc) ?_; refine kp H rfl fun a H => ?_
              refine pi_f0 _ rfl (fun w' hS' => r_move (H.ev rfl)) ?_; refine kp H rfl fun a H => ?_
              refine pi_s1 rfl rfl rfl (H.ev rfl) ?_; refine kp H rfl fun a H => ?_
              refine pi_s1 rfl rfl rfl (H.ev rfl) ?_; refine kp H rfl fun a H => ?_
              refine pi_s1 rfl rfl rfl (H.ev rfl) ?_; refine kp H rfl fun a H => ?_
              refine pi_f0 _ rfl (fun w' hS' => r_pick_t (H.ev rfl) evc) ?_; refine kp H rfl fun a H => ?_
              refine pi_f0 _ rfl (fun w' hS' => r_move (H.ev rfl)) ?_; refine kp H rfl fun a H => ?_
              refine pi_s1 rfl rfl rfl (H.ev rfl) ?_; refine kp H rfl fun a H => ?_
              refine pi_s1 rfl rfl rfl (H.ev rfl) ?_; refine kp H rfl fun a H => ?_
              refine pi_s1 rfl rfl rfl (H.ev rfl) ?_; refine kp H rfl fun a H => ?_
              refine pi_s1 rfl rfl rfl (H.ev rfl) ?_; refine kp H rfl fun a H => ?_
              refine pi_s1 rfl rfl rfl (H.ev rfl) ?_; refine kp H rfl fun a H => ?_
              refine pi_f0 _ rfl (fun w' hS' => r_pick_t (H.ev rfl) evc) ?_; refine kp H rfl fun a H => ?_
              refine pi_f0 _ rfl (fun w' hS' => r_move (H.ev rfl)) ?_; refine kp H rfl fun a H => ?_
              refine pi_s1 rfl rfl rfl (H.ev rfl) ?_; refine kp H rfl fun a H => ?_
              refine pi_s1 rfl rfl rfl (H.ev rfl) ?_; refine kp H rfl fun a H => ?_
              refine pi_s1 rfl rfl rfl (H.ev rfl) ?_; refine kp H rfl fun a H => ?_
              refine pi_s2 rfl rfl rfl (H.ev rfl) ?_; refine kp H rfl fun a H => ?_
              refine pi_s2 rfl rfl rfl (H.ev rfl) ?_; refine kp H rfl fun a H => ?_
              refine pi_s2 rfl rfl rfl (H.ev rfl) ?_; refine kp H rfl fun a H => ?_
              refine pi_s2 rfl rfl rfl (H.ev rfl) ?_; refine kp H rfl fun a H => ?_
              refine pi_s2 rfl rfl rfl (H.ev rfl) ?_; refine kp H rfl fun a H => ?_
              refine pi_s2 rfl rfl rfl (H.ev rfl) ?_; refine kp H rfl fun a H => ?_
              refine pi_s2 rfl rfl rfl (H.ev rfl) ?_; refine kp H rfl fun a H => ?_
              refine pi_s2 rfl rfl rfl (H.ev rfl) ?_; refine kp H rfl fun a H => ?_
              refine pi_s1 rfl rfl rfl (H.ev rfl) ?_; refine kp H rfl fun a H => ?_
              refine pi_f0 _ rfl (fun w' hS' => r_pick_t (H.ev rfl) evc) ?_; refine kp H rfl fun a H => ?_
              refine pi_nil (NoPanic.normal ?_)
              have hall := hS.1
              clear hS
              refine c_next ?_
              refine c_cond_t H rfl ?_
              refine wp_seq ?_
              refine wp_region_lit ?_
              refine wl_v _ (r_assign evc) ?_; refine kl H rfl fun a H => ?_
              refine wpList_nil ?_
              refine c_next ?_
              refine wp_ret ?_
              refine r_block ?_
              refine r_then ?_
              refine r_then ?_
              refine r_block ?_
              refine r_then ?_
              exact k_ret1 H rfl rfl ⟨by rw [right_no HY.out (by first | exact .inl (ok_f (.inl HU1.out)) | exact .inl (ok_f (.inr (.inl HU2.out))) | exact .inl (ok_f (.inr (.inr (by omega)))) | exact .inr (.inl (by rw [HM.out]; omega)) | exact .inr (.inr ⟨j, p, HJ.out, HPY.out, of_decide_eq_false HLS.out⟩))], hall⟩
            · skip
              have hS : SRr w b0 y _ := ⟨hall.drew, k0⟩
              refine region_pi (SRr w b0 y) [(0, true), (1, true), (2, false), (3, true), (4, true), (5, true), (6, true), (7, false), (8, true), (9, true), (10, true), (11, true), (12, true), (13, true), (14, true), (15, true), (16, true), (17, true), (18, true), (19, true), (20, true), (21, true), (22, true), (23, true), (24, true), (25, true), (26, true), (27, true), (28, true), (29, true), (30, true), (31, false), (32, true), (33, true), (34, true), (35, true), (36, true), (37, true), (38, true), (39, true), (40, true), (41, true), (42, true), (43, true), (44, false), (45, true), (46, true), (47, true)] (by kernel_rfl) (by kernel_rfl) rfl (by kernel_rfl) hS ?_
              clear hall k0
              refine pi_f0 _ rfl (fun w' hS' => r_fld (q := 0) fld37_0 (H.ev rfl) rfl) ?_; refine kp H rfl fun a H => ?_
              refine pi_f0 _ rfl (fun w' hS' => r_ld Try.underlying3 rfl (H.ev rfl) ((Block.cell (hS'.2) 0).trans rfl)) ?_; refine kp H rfl fun a H => ?_
              refine pi_a0 rfl (fun K hK => ?_); refine wpo_call _ _ _ (ruser_any _ _) (r_call1 cf27 (H.ev rfl)) ?_; rintro e w9 ⟨rfl, rfl⟩; refine ⟨_, rfl, ?_⟩; rw [HU1.out]; skip; refine hK _ _ ⟨hS, ?_⟩; clear hK; clear K; refine kp H rfl fun a H => ?_
              refine pi_f0 _ rfl (fun w' hS' => r_not (H.ev rfl) rfl) ?_; refine kp H rfl fun a H => ?_
              refine pi_f0 _ rfl (fun w' hS' => r_move (H.ev rfl)) ?_; refine kp H rfl fun a H => ?_
              refine pi_f1 _ rfl rfl rfl (H.ev rfl) (fun w' hS' => r_fld (q := 1) fld37_1 (H.ev rfl) rfl) ?_; refine kp H rfl fun a H => ?_
              refine pi_f1 _ rfl rfl rfl (H.ev rfl) (fun w' hS' => r_ld Try.underlying3 rfl (H.ev rfl) ((Block.cell (hS'.2) 1).trans rfl)) ?_; refine kp H rfl fun a H => ?_
              refine pi_a1 rfl rfl rfl (H.ev rfl) (fun K hK => ?_); refine wpo_call _ _ _ (ruser_any _ _) (r_call1 cf27 (H.ev rfl)) ?_; rintro e w9 ⟨rfl, rfl⟩; refine ⟨_, rfl, ?_⟩; rw [HU2.out]; skip; refine hK _ _ ⟨hS, ?_⟩; clear hK; clear K; refine kp H rfl fun a H => ?_
              refine pi_f1 _ rfl rfl rfl (H.ev rfl) (fun w' hS' => r_not (H.ev rfl) rfl) ?_; refine kp H rfl fun a H => ?_
              refine pi_f0 _ rfl (fun w' hS' => r_pick_f (H.ev rfl) (H.ev rfl)) ?_; refine kp H rfl fun a H => ?_
              refine pi_f0 _ rfl (fun w' hS' => r_move (H.ev rfl)) ?_; refine kp H rfl fun a H => ?_
              refine pi_f1 _ rfl rfl rfl (H.ev rfl) (fun w' hS' => r_fld (q := 0) fld37_0 (H.ev rfl) rfl) ?_; refine kp H rfl fun a H => ?_
              refine pi_f1 _ rfl rfl rfl (H.ev rfl) (fun w' hS' => r_ld Try.underlying3 rfl (H.ev rfl) ((Block.cell (hS'.2) 0).trans rfl)) ?_; refine kp H rfl fun a H => ?_
              refine pi_f1 _ rfl rfl rfl (H.ev rfl) (fun w' hS' => r_fld (q := 1) fld37_1 (H.ev rfl) rfl) ?_; refine kp H rfl fun a H => ?_
              refine pi_f1 _ rfl rfl rfl (H.ev rfl) (fun w' hS' => r_ld Try.underlying3 rfl (H.ev rfl) ((Block.cell (hS'.2) 1).trans rfl)) ?_; refine kp H rfl fun a H => ?_
              by_cases c8 : y.1 = y.2.1
              · skip
                refine pi_f1 _ rfl rfl rfl (H.ev rfl) (fun w' hS' => r_eq Try.underlying3 (H.ev rfl) (H.ev rfl) (dec_t (c8))) ?_; refine kp H rfl fun a H => ?_
                refine pi_f0 _ rfl (fun w' hS' => r_pick_f (H.ev rfl) (H.ev rfl)) ?_; refine kp H rfl fun a H => ?_
                refine pi_f0 _ rfl (fun w' hS' => r_move (H.ev rfl)) ?_; refine kp H rfl fun a H => ?_
                refine pi_s1 rfl rfl rfl (H.ev rfl) ?_; refine kp H rfl fun a H => ?_
                refine pi_s1 rfl rfl rfl (H.ev rfl) ?_; refine kp H rfl fun a H => ?_
                refine pi_s1 rfl rfl rfl (H.ev rfl) ?_; refine kp H rfl fun a H => ?_
                refine pi_f0 _ rfl (fun w' hS' => r_pick_t (H.ev rfl) evc) ?_; refine kp H rfl fun a H => ?_
                refine pi_f0 _ rfl (fun w' hS' => r_move (H.ev rfl)) ?_; refine kp H rfl fun a H => ?_
                refine pi_s1 rfl rfl rfl (H.ev rfl) ?_; refine kp H rfl fun a H => ?_
                refine pi_s1 rfl rfl rfl (H.ev rfl) ?_; refine kp H rfl fun a H => ?_
                refine pi_s1 rfl rfl rfl (H.ev rfl) ?_; refine kp H rfl fun a H => ?_
                refine pi_f0 _ rfl (fun w' hS' => r_pick_t (H.ev rfl) evc) ?_; refine kp H rfl fun a H => ?_
                refine pi_f0 _ rfl (fun w' hS' => r_move (H.ev rfl)) ?_; refine kp H rfl fun a H => ?_
                refine pi_s1 rfl rfl rfl (H.ev rfl) ?_; refine kp H rfl fun a H => ?_
                refine pi_s1 rfl rfl rfl (H.ev rfl) ?_; refine kp H rfl fun a H => ?_
                refine pi_s1 rfl rfl rfl (H.ev rfl) ?_; refine kp H rfl fun a H => ?_
                refine pi_s1 rfl rfl rfl (H.ev rfl) ?_; refine kp H rfl fun a H => ?_
                refine pi_s1 rfl rfl rfl (H.ev rfl) ?_; refine kp H rfl fun a H => ?_
                refine pi_f0 _ rfl (fun w' hS' => r_pick_t (H.ev rfl) evc) ?_; refine kp H rfl fun a H => ?_
                refine pi_f0 _ rfl (fun w' hS' => r_move (H.ev rfl)) ?_; refine kp H rfl fun a H => ?_
                refine pi_s1 rfl rfl rfl (H.ev rfl) ?_; refine kp H rfl fun a H => ?_
                refine pi_s1 rfl rfl rfl (H.ev rfl) ?_; refine kp H rfl fun a H => ?_
                refine pi_s1 rfl rfl rfl (H.ev rfl) ?_; refine kp H rfl fun a H => ?_
                refine pi_s2 rfl rfl rfl (H.ev rfl) ?_; refine kp H rfl fun a H => ?_
                refine pi_s2 rfl rfl rfl (H.ev rfl) ?_; refine kp H rfl fun a H => ?_
                refine pi_s2 rfl rfl rfl (H.ev rfl) ?_; refine kp H rfl fun a H => ?_
                refine pi_s2 rfl rfl rfl (H.ev rfl) ?_; refine kp H rfl fun a H => ?_
                refine pi_s2 rfl rfl rfl (H.ev rfl) ?_; refine kp H rfl fun a H => ?_
                refine pi_s2 rfl rfl rfl (H.ev rfl) ?_; refine kp H rfl fun a H => ?_
                refine pi_s2 rfl rfl rfl (H.ev rfl) ?_; refine kp H rfl fun a H => ?_
                refine pi_s2 rfl rfl rfl (H.ev rfl) ?_; refine kp H rfl fun a H => ?_
                refine pi_s1 rfl rfl rfl (H.ev rfl) ?_; refine kp H rfl fun a H => ?_
                refine pi_f0 _ rfl (fun w' hS' => r_pick_t (H.ev rfl) evc) ?_; refine kp H rfl fun a H => ?_
                refine pi_nil (NoPanic.normal ?_)
                have hall := hS.1
                clear hS
                refine c_next ?_
                refine c_cond_t H rfl ?_
                refine wp_seq ?_
                refine wp_region_lit ?_
                refine wl_v _ (r_assign evc) ?_; refine kl H rfl fun a H => ?_
                refine wpList_nil ?_
                refine c_next ?_
                refine wp_ret ?_
                refine r_block ?_
                refine r_then ?_
                refine r_then ?_
                refine r_block ?_
                refine r_then ?_
                exact k_ret1 H rfl rfl ⟨by rw [right_no HY.out (by first | exact .inl (ok_f (.inl HU1.out)) | exact .inl (ok_f (.inr (.inl HU2.out))) | exact .inl (ok_f (.inr (.inr (by omega)))) | exact .inr (.inl (by rw [HM.out]; omega)) | exact .inr (.inr ⟨j, p, HJ.out, HPY.out, of_decide_eq_false HLS.out⟩))], hall⟩
              · skip
                refine pi_f1 _ rfl rfl rfl (H.ev rfl) (fun w' hS' => r_eq Try.underlying3 (H.ev rfl) (H.ev rfl) (dec_f (c8))) ?_; refine kp H rfl fun a H => ?_
                refine pi_f0 _ rfl (fun w' hS' => r_pick_f (H.ev rfl) (H.ev rfl)) ?_; refine kp H rfl fun a H => ?_
                refine pi_f0 _ rfl (fun w' hS' => r_move (H.ev rfl)) ?_; refine kp H rfl fun a H => ?_
                refine pi_f1 _ rfl rfl rfl (H.ev rfl) (fun w' hS' => r_fld (q := 2) fld37_2 (H.ev rfl) rfl) ?_; refine kp H rfl fun a H => ?_
                refine pi_f1 _ rfl rfl rfl (H.ev rfl) (fun w' hS' => r_ld Try.underlying3 rfl (H.ev rfl) ((Block.cell (hS'.2) 2).trans rfl)) ?_; refine kp H rfl fun a H => ?_
                by_cases c9 : y.2.2 < 1
                · skip
                  refine pi_f1 _ rfl rfl rfl (H.ev rfl) (fun w' hS' => r_lt Try.underlying3 (H.ev rfl) evc (dec_t (c9))) ?_; refine kp H rfl fun a H => ?_
                  refine pi_f0 _ rfl (fun w' hS' => r_pick_f (H.ev rfl) (H.ev rfl)) ?_; refine kp H rfl fun a H => ?_
                  refine pi_f0 _ rfl (fun w' hS' => r_move (H.ev rfl)) ?_; refine kp H rfl fun a H => ?_
                  refine pi_s1 rfl rfl rfl (H.ev rfl) ?_; refine kp H rfl fun a H => ?_
                  refine pi_s1 rfl rfl rfl (H.ev rfl) ?_; refine kp H rfl fun a H => ?_
                  refine pi_s1 rfl rfl rfl (H.ev rfl) ?_; refine kp H rfl fun a H => ?_
                  refine pi_f0 _ rfl (fun w' hS' => r_pick_t (H.ev rfl) evc) ?_; refine kp H rfl fun a H => ?_
                  refine pi_f0 _ rfl (fun w' hS' => r_move (H.ev rfl)) ?_; refine kp H rfl fun a H => ?_
                  refine pi_s1 rfl rfl rfl (H.ev rfl) ?_; refine kp H rfl fun a H => ?_
                  refine pi_s1 rfl rfl rfl (H.ev rfl) ?_; refine kp H rfl fun a H => ?_
                  refine pi_s1 rfl rfl rfl (H.ev rfl) ?_; refine kp H rfl fun a H => ?_
                  refine pi_s1 rfl rfl rfl (H.ev rfl) ?_; refine kp H rfl fun a H => ?_
                  refine pi_s1 rfl rfl rfl (H.ev rfl) ?_; refine kp H rfl fun a H => ?_
                  refine pi_f0 _ rfl (fun w' hS' => r_pick_t (H.ev rfl) evc) ?_; refine kp H rfl fun a H => ?_
                  refine pi_f0 _ rfl (fun w' hS' => r_move (H.ev rfl)) ?_; refine kp H rfl fun a H => ?_
                  refine pi_s1 rfl rfl rfl (H.ev rfl) ?_; refine kp H rfl fun a H => ?_
                  refine pi_s1 rfl rfl rfl (H.ev rfl) ?_; refine kp H rfl fun a H => ?_
                  refine pi_s1 rfl rfl rfl (H.ev rfl) ?_; refine kp H rfl fun a H => ?_
                  refine pi_s2 rfl rfl rfl (H.ev rfl) ?_; refine kp H rfl fun a H => ?_
                  refine pi_s2 rfl rfl rfl (H.ev rfl) ?_; refine kp H rfl fun a H => ?_
                  refine pi_s2 rfl rfl rfl (H.ev rfl) ?_; refine kp H rfl fun a H => ?_
                  refine pi_s2 rfl rfl rfl (H.ev rfl) ?_; refine kp H rfl fun a H => ?_
                  refine pi_s2 rfl rfl rfl (H.ev rfl) ?_; refine kp H rfl fun a H => ?_
                  refine pi_s2 rfl rfl rfl (H.ev rfl) ?_; refine kp H rfl fun a H => ?_
                  refine pi_s2 rfl rfl rfl (H.ev rfl) ?_; refine kp H rfl fun a H => ?_
                  refine pi_s2 rfl rfl rfl (H.ev rfl) ?_; refine kp H rfl fun a H => ?_
                  refine pi_s1 rfl rfl rfl (H.ev rfl) ?_; refine kp H rfl fun a H => ?_
                  refine pi_f0 _ rfl (fun w' hS' => r_pick_t (H.ev rfl) evc) ?_; refine kp H rfl fun a H => ?_
                  refine pi_nil (NoPanic.normal ?_)
                  have hall := hS.1
                  clear hS
                  refine c_next ?_
                  refine c_cond_t H rfl ?_
                  refine wp_seq ?_
                  refine wp_region_lit ?_
                  refine wl_v _ (r_assign evc) ?_; refine kl H rfl fun a H => ?_
                  refine wpList_nil ?_
                  refine c_next ?_
                  refine wp_ret ?_
                  refine r_block ?_
                  refine r_then ?_
                  refine r_then ?_
                  refine r_block ?_
                  refine r_then ?_
                  exact k_ret1 H rfl rfl ⟨by rw [right_no HY.out (by first | exact .inl (ok_f (.inl HU1.out)) | exact .inl (ok_f (.inr (.inl HU2.out))) | exact .inl (ok_f (.inr (.inr (by omega)))) | exact .inr (.inl (by rw [HM.out]; omega)) | exact .inr (.inr ⟨j, p, HJ.out, HPY.out, of_decide_eq_false HLS.out⟩))], hall⟩
                · skip
                  refine pi_f1 _ rfl rfl rfl (H.ev rfl) (fun w' hS' => r_lt Try.underlying3 (H.ev rfl) evc (dec_f (c9))) ?_; refine kp H rfl fun a H => ?_
                  refine pi_f0 _ rfl (fun w' hS' => r_pick_f (H.ev rfl) (H.ev rfl)) ?_; refine kp H rfl fun a H => ?_
                  refine pi_f0 _ rfl (fun w' hS' => r_move (H.ev rfl)) ?_; refine kp H rfl fun a H => ?_
                  refine pi_f1 _ rfl rfl rfl (H.ev rfl) (fun w' hS' => r_fld (q := 2) fld37_2 (H.ev rfl) rfl) ?_; refine kp H rfl fun a H => ?_
                  refine pi_f1 _ rfl rfl rfl (H.ev rfl) (fun w' hS' => r_ld Try.underlying3 rfl (H.ev rfl) ((Block.cell (hS'.2) 2).trans rfl)) ?_; refine kp H rfl fun a H => ?_
                  by_cases c10 : y.2.2 > 4
                  · skip
                    refine pi_f1 _ rfl rfl rfl (H.ev rfl) (fun w' hS' => r_gt Try.underlying3 (H.ev rfl) evc (dec_t (c10))) ?_; refine kp H rfl fun a H => ?_
                    refine pi_f0 _ rfl (fun w' hS' => r_pick_f (H.ev rfl) (H.ev rfl)) ?_; refine kp H rfl fun a H => ?_
                    refine pi_f0 _ rfl (fun w' hS' => r_move (H.ev rfl)) ?_; refine kp H rfl fun a H => ?_
                    refine pi_s1 rfl rfl rfl (H.ev rfl) ?_; refine kp H rfl fun a H => ?_
                    refine pi_s1 rfl rfl rfl (H.ev rfl) ?_; refine kp H rfl fun a H => ?_
                    refine pi_s1 rfl rfl rfl (H.ev rfl) ?_; refine kp H rfl fun a H => ?_
                    refine pi_s1 rfl rfl rfl (H.ev rfl) ?_; refine kp H rfl fun a H => ?_
                    refine pi_s1 rfl rfl rfl (H.ev rfl) ?_; refine kp H rfl fun a H => ?_
                    refine pi_f0 _ rfl (fun w' hS' => r_pick_t (H.ev rfl) evc) ?_; refine kp H rfl fun a H => ?_
                    refine pi_f0 _ rfl (fun w' hS' => r_move (H.ev rfl)) ?_; refine kp H rfl fun a H => ?_
                    refine pi_s1 rfl rfl rfl (H.ev rfl) ?_; refine kp H rfl fun a H => ?_
                    refine pi_s1 rfl rfl rfl (H.ev rfl) ?_; refine kp H rfl fun a H => ?_
                    refine pi_s1 rfl rfl rfl (H.ev rfl) ?_; refine kp H rfl fun a H => ?_
                    refine pi_s2 rfl rfl rfl (H.ev rfl) ?_; refine kp H rfl fun a H => ?_
                    refine pi_s2 rfl rfl rfl (H.ev rfl) ?_; refine kp H rfl fun a H => ?_
                    refine pi_s2 rfl rfl rfl (H.ev rfl) ?_; refine kp H rfl fun a H => ?_
                    refine pi_s2 rfl rfl rfl (H.ev rfl) ?_; refine kp H rfl fun a H => ?_
                    refine pi_s2 rfl rfl rfl (H.ev rfl) ?_; refine kp H rfl fun a H => ?_
                    refine pi_s2 rfl rfl rfl (H.ev rfl) ?_; refine kp H rfl fun a H => ?_
                    refine pi_s2 rfl rfl rfl (H.ev rfl) ?_; refine kp H rfl fun a H => ?_
                    refine pi_s2 rfl rfl rfl (H.ev rfl) ?_; refine kp H rfl fun a H => ?_
                    refine pi_s1 rfl rfl rfl (H.ev rfl) ?_; refine kp H rfl fun a H => ?_
                    refine pi_f0 _ rfl (fun w' hS' => r_pick_t (H.ev rfl) evc) ?_; refine kp H rfl fun a H => ?_
                    refine pi_nil (NoPanic.normal ?_)
                    have hall := hS.1
                    clear hS
                    refine c_next ?_
                    refine c_cond_t H rfl ?_
                    refine wp_seq ?_
                    refine wp_region_lit ?_
                    refine wl_v _ (r_assign evc) ?_; refine kl H rfl fun a H => ?_
                    refine wpList_nil ?_
                    refine c_next ?_
                    refine wp_ret ?_
                    refine r_block ?_
                    refine r_then ?_
                    refine r_then ?_
                    refine r_block ?_
                    refine r_then ?_
                    exact k_ret1 H rfl rfl ⟨by rw [right_no HY.out (by first | exact .inl (ok_f (.inl HU1.out)) | exact .inl (ok_f (.inr (.inl HU2.out))) | exact .inl (ok_f (.inr (.inr (by omega)))) | exact .inr (.inl (by rw [HM.out]; omega)) | exact .inr (.inr ⟨j, p, HJ.out, HPY.out, of_decide_eq_false HLS.out⟩))], hall⟩
                  · skip
                    refine pi_f1 _ rfl rfl rfl (H.ev rfl) (fun w' hS' => r_gt Try.underlying3 (H.ev rfl) evc (dec_f (c10))) ?_; refine kp H rfl fun a H => ?_
                    refine pi_f0 _ rfl (fun w' hS' => r_pick_f (H.ev rfl) (H.ev rfl)) ?_; refine kp H rfl fun a H => ?_
                    refine pi_f0 _ rfl (fun w' hS' => r_move (H.ev rfl)) ?_; refine kp H rfl fun a H => ?_
                    refine pi_f1 _ rfl rfl rfl (H.ev rfl) (fun w' hS' => r_move (H.ev rfl)) ?_; refine kp H rfl fun a H => ?_
                    refine pi_f1 _ rfl rfl rfl (H.ev rfl) (fun w' hS' => r_fld (q := 0) fld37_0 (H.ev rfl) rfl) ?_; refine kp H rfl fun a H => ?_
                    refine pi_f1 _ rfl rfl rfl (H.ev rfl) (fun w' hS' => r_ld Try.underlying3 rfl (H.ev rfl) ((Block.cell (hS'.2) 0).trans rfl)) ?_; refine kp H rfl fun a H => ?_
                    refine pi_a1 rfl rfl rfl (H.ev rfl) (fun K hK => ?_); refine wpo_call _ _ _ (many_any _ _ L _ (Row.up h.out hS.1) (by omega)) (r_call2 cf28 (H.ev rfl) (H.ev rfl)) ?_; rintro e w9 ⟨rfl, rfl⟩; refine ⟨_, rfl, ?_⟩; rw [HM.out]; skip; refine hK _ _ ⟨hS, ?_⟩; clear hK; clear K; refine kp H rfl fun a H => ?_
                    by_cases c11 : ((m : Nat) : Int) > 8
                    · skip
                      refine pi_f1 _ rfl rfl rfl (H.ev rfl) (fun w' hS' => r_gt Try.underlying3 (H.ev rfl) evc (dec_t (c11))) ?_; refine kp H rfl fun a H => ?_
                      refine pi_f0 _ rfl (fun w' hS' => r_pick_f (H.ev rfl) (H.ev rfl)) ?_; refine kp H rfl fun a H => ?_
                      refine pi_f0 _ rfl (fun w' hS' => r_move (H.ev rfl)) ?_; refine kp H rfl fun a H => ?_
                      refine pi_s1 rfl rfl rfl (H.ev rfl) ?_; refine kp H rfl fun a H => ?_
                      refine pi_s1 rfl rfl rfl (H.ev rfl) ?_; refine kp H rfl fun a H => ?_
                      refine pi_s1 rfl rfl rfl (H.ev rfl) ?_; refine kp H rfl fun a H => ?_
                      refine pi_s2 rfl rfl rfl (H.ev rfl) ?_; refine kp H rfl fun a H => ?_
                      refine pi_s2 rfl rfl rfl (H.ev rfl) ?_; refine kp H rfl fun a H => ?_
                      refine pi_s2 rfl rfl rfl (H.ev rfl) ?_; refine kp H rfl fun a H => ?_
                      refine pi_s2 rfl rfl rfl (H.ev rfl) ?_; refine kp H rfl fun a H => ?_
                      refine pi_s2 rfl rfl rfl (H.ev rfl) ?_; refine kp H rfl fun a H => ?_
                      refine pi_s2 rfl rfl rfl (H.ev rfl) ?_; refine kp H rfl fun a H => ?_
                      refine pi_s2 rfl rfl rfl (H.ev rfl) ?_; refine kp H rfl fun a H => ?_
                      refine pi_s2 rfl rfl rfl (H.ev rfl) ?_; refine kp H rfl fun a H => ?_
                      refine pi_s1 rfl rfl rfl (H.ev rfl) ?_; refine kp H rfl fun a H => ?_
                      refine pi_f0 _ rfl (fun w' hS' => r_pick_t (H.ev rfl) evc) ?_; refine kp H rfl fun a H => ?_
                      refine pi_nil (NoPanic.normal ?_)
                      have hall := hS.1
                      clear hS
                      refine c_next ?_
                      refine c_cond_t H rfl ?_
                      refine wp_seq ?_
                      refine wp_region_lit ?_
                      refine wl_v _ (r_assign evc) ?_; refine kl H rfl fun a H => ?_
                      refine wpList_nil ?_
                      refine c_next ?_
                      refine wp_ret ?_
                      refine r_block ?_
                      refine r_then ?_
                      refine r_then ?_
                      refine r_block ?_
                      refine r_then ?_
                      exact k_ret1 H rfl rfl ⟨by rw [right_no HY.out (by first | exact .inl (ok_f (.inl HU1.out)) | exact .inl (ok_f (.inr (.inl HU2.out))) | exact .inl (ok_f (.inr (.inr (by omega)))) | exact .inr (.inl (by rw [HM.out]; omega)) | exact .inr (.inr ⟨j, p, HJ.out, HPY.out, of_decide_eq_false HLS.out⟩))], hall⟩
                    · skip
                      refine pi_f1 _ rfl rfl rfl (H.ev rfl) (fun w' hS' => r_gt Try.underlying3 (H.ev rfl) evc (dec_f (c11))) ?_; refine kp H rfl fun a H => ?_
                      refine pi_f0 _ rfl (fun w' hS' => r_pick_f (H.ev rfl) (H.ev rfl)) ?_; refine kp H rfl fun a H => ?_
                      refine pi_f0 _ rfl (fun w' hS' => r_move (H.ev rfl)) ?_; refine kp H rfl fun a H => ?_
                      refine pi_f1 _ rfl rfl rfl (H.ev rfl) (fun w' hS' => r_move (H.ev rfl)) ?_; refine kp H rfl fun a H => ?_
                      refine pi_f1 _ rfl rfl rfl (H.ev rfl) (fun w' hS' => r_gt Try.underlying3 (H.ev rfl) evc (dec_t (by omega))) ?_; refine kp H rfl fun a H => ?_
                      refine pi_f1 _ rfl rfl rfl (H.ev rfl) (fun w' hS' => r_move (H.ev rfl)) ?_; refine kp H rfl fun a H => ?_
                      refine pi_f1 _ rfl rfl rfl (H.ev rfl) (fun w' hS' => r_move (H.ev rfl)) ?_; refine kp H rfl fun a H => ?_
                      refine pi_f1 _ rfl rfl rfl (H.ev rfl) (fun w' hS' => r_move (H.ev rfl)) ?_; refine kp H rfl fun a H => ?_
                      refine pi_f1 (.int .i64 (j : Nat)) rfl rfl rfl (H.ev rfl) (fun w' hS' => r_sub (q := ((j : Nat) : Int)) Try.underlying3 (H.ev rfl) evc (by omega) (by omega)) ?_; refine kp H rfl fun a H => ?_
                      refine pi_f1 _ rfl rfl rfl (H.ev rfl) (fun w' hS' => r_idx (j := j) (q := o + j * 3) Try.underlying22 s37 (H.ev rfl) (H.ev rfl) (by omega) rfl) ?_; refine kp H rfl fun a H => ?_
                      refine pi_f1 _ rfl rfl rfl (H.ev rfl) (fun w' hS' => r_row (cs := [.int .i64 p.1, .int .i64 p.2.1, .int .i64 p.2.2]) (H.ev rfl) (range_ups HP.out hS'.1) (by kernel_rfl) s37 rfl) ?_; refine kp H rfl fun a H => ?_
                      refine pi_f1 _ rfl rfl rfl (H.ev rfl) (fun w' hS' => r_row (cs := [.int .i64 y.1, .int .i64 y.2.1, .int .i64 y.2.2]) (H.ev rfl) (block_range (hS'.2)) (by kernel_rfl) s37 rfl) ?_; refine kp H rfl fun a H => ?_
                      refine pi_a1 rfl rfl rfl (H.ev rfl) (fun K hK => ?_); refine wpo_call _ _ _ (less_any p y _) (r_call2 cf29 (H.ev rfl) (H.ev rfl)) ?_; rintro e w9 ⟨rfl, hb9⟩; refine ⟨_, rfl, ?_⟩; rw [HLS.out]; replace hS := hS.up hb9; clear hb9; refine hK _ _ ⟨hS, ?_⟩; clear hK; clear K; refine kp H rfl fun a H => ?_
                      refine pi_f1 _ rfl rfl rfl (H.ev rfl) (fun w' hS' => r_not (H.ev rfl) rfl) ?_; refine kp H rfl fun a H => ?_
                      refine pi_f1 _ rfl rfl rfl (H.ev rfl) (fun w' hS' => r_pick_t (H.ev rfl) (H.ev rfl)) ?_; refine kp H rfl fun a H => ?_
                      refine pi_f0 _ rfl (fun w' hS' => r_pick_f (H.ev rfl) (H.ev rfl)) ?_; refine kp H rfl fun a H => ?_
                      refine pi_nil (NoPanic.normal ?_)
                      have hall := hS.1
                      clear hS
                      refine c_next ?_
                      refine c_cond_f H rfl ?_
                      refine wp_skip ?_
                      refine n_block ?_
                      refine c_next ?_
                      refine wp_region_lit ?_
                      refine wl_v _ (r_move (H.ev rfl)) ?_; refine kl H rfl fun a H => ?_
                      refine wl_v _ (r_add (q := ((k + 1 : Nat) : Int)) Try.underlying3 (H.ev rfl) evc (by omega) (by omega)) ?_; refine kl H rfl fun a H => ?_
                      refine wl_v _ (r_assign (H.ev rfl)) ?_; refine kl H rfl fun a H => ?_
                      refine wpList_nil ?_
                      refine n_then ⟨⟨k + 1, H.pick [0, 3], by omega, okg_next hok HY.out (ok_t HU1.out HU2.out (by omega) (by omega) (by omega)) (by rw [HM.out]; omega) (prev_ok HJ.out HPY.out (of_decide_eq_true HLS.out)), hall⟩, ?_⟩
                      rw [H.ev (j := 3) rfl, H0.ev (j := 3) rfl]
                      simp only [intOf]
                      omega
    · skip
      obtain rfl : k = L.length := by omega
      have HOK := Lib.hid hok
      clear hok
      refine wp_seq ?_
      refine wp_seq ?_
      refine wp_region_lit ?_
      refine wl_v _ (r_move (H.ev rfl)) ?_; refine kl H rfl fun a H => ?_
      refine wl_v _ (r_move (H.ev rfl)) ?_; refine kl H rfl fun a H => ?_
      refine wl_v _ (r_len Try.underlying22 (H.ev rfl)) ?_; refine kl H rfl fun a H => ?_
      refine wl_v _ (r_lt Try.underlying3 (H.ev rfl) (H.ev rfl) (dec_f (by omega))) ?_; refine kl H rfl fun a H => ?_
      refine wpList_nil ?_
      refine c_next ?_
      refine c_cond_f H rfl ?_
      refine wp_exit ?_
      refine e_then ?_
      refine e_then ?_
      refine e_here ?_
      refine c_next ?_
      refine wp_seq ?_
      refine wp_region_lit ?_
      refine wl_v _ (r_assign evc) ?_; refine kl H rfl fun a H => ?_
      refine wpList_nil ?_
      refine c_next ?_
      refine wp_ret ?_
      exact k_ret1 H rfl rfl ⟨by rw [right_true HOK.out (fun j y hj => many_le _ _ _) (by omega)], hall⟩
end Go.Proofs.Ytfehhenbdiageaa
