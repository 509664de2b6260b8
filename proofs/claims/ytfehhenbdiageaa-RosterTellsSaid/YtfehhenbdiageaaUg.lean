/- Roster: Do. -/
import Derived.Test.YtfehhenbdiageaaUf
namespace Go.Proofs.Ytfehhenbdiageaa
open Go.RowKit
set_option linter.unusedVariables false
set_option linter.unusedSimpArgs false

def putF (L : List Tm) (x z s : Int) : List Tm := L.filter (fun y => lessB y (x, z, 0)) ++ ((if s = 0 then [] else [(x, z, s)]) ++ L.filter (fun y => lessB (x, z, 0) y))
def badP (op who peer : Int) : Prop := op < 1 ∨ 7 < op ∨ userB who = false ∨ userB peer = false ∨ who = peer
instance (op who peer : Int) : Decidable (badP op who peer) := by unfold badP; infer_instance
def wchF (op who peer : Int) : Int := if mineB op = true then who else peer
def tgtF (op who peer : Int) : Int := if mineB op = true then peer else who
def actF (L : List Tm) (x z op : Int) : List Tm × Int :=
  if (stepF (stF L x z) op).2 ≠ 0 then (L, (stepF (stF L x z) op).2) else if stF L x z = 0 ∧ fullB L x = true then (L, 7) else (putF L x z (stepF (stF L x z) op).1, 0)
/-- what becomes of a row, and what is told -/
def doF (L : List Tm) (op who peer : Int) : List Tm × Int := if badP op who peer then (L, 1) else actF L (wchF op who peer) (tgtF op who peer) op
theorem do_bad {L : List Tm} {op who peer : Int} (h : badP op who peer) : doF L op who peer = (L, 1) := if_pos h
theorem do_eq {L : List Tm} {op who peer s tq er : Int} {mi fu : Bool} (h : ¬ badP op who peer) (hm : mineB op = mi) (hs : stF L (if mi = true then who else peer) (if mi = true then peer else who) = s) (hto : (stepF s op).1 = tq) (her : (stepF s op).2 = er) (hfu : fullB L (if mi = true then who else peer) = fu) :
    doF L op who peer = if er ≠ 0 then (L, er) else if s = 0 ∧ fu = true then (L, 7) else (putF L (if mi = true then who else peer) (if mi = true then peer else who) tq, 0) := by
  unfold doF actF wchF tgtF
  rw [if_neg h, hm, hs, hto, her, hfu]
theorem had_state {L : List Tm} {x z s : Int} {k : Nat} {f : Bool} (hR : RightL L) (hF : FindP L x z k f) (hs : stF L x z = s) : (f = true → s ≠ 0) ∧ (f = false → s = 0) := by
  refine ⟨fun e => ?_, fun e => ?_⟩
  · obtain ⟨y, hy, he⟩ := hF.2.2.2.1 e
    rw [find_yes hF hy he] at hs
    have := hR.2.1 y (List.mem_of_getElem? hy)
    unfold okB at this
    simp at this
    omega
  · subst e
    rw [← hs]; exact find_no hR.1 hF
theorem filter_take {p : Tm → Bool} : ∀ {L : List Tm} {k : Nat}, (∀ j y, j < k → L[j]? = some y → p y = true) → (∀ j y, k ≤ j → L[j]? = some y → p y = false) → L.filter p = L.take k
  | [], _, _, _ => by simp
  | x :: L, 0, _, h2 => by
    rw [List.take_zero, List.filter_eq_nil_iff]
    intro y hy
    obtain ⟨j, hj, rfl⟩ := List.mem_iff_getElem.1 hy
    rw [h2 j _ (by omega) (List.getElem?_eq_getElem hj)]
    simp
  | x :: L, k + 1, h1, h2 => by
    rw [List.take_succ_cons, List.filter_cons, h1 0 x (by omega) rfl, if_pos rfl, filter_take (k := k) (fun j y hj hy => h1 (j + 1) y (by omega) (by simpa using hy)) (fun j y hj hy => h2 (j + 1) y (by omega) (by simpa using hy))]
theorem filter_drop {p : Tm → Bool} : ∀ {L : List Tm} {k : Nat}, (∀ j y, j < k → L[j]? = some y → p y = false) → (∀ j y, k ≤ j → L[j]? = some y → p y = true) → L.filter p = L.drop k
  | [], _, _, _ => by simp
  | x :: L, 0, _, h2 => by
    rw [List.drop_zero, List.filter_eq_self]
    intro y hy
    obtain ⟨j, hj, rfl⟩ := List.mem_iff_getElem.1 hy
    exact h2 j _ (by omega) (List.getElem?_eq_getElem hj)
  | x :: L, k + 1, h1, h2 => by
    rw [List.drop_succ_cons, List.filter_cons, h1 0 x (by omega) rfl, if_neg (by simp), filter_drop (k := k) (fun j y hj hy => h1 (j + 1) y (by omega) (by simpa using hy)) (fun j y hj hy => h2 (j + 1) y (by omega) (by simpa using hy))]
theorem put_of {L : List Tm} {x z : Int} {k : Nat} {f : Bool} (hP : L.Pairwise Lt) (hF : FindP L x z k f) (s : Int) :
    L.take k ++ ((if s = 0 then [] else [(x, z, s)]) ++ L.drop (k + if f = true then 1 else 0)) = putF L x z s := by
  obtain ⟨h1, h2, h3, h4⟩ := hF
  have e1 : L.filter (fun y => lessB y (x, z, 0)) = L.take k := filter_take (fun j y hj hy => decide_eq_true ((ord_lt _ _).1 (h2 j hj y hy))) (fun j y hj hy => decide_eq_false fun hlt => h3 j hj y hy ((ord_lt _ _).2 hlt))
  have key : ∀ j y, k ≤ j → L[j]? = some y → ¬ Lt (x, z, 0) y → j = k ∧ y.1 = x ∧ y.2.1 = z := by
    intro j y hj hy hn
    have hb : ¬ Lt y (x, z, 0) := fun hlt => h3 j hj y hy ((ord_lt _ _).2 hlt)
    have he : y.1 = x ∧ y.2.1 = z := by unfold Lt at hn hb; simp only at hn hb; omega
    refine ⟨?_, he⟩
    by_cases e : j = k
    · exact e
    · obtain ⟨hj', rfl⟩ := List.getElem?_eq_some_iff.1 hy
      have hlt := List.pairwise_iff_getElem.1 hP k j (by omega) hj' (by omega)
      refine absurd ((ord_lt _ _).2 ?_) (h3 k (Nat.le_refl _) L[k] (List.getElem?_eq_getElem (by omega)))
      unfold Lt at hlt ⊢
      simp only
      omega
  have e2 : L.filter (fun y => lessB (x, z, 0) y) = L.drop (k + if f = true then 1 else 0) := by
    refine filter_drop (fun j y hj hy => decide_eq_false fun hlt => ?_) (fun j y hj hy => decide_eq_true ?_)
    · by_cases hjk : j < k
      · have := (ord_lt _ _).1 (h2 j hjk y hy)
        unfold Lt at hlt this
        simp only at hlt this
        omega
      · cases f with
        | false => simp at hj; omega
        | true =>
          obtain ⟨u, hu, hu1⟩ := h4.1 rfl
          obtain rfl : j = k := by simp at hj; omega
          rw [hy] at hu
          injection hu with hu
          subst hu
          unfold Lt at hlt
          simp only at hlt
          omega
    · by_cases hlt : Lt (x, z, 0) y
      · exact hlt
      · obtain ⟨rfl, he⟩ := key j y (by omega) hy hlt
        have := h4.2 ⟨y, hy, he⟩
        subst this
        simp at hj
        omega
  unfold putF
  rw [e1, e2]
theorem ins_put {L : List Tm} {x z : Int} {k : Nat} {s : Int} (hP : L.Pairwise Lt) (hF : FindP L x z k false) (hs : s ≠ 0) : L.take k ++ (x, z, s) :: L.drop k = putF L x z s := by
  rw [← put_of hP hF s, if_neg hs]
  simp
theorem del_put {L : List Tm} {x z : Int} {k : Nat} (hP : L.Pairwise Lt) (hF : FindP L x z k true) : L.eraseIdx k = putF L x z 0 := by
  rw [← put_of hP hF 0, if_pos rfl, List.eraseIdx_eq_take_drop_succ]
  simp
theorem set_put {L : List Tm} {x z : Int} {k : Nat} {s : Int} {y : Tm} (hP : L.Pairwise Lt) (hF : FindP L x z k true) (hy : L[k]? = some y) (he : y.1 = x ∧ y.2.1 = z) (hs : s ≠ 0) : L.set k (y.1, y.2.1, s) = putF L x z s := by
  rw [← put_of hP hF s, if_neg hs, List.set_eq_take_append_cons_drop, if_pos (List.getElem?_eq_some_iff.1 hy).1, he.1, he.2]
  simp
theorem step_none {s op tq er : Int} (hto : (stepF s op).1 = tq) (her : (stepF s op).2 = er) (hs : s = 0) (he : er = 0) : tq ≠ 0 := by
  subst hs
  unfold stepF at hto her
  split at hto
  · rename_i hb
    rw [if_pos hb] at her
    simp at her
    omega
  · rename_i hb
    rw [if_neg hb] at her
    split at hto
    · rename_i ht
      rw [if_pos ht] at her
      simp at her
      omega
    · rename_i ht
      rw [if_neg ht] at her
      simp only at hto
      rw [← hto]
      unfold toI at ht ⊢
      (repeat' split) <;> simp_all
theorem flat_set : ∀ (L : List Tm) (k : Nat) (y : Tm) (s : Int), L[k]? = some y → FV encT (L.set k (y.1, y.2.1, s)) = (FV encT L).set (k * 3 + 2) (.int .i64 s)
  | [], k, y, s, h => by simp at h
  | x :: L, 0, y, s, h => by
    injection h with h
    subst h
    simp [FV, IV, flat_cons]
  | x :: L, k + 1, y, s, h => by
    have ih := flat_set L k y s (by simpa using h)
    have e : (k + 1) * 3 + 2 = (k * 3 + 2) + 3 := by omega
    simp only [FV, IV, flat_cons, List.set_cons_succ, List.map_append] at ih ⊢
    rw [ih, e]
    simp
theorem own_set {w : World} {base : Nat} {v : Value} {L : List Tm} {k : Nat} {y : Tm} (hown : TOwn w base v L) (hy : L[k]? = some y) :
    ∃ g cap cur, v = .slice (some ⟨g, 0, none⟩) L.length cap ∧ base ≤ g ∧ Block w g 37 cur ∧ 0 + k * 3 + 2 < cur.size ∧ ∀ s w', Block w' g 37 (setL cur (0 + k * 3 + 2) [.int .i64 s]) → TOwn w' base v (L.set k (y.1, y.2.1, s)) := by
  have hk := (List.getElem?_eq_some_iff.1 hy).1
  obtain ⟨h0, ⟨rfl, h1⟩ | ⟨g, cap, cur, rfl, hbg, hg, hc, hcm, hcs, htk⟩⟩ := hown
  · omega
  · refine ⟨g, cap, cur, rfl, hbg, hg, by rw [hcs]; omega, fun s w' hb => ?_⟩
    unfold TOwn
    rw [List.length_set]
    refine ⟨by rw [FV_len encT_len, List.length_set], .inr ⟨g, cap, _, rfl, hbg, hb, hc, hcm, by simp [setL, hcs], ?_⟩⟩
    rw [flat_set L k y s hy, ← htk, setL, setL, Array.toList_setIfInBounds, List.take_set, Nat.zero_add]
theorem insert_any (w : World) (base : Nat) (v : Value) (L : List Tm) (i : Nat) (x : Tm) (bx : Nat) (hown : TOwn w base v L) (hbase : base ≤ w.heap.size) (hi : i ≤ L.length) (hx : Block w bx 37 #[.int .i64 x.1, .int .i64 x.2.1, .int .i64 x.2.2]) (hne : v.ownBlock ≠ some bx) (hn : L.length ≤ 100000) :
    Calls Try.prog 34 #[v, .int .i64 i, .slice (some ⟨bx, 0, none⟩) 1 1] w fun e w' => (∃ v', e = .returned v' ∧ TOwn w' base v' (L.take i ++ x :: L.drop i)) ∧ Below base w w' := by
  by_cases hlast : i = L.length
  · subst hlast
    have := ins_last w base v L x bx hown hbase hx hn
    rwa [List.take_length, List.drop_length]
  · obtain ⟨hl, ⟨rfl, h0⟩ | ⟨g, cap, cur, rfl, hbg, hg, hc, hcm, hcs, htk⟩⟩ := hown
    · omega
    · by_cases hroom : L.length + 1 ≤ cap
      · exact ins_room w base g cap L.length cur L i x bx rfl hbg hg hcs hcm htk hbase (by omega) hx (fun e => hne (by rw [e]; rfl)) hn hroom
      · exact ins_grow w base g cap L.length cur L i x bx rfl hg hcs htk hc hbase (by omega) hx hn (by omega)
set_option maxHeartbeats 4000000 in
theorem do_any (w : World) (v : Value) (L : List Tm) (op who peer : Int) (h : TRow w v L) (hn : L.length ≤ 100000) (hR : RightL L) :
    Calls Try.prog 13 #[v, .int .i64 op, .int .i64 who, .int .i64 peer] w fun e w' => (∃ v', e = .returned (.tuple #[v', .int .i64 (doF L op who peer).2]) ∧ TOwn w' w.heap.size v' (doF L op who peer).1) ∧ Below w.heap.size w w' := by
  have hall := Below.refl w.heap.size w
  replace hR := Lib.hid hR
  refine K_enter 101 Try.func13 rfl rfl fun a H => ?_
  replace H := H.pick [0, 1, 2, 3]
  refine wp_seq ?_
  refine wp_region_lit ?_
  refine wl_v _ (r_assign evc) ?_; refine kl H rfl fun a H => ?_
  refine wl_v _ (r_assign evc) ?_; refine kl H rfl fun a H => ?_
  refine wpList_nil ?_
  refine c_next ?_
  refine wp_seq ?_
  refine wp_region_lit ?_
  refine wl_v _ (r_move (H.ev rfl)) ?_; refine kl H rfl fun a H => ?_
  refine wl_call _ _ _ (clone_any _ _ L h hn) (r_call1 cf30 (H.ev rfl)) ?_; rintro e w9 ⟨⟨v1, rfl, hown⟩, hb⟩; refine ⟨_, rfl, ?_⟩; have hbase := hall.size; replace hall := hall.trans (hb.mono hall.size); replace hown := own_base hown hbase; clear hb h hbase; refine kl H rfl fun a H => ?_
  refine wl_v _ (r_assign (H.ev rfl)) ?_; refine kl H rfl fun a H => ?_
  refine wpList_nil ?_
  refine c_next ?_
  refine wp_seq ?_
  refine wp_seq ?_
  obtain ⟨u1, hu1⟩ : ∃ u1, userB who = u1 := ⟨_, rfl⟩
  obtain ⟨u2, hu2⟩ : ∃ u2, userB peer = u2 := ⟨_, rfl⟩
  have HU1 := Lib.hid hu1
  have HU2 := Lib.hid hu2
  clear hu1 hu2
  cases u1
  · skip
    cases u2
    · skip
      refine wp_region_lit ?_
      refine wl_v _ (r_move (H.ev rfl)) ?_; refine kl H rfl fun a H => ?_
      by_cases c0 : op < 1
      · skip
        refine wl_v _ (r_lt Try.underlying3 (H.ev rfl) evc (dec_t (c0))) ?_; refine kl H rfl fun a H => ?_
        refine wl_v _ (r_move (H.ev rfl)) ?_; refine kl H rfl fun a H => ?_
        refine wl_s (kg_no rfl H rfl rfl rfl) ?_; refine kl H rfl fun a H => ?_
        refine wl_s (kg_no rfl H rfl rfl rfl) ?_; refine kl H rfl fun a H => ?_
        refine wl_v _ (r_pick_t (H.ev rfl) evc) ?_; refine kl H rfl fun a H => ?_
        refine wl_v _ (r_move (H.ev rfl)) ?_; refine kl H rfl fun a H => ?_
        refine wl_s (kg_no rfl H rfl rfl rfl) ?_; refine kl H rfl fun a H => ?_
        refine wl_s (kg_no rfl H rfl rfl rfl) ?_; refine kl H rfl fun a H => ?_
        refine wl_s (kg_no rfl H rfl rfl rfl) ?_; refine kl H rfl fun a H => ?_
        refine wl_v _ (r_pick_t (H.ev rfl) evc) ?_; refine kl H rfl fun a H => ?_
        refine wl_v _ (r_move (H.ev rfl)) ?_; refine kl H rfl fun a H => ?_
        refine wl_s (kg_no rfl H rfl rfl rfl) ?_; refine kl H rfl fun a H => ?_
        refine wl_s (kg_no rfl H rfl rfl rfl) ?_; refine kl H rfl fun a H => ?_
        refine wl_s (kg_no rfl H rfl rfl rfl) ?_; refine kl H rfl fun a H => ?_
        refine wl_v _ (r_pick_t (H.ev rfl) evc) ?_; refine kl H rfl fun a H => ?_
        refine wl_v _ (r_move (H.ev rfl)) ?_; refine kl H rfl fun a H => ?_
        refine wl_s (kg_no rfl H rfl rfl rfl) ?_; refine kl H rfl fun a H => ?_
        refine wl_s (kg_no rfl H rfl rfl rfl) ?_; refine kl H rfl fun a H => ?_
        refine wl_s (kg_no rfl H rfl rfl rfl) ?_; refine kl H rfl fun a H => ?_
        refine wl_v _ (r_pick_t (H.ev rfl) evc) ?_; refine kl H rfl fun a H => ?_
        refine wpList_nil ?_
        refine c_next ?_
        refine c_cond_t H rfl ?_
        refine wp_seq ?_
        refine wp_region_lit ?_
        refine wl_v _ (r_move (H.ev rfl)) ?_; refine kl H rfl fun a H => ?_
        refine wl_v _ (r_assign (H.ev rfl)) ?_; refine kl H rfl fun a H => ?_
        refine wl_v _ (r_assign evc) ?_; refine kl H rfl fun a H => ?_
        refine wpList_nil ?_
        refine c_next ?_
        refine wp_ret ?_
        refine r_then ?_
        exact k_ret2 H rfl rfl rfl ⟨⟨_, by rw [do_bad (by unfold badP; rw [HU1.out, HU2.out]; first | (simp; done) | (simp; omega))], by rw [do_bad (by unfold badP; rw [HU1.out, HU2.out]; first | (simp; done) | (simp; omega))]; exact hown⟩, hall⟩
      · skip
        refine wl_v _ (r_lt Try.underlying3 (H.ev rfl) evc (dec_f (c0))) ?_; refine kl H rfl fun a H => ?_
        refine wl_v _ (r_move (H.ev rfl)) ?_; refine kl H rfl fun a H => ?_
        refine op_unguard _ _ (kg_yes rfl H rfl rfl rfl) ?_; refine wl_v _ (r_move (H.ev rfl)) ?_; refine kl H rfl fun a H => ?_
        by_cases c1 : op > 7
        · skip
          refine op_unguard _ _ (kg_yes rfl H rfl rfl rfl) ?_; refine wl_v _ (r_gt Try.underlying3 (H.ev rfl) evc (dec_t (c1))) ?_; refine kl H rfl fun a H => ?_
          refine wl_v _ (r_pick_f (H.ev rfl) (H.ev rfl)) ?_; refine kl H rfl fun a H => ?_
          refine wl_v _ (r_move (H.ev rfl)) ?_; refine kl H rfl fun a H => ?_
          refine wl_s (kg_no rfl H rfl rfl rfl) ?_; refine kl H rfl fun a H => ?_
          refine wl_s (kg_no rfl H rfl rfl rfl) ?_; refine kl H rfl fun a H => ?_
          refine wl_s (kg_no rfl H rfl rfl rfl) ?_; refine kl H rfl fun a H => ?_
          refine wl_v _ (r_pick_t (H.ev rfl) evc) ?_; refine kl H rfl fun a H => ?_
          refine wl_v _ (r_move (H.ev rfl)) ?_; refine kl H rfl fun a H => ?_
          refine wl_s (kg_no rfl H rfl rfl rfl) ?_; refine kl H rfl fun a H => ?_
          refine wl_s (kg_no rfl H rfl rfl rfl) ?_; refine kl H rfl fun a H => ?_
          refine wl_s (kg_no rfl H rfl rfl rfl) ?_; refine kl H rfl fun a H => ?_
          refine wl_v _ (r_pick_t (H.ev rfl) evc) ?_; refine kl H rfl fun a H => ?_
          refine wl_v _ (r_move (H.ev rfl)) ?_; refine kl H rfl fun a H => ?_
          refine wl_s (kg_no rfl H rfl rfl rfl) ?_; refine kl H rfl fun a H => ?_
          refine wl_s (kg_no rfl H rfl rfl rfl) ?_; refine kl H rfl fun a H => ?_
          refine wl_s (kg_no rfl H rfl rfl rfl) ?_; refine kl H rfl fun a H => ?_
          refine wl_v _ (r_pick_t (H.ev rfl) evc) ?_; refine kl H rfl fun a H => ?_
          refine wpList_nil ?_
          refine c_next ?_
          refine c_cond_t H rfl ?_
          refine wp_seq ?_
          refine wp_region_lit ?_
          refine wl_v _ (r_move (H.ev rfl)) ?_; refine kl H rfl fun a H => ?_
          refine wl_v _ (r_assign (H.ev rfl)) ?_; refine kl H rfl fun a H => ?_
          refine wl_v _ (r_assign evc) ?_; refine kl H rfl fun a H => ?_
          refine wpList_nil ?_
          refine c_next ?_
          refine wp_ret ?_
          refine r_then ?_
          exact k_ret2 H rfl rfl rfl ⟨⟨_, by rw [do_bad (by unfold badP; rw [HU1.out, HU2.out]; first | (simp; done) | (simp; omega))], by rw [do_bad (by unfold badP; rw [HU1.out, HU2.out]; first | (simp; done) | (simp; omega))]; exact hown⟩, hall⟩
        · skip
          refine op_unguard _ _ (kg_yes rfl H rfl rfl rfl) ?_; refine wl_v _ (r_gt Try.underlying3 (H.ev rfl) evc (dec_f (c1))) ?_; refine kl H rfl fun a H => ?_
          refine wl_v _ (r_pick_f (H.ev rfl) (H.ev rfl)) ?_; refine kl H rfl fun a H => ?_
          refine wl_v _ (r_move (H.ev rfl)) ?_; refine kl H rfl fun a H => ?_
          refine op_unguard _ _ (kg_yes rfl H rfl rfl rfl) ?_; refine wl_v _ (r_move (H.ev rfl)) ?_; refine kl H rfl fun a H => ?_
          refine op_unguard _ _ (kg_yes rfl H rfl rfl rfl) ?_; refine wl_call _ _ _ (user_any _ _) (r_call1 cf31 (H.ev rfl)) ?_; rintro e w9 ⟨rfl, rfl⟩; refine ⟨_, rfl, ?_⟩; rw [HU1.out]; skip; refine kl H rfl fun a H => ?_
          refine op_unguard _ _ (kg_yes rfl H rfl rfl rfl) ?_; refine wl_v _ (r_not (H.ev rfl) rfl) ?_; refine kl H rfl fun a H => ?_
          refine wl_v _ (r_pick_f (H.ev rfl) (H.ev rfl)) ?_; refine kl H rfl fun a H => ?_
          refine wl_v _ (r_move (H.ev rfl)) ?_; refine kl H rfl fun a H => ?_
          refine wl_s (kg_no rfl H rfl rfl rfl) ?_; refine kl H rfl fun a H => ?_
          refine wl_s (kg_no rfl H rfl rfl rfl) ?_; refine kl H rfl fun a H => ?_
          refine wl_s (kg_no rfl H rfl rfl rfl) ?_; refine kl H rfl fun a H => ?_
          refine wl_v _ (r_pick_t (H.ev rfl) evc) ?_; refine kl H rfl fun a H => ?_
          refine wl_v _ (r_move (H.ev rfl)) ?_; refine kl H rfl fun a H => ?_
          refine wl_s (kg_no rfl H rfl rfl rfl) ?_; refine kl H rfl fun a H => ?_
          refine wl_s (kg_no rfl H rfl rfl rfl) ?_; refine kl H rfl fun a H => ?_
          refine wl_s (kg_no rfl H rfl rfl rfl) ?_; refine kl H rfl fun a H => ?_
          refine wl_v _ (r_pick_t (H.ev rfl) evc) ?_; refine kl H rfl fun a H => ?_
          refine wpList_nil ?_
          refine c_next ?_
          refine c_cond_t H rfl ?_
          refine wp_seq ?_
          refine wp_region_lit ?_
          refine wl_v _ (r_move (H.ev rfl)) ?_; refine kl H rfl fun a H => ?_
          refine wl_v _ (r_assign (H.ev rfl)) ?_; refine kl H rfl fun a H => ?_
          refine wl_v _ (r_assign evc) ?_; refine kl H rfl fun a H => ?_
          refine wpList_nil ?_
          refine c_next ?_
          refine wp_ret ?_
          refine r_then ?_
          exact k_ret2 H rfl rfl rfl ⟨⟨_, by rw [do_bad (by unfold badP; rw [HU1.out, HU2.out]; first | (simp; done) | (simp; omega))], by rw [do_bad (by unfold badP; rw [HU1.out, HU2.out]; first | (simp; done) | (simp; omega))]; exact hown⟩, hall⟩
    · skip
      refine wp_region_lit ?_
      refine wl_v _ (r_move (H.ev rfl)) ?_; refine kl H rfl fun a H => ?_
      by_cases c2 : op < 1
      · skip
        refine wl_v _ (r_lt Try.underlying3 (H.ev rfl) evc (dec_t (c2))) ?_; refine kl H rfl fun a H => ?_
        refine wl_v _ (r_move (H.ev rfl)) ?_; refine kl H rfl fun a H => ?_
        refine wl_s (kg_no rfl H rfl rfl rfl) ?_; refine kl H rfl fun a H => ?_
        refine wl_s (kg_no rfl H rfl rfl rfl) ?_; refine kl H rfl fun a H => ?_
        refine wl_v _ (r_pick_t (H.ev rfl) evc) ?_; refine kl H rfl fun a H => ?_
        refine wl_v _ (r_move (H.ev rfl)) ?_; refine kl H rfl fun a H => ?_
        refine wl_s (kg_no rfl H rfl rfl rfl) ?_; refine kl H rfl fun a H => ?_
        refine wl_s (kg_no rfl H rfl rfl rfl) ?_; refine kl H rfl fun a H => ?_
        refine wl_s (kg_no rfl H rfl rfl rfl) ?_; refine kl H rfl fun a H => ?_
        refine wl_v _ (r_pick_t (H.ev rfl) evc) ?_; refine kl H rfl fun a H => ?_
        refine wl_v _ (r_move (H.ev rfl)) ?_; refine kl H rfl fun a H => ?_
        refine wl_s (kg_no rfl H rfl rfl rfl) ?_; refine kl H rfl fun a H => ?_
        refine wl_s (kg_no rfl H rfl rfl rfl) ?_; refine kl H rfl fun a H => ?_
        refine wl_s (kg_no rfl H rfl rfl rfl) ?_; refine kl H rfl fun a H => ?_
        refine wl_v _ (r_pick_t (H.ev rfl) evc) ?_; refine kl H rfl fun a H => ?_
        refine wl_v _ (r_move (H.ev rfl)) ?_; refine kl H rfl fun a H => ?_
        refine wl_s (kg_no rfl H rfl rfl rfl) ?_; refine kl H rfl fun a H => ?_
        refine wl_s (kg_no rfl H rfl rfl rfl) ?_; refine kl H rfl fun a H => ?_
        refine wl_s (kg_no rfl H rfl rfl rfl) ?_; refine kl H rfl fun a H => ?_
        refine wl_v _ (r_pick_t (H.ev rfl) evc) ?_; refine kl H rfl fun a H => ?_
        refine wpList_nil ?_
        refine c_next ?_
        refine c_cond_t H rfl ?_
        refine wp_seq ?_
        refine wp_region_lit ?_
        refine wl_v _ (r_move (H.ev rfl)) ?_; refine kl H rfl fun a H => ?_
        refine wl_v _ (r_assign (H.ev rfl)) ?_; refine kl H rfl fun a H => ?_
        refine wl_v _ (r_assign evc) ?_; refine kl H rfl fun a H => ?_
        refine wpList_nil ?_
        refine c_next ?_
        refine wp_ret ?_
        refine r_then ?_
        exact k_ret2 H rfl rfl rfl ⟨⟨_, by rw [do_bad (by unfold badP; rw [HU1.out, HU2.out]; first | (simp; done) | (simp; omega))], by rw [do_bad (by unfold badP; rw [HU1.out, HU2.out]; first | (simp; done) | (simp; omega))]; exact hown⟩, hall⟩
      · skip
        refine wl_v _ (r_lt Try.underlying3 (H.ev rfl) evc (dec_f (c2))) ?_; refine kl H rfl fun a H => ?_
        refine wl_v _ (r_move (H.ev rfl)) ?_; refine kl H rfl fun a H => ?_
        refine op_unguard _ _ (kg_yes rfl H rfl rfl rfl) ?_; refine wl_v _ (r_move (H.ev rfl)) ?_; refine kl H rfl fun a H => ?_
        by_cases c3 : op > 7
        · skip
          refine op_unguard _ _ (kg_yes rfl H rfl rfl rfl) ?_; refine wl_v _ (r_gt Try.underlying3 (H.ev rfl) evc (dec_t (c3))) ?_; refine kl H rfl fun a H => ?_
          refine wl_v _ (r_pick_f (H.ev rfl) (H.ev rfl)) ?_; refine kl H rfl fun a H => ?_
          refine wl_v _ (r_move (H.ev rfl)) ?_; refine kl H rfl fun a H => ?_
          refine wl_s (kg_no rfl H rfl rfl rfl) ?_; refine kl H rfl fun a H => ?_
          refine wl_s (kg_no rfl H rfl rfl rfl) ?_; refine kl H rfl fun a H => ?_
          refine wl_s (kg_no rfl H rfl rfl rfl) ?_; refine kl H rfl fun a H => ?_
          refine wl_v _ (r_pick_t (H.ev rfl) evc) ?_; refine kl H rfl fun a H => ?_
          refine wl_v _ (r_move (H.ev rfl)) ?_; refine kl H rfl fun a H => ?_
          refine wl_s (kg_no rfl H rfl rfl rfl) ?_; refine kl H rfl fun a H => ?_
          refine wl_s (kg_no rfl H rfl rfl rfl) ?_; refine kl H rfl fun a H => ?_
          refine wl_s (kg_no rfl H rfl rfl rfl) ?_; refine kl H rfl fun a H => ?_
          refine wl_v _ (r_pick_t (H.ev rfl) evc) ?_; refine kl H rfl fun a H => ?_
          refine wl_v _ (r_move (H.ev rfl)) ?_; refine kl H rfl fun a H => ?_
          refine wl_s (kg_no rfl H rfl rfl rfl) ?_; refine kl H rfl fun a H => ?_
          refine wl_s (kg_no rfl H rfl rfl rfl) ?_; refine kl H rfl fun a H => ?_
          refine wl_s (kg_no rfl H rfl rfl rfl) ?_; refine kl H rfl fun a H => ?_
          refine wl_v _ (r_pick_t (H.ev rfl) evc) ?_; refine kl H rfl fun a H => ?_
          refine wpList_nil ?_
          refine c_next ?_
          refine c_cond_t H rfl ?_
          refine wp_seq ?_
          refine wp_region_lit ?_
          refine wl_v _ (r_move (H.ev rfl)) ?_; refine kl H rfl fun a H => ?_
          refine wl_v _ (r_assign (H.ev rfl)) ?_; refine kl H rfl fun a H => ?_
          refine wl_v _ (r_assign evc) ?_; refine kl H rfl fun a H => ?_
          refine wpList_nil ?_
          refine c_next ?_
          refine wp_ret ?_
          refine r_then ?_
          exact k_ret2 H rfl rfl rfl ⟨⟨_, by rw [do_bad (by unfold badP; rw [HU1.out, HU2.out]; first | (simp; done) | (simp; omega))], by rw [do_bad (by unfold badP; rw [HU1.out, HU2.out]; first | (simp; done) | (simp; omega))]; exact hown⟩, hall⟩
        · skip
          refine op_unguard _ _ (kg_yes rfl H rfl rfl rfl) ?_; refine wl_v _ (r_gt Try.underlying3 (H.ev rfl) evc (dec_f (c3))) ?_; refine kl H rfl fun a H => ?_
          refine wl_v _ (r_pick_f (H.ev rfl) (H.ev rfl)) ?_; refine kl H rfl fun a H => ?_
          refine wl_v _ (r_move (H.ev rfl)) ?_; refine kl H rfl fun a H => ?_
          refine op_unguard _ _ (kg_yes rfl H rfl rfl rfl) ?_; refine wl_v _ (r_move (H.ev rfl)) ?_; refine kl H rfl fun a H => ?_
          refine op_unguard _ _ (kg_yes rfl H rfl rfl rfl) ?_; refine wl_call _ _ _ (user_any _ _) (r_call1 cf31 (H.ev rfl)) ?_; rintro e w9 ⟨rfl, rfl⟩; refine ⟨_, rfl, ?_⟩; rw [HU1.out]; skip; refine kl H rfl fun a H => ?_
          refine op_unguard _ _ (kg_yes rfl H rfl rfl rfl) ?_; refine wl_v _ (r_not (H.ev rfl) rfl) ?_; refine kl H rfl fun a H => ?_
          refine wl_v _ (r_pick_f (H.ev rfl) (H.ev rfl)) ?_; refine kl H rfl fun a H => ?_
          refine wl_v _ (r_move (H.ev rfl)) ?_; refine kl H rfl fun a H => ?_
          refine wl_s (kg_no rfl H rfl rfl rfl) ?_; refine kl H rfl fun a H => ?_
          refine wl_s (kg_no rfl H rfl rfl rfl) ?_; refine kl H rfl fun a H => ?_
          refine wl_s (kg_no rfl H rfl rfl rfl) ?_; refine kl H rfl fun a H => ?_
          refine wl_v _ (r_pick_t (H.ev rfl) evc) ?_; refine kl H rfl fun a H => ?_
          refine wl_v _ (r_move (H.ev rfl)) ?_; refine kl H rfl fun a H => ?_
          refine wl_s (kg_no rfl H rfl rfl rfl) ?_; refine kl H rfl fun a H => ?_
          refine wl_s (kg_no rfl H rfl rfl rfl) ?_; refine kl H rfl fun a H => ?_
          refine wl_s (kg_no rfl H rfl rfl rfl) ?_; refine kl H rfl fun a H => ?_
          refine wl_v _ (r_pick_t (H.ev rfl) evc) ?_; refine kl H rfl fun a H => ?_
          refine wpList_nil ?_
          refine c_next ?_
          refine c_cond_t H rfl ?_
          refine wp_seq ?_
          refine wp_region_lit ?_
          refine wl_v _ (r_move (H.ev rfl)) ?_; refine kl H rfl fun a H => ?_
          refine wl_v _ (r_assign (H.ev rfl)) ?_; refine kl H rfl fun a H => ?_
          refine wl_v _ (r_assign evc) ?_; refine kl H rfl fun a H => ?_
          refine wpList_nil ?_
          refine c_next ?_
          refine wp_ret ?_
          refine r_then ?_
          exact k_ret2 H rfl rfl rfl ⟨⟨_, by rw [do_bad (by unfold badP; rw [HU1.out, HU2.out]; first | (simp; done) | (simp; omega))], by rw [do_bad (by unfold badP; rw [HU1.out, HU2.out]; first | (simp; done) | (simp; omega))]; exact hown⟩, hall⟩
  · skip
    cases u2
    · skip
      refine wp_region_lit ?_
      refine wl_v _ (r_move (H.ev rfl)) ?_; refine kl H rfl fun a H => ?_
      by_cases c4 : op < 1
      · skip
        refine wl_v _ (r_lt Try.underlying3 (H.ev rfl) evc (dec_t (c4))) ?_; refine kl H rfl fun a H => ?_
        refine wl_v _ (r_move (H.ev rfl)) ?_; refine kl H rfl fun a H => ?_
        refine wl_s (kg_no rfl H rfl rfl rfl) ?_; refine kl H rfl fun a H => ?_
        refine wl_s (kg_no rfl H rfl rfl rfl) ?_; refine kl H rfl fun a H => ?_
        refine wl_v _ (r_pick_t (H.ev rfl) evc) ?_; refine kl H rfl fun a H => ?_
        refine wl_v _ (r_move (H.ev rfl)) ?_; refine kl H rfl fun a H => ?_
        refine wl_s (kg_no rfl H rfl rfl rfl) ?_; refine kl H rfl fun a H => ?_
        refine wl_s (kg_no rfl H rfl rfl rfl) ?_; refine kl H rfl fun a H => ?_
        refine wl_s (kg_no rfl H rfl rfl rfl) ?_; refine kl H rfl fun a H => ?_
        refine wl_v _ (r_pick_t (H.ev rfl) evc) ?_; refine kl H rfl fun a H => ?_
        refine wl_v _ (r_move (H.ev rfl)) ?_; refine kl H rfl fun a H => ?_
        refine wl_s (kg_no rfl H rfl rfl rfl) ?_; refine kl H rfl fun a H => ?_
        refine wl_s (kg_no rfl H rfl rfl rfl) ?_; refine kl H rfl fun a H => ?_
        refine wl_s (kg_no rfl H rfl rfl rfl) ?_; refine kl H rfl fun a H => ?_
        refine wl_v _ (r_pick_t (H.ev rfl) evc) ?_; refine kl H rfl fun a H => ?_
        refine wl_v _ (r_move (H.ev rfl)) ?_; refine kl H rfl fun a H => ?_
        refine wl_s (kg_no rfl H rfl rfl rfl) ?_; refine kl H rfl fun a H => ?_
        refine wl_s (kg_no rfl H rfl rfl rfl) ?_; refine kl H rfl fun a H => ?_
        refine wl_s (kg_no rfl H rfl rfl rfl) ?_; refine kl H rfl fun a H => ?_
        refine wl_v _ (r_pick_t (H.ev rfl) evc) ?_; refine kl H rfl fun a H => ?_
        refine wpList_nil ?_
        refine c_next ?_
        refine c_cond_t H rfl ?_
        refine wp_seq ?_
        refine wp_region_lit ?_
        refine wl_v _ (r_move (H.ev rfl)) ?_; refine kl H rfl fun a H => ?_
        refine wl_v _ (r_assign (H.ev rfl)) ?_; refine kl H rfl fun a H => ?_
        refine wl_v _ (r_assign evc) ?_; refine kl H rfl fun a H => ?_
        refine wpList_nil ?_
        refine c_next ?_
        refine wp_ret ?_
        refine r_then ?_
        exact k_ret2 H rfl rfl rfl ⟨⟨_, by rw [do_bad (by unfold badP; rw [HU1.out, HU2.out]; first | (simp; done) | (simp; omega))], by rw [do_bad (by unfold badP; rw [HU1.out, HU2.out]; first | (simp; done) | (simp; omega))]; exact hown⟩, hall⟩
      · skip
        refine wl_v _ (r_lt Try.underlying3 (H.ev rfl) evc (dec_f (c4))) ?_; refine kl H rfl fun a H => ?_
        refine wl_v _ (r_move (H.ev rfl)) ?_; refine kl H rfl fun a H => ?_
        refine op_unguard _ _ (kg_yes rfl H rfl rfl rfl) ?_; refine wl_v _ (r_move (H.ev rfl)) ?_; refine kl H rfl fun a H => ?_
        by_cases c5 : op > 7
        · skip
          refine op_unguard _ _ (kg_yes rfl H rfl rfl rfl) ?_; refine wl_v _ (r_gt Try.underlying3 (H.ev rfl) evc (dec_t (c5))) ?_; refine kl H rfl fun a H => ?_
          refine wl_v _ (r_pick_f (H.ev rfl) (H.ev rfl)) ?_; refine kl H rfl fun a H => ?_
          refine wl_v _ (r_move (H.ev rfl)) ?_; refine kl H rfl fun a H => ?_
          refine wl_s (kg_no rfl H rfl rfl rfl) ?_; refine kl H rfl fun a H => ?_
          refine wl_s (kg_no rfl H rfl rfl rfl) ?_; refine kl H rfl fun a H => ?_
          refine wl_s (kg_no rfl H rfl rfl rfl) ?_; refine kl H rfl fun a H => ?_
          refine wl_v _ (r_pick_t (H.ev rfl) evc) ?_; refine kl H rfl fun a H => ?_
          refine wl_v _ (r_move (H.ev rfl)) ?_; refine kl H rfl fun a H => ?_
          refine wl_s (kg_no rfl H rfl rfl rfl) ?_; refine kl H rfl fun a H => ?_
          refine wl_s (kg_no rfl H rfl rfl rfl) ?_; refine kl H rfl fun a H => ?_
          refine wl_s (kg_no rfl H rfl rfl rfl) ?_; refine kl H rfl fun a H => ?_
          refine wl_v _ (r_pick_t (H.ev rfl) evc) ?_; refine kl H rfl fun a H => ?_
          refine wl_v _ (r_move (H.ev rfl)) ?_; refine kl H rfl fun a H => ?_
          refine wl_s (kg_no rfl H rfl rfl rfl) ?_; refine kl H rfl fun a H => ?_
          refine wl_s (kg_no rfl H rfl rfl rfl) ?_; refine kl H rfl fun a H => ?_
          refine wl_s (kg_no rfl H rfl rfl rfl) ?_; refine kl H rfl fun a H => ?_
          refine wl_v _ (r_pick_t (H.ev rfl) evc) ?_; refine kl H rfl fun a H => ?_
          refine wpList_nil ?_
          refine c_next ?_
          refine c_cond_t H rfl ?_
          refine wp_seq ?_
          refine wp_region_lit ?_
          refine wl_v _ (r_move (H.ev rfl)) ?_; refine kl H rfl fun a H => ?_
          refine wl_v _ (r_assign (H.ev rfl)) ?_; refine kl H rfl fun a H => ?_
          refine wl_v _ (r_assign evc) ?_; refine kl H rfl fun a H => ?_
          refine wpList_nil ?_
          refine c_next ?_
          refine wp_ret ?_
          refine r_then ?_
          exact k_ret2 H rfl rfl rfl ⟨⟨_, by rw [do_bad (by unfold badP; rw [HU1.out, HU2.out]; first | (simp; done) | (simp; omega))], by rw [do_bad (by unfold badP; rw [HU1.out, HU2.out]; first | (simp; done) | (simp; omega))]; exact hown⟩, hall⟩
        · skip
          refine op_unguard _ _ (kg_yes rfl H rfl rfl rfl) ?_; refine wl_v _ (r_gt Try.underlying3 (H.ev rfl) evc (dec_f (c5))) ?_; refine kl H rfl fun a H => ?_
          refine wl_v _ (r_pick_f (H.ev rfl) (H.ev rfl)) ?_; refine kl H rfl fun a H => ?_
          refine wl_v _ (r_move (H.ev rfl)) ?_; refine kl H rfl fun a H => ?_
          refine op_unguard _ _ (kg_yes rfl H rfl rfl rfl) ?_; refine wl_v _ (r_move (H.ev rfl)) ?_; refine kl H rfl fun a H => ?_
          refine op_unguard _ _ (kg_yes rfl H rfl rfl rfl) ?_; refine wl_call _ _ _ (user_any _ _) (r_call1 cf31 (H.ev rfl)) ?_; rintro e w9 ⟨rfl, rfl⟩; refine ⟨_, rfl, ?_⟩; rw [HU1.out]; skip; refine kl H rfl fun a H => ?_
          refine op_unguard _ _ (kg_yes rfl H rfl rfl rfl) ?_; refine wl_v _ (r_not (H.ev rfl) rfl) ?_; refine kl H rfl fun a H => ?_
          refine wl_v _ (r_pick_f (H.ev rfl) (H.ev rfl)) ?_; refine kl H rfl fun a H => ?_
          refine wl_v _ (r_move (H.ev rfl)) ?_; refine kl H rfl fun a H => ?_
          refine op_unguard _ _ (kg_yes rfl H rfl rfl rfl) ?_; refine wl_v _ (r_move (H.ev rfl)) ?_; refine kl H rfl fun a H => ?_
          refine op_unguard _ _ (kg_yes rfl H rfl rfl rfl) ?_; refine wl_call _ _ _ (user_any _ _) (r_call1 cf31 (H.ev rfl)) ?_; rintro e w9 ⟨rfl, rfl⟩; refine ⟨_, rfl, ?_⟩; rw [HU2.out]; skip; refine kl H rfl fun a H => ?_
          refine op_unguard _ _ (kg_yes rfl H rfl rfl rfl) ?_; refine wl_v _ (r_not (H.ev rfl) rfl) ?_; refine kl H rfl fun a H => ?_
          refine wl_v _ (r_pick_f (H.ev rfl) (H.ev rfl)) ?_; refine kl H rfl fun a H => ?_
          refine wl_v _ (r_move (H.ev rfl)) ?_; refine kl H rfl fun a H => ?_
          refine wl_s (kg_no rfl H rfl rfl rfl) ?_; refine kl H rfl fun a H => ?_
          refine wl_s (kg_no rfl H rfl rfl rfl) ?_; refine kl H rfl fun a H => ?_
          refine wl_s (kg_no rfl H rfl rfl rfl) ?_; refine kl H rfl fun a H => ?_
          refine wl_v _ (r_pick_t (H.ev rfl) evc) ?_; refine kl H rfl fun a H => ?_
          refine wpList_nil ?_
          refine c_next ?_
          refine c_cond_t H rfl ?_
          refine wp_seq ?_
          refine wp_region_lit ?_
          refine wl_v _ (r_move (H.ev rfl)) ?_; refine kl H rfl fun a H => ?_
          refine wl_v _ (r_assign (H.ev rfl)) ?_; refine kl H rfl fun a H => ?_
          refine wl_v _ (r_assign evc) ?_; refine kl H rfl fun a H => ?_
          refine wpList_nil ?_
          refine c_next ?_
          refine wp_ret ?_
          refine r_then ?_
          exact k_ret2 H rfl rfl rfl ⟨⟨_, by rw [do_bad (by unfold badP; rw [HU1.out, HU2.out]; first | (simp; done) | (simp; omega))], by rw [do_bad (by unfold badP; rw [HU1.out, HU2.out]; first | (simp; done) | (simp; omega))]; exact hown⟩, hall⟩
    · skip
      refine wp_region_lit ?_
      refine wl_v _ (r_move (H.ev rfl)) ?_; refine kl H rfl fun a H => ?_
      by_cases c6 : op < 1
      · skip
        refine wl_v _ (r_lt Try.underlying3 (H.ev rfl) evc (dec_t (c6))) ?_; refine kl H rfl fun a H => ?_
        refine wl_v _ (r_move (H.ev rfl)) ?_; refine kl H rfl fun a H => ?_
        refine wl_s (kg_no rfl H rfl rfl rfl) ?_; refine kl H rfl fun a H => ?_
        refine wl_s (kg_no rfl H rfl rfl rfl) ?_; refine kl H rfl fun a H => ?_
        refine wl_v _ (r_pick_t (H.ev rfl) evc) ?_; refine kl H rfl fun a H => ?_
        refine wl_v _ (r_move (H.ev rfl)) ?_; refine kl H rfl fun a H => ?_
        refine wl_s (kg_no rfl H rfl rfl rfl) ?_; refine kl H rfl fun a H => ?_
        refine wl_s (kg_no rfl H rfl rfl rfl) ?_; refine kl H rfl fun a H => ?_
        refine wl_s (kg_no rfl H rfl rfl rfl) ?_; refine kl H rfl fun a H => ?_
        refine wl_v _ (r_pick_t (H.ev rfl) evc) ?_; refine kl H rfl fun a H => ?_
        refine wl_v _ (r_move (H.ev rfl)) ?_; refine kl H rfl fun a H => ?_
        refine wl_s (kg_no rfl H rfl rfl rfl) ?_; refine kl H rfl fun a H => ?_
        refine wl_s (kg_no rfl H rfl rfl rfl) ?_; refine kl H rfl fun a H => ?_
        refine wl_s (kg_no rfl H rfl rfl rfl) ?_; refine kl H rfl fun a H => ?_
        refine wl_v _ (r_pick_t (H.ev rfl) evc) ?_; refine kl H rfl fun a H => ?_
        refine wl_v _ (r_move (H.ev rfl)) ?_; refine kl H rfl fun a H => ?_
        refine wl_s (kg_no rfl H rfl rfl rfl) ?_; refine kl H rfl fun a H => ?_
        refine wl_s (kg_no rfl H rfl rfl rfl) ?_; refine kl H rfl fun a H => ?_
        refine wl_s (kg_no rfl H rfl rfl rfl) ?_; refine kl H rfl fun a H => ?_
        refine wl_v _ (r_pick_t (H.ev rfl) evc) ?_; refine kl H rfl fun a H => ?_
        refine wpList_nil ?_
        refine c_next ?_
        refine c_cond_t H rfl ?_
        refine wp_seq ?_
        refine wp_region_lit ?_
        refine wl_v _ (r_move (H.ev rfl)) ?_; refine kl H rfl fun a H => ?_
        refine wl_v _ (r_assign (H.ev rfl)) ?_; refine kl H rfl fun a H => ?_
        refine wl_v _ (r_assign evc) ?_; refine kl H rfl fun a H => ?_
        refine wpList_nil ?_
        refine c_next ?_
        refine wp_ret ?_
        refine r_then ?_
        exact k_ret2 H rfl rfl rfl ⟨⟨_, by rw [do_bad (by unfold badP; rw [HU1.out, HU2.out]; first | (simp; done) | (simp; omega))], by rw [do_bad (by unfold badP; rw [HU1.out, HU2.out]; first | (simp; done) | (simp; omega))]; exact hown⟩, hall⟩
      · skip
        refine wl_v _ (r_lt Try.underlying3 (H.ev rfl) evc (dec_f (c6))) ?_; refine kl H rfl fun a H => ?_
        refine wl_v _ (r_move (H.ev rfl)) ?_; refine kl H rfl fun a H => ?_
        refine op_unguard _ _ (kg_yes rfl H rfl rfl rfl) ?_; refine wl_v _ (r_move (H.ev rfl)) ?_; refine kl H rfl fun a H => ?_
        by_cases c7 : op > 7
        · skip
          refine op_unguard _ _ (kg_yes rfl H rfl rfl rfl) ?_; refine wl_v _ (r_gt Try.underlying3 (H.ev rfl) evc (dec_t (c7))) ?_; refine kl H rfl fun a H => ?_
          refine wl_v _ (r_pick_f (H.ev rfl) (H.ev rfl)) ?_; refine kl H rfl fun a H => ?_
          refine wl_v _ (r_move (H.ev rfl)) ?_; refine kl H rfl fun a H => ?_
          refine wl_s (kg_no rfl H rfl rfl rfl) ?_; refine kl H rfl fun a H => ?_
          refine wl_s (kg_no rfl H rfl rfl rfl) ?_; refine kl H rfl fun a H => ?_
          refine wl_s (kg_no rfl H rfl rfl rfl) ?_; refine kl H rfl fun a H => ?_
          refine wl_v _ (r_pick_t (H.ev rfl) evc) ?_; refine kl H rfl fun a H => ?_
          refine wl_v _ (r_move (H.ev rfl)) ?_; refine kl H rfl fun a H => ?_
          refine wl_s (kg_no rfl H rfl rfl rfl) ?_; refine kl H rfl fun a H => ?_
          refine wl_s (kg_no rfl H rfl rfl rfl) ?_; refine kl H rfl fun a H => ?_
          refine wl_s (kg_no rfl H rfl rfl rfl) ?_; refine kl H rfl fun a H => ?_
          refine wl_v _ (r_pick_t (H.ev rfl) evc) ?_; refine kl H rfl fun a H => ?_
          refine wl_v _ (r_move (H.ev rfl)) ?_; refine kl H rfl fun a H => ?_
          refine wl_s (kg_no rfl H rfl rfl rfl) ?_; refine kl H rfl fun a H => ?_
          refine wl_s (kg_no rfl H rfl rfl rfl) ?_; refine kl H rfl fun a H => ?_
          refine wl_s (kg_no rfl H rfl rfl rfl) ?_; refine kl H rfl fun a H => ?_
          refine wl_v _ (r_pick_t (H.ev rfl) evc) ?_; refine kl H rfl fun a H => ?_
          refine wpList_nil ?_
          refine c_next ?_
          refine c_cond_t H rfl ?_
          refine wp_seq ?_
          refine wp_region_lit ?_
          refine wl_v _ (r_move (H.ev rfl)) ?_; refine kl H rfl fun a H => ?_
          refine wl_v _ (r_assign (H.ev rfl)) ?_; refine kl H rfl fun a H => ?_
          refine wl_v _ (r_assign evc) ?_; refine kl H rfl fun a H => ?_
          refine wpList_nil ?_
          refine c_next ?_
          refine wp_ret ?_
          refine r_then ?_
          exact k_ret2 H rfl rfl rfl ⟨⟨_, by rw [do_bad (by unfold badP; rw [HU1.out, HU2.out]; first | (simp; done) | (simp; omega))], by rw [do_bad (by unfold badP; rw [HU1.out, HU2.out]; first | (simp; done) | (simp; omega))]; exact hown⟩, hall⟩
        · skip
          refine op_unguard _ _ (kg_yes rfl H rfl rfl rfl) ?_; refine wl_v _ (r_gt Try.underlying3 (H.ev rfl) evc (dec_f (c7))) ?_; refine kl H rfl fun a H => ?_
          refine wl_v _ (r_pick_f (H.ev rfl) (H.ev rfl)) ?_; refine kl H rfl fun a H => ?_
          refine wl_v _ (r_move (H.ev rfl)) ?_; refine kl H rfl fun a H => ?_
          refine op_unguard _ _ (kg_yes rfl H rfl rfl rfl) ?_; refine wl_v _ (r_move (H.ev rfl)) ?_; refine kl H rfl fun a H => ?_
          refine op_unguard _ _ (kg_yes rfl H rfl rfl rfl) ?_; refine wl_call _ _ _ (user_any _ _) (r_call1 cf31 (H.ev rfl)) ?_; rintro e w9 ⟨rfl, rfl⟩; refine ⟨_, rfl, ?_⟩; rw [HU1.out]; skip; refine kl H rfl fun a H => ?_
          refine op_unguard _ _ (kg_yes rfl H rfl rfl rfl) ?_; refine wl_v _ (r_not (H.ev rfl) rfl) ?_; refine kl H rfl fun a H => ?_
          refine wl_v _ (r_pick_f (H.ev rfl) (H.ev rfl)) ?_; refine kl H rfl fun a H => ?_
          refine wl_v _ (r_move (H.ev rfl)) ?_; refine kl H rfl fun a H => ?_
          refine op_unguard _ _ (kg_yes rfl H rfl rfl rfl) ?_; refine wl_v _ (r_move (H.ev rfl)) ?_; refine kl H rfl fun a H => ?_
          refine op_unguard _ _ (kg_yes rfl H rfl rfl rfl) ?_; refine wl_call _ _ _ (user_any _ _) (r_call1 cf31 (H.ev rfl)) ?_; rintro e w9 ⟨rfl, rfl⟩; refine ⟨_, rfl, ?_⟩; rw [HU2.out]; skip; refine kl H rfl fun a H => ?_
          refine op_unguard _ _ (kg_yes rfl H rfl rfl rfl) ?_; refine wl_v _ (r_not (H.ev rfl) rfl) ?_; refine kl H rfl fun a H => ?_
          refine wl_v _ (r_pick_f (H.ev rfl) (H.ev rfl)) ?_; refine kl H rfl fun a H => ?_
          refine wl_v _ (r_move (H.ev rfl)) ?_; refine kl H rfl fun a H => ?_
          refine op_unguard _ _ (kg_yes rfl H rfl rfl rfl) ?_; refine wl_v _ (r_move (H.ev rfl)) ?_; refine kl H rfl fun a H => ?_
          refine op_unguard _ _ (kg_yes rfl H rfl rfl rfl) ?_; refine wl_v _ (r_move (H.ev rfl)) ?_; refine kl H rfl fun a H => ?_
          by_cases c8 : who = peer
          · skip
            refine op_unguard _ _ (kg_yes rfl H rfl rfl rfl) ?_; refine wl_v _ (r_eq Try.underlying3 (H.ev rfl) (H.ev rfl) (dec_t (c8))) ?_; refine kl H rfl fun a H => ?_
            refine wl_v _ (r_pick_f (H.ev rfl) (H.ev rfl)) ?_; refine kl H rfl fun a H => ?_
            refine wpList_nil ?_
            refine c_next ?_
            refine c_cond_t H rfl ?_
            refine wp_seq ?_
            refine wp_region_lit ?_
            refine wl_v _ (r_move (H.ev rfl)) ?_; refine kl H rfl fun a H => ?_
            refine wl_v _ (r_assign (H.ev rfl)) ?_; refine kl H rfl fun a H => ?_
            refine wl_v _ (r_assign evc) ?_; refine kl H rfl fun a H => ?_
            refine wpList_nil ?_
            refine c_next ?_
            refine wp_ret ?_
            refine r_then ?_
            exact k_ret2 H rfl rfl rfl ⟨⟨_, by rw [do_bad (by unfold badP; rw [HU1.out, HU2.out]; first | (simp; done) | (simp; omega))], by rw [do_bad (by unfold badP; rw [HU1.out, HU2.out]; first | (simp; done) | (simp; omega))]; exact hown⟩, hall⟩
          · skip
            refine op_unguard _ _ (kg_yes rfl H rfl rfl rfl) ?_; refine wl_v _ (r_eq Try.underlying3 (H.ev rfl) (H.ev rfl) (dec_f (c8))) ?_; refine kl H rfl fun a H => ?_
            refine wl_v _ (r_pick_f (H.ev rfl) (H.ev rfl)) ?_; refine kl H rfl fun a H => ?_
            refine wpList_nil ?_
            refine c_next ?_
            refine c_cond_f H rfl ?_
            refine wp_skip ?_
            refine c_next ?_
            refine wp_seq ?_
            refine wp_region_lit ?_
            refine wl_v _ (r_move (H.ev rfl)) ?_; refine kl H rfl fun a H => ?_
            refine wl_v _ (r_move (H.ev rfl)) ?_; refine kl H rfl fun a H => ?_
            refine wl_v _ (r_assign (H.ev rfl)) ?_; refine kl H rfl fun a H => ?_
            refine wl_v _ (r_assign (H.ev rfl)) ?_; refine kl H rfl fun a H => ?_
            refine wpList_nil ?_
            refine c_next ?_
            refine wp_seq ?_
            refine wp_seq ?_
            obtain ⟨mi, hmi⟩ : ∃ mi, mineB op = mi := ⟨_, rfl⟩
            have HMI := Lib.hid hmi
            clear hmi
            cases mi
            · skip
              refine wp_region_lit ?_
              refine wl_v _ (r_move (H.ev rfl)) ?_; refine kl H rfl fun a H => ?_
              refine wl_call _ _ _ (mine_any _ _) (r_call1 cf23 (H.ev rfl)) ?_; rintro e w9 ⟨rfl, rfl⟩; refine ⟨_, rfl, ?_⟩; rw [HMI.out]; skip; refine kl H rfl fun a H => ?_
              refine wpList_nil ?_
              refine c_next ?_
              refine c_cond_f H rfl ?_
              refine wp_skip ?_
              refine c_next ?_
              refine wp_seq ?_
              refine wp_region_lit ?_
              refine wl_v _ (r_move (H.ev rfl)) ?_; refine kl H rfl fun a H => ?_
              refine wl_v _ (r_move (H.ev rfl)) ?_; refine kl H rfl fun a H => ?_
              refine wl_v _ (r_move (H.ev rfl)) ?_; refine kl H rfl fun a H => ?_
              refine wl_call _ _ _ (find_any _ _ L peer who (TOwn.row hown) hn (mono_of hR.out.1 _)) (r_call3 cf32 (H.ev rfl) (H.ev rfl) (H.ev rfl)) ?_; rintro e w9 ⟨⟨k, f, rfl, hF⟩, hb⟩; refine ⟨_, rfl, ?_⟩; replace hown := own_ups hown hb; replace hall := hall.trans (hb.mono hall.size); clear hb; refine kl H rfl fun a H => ?_
              refine wl_v _ (r_move (H.ev rfl)) ?_; refine kl H rfl fun a H => ?_
              refine wl_v _ (r_extract (v := .int .i64 (k : Nat)) (H.ev rfl) rfl) ?_; refine kl H rfl fun a H => ?_
              refine wl_v _ (r_extract (v := .bool f) (H.ev rfl) rfl) ?_; refine kl H rfl fun a H => ?_
              refine wl_v _ (r_assign (H.ev rfl)) ?_; refine kl H rfl fun a H => ?_
              refine wl_v _ (r_assign (H.ev rfl)) ?_; refine kl H rfl fun a H => ?_
              refine wpList_nil ?_
              refine c_next ?_
              refine wp_seq ?_
              obtain ⟨s, hs⟩ : ∃ s, stF L peer who = s := ⟨_, rfl⟩
              obtain ⟨tq, hto⟩ : ∃ tq, (stepF s op).1 = tq := ⟨_, rfl⟩
              obtain ⟨er, her⟩ : ∃ er, (stepF s op).2 = er := ⟨_, rfl⟩
              obtain ⟨fu, hfu⟩ : ∃ fu, fullB L peer = fu := ⟨_, rfl⟩
              have HS := Lib.hid hs
              have HTO := Lib.hid hto
              have HER := Lib.hid her
              have HFU := Lib.hid hfu
              have HG : Hid (¬ badP op who peer) := Lib.hid (by unfold badP; rw [HU1.out, HU2.out]; simp; omega)
              have HD := Lib.hid (do_eq HG.out HMI.out HS.out HTO.out HER.out HFU.out)
              have hsf := had_state hR.out hF HS.out
              clear hs hto her hfu
              refine wp_region_lit ?_
              refine wl_v _ (r_move (H.ev rfl)) ?_; refine kl H rfl fun a H => ?_
              refine wl_v _ (r_move (H.ev rfl)) ?_; refine kl H rfl fun a H => ?_
              refine wl_v _ (r_move (H.ev rfl)) ?_; refine kl H rfl fun a H => ?_
              refine wl_call _ _ _ (state_any _ _ L peer who (TOwn.row hown) hn hR.out.1) (r_call3 cf16 (H.ev rfl) (H.ev rfl) (H.ev rfl)) ?_; rintro e w9 ⟨rfl, hb⟩; refine ⟨_, rfl, ?_⟩; rw [HS.out]; replace hown := own_ups hown hb; replace hall := hall.trans (hb.mono hall.size); clear hb; refine kl H rfl fun a H => ?_
              refine wl_v _ (r_move (H.ev rfl)) ?_; refine kl H rfl fun a H => ?_
              refine wl_call _ _ _ (step_any s op _) (r_call2 cf24 (H.ev rfl) (H.ev rfl)) ?_; rintro e w9 ⟨rfl, hb⟩; refine ⟨_, rfl, ?_⟩; rw [HTO.out, HER.out]; replace hown := own_ups hown hb; replace hall := hall.trans (hb.mono hall.size); clear hb; refine kl H rfl fun a H => ?_
              refine wl_v _ (r_move (H.ev rfl)) ?_; refine kl H rfl fun a H => ?_
              refine wl_v _ (r_extract (v := .int .i64 tq) (H.ev rfl) rfl) ?_; refine kl H rfl fun a H => ?_
              refine wl_v _ (r_extract (v := .int .i64 er) (H.ev rfl) rfl) ?_; refine kl H rfl fun a H => ?_
              refine wl_v _ (r_assign (H.ev rfl)) ?_; refine kl H rfl fun a H => ?_
              refine wl_v _ (r_assign (H.ev rfl)) ?_; refine kl H rfl fun a H => ?_
              refine wpList_nil ?_
              refine c_next ?_
              refine wp_seq ?_
              refine wp_block ?_
              refine wp_seq ?_
              refine wp_region_lit ?_
              refine wl_v _ (r_move (H.ev rfl)) ?_; refine kl H rfl fun a H => ?_
              by_cases c9 : er ≠ 0
              · skip
                refine wl_v _ (r_ne Try.underlying28 (H.ev rfl) evc (dec_t (c9))) ?_; refine kl H rfl fun a H => ?_
                refine wl_v _ (r_assign (H.ev rfl)) ?_; refine kl H rfl fun a H => ?_
                refine wpList_nil ?_
                refine c_next ?_
                refine c_cond_t H rfl ?_
                refine wp_seq ?_
                refine wp_region_lit ?_
                refine wl_v _ (r_move (H.ev rfl)) ?_; refine kl H rfl fun a H => ?_
                refine wl_v _ (r_move (H.ev rfl)) ?_; refine kl H rfl fun a H => ?_
                refine wl_v _ (r_assign (H.ev rfl)) ?_; refine kl H rfl fun a H => ?_
                refine wl_v _ (r_assign (H.ev rfl)) ?_; refine kl H rfl fun a H => ?_
                refine wpList_nil ?_
                refine c_next ?_
                refine wp_ret ?_
                refine r_block ?_
                refine r_then ?_
                rw [if_pos (by omega)] at HD
                exact k_ret2 H rfl rfl rfl ⟨⟨_, by rw [HD.out], by rw [HD.out]; exact hown⟩, hall⟩
              · skip
                refine wl_v _ (r_ne Try.underlying28 (H.ev rfl) evc (dec_f (c9))) ?_; refine kl H rfl fun a H => ?_
                refine wl_v _ (r_assign (H.ev rfl)) ?_; refine kl H rfl fun a H => ?_
                refine wpList_nil ?_
                refine c_next ?_
                refine c_cond_f H rfl ?_
                refine wp_seq ?_
                have hkL := hF.1
                cases f
                · skip
                  cases fu
                  · skip
                    refine wp_region_lit ?_
                    refine wl_v _ (r_move (H.ev rfl)) ?_; refine kl H rfl fun a H => ?_
                    refine wl_v _ (r_not (H.ev rfl) rfl) ?_; refine kl H rfl fun a H => ?_
                    refine wl_v _ (r_move (H.ev rfl)) ?_; refine kl H rfl fun a H => ?_
                    refine op_unguard _ _ (kg_yes rfl H rfl rfl rfl) ?_; refine wl_v _ (r_move (H.ev rfl)) ?_; refine kl H rfl fun a H => ?_
                    refine op_unguard _ _ (kg_yes rfl H rfl rfl rfl) ?_; refine wl_v _ (r_move (H.ev rfl)) ?_; refine kl H rfl fun a H => ?_
                    refine op_unguard _ _ (kg_yes rfl H rfl rfl rfl) ?_; refine wl_call _ _ _ (full_any _ _ L peer (TOwn.row hown) (by omega)) (r_call2 cf33 (H.ev rfl) (H.ev rfl)) ?_; rintro e w9 ⟨rfl, hb⟩; refine ⟨_, rfl, ?_⟩; rw [HFU.out]; replace hown := own_ups hown hb; replace hall := hall.trans (hb.mono hall.size); clear hb; refine kl H rfl fun a H => ?_
                    refine wl_v _ (r_pick_t (H.ev rfl) (H.ev rfl)) ?_; refine kl H rfl fun a H => ?_
                    refine wl_v _ (r_assign (H.ev rfl)) ?_; refine kl H rfl fun a H => ?_
                    refine wpList_nil ?_
                    refine c_next ?_
                    refine c_cond_f H rfl ?_
                    refine wp_seq ?_
                    refine wp_region_lit ?_
                    refine wl_v _ (r_move (H.ev rfl)) ?_; refine kl H rfl fun a H => ?_
                    refine wl_v _ (r_not (H.ev rfl) rfl) ?_; refine kl H rfl fun a H => ?_
                    refine wl_v _ (r_assign (H.ev rfl)) ?_; refine kl H rfl fun a H => ?_
                    refine wpList_nil ?_
                    refine c_next ?_
                    refine c_cond_t H rfl ?_
                    refine wp_region_lit ?_
                    refine wl_v _ (r_move (H.ev rfl)) ?_; refine kl H rfl fun a H => ?_
                    refine wl_v _ (r_move (H.ev rfl)) ?_; refine kl H rfl fun a H => ?_
                    refine wl_v _ (r_move (H.ev rfl)) ?_; refine kl H rfl fun a H => ?_
                    refine wl_v _ (r_move (H.ev rfl)) ?_; refine kl H rfl fun a H => ?_
                    refine wl_v _ (r_move (H.ev rfl)) ?_; refine kl H rfl fun a H => ?_
                    refine wl_v _ (r_build #[(0, .int .i64 peer), (1, .int .i64 who), (2, .int .i64 tq)] (.agg #[.int .i64 peer, .int .i64 who, .int .i64 tq]) (by simp [evc, H.ev (j := 86) rfl, H.ev (j := 87) rfl, H.ev (j := 88) rfl]) (fun w => by kernel_rfl)) ?_; refine kl H rfl fun a H => ?_
                    refine op_litv 22 1 #[(0, .agg #[.int .i64 peer, .int .i64 who, .int .i64 tq])] 37 #[.int .i64 peer, .int .i64 who, .int .i64 tq] (by simp [H.ev (j := 89) rfl]) (fun w => by kernel_rfl) fun w0 b0 hge hb k0 => ?_; have hne : v1.ownBlock ≠ some b0 := (fun e => by have := (hown.lt b0 e).2; omega); replace hown := own_ups hown hb; replace hall := hall.trans (hb.mono hall.size); clear hb; clear hge; refine kl H rfl fun a H => ?_
                    refine wl_call _ _ _ (insert_any _ w.heap.size v1 L k (peer, who, tq) b0 hown hall.size hF.1 k0 hne hn) (r_call3 cf34 (H.ev rfl) (H.ev rfl) (H.ev rfl)) ?_; rintro e w9 ⟨⟨v2, rfl, hown2⟩, hb⟩; refine ⟨_, rfl, ?_⟩; replace hall := hall.trans hb; clear hb hown; refine kl H rfl fun a H => ?_
                    refine wl_v _ (r_assign (H.ev rfl)) ?_; refine kl H rfl fun a H => ?_
                    refine wpList_nil ?_
                    refine n_block ?_
                    refine c_next ?_
                    refine wp_seq ?_
                    refine wp_region_lit ?_
                    refine wl_v _ (r_move (H.ev rfl)) ?_; refine kl H rfl fun a H => ?_
                    refine wl_v _ (r_assign (H.ev rfl)) ?_; refine kl H rfl fun a H => ?_
                    refine wl_v _ (r_assign evc) ?_; refine kl H rfl fun a H => ?_
                    refine wpList_nil ?_
                    refine c_next ?_
                    refine wp_ret ?_
                    rw [if_neg (by omega), if_neg (by rintro ⟨_, hq⟩; cases hq)] at HD
                    exact k_ret2 H rfl rfl rfl ⟨⟨_, by rw [HD.out], by rw [HD.out]; show TOwn _ _ _ (putF L peer who tq); rw [← ins_put hR.out.1 hF (step_none HTO.out HER.out (hsf.2 rfl) (by omega))]; exact hown2⟩, hall⟩
                  · skip
                    refine wp_region_lit ?_
                    refine wl_v _ (r_move (H.ev rfl)) ?_; refine kl H rfl fun a H => ?_
                    refine wl_v _ (r_not (H.ev rfl) rfl) ?_; refine kl H rfl fun a H => ?_
                    refine wl_v _ (r_move (H.ev rfl)) ?_; refine kl H rfl fun a H => ?_
                    refine op_unguard _ _ (kg_yes rfl H rfl rfl rfl) ?_; refine wl_v _ (r_move (H.ev rfl)) ?_; refine kl H rfl fun a H => ?_
                    refine op_unguard _ _ (kg_yes rfl H rfl rfl rfl) ?_; refine wl_v _ (r_move (H.ev rfl)) ?_; refine kl H rfl fun a H => ?_
                    refine op_unguard _ _ (kg_yes rfl H rfl rfl rfl) ?_; refine wl_call _ _ _ (full_any _ _ L peer (TOwn.row hown) (by omega)) (r_call2 cf33 (H.ev rfl) (H.ev rfl)) ?_; rintro e w9 ⟨rfl, hb⟩; refine ⟨_, rfl, ?_⟩; rw [HFU.out]; replace hown := own_ups hown hb; replace hall := hall.trans (hb.mono hall.size); clear hb; refine kl H rfl fun a H => ?_
                    refine wl_v _ (r_pick_t (H.ev rfl) (H.ev rfl)) ?_; refine kl H rfl fun a H => ?_
                    refine wl_v _ (r_assign (H.ev rfl)) ?_; refine kl H rfl fun a H => ?_
                    refine wpList_nil ?_
                    refine c_next ?_
                    refine c_cond_t H rfl ?_
                    refine wp_seq ?_
                    refine wp_region_lit ?_
                    refine wl_v _ (r_move (H.ev rfl)) ?_; refine kl H rfl fun a H => ?_
                    refine wl_v _ (r_assign (H.ev rfl)) ?_; refine kl H rfl fun a H => ?_
                    refine wl_v _ (r_assign evc) ?_; refine kl H rfl fun a H => ?_
                    refine wpList_nil ?_
                    refine c_next ?_
                    refine wp_ret ?_
                    refine r_block ?_
                    refine r_then ?_
                    have hs0 := hsf.2 rfl
                    rw [if_neg (by omega), if_pos ⟨hs0, rfl⟩] at HD
                    exact k_ret2 H rfl rfl rfl ⟨⟨_, by rw [HD.out], by rw [HD.out]; exact hown⟩, hall⟩
                · skip
                  refine wp_region_lit ?_
                  refine wl_v _ (r_move (H.ev rfl)) ?_; refine kl H rfl fun a H => ?_
                  refine wl_v _ (r_not (H.ev rfl) rfl) ?_; refine kl H rfl fun a H => ?_
                  refine wl_v _ (r_move (H.ev rfl)) ?_; refine kl H rfl fun a H => ?_
                  refine wl_s (kg_no rfl H rfl rfl rfl) ?_; refine kl H rfl fun a H => ?_
                  refine wl_s (kg_no rfl H rfl rfl rfl) ?_; refine kl H rfl fun a H => ?_
                  refine wl_s (kg_no rfl H rfl rfl rfl) ?_; refine kl H rfl fun a H => ?_
                  refine wl_v _ (r_pick_f (H.ev rfl) evc) ?_; refine kl H rfl fun a H => ?_
                  refine wl_v _ (r_assign (H.ev rfl)) ?_; refine kl H rfl fun a H => ?_
                  refine wpList_nil ?_
                  refine c_next ?_
                  refine c_cond_f H rfl ?_
                  refine wp_seq ?_
                  refine wp_region_lit ?_
                  refine wl_v _ (r_move (H.ev rfl)) ?_; refine kl H rfl fun a H => ?_
                  refine wl_v _ (r_not (H.ev rfl) rfl) ?_; refine kl H rfl fun a H => ?_
                  refine wl_v _ (r_assign (H.ev rfl)) ?_; refine kl H rfl fun a H => ?_
                  refine wpList_nil ?_
                  refine c_next ?_
                  refine c_cond_f H rfl ?_
                  refine wp_seq ?_
                  refine wp_region_lit ?_
                  refine wl_v _ (r_move (H.ev rfl)) ?_; refine kl H rfl fun a H => ?_
                  by_cases c10 : tq = 0
                  · skip
                    refine wl_v _ (r_eq Try.underlying3 (H.ev rfl) evc (dec_t (c10))) ?_; refine kl H rfl fun a H => ?_
                    refine wl_v _ (r_assign (H.ev rfl)) ?_; refine kl H rfl fun a H => ?_
                    refine wpList_nil ?_
                    refine c_next ?_
                    refine c_cond_t H rfl ?_
                    refine wp_region_lit ?_
                    refine wl_v _ (r_move (H.ev rfl)) ?_; refine kl H rfl fun a H => ?_
                    refine wl_v _ (r_move (H.ev rfl)) ?_; refine kl H rfl fun a H => ?_
                    refine wl_v _ (r_move (H.ev rfl)) ?_; refine kl H rfl fun a H => ?_
                    refine wl_v _ (r_add (q := ((k + 1 : Nat) : Int)) Try.underlying3 (H.ev rfl) evc (by omega) (by omega)) ?_; refine kl H rfl fun a H => ?_
                    obtain ⟨y, hy, hy1⟩ := hF.2.2.2.1 rfl; have hkl := (List.getElem?_eq_some_iff.1 hy).1; refine wl_call _ _ _ (delete_any _ w.heap.size v1 L hown k hkl hn) (r_call3 cf35 (H.ev rfl) (H.ev rfl) (H.ev rfl)) ?_; rintro e w9 ⟨⟨v2, rfl, hown2⟩, hb⟩; refine ⟨_, rfl, ?_⟩; replace hall := hall.trans hb; clear hb hown; refine kl H rfl fun a H => ?_
                    refine wl_v _ (r_assign (H.ev rfl)) ?_; refine kl H rfl fun a H => ?_
                    refine wpList_nil ?_
                    refine n_block ?_
                    refine c_next ?_
                    refine wp_seq ?_
                    refine wp_region_lit ?_
                    refine wl_v _ (r_move (H.ev rfl)) ?_; refine kl H rfl fun a H => ?_
                    refine wl_v _ (r_assign (H.ev rfl)) ?_; refine kl H rfl fun a H => ?_
                    refine wl_v _ (r_assign evc) ?_; refine kl H rfl fun a H => ?_
                    refine wpList_nil ?_
                    refine c_next ?_
                    refine wp_ret ?_
                    obtain rfl : tq = 0 := by omega
                    rw [if_neg (by omega), if_neg (by rintro ⟨hq, _⟩; exact hsf.1 rfl hq)] at HD
                    exact k_ret2 H rfl rfl rfl ⟨⟨_, by rw [HD.out], by rw [HD.out]; show TOwn _ _ _ (putF L peer who 0); rw [← del_put hR.out.1 hF]; exact hown2⟩, hall⟩
                  · skip
                    refine wl_v _ (r_eq Try.underlying3 (H.ev rfl) evc (dec_f (c10))) ?_; refine kl H rfl fun a H => ?_
                    refine wl_v _ (r_assign (H.ev rfl)) ?_; refine kl H rfl fun a H => ?_
                    refine wpList_nil ?_
                    refine c_next ?_
                    refine c_cond_f H rfl ?_
                    obtain ⟨y, hy, hy1⟩ := hF.2.2.2.1 rfl
                    have hkl := (List.getElem?_eq_some_iff.1 hy).1
                    obtain ⟨g, cap, cur, rfl, hbg, hg, hkc, hset⟩ := own_set hown hy
                    clear hown
                    refine wp_region_lit ?_
                    refine wl_v _ (r_move (H.ev rfl)) ?_; refine kl H rfl fun a H => ?_
                    refine wl_v _ (r_move (H.ev rfl)) ?_; refine kl H rfl fun a H => ?_
                    refine wl_v _ (r_move (H.ev rfl)) ?_; refine kl H rfl fun a H => ?_
                    refine wl_v _ (r_idx (j := k) (q := 0 + k * 3) Try.underlying22 s37 (H.ev rfl) (H.ev rfl) (by omega) rfl) ?_; refine kl H rfl fun a H => ?_
                    refine wl_v _ (r_fld (q := 0 + k * 3 + 2) fld37_2 (H.ev rfl) rfl) ?_; refine kl H rfl fun a H => ?_
                    refine op_store1 3 (.tmp 66) (.tmp 64) g (0 + k * 3 + 2) 37 (.int .i64 tq) cur (H.ev rfl) (H.ev rfl) hg s3 (by simp only [Value.cells, List.size_toArray, List.length_cons, List.length_nil]; omega) (ints_one [tq]) fun w' hb ho kq => ?_; have hown2 := hset tq _ kq; replace hall := hall.trans (hb _ hbg); clear hb ho kq hg hset; refine kl0 H fun a H => ?_
                    refine wpList_nil ?_
                    refine n_block ?_
                    refine c_next ?_
                    refine wp_seq ?_
                    refine wp_region_lit ?_
                    refine wl_v _ (r_move (H.ev rfl)) ?_; refine kl H rfl fun a H => ?_
                    refine wl_v _ (r_assign (H.ev rfl)) ?_; refine kl H rfl fun a H => ?_
                    refine wl_v _ (r_assign evc) ?_; refine kl H rfl fun a H => ?_
                    refine wpList_nil ?_
                    refine c_next ?_
                    refine wp_ret ?_
                    rw [if_neg (by omega), if_neg (by rintro ⟨hq, _⟩; exact hsf.1 rfl hq)] at HD
                    exact k_ret2 H rfl rfl rfl ⟨⟨_, by rw [HD.out], by rw [HD.out]; show TOwn _ _ _ (putF L peer who tq); rw [← set_put hR.out.1 hF hy hy1 (by omega)]; exact hown2⟩, hall⟩
            · skip
              refine wp_region_lit ?_
              refine wl_v _ (r_move (H.ev rfl)) ?_; refine kl H rfl fun a H => ?_
              refine wl_call _ _ _ (mine_any _ _) (r_call1 cf23 (H.ev rfl)) ?_; rintro e w9 ⟨rfl, rfl⟩; refine ⟨_, rfl, ?_⟩; rw [HMI.out]; skip; refine kl H rfl fun a H => ?_
              refine wpList_nil ?_
              refine c_next ?_
              refine c_cond_t H rfl ?_
              refine wp_region_lit ?_
              refine wl_v _ (r_move (H.ev rfl)) ?_; refine kl H rfl fun a H => ?_
              refine wl_v _ (r_move (H.ev rfl)) ?_; refine kl H rfl fun a H => ?_
              refine wl_v _ (r_assign (H.ev rfl)) ?_; refine kl H rfl fun a H => ?_
              refine wl_v _ (r_assign (H.ev rfl)) ?_; refine kl H rfl fun a H => ?_
              refine wpList_nil ?_
              refine c_next ?_
              refine wp_seq ?_
              refine wp_region_lit ?_
              refine wl_v _ (r_move (H.ev rfl)) ?_; refine kl H rfl fun a H => ?_
              refine wl_v _ (r_move (H.ev rfl)) ?_; refine kl H rfl fun a H => ?_
              refine wl_v _ (r_move (H.ev rfl)) ?_; refine kl H rfl fun a H => ?_
              refine wl_call _ _ _ (find_any _ _ L who peer (TOwn.row hown) hn (mono_of hR.out.1 _)) (r_call3 cf32 (H.ev rfl) (H.ev rfl) (H.ev rfl)) ?_; rintro e w9 ⟨⟨k, f, rfl, hF⟩, hb⟩; refine ⟨_, rfl, ?_⟩; replace hown := own_ups hown hb; replace hall := hall.trans (hb.mono hall.size); clear hb; refine kl H rfl fun a H => ?_
              refine wl_v _ (r_move (H.ev rfl)) ?_; refine kl H rfl fun a H => ?_
              refine wl_v _ (r_extract (v := .int .i64 (k : Nat)) (H.ev rfl) rfl) ?_; refine kl H rfl fun a H => ?_
              refine wl_v _ (r_extract (v := .bool f) (H.ev rfl) rfl) ?_; refine kl H rfl fun a H => ?_
              refine wl_v _ (r_assign (H.ev rfl)) ?_; refine kl H rfl fun a H => ?_
              refine wl_v _ (r_assign (H.ev rfl)) ?_; refine kl H rfl fun a H => ?_
              refine wpList_nil ?_
              refine c_next ?_
              refine wp_seq ?_
              obtain ⟨s, hs⟩ : ∃ s, stF L who peer = s := ⟨_, rfl⟩
              obtain ⟨tq, hto⟩ : ∃ tq, (stepF s op).1 = tq := ⟨_, rfl⟩
              obtain ⟨er, her⟩ : ∃ er, (stepF s op).2 = er := ⟨_, rfl⟩
              obtain ⟨fu, hfu⟩ : ∃ fu, fullB L who = fu := ⟨_, rfl⟩
              have HS := Lib.hid hs
              have HTO := Lib.hid hto
              have HER := Lib.hid her
              have HFU := Lib.hid hfu
              have HG : Hid (¬ badP op who peer) := Lib.hid (by unfold badP; rw [HU1.out, HU2.out]; simp; omega)
              have HD := Lib.hid (do_eq HG.out HMI.out HS.out HTO.out HER.out HFU.out)
              have hsf := had_state hR.out hF HS.out
              clear hs hto her hfu
              refine wp_region_lit ?_
              refine wl_v _ (r_move (H.ev rfl)) ?_; refine kl H rfl fun a H => ?_
              refine wl_v _ (r_move (H.ev rfl)) ?_; refine kl H rfl fun a H => ?_
              refine wl_v _ (r_move (H.ev rfl)) ?_; refine kl H rfl fun a H => ?_
              refine wl_call _ _ _ (state_any _ _ L who peer (TOwn.row hown) hn hR.out.1) (r_call3 cf16 (H.ev rfl) (H.ev rfl) (H.ev rfl)) ?_; rintro e w9 ⟨rfl, hb⟩; refine ⟨_, rfl, ?_⟩; rw [HS.out]; replace hown := own_ups hown hb; replace hall := hall.trans (hb.mono hall.size); clear hb; refine kl H rfl fun a H => ?_
              refine wl_v _ (r_move (H.ev rfl)) ?_; refine kl H rfl fun a H => ?_
              refine wl_call _ _ _ (step_any s op _) (r_call2 cf24 (H.ev rfl) (H.ev rfl)) ?_; rintro e w9 ⟨rfl, hb⟩; refine ⟨_, rfl, ?_⟩; rw [HTO.out, HER.out]; replace hown := own_ups hown hb; replace hall := hall.trans (hb.mono hall.size); clear hb; refine kl H rfl fun a H => ?_
              refine wl_v _ (r_move (H.ev rfl)) ?_; refine kl H rfl fun a H => ?_
              refine wl_v _ (r_extract (v := .int .i64 tq) (H.ev rfl) rfl) ?_; refine kl H rfl fun a H => ?_
              refine wl_v _ (r_extract (v := .int .i64 er) (H.ev rfl) rfl) ?_; refine kl H rfl fun a H => ?_
              refine wl_v _ (r_assign (H.ev rfl)) ?_; refine kl H rfl fun a H => ?_
              refine wl_v _ (r_assign (H.ev rfl)) ?_; refine kl H rfl fun a H => ?_
              refine wpList_nil ?_
              refine c_next ?_
              refine wp_seq ?_
              refine wp_block ?_
              refine wp_seq ?_
              refine wp_region_lit ?_
              refine wl_v _ (r_move (H.ev rfl)) ?_; refine kl H rfl fun a H => ?_
              by_cases c11 : er ≠ 0
              · skip
                refine wl_v _ (r_ne Try.underlying28 (H.ev rfl) evc (dec_t (c11))) ?_; refine kl H rfl fun a H => ?_
                refine wl_v _ (r_assign (H.ev rfl)) ?_; refine kl H rfl fun a H => ?_
                refine wpList_nil ?_
                refine c_next ?_
                refine c_cond_t H rfl ?_
                refine wp_seq ?_
                refine wp_region_lit ?_
                refine wl_v _ (r_move (H.ev rfl)) ?_; refine kl H rfl fun a H => ?_
                refine wl_v _ (r_move (H.ev rfl)) ?_; refine kl H rfl fun a H => ?_
                refine wl_v _ (r_assign (H.ev rfl)) ?_; refine kl H rfl fun a H => ?_
                refine wl_v _ (r_assign (H.ev rfl)) ?_; refine kl H rfl fun a H => ?_
                refine wpList_nil ?_
                refine c_next ?_
                refine wp_ret ?_
                refine r_block ?_
                refine r_then ?_
                rw [if_pos (by omega)] at HD
                exact k_ret2 H rfl rfl rfl ⟨⟨_, by rw [HD.out], by rw [HD.out]; exact hown⟩, hall⟩
              · skip
                refine wl_v _ (r_ne Try.underlying28 (H.ev rfl) evc (dec_f (c11))) ?_; refine kl H rfl fun a H => ?_
                refine wl_v _ (r_assign (H.ev rfl)) ?_; refine kl H rfl fun a H => ?_
                refine wpList_nil ?_
                refine c_next ?_
                refine c_cond_f H rfl ?_
                refine wp_seq ?_
                have hkL := hF.1
                cases f
                · skip
                  cases fu
                  · skip
                    refine wp_region_lit ?_
                    refine wl_v _ (r_move (H.ev rfl)) ?_; refine kl H rfl fun a H => ?_
                    refine wl_v _ (r_not (H.ev rfl) rfl) ?_; refine kl H rfl fun a H => ?_
                    refine wl_v _ (r_move (H.ev rfl)) ?_; refine kl H rfl fun a H => ?_
                    refine op_unguard _ _ (kg_yes rfl H rfl rfl rfl) ?_; refine wl_v _ (r_move (H.ev rfl)) ?_; refine kl H rfl fun a H => ?_
                    refine op_unguard _ _ (kg_yes rfl H rfl rfl rfl) ?_; refine wl_v _ (r_move (H.ev rfl)) ?_; refine kl H rfl fun a H => ?_
                    refine op_unguard _ _ (kg_yes rfl H rfl rfl rfl) ?_; refine wl_call _ _ _ (full_any _ _ L who (TOwn.row hown) (by omega)) (r_call2 cf33 (H.ev rfl) (H.ev rfl)) ?_; rintro e w9 ⟨rfl, hb⟩; refine ⟨_, rfl, ?_⟩; rw [HFU.out]; replace hown := own_ups hown hb; replace hall := hall.trans (hb.mono hall.size); clear hb; refine kl H rfl fun a H => ?_
                    refine wl_v _ (r_pick_t (H.ev rfl) (H.ev rfl)) ?_; refine kl H rfl fun a H => ?_
                    refine wl_v _ (r_assign (H.ev rfl)) ?_; refine kl H rfl fun a H => ?_
                    refine wpList_nil ?_
                    refine c_next ?_
                    refine c_cond_f H rfl ?_
                    refine wp_seq ?_
                    refine wp_region_lit ?_
                    refine wl_v _ (r_move (H.ev rfl)) ?_; refine kl H rfl fun a H => ?_
                    refine wl_v _ (r_not (H.ev rfl) rfl) ?_; refine kl H rfl fun a H => ?_
                    refine wl_v _ (r_assign (H.ev rfl)) ?_; refine kl H rfl fun a H => ?_
                    refine wpList_nil ?_
                    refine c_next ?_
                    refine c_cond_t H rfl ?_
                    refine wp_region_lit ?_
                    refine wl_v _ (r_move (H.ev rfl)) ?_; refine kl H rfl fun a H => ?_
                    refine wl_v _ (r_move (H.ev rfl)) ?_; refine kl H rfl fun a H => ?_
                    refine wl_v _ (r_move (H.ev rfl)) ?_; refine kl H rfl fun a H => ?_
                    refine wl_v _ (r_move (H.ev rfl)) ?_; refine kl H rfl fun a H => ?_
                    refine wl_v _ (r_move (H.ev rfl)) ?_; refine kl H rfl fun a H => ?_
                    refine wl_v _ (r_build #[(0, .int .i64 who), (1, .int .i64 peer), (2, .int .i64 tq)] (.agg #[.int .i64 who, .int .i64 peer, .int .i64 tq]) (by simp [evc, H.ev (j := 86) rfl, H.ev (j := 87) rfl, H.ev (j := 88) rfl]) (fun w => by kernel_rfl)) ?_; refine kl H rfl fun a H => ?_
                    refine op_litv 22 1 #[(0, .agg #[.int .i64 who, .int .i64 peer, .int .i64 tq])] 37 #[.int .i64 who, .int .i64 peer, .int .i64 tq] (by simp [H.ev (j := 89) rfl]) (fun w => by kernel_rfl) fun w0 b1 hge hb k1 => ?_; have hne : v1.ownBlock ≠ some b1 := (fun e => by have := (hown.lt b1 e).2; omega); replace hown := own_ups hown hb; replace hall := hall.trans (hb.mono hall.size); clear hb; clear hge; refine kl H rfl fun a H => ?_
                    refine wl_call _ _ _ (insert_any _ w.heap.size v1 L k (who, peer, tq) b1 hown hall.size hF.1 k1 hne hn) (r_call3 cf34 (H.ev rfl) (H.ev rfl) (H.ev rfl)) ?_; rintro e w9 ⟨⟨v2, rfl, hown2⟩, hb⟩; refine ⟨_, rfl, ?_⟩; replace hall := hall.trans hb; clear hb hown; refine kl H rfl fun a H => ?_
                    refine wl_v _ (r_assign (H.ev rfl)) ?_; refine kl H rfl fun a H => ?_
                    refine wpList_nil ?_
                    refine n_block ?_
                    refine c_next ?_
                    refine wp_seq ?_
                    refine wp_region_lit ?_
                    refine wl_v _ (r_move (H.ev rfl)) ?_; refine kl H rfl fun a H => ?_
                    refine wl_v _ (r_assign (H.ev rfl)) ?_; refine kl H rfl fun a H => ?_
                    refine wl_v _ (r_assign evc) ?_; refine kl H rfl fun a H => ?_
                    refine wpList_nil ?_
                    refine c_next ?_
                    refine wp_ret ?_
                    rw [if_neg (by omega), if_neg (by rintro ⟨_, hq⟩; cases hq)] at HD
                    exact k_ret2 H rfl rfl rfl ⟨⟨_, by rw [HD.out], by rw [HD.out]; show TOwn _ _ _ (putF L who peer tq); rw [← ins_put hR.out.1 hF (step_none HTO.out HER.out (hsf.2 rfl) (by omega))]; exact hown2⟩, hall⟩
                  · skip
                    refine wp_region_lit ?_
                    refine wl_v _ (r_move (H.ev rfl)) ?_; refine kl H rfl fun a H => ?_
                    refine wl_v _ (r_not (H.ev rfl) rfl) ?_; refine kl H rfl fun a H => ?_
                    refine wl_v _ (r_move (H.ev rfl)) ?_; refine kl H rfl fun a H => ?_
                    refine op_unguard _ _ (kg_yes rfl H rfl rfl rfl) ?_; refine wl_v _ (r_move (H.ev rfl)) ?_; refine kl H rfl fun a H => ?_
                    refine op_unguard _ _ (kg_yes rfl H rfl rfl rfl) ?_; refine wl_v _ (r_move (H.ev rfl)) ?_; refine kl H rfl fun a H => ?_
                    refine op_unguard _ _ (kg_yes rfl H rfl rfl rfl) ?_; refine wl_call _ _ _ (full_any _ _ L who (TOwn.row hown) (by omega)) (r_call2 cf33 (H.ev rfl) (H.ev rfl)) ?_; rintro e w9 ⟨rfl, hb⟩; refine ⟨_, rfl, ?_⟩; rw [HFU.out]; replace hown := own_ups hown hb; replace hall := hall.trans (hb.mono hall.size); clear hb; refine kl H rfl fun a H => ?_
                    refine wl_v _ (r_pick_t (H.ev rfl) (H.ev rfl)) ?_; refine kl H rfl fun a H => ?_
                    refine wl_v _ (r_assign (H.ev rfl)) ?_; refine kl H rfl fun a H => ?_
                    refine wpList_nil ?_
                    refine c_next ?_
                    refine c_cond_t H rfl ?_
                    refine wp_seq ?_
                    refine wp_region_lit ?_
                    refine wl_v _ (r_move (H.ev rfl)) ?_; refine kl H rfl fun a H => ?_
                    refine wl_v _ (r_assign (H.ev rfl)) ?_; refine kl H rfl fun a H => ?_
                    refine wl_v _ (r_assign evc) ?_; refine kl H rfl fun a H => ?_
                    refine wpList_nil ?_
                    refine c_next ?_
                    refine wp_ret ?_
                    refine r_block ?_
                    refine r_then ?_
                    have hs0 := hsf.2 rfl
                    rw [if_neg (by omega), if_pos ⟨hs0, rfl⟩] at HD
                    exact k_ret2 H rfl rfl rfl ⟨⟨_, by rw [HD.out], by rw [HD.out]; exact hown⟩, hall⟩
                · skip
                  refine wp_region_lit ?_
                  refine wl_v _ (r_move (H.ev rfl)) ?_; refine kl H rfl fun a H => ?_
                  refine wl_v _ (r_not (H.ev rfl) rfl) ?_; refine kl H rfl fun a H => ?_
                  refine wl_v _ (r_move (H.ev rfl)) ?_; refine kl H rfl fun a H => ?_
                  refine wl_s (kg_no rfl H rfl rfl rfl) ?_; refine kl H rfl fun a H => ?_
                  refine wl_s (kg_no rfl H rfl rfl rfl) ?_; refine kl H rfl fun a H => ?_
                  refine wl_s (kg_no rfl H rfl rfl rfl) ?_; refine kl H rfl fun a H => ?_
                  refine wl_v _ (r_pick_f (H.ev rfl) evc) ?_; refine kl H rfl fun a H => ?_
                  refine wl_v _ (r_assign (H.ev rfl)) ?_; refine kl H rfl fun a H => ?_
                  refine wpList_nil ?_
                  refine c_next ?_
                  refine c_cond_f H rfl ?_
                  refine wp_seq ?_
                  refine wp_region_lit ?_
                  refine wl_v _ (r_move (H.ev rfl)) ?_; refine kl H rfl fun a H => ?_
                  refine wl_v _ (r_not (H.ev rfl) rfl) ?_; refine kl H rfl fun a H => ?_
                  refine wl_v _ (r_assign (H.ev rfl)) ?_; refine kl H rfl fun a H => ?_
                  refine wpList_nil ?_
                  refine c_next ?_
                  refine c_cond_f H rfl ?_
                  refine wp_seq ?_
                  refine wp_region_lit ?_
                  refine wl_v _ (r_move (H.ev rfl)) ?_; refine kl H rfl fun a H => ?_
                  by_cases c12 : tq = 0
                  · skip
                    refine wl_v _ (r_eq Try.underlying3 (H.ev rfl) evc (dec_t (c12))) ?_; refine kl H rfl fun a H => ?_
                    refine wl_v _ (r_assign (H.ev rfl)) ?_; refine kl H rfl fun a H => ?_
                    refine wpList_nil ?_
                    refine c_next ?_
                    refine c_cond_t H rfl ?_
                    refine wp_region_lit ?_
                    refine wl_v _ (r_move (H.ev rfl)) ?_; refine kl H rfl fun a H => ?_
                    refine wl_v _ (r_move (H.ev rfl)) ?_; refine kl H rfl fun a H => ?_
                    refine wl_v _ (r_move (H.ev rfl)) ?_; refine kl H rfl fun a H => ?_
                    refine wl_v _ (r_add (q := ((k + 1 : Nat) : Int)) Try.underlying3 (H.ev rfl) evc (by omega) (by omega)) ?_; refine kl H rfl fun a H => ?_
                    obtain ⟨y, hy, hy1⟩ := hF.2.2.2.1 rfl; have hkl := (List.getElem?_eq_some_iff.1 hy).1; refine wl_call _ _ _ (delete_any _ w.heap.size v1 L hown k hkl hn) (r_call3 cf35 (H.ev rfl) (H.ev rfl) (H.ev rfl)) ?_; rintro e w9 ⟨⟨v2, rfl, hown2⟩, hb⟩; refine ⟨_, rfl, ?_⟩; replace hall := hall.trans hb; clear hb hown; refine kl H rfl fun a H => ?_
                    refine wl_v _ (r_assign (H.ev rfl)) ?_; refine kl H rfl fun a H => ?_
                    refine wpList_nil ?_
                    refine n_block ?_
                    refine c_next ?_
                    refine wp_seq ?_
                    refine wp_region_lit ?_
                    refine wl_v _ (r_move (H.ev rfl)) ?_; refine kl H rfl fun a H => ?_
                    refine wl_v _ (r_assign (H.ev rfl)) ?_; refine kl H rfl fun a H => ?_
                    refine wl_v _ (r_assign evc) ?_; refine kl H rfl fun a H => ?_
                    refine wpList_nil ?_
                    refine c_next ?_
                    refine wp_ret ?_
                    obtain rfl : tq = 0 := by omega
                    rw [if_neg (by omega), if_neg (by rintro ⟨hq, _⟩; exact hsf.1 rfl hq)] at HD
                    exact k_ret2 H rfl rfl rfl ⟨⟨_, by rw [HD.out], by rw [HD.out]; show TOwn _ _ _ (putF L who peer 0); rw [← del_put hR.out.1 hF]; exact hown2⟩, hall⟩
                  · skip
                    refine wl_v _ (r_eq Try.underlying3 (H.ev rfl) evc (dec_f (c12))) ?_; refine kl H rfl fun a H => ?_
                    refine wl_v _ (r_assign (H.ev rfl)) ?_; refine kl H rfl fun a H => ?_
                    refine wpList_nil ?_
                    refine c_next ?_
                    refine c_cond_f H rfl ?_
                    obtain ⟨y, hy, hy1⟩ := hF.2.2.2.1 rfl
                    have hkl := (List.getElem?_eq_some_iff.1 hy).1
                    obtain ⟨g, cap, cur, rfl, hbg, hg, hkc, hset⟩ := own_set hown hy
                    clear hown
                    refine wp_region_lit ?_
                    refine wl_v _ (r_move (H.ev rfl)) ?_; refine kl H rfl fun a H => ?_
                    refine wl_v _ (r_move (H.ev rfl)) ?_; refine kl H rfl fun a H => ?_
                    refine wl_v _ (r_move (H.ev rfl)) ?_; refine kl H rfl fun a H => ?_
                    refine wl_v _ (r_idx (j := k) (q := 0 + k * 3) Try.underlying22 s37 (H.ev rfl) (H.ev rfl) (by omega) rfl) ?_; refine kl H rfl fun a H => ?_
                    refine wl_v _ (r_fld (q := 0 + k * 3 + 2) fld37_2 (H.ev rfl) rfl) ?_; refine kl H rfl fun a H => ?_
                    refine op_store1 3 (.tmp 66) (.tmp 64) g (0 + k * 3 + 2) 37 (.int .i64 tq) cur (H.ev rfl) (H.ev rfl) hg s3 (by simp only [Value.cells, List.size_toArray, List.length_cons, List.length_nil]; omega) (ints_one [tq]) fun w' hb ho kq => ?_; have hown2 := hset tq _ kq; replace hall := hall.trans (hb _ hbg); clear hb ho kq hg hset; refine kl0 H fun a H => ?_
                    refine wpList_nil ?_
                    refine n_block ?_
                    refine c_next ?_
                    refine wp_seq ?_
                    refine wp_region_lit ?_
                    refine wl_v _ (r_move (H.ev rfl)) ?_; refine kl H rfl fun a H => ?_
                    refine wl_v _ (r_assign (H.ev rfl)) ?_; refine kl H rfl fun a H => ?_
                    refine wl_v _ (r_assign evc) ?_; refine kl H rfl fun a H => ?_
                    refine wpList_nil ?_
                    refine c_next ?_
                    refine wp_ret ?_
                    rw [if_neg (by omega), if_neg (by rintro ⟨hq, _⟩; exact hsf.1 rfl hq)] at HD
                    exact k_ret2 H rfl rfl rfl ⟨⟨_, by rw [HD.out], by rw [HD.out]; show TOwn _ _ _ (putF L who peer tq); rw [← set_put hR.out.1 hF hy hy1 (by omega)]; exact hown2⟩, hall⟩
end Go.Proofs.Ytfehhenbdiageaa
