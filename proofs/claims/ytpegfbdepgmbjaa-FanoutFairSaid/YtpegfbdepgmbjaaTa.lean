/- Fanout: turn. -/
import Derived.Test.YtpegfbdepgmbjaaZ
namespace Go.Proofs.Ytpegfbdepgmbjaa
open Go.RowKit
set_option linter.unusedVariables false
set_option linter.unusedSimpArgs false

/-- whose turn it is -/
def turnF (L : List Int) (t : Int) : Int := ((if (L.filter fun x => decide (t < x)) = [] then L else L.filter fun x => decide (t < x)).min?).getD 0
def IsTurn (L : List Int) (t z : Int) : Prop := z ∈ L ∧ (∀ x ∈ L, t < x → t < z ∧ z ≤ x) ∧ ((∀ x ∈ L, x ≤ t) → ∀ x ∈ L, z ≤ x)
theorem min_spec {L : List Int} (h : L ≠ []) : (L.min?).getD 0 ∈ L ∧ ∀ x ∈ L, (L.min?).getD 0 ≤ x := by
  cases hm : L.min? with
  | none => exact absurd (List.min?_eq_none_iff.1 hm) h
  | some m =>
    have := List.min?_eq_some_iff.1 hm
    exact this
theorem turn_spec {L : List Int} {t : Int} (h : L ≠ []) : IsTurn L t (turnF L t) := by
  unfold turnF
  by_cases hu : (L.filter fun x => decide (t < x)) = []
  · rw [if_pos hu]
    obtain ⟨h1, h2⟩ := min_spec h
    refine ⟨h1, fun x hx hlt => ?_, fun _ => h2⟩
    have : x ∈ L.filter fun x => decide (t < x) := List.mem_filter.2 ⟨hx, by simpa using hlt⟩
    rw [hu] at this
    cases this
  · rw [if_neg hu]
    obtain ⟨h1, h2⟩ := min_spec hu
    obtain ⟨h3, h4⟩ := List.mem_filter.1 h1
    have h4 := of_decide_eq_true h4
    refine ⟨h3, fun x hx hlt => ⟨h4, h2 x (List.mem_filter.2 ⟨hx, by simpa using hlt⟩)⟩, fun hall => ?_⟩
    have := hall _ h3
    omega
theorem turn_uniq {L : List Int} {t z y : Int} (hz : IsTurn L t z) (hy : IsTurn L t y) : z = y := by
  obtain ⟨a1, a2, a3⟩ := hz
  obtain ⟨b1, b2, b3⟩ := hy
  by_cases h : ∀ x ∈ L, x ≤ t
  · have := a3 h y b1
    have := b3 h z a1
    omega
  · obtain ⟨x, hx, hlt⟩ : ∃ x ∈ L, t < x := by
      simpa using h
    have h1 := a2 x hx hlt
    have h2 := b2 x hx hlt
    have := a2 y b1 h2.1
    have := b2 z a1 h1.1
    omega
theorem turn_is {L : List Int} {t z : Int} (hz : IsTurn L t z) : turnF L t = z := turn_uniq (turn_spec (fun e => by have := hz.1; rw [e] at this; cases this)) hz
theorem sorted_of {L S : List Int} (h : L.mergeSort (fun x y => decide (x ≤ y)) = S) : S.Pairwise (· ≤ ·) := by
  subst h
  have := List.pairwise_mergeSort (le := fun x y : Int => decide (x ≤ y)) (fun a b c h1 h2 => by simp at *; omega) (fun a b => by simp; omega) L
  exact this.imp fun h => of_decide_eq_true h
theorem perm_of {L S : List Int} (h : L.mergeSort (fun x y => decide (x ≤ y)) = S) : S.Perm L := by
  subst h
  exact List.mergeSort_perm _ _
theorem sorted_count {S : List Int} {q : Int} (hs : S.Pairwise (· ≤ ·)) : ∀ {j : Nat} {y : Int}, S[j]? = some y → (y < q ↔ j < S.countP fun x => decide (x < q)) := by
  induction S with
  | nil => intro j y h; cases h
  | cons a S ih =>
    rw [List.pairwise_cons] at hs
    intro j y hy
    rw [List.countP_cons]
    by_cases ha : a < q
    · simp only [ha, decide_true, if_true]
      cases j with
      | zero => simp at hy; subst hy; simp [ha]
      | succ j =>
        rw [List.getElem?_cons_succ] at hy
        have := ih hs.2 hy
        omega
    · have h0 : S.countP (fun x => decide (x < q)) = 0 := by
        rw [List.countP_eq_zero]
        intro x hx
        have := hs.1 x hx
        simp; omega
      simp only [ha, decide_false, h0]
      have hay : a ≤ y := by
        cases j with
        | zero => simp at hy; omega
        | succ j =>
          rw [List.getElem?_cons_succ] at hy
          exact hs.1 y (List.mem_of_getElem? hy)
      simp; omega
theorem turn_up {L S : List Int} {t q z : Int} {k : Nat} (hp : S.Perm L) (hs : S.Pairwise (· ≤ ·)) (hz : S[k]? = some z) (hq : q = t + 1) (hk : (S.countP fun x => decide (x < q)) = k) : turnF L t = z := by
  have hzq : ¬ z < q := fun h => by have := (sorted_count hs hz).1 h; omega
  refine turn_is ⟨hp.mem_iff.1 (List.mem_of_getElem? hz), fun x hx hlt => ⟨by omega, ?_⟩, fun hall => ?_⟩
  · obtain ⟨j, hj, rfl⟩ := List.mem_iff_getElem.1 (hp.mem_iff.2 hx)
    have hjk : ¬ j < k := fun h => by
      rw [← hk] at h
      have := (sorted_count hs (List.getElem?_eq_getElem hj)).2 h
      omega
    obtain ⟨hk2, rfl⟩ := List.getElem?_eq_some_iff.1 hz
    by_cases e : k = j
    · subst e; exact Int.le_refl _
    · exact List.pairwise_iff_getElem.1 hs k j hk2 hj (by omega)
  · have := hall z (hp.mem_iff.1 (List.mem_of_getElem? hz))
    omega
theorem turn_min {L S : List Int} {t z : Int} (hp : S.Perm L) (hs : S.Pairwise (· ≤ ·)) (hz : S[0]? = some z) (h : t = 9223372036854775807 ∧ (∀ x ∈ L, x ≤ 9223372036854775807) ∨ ∃ q, q = t + 1 ∧ (S.countP fun x => decide (x < q)) = S.length) : turnF L t = z := by
  have hle : ∀ x ∈ L, x ≤ t := by
    rcases h with ⟨rfl, h⟩ | ⟨q, rfl, h⟩
    · exact h
    · intro x hx
      have := List.countP_eq_length.1 h x (hp.mem_iff.2 hx)
      have := of_decide_eq_true this
      omega
  refine turn_is ⟨hp.mem_iff.1 (List.mem_of_getElem? hz), fun x hx hlt => ?_, fun _ x hx => ?_⟩
  · have := hle x hx
    omega
  · obtain ⟨j, hj, rfl⟩ := List.mem_iff_getElem.1 (hp.mem_iff.2 hx)
    obtain ⟨h0, rfl⟩ := List.getElem?_eq_some_iff.1 hz
    by_cases e : 0 = j
    · subst e; exact Int.le_refl _
    · exact List.pairwise_iff_getElem.1 hs 0 j h0 hj (by omega)
theorem own_formI {w : World} {B : Nat} {v : Value} {L : List Int} (h : w.ownsRow B 3 1 v L.length (L.map (Value.int .i64))) (hp : 0 < L.length) : ∃ g cap, v = .slice (some ⟨g, 0, none⟩) L.length cap := by
  obtain ⟨_, ⟨_, h1⟩ | ⟨g, cap, cur, rfl, _⟩⟩ := h
  · omega
  · exact ⟨g, cap, rfl⟩
theorem own_sliceI {w : World} {B n : Nat} {v : Value} {xs : List Value} (h : w.ownsRow B 3 1 v n xs) : ∃ A c, v = .slice A n c := by
  obtain ⟨_, ⟨rfl, rfl⟩ | ⟨g, cap, cur, rfl, _⟩⟩ := h
  · exact ⟨none, 0, rfl⟩
  · exact ⟨_, cap, rfl⟩
theorem own_cellI {w : World} {B g n cap : Nat} {S : List Int} {j : Nat} {z : Int} (h : w.ownsRow B 3 1 (.slice (some ⟨g, 0, none⟩) n cap) n (S.map (Value.int .i64))) (hS : S.length = n) (hz : S[j]? = some z) : w.cell? ⟨g, 0 + j, none⟩ = some (.int .i64 z) := by
  obtain ⟨A, c, e, hh, _⟩ := own_slice h
  injection e with e1 e2 e3
  obtain ⟨b, o, he, hc⟩ := hh j (by have := (List.getElem?_eq_some_iff.1 hz).1; simp; omega)
  rw [← e1] at he
  injection he with he
  injection he with e4 e5
  subst e4 e5
  rw [hc]
  simp [hz]
theorem srow {w : World} {B g n cap : Nat} {S : List Int} (h : w.ownsRow B 3 1 (.slice (some ⟨g, 0, none⟩) n cap) n (S.map (Value.int .i64))) (hS : S.length = n) : IRow w (.slice (some ⟨g, 0, none⟩) n cap) S := by
  obtain ⟨A, c, e, hh, h2, h3⟩ := own_slice h
  injection e with e1 e2 e3
  subst e1 e3 hS
  exact ⟨_, _, rfl, h2, h3, (fun e => by cases e), hh⟩
theorem r_addw {P : Program} {a : Act} {w : World} {d : Option Tmp} {tt : TypeId} {ps : String} {af : Array Edge} {gd : Option (Nat × Bool)} {x y : Operand} {m n q : Int} {t t2 : TypeId} (ht : P.underlying t = some (.int .i64)) (hx : a.eval x = .int .i64 m) (hy : a.eval y = .int .i64 n) (hq : IntKind.i64.wrap (m + n) = q) : (execOp a.eval ⟨d, .binOp .add t x y t2, tt, ps, af, gd⟩).run P w = .ok (.value (.int .i64 q)) w := by
  subst hq
  unfold execOp
  simp only [hx, hy]
  go_simp
theorem turn_any (w : World) (base : Nat) (v : Value) (L : List Int) (t : Int) (hown : w.ownsRow base 3 1 v L.length (L.map (Value.int .i64))) (hbw : base ≤ w.heap.size) (hn : L.length ≤ 100000) (ht : -9223372036854775808 ≤ t ∧ t ≤ 9223372036854775807) (hx : ∀ x ∈ L, x ≤ 9223372036854775807) :
    Calls Try.prog 16 #[v, .int .i64 t] w fun e w' => e = .returned (.tuple #[.int .i64 (turnF L t), .bool (decide (L ≠ []))]) ∧ Below base w w' := by
  replace hx := Lib.hid hx
  have hall := Below.refl base w
  by_cases hne : L ≠ []
  · skip
    have hpos : 0 < L.length := List.length_pos_iff.2 hne
    obtain ⟨g, cap, hv⟩ := own_formI hown hpos
    subst hv
    obtain ⟨q, hq⟩ : ∃ q, IntKind.i64.wrap (t + 1) = q := ⟨_, rfl⟩
    have HQ := Lib.hid hq
    have hsl0 := hpos
    by_cases hmx : t = 9223372036854775807
    · skip
      clear hq
      refine K_enter 32 Try.func16 rfl rfl fun a H => ?_
      replace H := H.pick [0, 1]
      refine wp_seq ?_
      refine wp_region_lit ?_
      refine wl_v _ (r_assign evc) ?_; refine kl H rfl fun a H => ?_
      refine wl_v _ (r_assign evc) ?_; refine kl H rfl fun a H => ?_
      refine wpList_nil ?_
      refine c_next ?_
      refine wp_seq ?_
      refine wp_seq ?_
      refine wp_region_lit ?_
      refine wl_v _ (r_move (H.ev rfl)) ?_; refine kl H rfl fun a H => ?_
      refine wl_v _ (r_len Try.underlying25 (H.ev rfl)) ?_; refine kl H rfl fun a H => ?_
      refine wl_v _ (r_eq Try.underlying3 (H.ev rfl) evc (dec_f (by omega))) ?_; refine kl H rfl fun a H => ?_
      refine wpList_nil ?_
      refine c_next ?_
      refine c_cond_f H rfl ?_
      refine wp_skip ?_
      refine c_next ?_
      refine wp_seq ?_
      refine wp_region_lit ?_
      refine wl_v _ (r_move (H.ev rfl)) ?_; refine kl H rfl fun a H => ?_
      refine wl_call _ _ _ (sort_any _ _ L base hown hn) (r_call1 cf27 (H.ev rfl)) ?_; rintro e w9 ⟨rfl, hown9, hsz, hbel, hoth⟩; refine ⟨_, rfl, ?_⟩; have hb := hbel base (Nat.le_refl _) (Nat.le_trans hbw hall.size); replace hown := hown9; clear hown9 hsz hbel hoth; replace hall := hall.trans hb; clear hb; refine kl H rfl fun a H => ?_
      refine wpList_nil ?_
      refine c_next ?_
      refine wp_seq ?_
      obtain ⟨S, hS⟩ : ∃ S, L.mergeSort (fun x y => decide (x ≤ y)) = S := ⟨_, rfl⟩
      rw [hS] at hown
      have HS : Hid (S.length = L.length) := Lib.hid (by rw [← hS]; exact List.length_mergeSort _)
      have HSO := Lib.hid (sorted_of hS)
      have HSP := Lib.hid (perm_of hS)
      have hsl := HS.out
      clear hS
      refine wp_region_lit ?_
      refine wl_v _ (r_move (H.ev rfl)) ?_; refine kl H rfl fun a H => ?_
      refine wl_v _ (r_move (H.ev rfl)) ?_; refine kl H rfl fun a H => ?_
      refine wl_v (.int .i64 q) (r_addw Try.underlying3 (H.ev rfl) evc HQ.out) ?_; refine kl H rfl fun a H => ?_
      refine wl_call _ _ _ (bsearchI_any _ _ S q (srow hown HS.out) (by omega) (by intro e; rw [e] at hsl; simp at hsl; omega) HSO.out) (r_call2 cf28 (H.ev rfl) (H.ev rfl)) ?_; rintro e w9 ⟨⟨bb, rfl⟩, hb⟩; refine ⟨_, rfl, ?_⟩; replace hown := own_ups hown hb; replace hall := hall.trans (hb.mono (Nat.le_trans hbw hall.size)); clear hb; refine kl H rfl fun a H => ?_
      refine wl_v _ (r_move (H.ev rfl)) ?_; refine kl H rfl fun a H => ?_
      refine wl_v _ (r_extract (v := .int .i64 (S.countP (fun x => decide (x < q)) : Nat)) (H.ev rfl) rfl) ?_; refine kl H rfl fun a H => ?_
      refine wl_v _ (r_extract (v := .bool bb) (H.ev rfl) rfl) ?_; refine kl H rfl fun a H => ?_
      refine wl_v _ (r_assign (H.ev rfl)) ?_; refine kl H rfl fun a H => ?_
      refine wl_v _ (r_assign (H.ev rfl)) ?_; refine kl H rfl fun a H => ?_
      refine wpList_nil ?_
      refine c_next ?_
      refine wp_seq ?_
      refine wp_seq ?_
      obtain ⟨kk, hkk⟩ : ∃ kk, S.countP (fun x => decide (x < q)) = kk := ⟨_, rfl⟩
      have HKK := Lib.hid hkk
      have hkl : kk ≤ S.length := by rw [← hkk]; exact List.countP_le_length
      rw [hkk] at H
      clear hkk
      replace H := H.pick [0, 1, 6]
      refine wp_region_lit ?_
      refine wl_v _ (r_move (H.ev rfl)) ?_; refine kl H rfl fun a H => ?_
      refine wl_v _ (r_eq Try.underlying3 (H.ev rfl) evc (dec_t (hmx))) ?_; refine kl H rfl fun a H => ?_
      refine wl_v _ (r_move (H.ev rfl)) ?_; refine kl H rfl fun a H => ?_
      refine wl_s (kg_no rfl H rfl rfl rfl) ?_; refine kl H rfl fun a H => ?_
      refine wl_s (kg_no rfl H rfl rfl rfl) ?_; refine kl H rfl fun a H => ?_
      refine wl_s (kg_no rfl H rfl rfl rfl) ?_; refine kl H rfl fun a H => ?_
      refine wl_s (kg_no rfl H rfl rfl rfl) ?_; refine kl H rfl fun a H => ?_
      refine wl_v _ (r_pick_t (H.ev rfl) evc) ?_; refine kl H rfl fun a H => ?_
      refine wpList_nil ?_
      refine c_next ?_
      refine c_cond_t H rfl ?_
      refine wp_region_lit ?_
      refine wl_v _ (r_assign evc) ?_; refine kl H rfl fun a H => ?_
      refine wpList_nil ?_
      refine c_next ?_
      refine wp_seq ?_
      have hjl : 0 < S.length := by omega
      obtain ⟨z, hz⟩ : ∃ z, S[0]? = some z := ⟨_, List.getElem?_eq_getElem hjl⟩
      have hcz : (_ : World).cell? ⟨g, 0 + 0, none⟩ = some (.int .i64 z) := own_cellI hown HS.out hz
      refine wp_region_lit ?_
      refine wl_v _ (r_move (H.ev rfl)) ?_; refine kl H rfl fun a H => ?_
      refine wl_v _ (r_move (H.ev rfl)) ?_; refine kl H rfl fun a H => ?_
      refine wl_v _ (r_idx (j := 0) (q := 0 + 0) Try.underlying25 s3 (H.ev rfl) (H.ev rfl) (by omega) (by omega)) ?_; refine kl H rfl fun a H => ?_
      refine wl_v _ (r_ld Try.underlying3 rfl (H.ev rfl) (hcz)) ?_; refine kl H rfl fun a H => ?_
      refine wl_v _ (r_assign (H.ev rfl)) ?_; refine kl H rfl fun a H => ?_
      refine wl_v _ (r_assign evc) ?_; refine kl H rfl fun a H => ?_
      refine wpList_nil ?_
      refine c_next ?_
      refine wp_ret ?_
      exact k_ret2 H rfl rfl rfl ⟨by rw [turn_min HSP.out HSO.out hz (.inl ⟨hmx, hx.out⟩), dec_t (p := L ≠ []) hne], hall⟩
    · skip
      have HQ1 : Hid (q = t + 1) := Lib.hid (by rw [← hq]; exact IntWalk.i64_in _ (by omega))
      clear hq
      refine K_enter 32 Try.func16 rfl rfl fun a H => ?_
      replace H := H.pick [0, 1]
      refine wp_seq ?_
      refine wp_region_lit ?_
      refine wl_v _ (r_assign evc) ?_; refine kl H rfl fun a H => ?_
      refine wl_v _ (r_assign evc) ?_; refine kl H rfl fun a H => ?_
      refine wpList_nil ?_
      refine c_next ?_
      refine wp_seq ?_
      refine wp_seq ?_
      refine wp_region_lit ?_
      refine wl_v _ (r_move (H.ev rfl)) ?_; refine kl H rfl fun a H => ?_
      refine wl_v _ (r_len Try.underlying25 (H.ev rfl)) ?_; refine kl H rfl fun a H => ?_
      refine wl_v _ (r_eq Try.underlying3 (H.ev rfl) evc (dec_f (by omega))) ?_; refine kl H rfl fun a H => ?_
      refine wpList_nil ?_
      refine c_next ?_
      refine c_cond_f H rfl ?_
      refine wp_skip ?_
      refine c_next ?_
      refine wp_seq ?_
      refine wp_region_lit ?_
      refine wl_v _ (r_move (H.ev rfl)) ?_; refine kl H rfl fun a H => ?_
      refine wl_call _ _ _ (sort_any _ _ L base hown hn) (r_call1 cf27 (H.ev rfl)) ?_; rintro e w9 ⟨rfl, hown9, hsz, hbel, hoth⟩; refine ⟨_, rfl, ?_⟩; have hb := hbel base (Nat.le_refl _) (Nat.le_trans hbw hall.size); replace hown := hown9; clear hown9 hsz hbel hoth; replace hall := hall.trans hb; clear hb; refine kl H rfl fun a H => ?_
      refine wpList_nil ?_
      refine c_next ?_
      refine wp_seq ?_
      obtain ⟨S, hS⟩ : ∃ S, L.mergeSort (fun x y => decide (x ≤ y)) = S := ⟨_, rfl⟩
      rw [hS] at hown
      have HS : Hid (S.length = L.length) := Lib.hid (by rw [← hS]; exact List.length_mergeSort _)
      have HSO := Lib.hid (sorted_of hS)
      have HSP := Lib.hid (perm_of hS)
      have hsl := HS.out
      clear hS
      refine wp_region_lit ?_
      refine wl_v _ (r_move (H.ev rfl)) ?_; refine kl H rfl fun a H => ?_
      refine wl_v _ (r_move (H.ev rfl)) ?_; refine kl H rfl fun a H => ?_
      refine wl_v (.int .i64 q) (r_addw Try.underlying3 (H.ev rfl) evc HQ.out) ?_; refine kl H rfl fun a H => ?_
      refine wl_call _ _ _ (bsearchI_any _ _ S q (srow hown HS.out) (by omega) (by intro e; rw [e] at hsl; simp at hsl; omega) HSO.out) (r_call2 cf28 (H.ev rfl) (H.ev rfl)) ?_; rintro e w9 ⟨⟨bb, rfl⟩, hb⟩; refine ⟨_, rfl, ?_⟩; replace hown := own_ups hown hb; replace hall := hall.trans (hb.mono (Nat.le_trans hbw hall.size)); clear hb; refine kl H rfl fun a H => ?_
      refine wl_v _ (r_move (H.ev rfl)) ?_; refine kl H rfl fun a H => ?_
      refine wl_v _ (r_extract (v := .int .i64 (S.countP (fun x => decide (x < q)) : Nat)) (H.ev rfl) rfl) ?_; refine kl H rfl fun a H => ?_
      refine wl_v _ (r_extract (v := .bool bb) (H.ev rfl) rfl) ?_; refine kl H rfl fun a H => ?_
      refine wl_v _ (r_assign (H.ev rfl)) ?_; refine kl H rfl fun a H => ?_
      refine wl_v _ (r_assign (H.ev rfl)) ?_; refine kl H rfl fun a H => ?_
      refine wpList_nil ?_
      refine c_next ?_
      refine wp_seq ?_
      refine wp_seq ?_
      obtain ⟨kk, hkk⟩ : ∃ kk, S.countP (fun x => decide (x < q)) = kk := ⟨_, rfl⟩
      have HKK := Lib.hid hkk
      have hkl : kk ≤ S.length := by rw [← hkk]; exact List.countP_le_length
      rw [hkk] at H
      clear hkk
      replace H := H.pick [0, 1, 6]
      refine wp_region_lit ?_
      refine wl_v _ (r_move (H.ev rfl)) ?_; refine kl H rfl fun a H => ?_
      refine wl_v _ (r_eq Try.underlying3 (H.ev rfl) evc (dec_f (hmx))) ?_; refine kl H rfl fun a H => ?_
      refine wl_v _ (r_move (H.ev rfl)) ?_; refine kl H rfl fun a H => ?_
      refine op_unguard _ _ (kg_yes rfl H rfl rfl rfl) ?_; refine wl_v _ (r_move (H.ev rfl)) ?_; refine kl H rfl fun a H => ?_
      refine op_unguard _ _ (kg_yes rfl H rfl rfl rfl) ?_; refine wl_v _ (r_move (H.ev rfl)) ?_; refine kl H rfl fun a H => ?_
      refine op_unguard _ _ (kg_yes rfl H rfl rfl rfl) ?_; refine wl_v _ (r_len Try.underlying25 (H.ev rfl)) ?_; refine kl H rfl fun a H => ?_
      by_cases hcc0 : ((kk : Nat) : Int) = ((L.length : Nat) : Int)
      · skip
        refine op_unguard _ _ (kg_yes rfl H rfl rfl rfl) ?_; refine wl_v _ (r_eq Try.underlying3 (H.ev rfl) (H.ev rfl) (dec_t (hcc0))) ?_; refine kl H rfl fun a H => ?_
        refine wl_v _ (r_pick_f (H.ev rfl) (H.ev rfl)) ?_; refine kl H rfl fun a H => ?_
        refine wpList_nil ?_
        refine c_next ?_
        refine c_cond_t H rfl ?_
        refine wp_region_lit ?_
        refine wl_v _ (r_assign evc) ?_; refine kl H rfl fun a H => ?_
        refine wpList_nil ?_
        refine c_next ?_
        refine wp_seq ?_
        have hjl : 0 < S.length := by omega
        obtain ⟨z, hz⟩ : ∃ z, S[0]? = some z := ⟨_, List.getElem?_eq_getElem hjl⟩
        have hcz : (_ : World).cell? ⟨g, 0 + 0, none⟩ = some (.int .i64 z) := own_cellI hown HS.out hz
        refine wp_region_lit ?_
        refine wl_v _ (r_move (H.ev rfl)) ?_; refine kl H rfl fun a H => ?_
        refine wl_v _ (r_move (H.ev rfl)) ?_; refine kl H rfl fun a H => ?_
        refine wl_v _ (r_idx (j := 0) (q := 0 + 0) Try.underlying25 s3 (H.ev rfl) (H.ev rfl) (by omega) (by omega)) ?_; refine kl H rfl fun a H => ?_
        refine wl_v _ (r_ld Try.underlying3 rfl (H.ev rfl) (hcz)) ?_; refine kl H rfl fun a H => ?_
        refine wl_v _ (r_assign (H.ev rfl)) ?_; refine kl H rfl fun a H => ?_
        refine wl_v _ (r_assign evc) ?_; refine kl H rfl fun a H => ?_
        refine wpList_nil ?_
        refine c_next ?_
        refine wp_ret ?_
        exact k_ret2 H rfl rfl rfl ⟨by rw [turn_min HSP.out HSO.out hz (.inr ⟨q, HQ1.out, by rw [HKK.out]; omega⟩), dec_t (p := L ≠ []) hne], hall⟩
      · skip
        refine op_unguard _ _ (kg_yes rfl H rfl rfl rfl) ?_; refine wl_v _ (r_eq Try.underlying3 (H.ev rfl) (H.ev rfl) (dec_f (hcc0))) ?_; refine kl H rfl fun a H => ?_
        refine wl_v _ (r_pick_f (H.ev rfl) (H.ev rfl)) ?_; refine kl H rfl fun a H => ?_
        refine wpList_nil ?_
        refine c_next ?_
        refine c_cond_f H rfl ?_
        refine wp_skip ?_
        refine c_next ?_
        refine wp_seq ?_
        have hjl : kk < S.length := by omega
        obtain ⟨z, hz⟩ : ∃ z, S[kk]? = some z := ⟨_, List.getElem?_eq_getElem hjl⟩
        have hcz : (_ : World).cell? ⟨g, 0 + kk, none⟩ = some (.int .i64 z) := own_cellI hown HS.out hz
        refine wp_region_lit ?_
        refine wl_v _ (r_move (H.ev rfl)) ?_; refine kl H rfl fun a H => ?_
        refine wl_v _ (r_move (H.ev rfl)) ?_; refine kl H rfl fun a H => ?_
        refine wl_v _ (r_idx (j := kk) (q := 0 + kk) Try.underlying25 s3 (H.ev rfl) (H.ev rfl) (by omega) (by omega)) ?_; refine kl H rfl fun a H => ?_
        refine wl_v _ (r_ld Try.underlying3 rfl (H.ev rfl) (hcz)) ?_; refine kl H rfl fun a H => ?_
        refine wl_v _ (r_assign (H.ev rfl)) ?_; refine kl H rfl fun a H => ?_
        refine wl_v _ (r_assign evc) ?_; refine kl H rfl fun a H => ?_
        refine wpList_nil ?_
        refine c_next ?_
        refine wp_ret ?_
        exact k_ret2 H rfl rfl rfl ⟨by rw [turn_up HSP.out HSO.out hz HQ1.out HKK.out, dec_t (p := L ≠ []) hne], hall⟩
  · skip
    obtain rfl : L = [] := by cases L with | nil => rfl | cons a l => exact absurd (List.cons_ne_nil a l) hne
    obtain ⟨A, c, rfl⟩ := own_sliceI hown
    have hz0 : (([] : List Int).length : Int) = 0 := rfl
    refine K_enter 32 Try.func16 rfl rfl fun a H => ?_
    replace H := H.pick [0, 1]
    refine wp_seq ?_
    refine wp_region_lit ?_
    refine wl_v _ (r_assign evc) ?_; refine kl H rfl fun a H => ?_
    refine wl_v _ (r_assign evc) ?_; refine kl H rfl fun a H => ?_
    refine wpList_nil ?_
    refine c_next ?_
    refine wp_seq ?_
    refine wp_seq ?_
    refine wp_region_lit ?_
    refine wl_v _ (r_move (H.ev rfl)) ?_; refine kl H rfl fun a H => ?_
    refine wl_v _ (r_len Try.underlying25 (H.ev rfl)) ?_; refine kl H rfl fun a H => ?_
    refine wl_v _ (r_eq Try.underlying3 (H.ev rfl) evc (dec_t (rfl))) ?_; refine kl H rfl fun a H => ?_
    refine wpList_nil ?_
    refine c_next ?_
    refine c_cond_t H rfl ?_
    refine wp_seq ?_
    refine wp_region_lit ?_
    refine wl_v _ (r_assign evc) ?_; refine kl H rfl fun a H => ?_
    refine wl_v _ (r_assign evc) ?_; refine kl H rfl fun a H => ?_
    refine wpList_nil ?_
    refine c_next ?_
    refine wp_ret ?_
    refine r_then ?_
    exact k_ret2 H rfl rfl rfl ⟨rfl, hall⟩
end Go.Proofs.Ytpegfbdepgmbjaa
