/- Fanout: DeleteFunc. -/
import Derived.Test.YtpegfbdepgmbjaaX
namespace Go.Proofs.Ytpegfbdepgmbjaa
open Go.RowKit
set_option linter.unusedVariables false
set_option linter.unusedSimpArgs false

theorem setL_list : ∀ (vs : List Value) (C : Array Value) (o : Nat), o + vs.length ≤ C.size → (setL C o vs).toList = C.toList.take o ++ vs ++ C.toList.drop (o + vs.length)
  | [], C, o, _ => by simp [setL]
  | v :: vs, C, o, h => by
    simp only [List.length_cons] at h
    rw [setL, setL_list vs _ _ (by simp; omega), Array.toList_setIfInBounds]
    have e1 : (C.toList.set o v).take (o + 1) = C.toList.take o ++ [v] := by
      rw [List.take_set, List.take_succ_eq_append_getElem (by simp; omega), List.set_append_right _ _ (by simp; omega)]
      have : o - (C.toList.take o).length = 0 := by simp; omega
      rw [this]; rfl
    have e2 : (C.toList.set o v).drop (o + 1 + vs.length) = C.toList.drop (o + (vs.length + 1)) := by
      rw [List.drop_set_of_lt (by omega)]
      congr 1; omega
    rw [e1, e2]
    simp
theorem setL_size : ∀ (vs : List Value) (C : Array Value) (o : Nat), (setL C o vs).size = C.size
  | [], _, _ => rfl
  | v :: vs, C, o => by rw [setL, setL_size vs]; simp
section
variable {α : Type} {enc : α → List Int} {k : Nat} (hk : ∀ x, (enc x).length = k) {w w' : World} {base g n c i : Nat} {e : TypeId} {M : List α}
include hk
theorem own_range {y : α} {j : Nat} (h : ROwn enc e k w base (.slice (some ⟨g, 0, none⟩) n c) M) (hy : M[j]? = some y) : w.rangeAt g (0 + j * k) (IV (enc y)) := by
  obtain ⟨hj, rfl⟩ := List.getElem?_eq_some_iff.1 hy
  obtain ⟨A, c', e1, hh, _, _⟩ := own_slice h
  injection e1 with e1 e2 e3
  subst e1
  exact flat_range hk hh rfl hj
theorem own_seti (h : ROwn enc e k w base (.slice (some ⟨g, 0, none⟩) n c) M) (hi : i < M.length) : base ≤ g ∧ ∃ cur, Block w g e cur ∧ 0 + i * k + k ≤ cur.size ∧ ∀ y w', Block w' g e (setL cur (0 + i * k) (IV (enc y))) → ROwn enc e k w' base (.slice (some ⟨g, 0, none⟩) n c) (M.set i y) := by
  obtain ⟨h0, ⟨e1, h1⟩ | ⟨g', cap, cur, e1, hbg, hg, hc, hcm, hcs, htk⟩⟩ := h
  · cases e1
  · injection e1 with e1 e2 e3
    injection e1 with e1
    injection e1 with e1
    subst e1 e2 e3
    have hle : i * k + k ≤ cur.size := by
      rw [hcs]
      have : (i + 1) * k ≤ c * k := Nat.mul_le_mul_right _ (by omega)
      rw [Nat.add_mul] at this
      omega
    refine ⟨hbg, cur, hg, by omega, fun y w' hb => ?_⟩
    unfold ROwn
    rw [List.length_set]
    refine ⟨by rw [FV_len hk, List.length_set], .inr ⟨g, c, _, rfl, hbg, hb, hc, hcm, by rw [setL_size]; exact hcs, ?_⟩⟩
    have hl : (IV (enc y)).length = k := by simp [IV, hk]
    have hle2 : i * k + k ≤ M.length * k := by
      have : (i + 1) * k ≤ M.length * k := Nat.mul_le_mul_right _ (by omega)
      rw [Nat.add_mul] at this
      omega
    rw [setL_list _ _ _ (by rw [hl]; omega), hl, Nat.zero_add, List.set_eq_take_append_cons_drop, if_pos hi, FV_append, FV_take hk, ← htk, List.take_append, List.take_append]
    have a1 : (cur.toList.take (i * k)).length = i * k := by simp; omega
    rw [List.take_of_length_le (by rw [a1]; omega), List.take_take, Nat.min_eq_left (by omega)]
    simp only [List.length_append, a1, hl]
    have a2 : FV enc (y :: M.drop (i + 1)) = IV (enc y) ++ FV enc (M.drop (i + 1)) := by simp [FV, IV, flat_cons]
    rw [a2, FV_drop hk, ← htk, List.append_assoc, List.take_of_length_le (l := IV (enc y)) (by rw [hl]; omega)]
    congr 2
    rw [List.drop_take, Nat.add_mul, Nat.one_mul]
end

/-- what is left behind where those of p go -/
def keepF (p : Mk → Bool) (L : List Mk) : List Mk := L.filter fun y => !p y
theorem keep_skip {p : Mk → Bool} {L : List Mk} {q : Nat} {y : Mk} (hy : L[q]? = some y) (hp : p y = true) : keepF p (L.take (q + 1)) = keepF p (L.take q) := by
  obtain ⟨hq, e⟩ := List.getElem?_eq_some_iff.1 hy
  unfold keepF
  rw [List.take_succ_eq_append_getElem hq, e, List.filter_append]
  simp [hp]
theorem keep_take {p : Mk → Bool} {L : List Mk} {q : Nat} {y : Mk} (hy : L[q]? = some y) (hp : p y = false) : keepF p (L.take (q + 1)) = keepF p (L.take q) ++ [y] := by
  obtain ⟨hq, e⟩ := List.getElem?_eq_some_iff.1 hy
  unfold keepF
  rw [List.take_succ_eq_append_getElem hq, e, List.filter_append]
  simp [hp]
theorem keep_upto {p : Mk → Bool} {L : List Mk} : ∀ {k : Nat}, NoP L p k → k ≤ L.length → keepF p (L.take k) = L.take k
  | 0, _, _ => by simp [keepF]
  | k + 1, h, hk => by
    have hy : L[k]? = some L[k] := List.getElem?_eq_getElem (by omega)
    rw [keep_take hy (h k _ (by omega) hy), keep_upto (fun j y hj hy => h j y (by omega) hy) (by omega), List.take_succ_eq_append_getElem (by omega)]
theorem keep_all {p : Mk → Bool} {L : List Mk} (h : NoP L p L.length) : keepF p L = L := by
  have := keep_upto h (Nat.le_refl _)
  rwa [List.take_length] at this
theorem keep_first {p : Mk → Bool} {L : List Mk} {j : Nat} {y : Mk} (hy : L[j]? = some y) (hp : p y = true) (h : NoP L p j) : (keepF p (L.take (j + 1))).length = j ∧ L.take j = keepF p (L.take (j + 1)) := by
  have hj := (List.getElem?_eq_some_iff.1 hy).1
  rw [keep_skip hy hp, keep_upto h (by omega)]
  exact ⟨by simp; omega, rfl⟩
theorem at_drop {M L : List Mk} {q : Nat} {y : Mk} (h : M.drop q = L.drop q) (hy : L[q]? = some y) : M[q]? = some y := by
  have : (M.drop q)[0]? = (L.drop q)[0]? := by rw [h]
  rw [List.getElem?_drop, List.getElem?_drop] at this
  simpa [hy] using this
theorem drop_next {M L : List Mk} {q : Nat} (h : M.drop q = L.drop q) : M.drop (q + 1) = L.drop (q + 1) := by
  rw [← List.drop_drop, ← List.drop_drop, h]
theorem take_set {M : List Mk} {i : Nat} {y : Mk} (h : i < M.length) : (M.set i y).take (i + 1) = M.take i ++ [y] := by
  rw [List.take_succ_eq_append_getElem (by rw [List.length_set]; exact h), List.getElem_set_self, List.take_set_of_le (Nat.le_refl _)]
theorem own_parts {w : World} {base g n cap : Nat} {M : List Mk} (h : MOwn w base (.slice (some ⟨g, 0, none⟩) n cap) M) : base ≤ g ∧ ∃ cur, Block w g 29 cur ∧ n ≤ cap ∧ cap ≤ maxLen ∧ cur.size = cap * 2 ∧ cur.toList.take (n * 2) = FV encM M := by
  obtain ⟨_, ⟨e, _⟩ | ⟨g', cap', cur, e, hb, hg, h1, h2, h3, h4⟩⟩ := h
  · cases e
  · injection e with e1 e2 e3
    injection e1 with e1
    injection e1 with e1
    subst e1 e2 e3
    exact ⟨hb, cur, hg, h1, h2, h3, h4⟩
theorem zcs_size (n : Nat) : (Builtin.zeroCells (Value.agg #[.int .i64 0, .int .i64 0]).cells n).size = n * 2 := by simp [Builtin.zeroCells, Value.cells]
theorem zcs_one (n : Nat) (u : Value) (hu : u ∈ Builtin.zeroCells (Value.agg #[.int .i64 0, .int .i64 0]).cells n) : u.oneCell' = true := by
  simp only [Builtin.zeroCells, Value.cells, Array.mem_map] at hu
  obtain ⟨i, _, rfl⟩ := hu
  have h : i % 2 = 0 ∨ i % 2 = 1 := by omega
  rcases h with h | h <;> simp [h, Value.oneCell']
theorem own_cut {w : World} {base g n cap i : Nat} {M N : List Mk} {cur : Array Value} {zs : List Value} (hb : base ≤ g) (hg : Block w g 29 (spl cur (0 + i * 2) zs)) (hn : n ≤ cap) (hcm : cap ≤ maxLen) (hcs : cur.size = cap * 2) (hct : cur.toList.take (n * 2) = FV encM M) (hi : i ≤ n) (hN : M.take i = N) (hfit : 0 + i * 2 + zs.length ≤ cur.size) (hM : i ≤ M.length) : MOwn w base (.slice (some ⟨g, 0, none⟩) i cap) N := by
  subst hN
  have hl : (M.take i).length = i := by simp; omega
  unfold MOwn ROwn
  rw [hl]
  refine ⟨by rw [FV_len encM_len, hl], .inr ⟨g, cap, _, rfl, hb, hg, by omega, hcm, by rw [spl_size hfit]; exact hcs, ?_⟩⟩
  rw [spl_take (by omega) (by omega), take_le hct (by omega), ← FV_take encM_len]
def Df30 (W : World) (base g cap : Nat) (L : List Mk) (p : Mk → Bool) (f : FuncId) (caps : Array Value) (a : Act) (w : World) : Prop :=
  ∃ (q i : Nat) (M : List Mk), Kn a 42 [(0, .slice (some ⟨g, 0, none⟩) L.length cap), (1, .func (.func f) #[] caps), (5, .int .i64 (i : Nat)), (6, .int .i64 (q : Nat))] ∧ q ≤ L.length ∧ M.length = L.length ∧ (keepF p (L.take q)).length = i ∧ i < q ∧ M.take i = keepF p (L.take q) ∧ M.drop q = L.drop q ∧ MOwn w base (.slice (some ⟨g, 0, none⟩) L.length cap) M ∧ Below base W w
set_option maxHeartbeats 4000000 in
theorem delf_any (W0 w : World) (base : Nat) (v : Value) (L : List Mk) (p : Mk → Bool) (f : FuncId) (caps : Array Value) (hf : entF Try.prog f) (hp : PF f caps p W0) (hW : Below W0.heap.size W0 w) (hb0 : W0.heap.size ≤ base) (hbw : base ≤ w.heap.size) (hown : MOwn w base v L) (hn : L.length ≤ 100000) :
    Calls Try.prog 30 #[v, .func (.func f) #[] caps] w fun e w' => (∃ A c, e = .returned (.slice A (keepF p L).length c) ∧ MOwn w' base (.slice A (keepF p L).length c) (keepF p L)) ∧ Below base w w' := by
  replace hW := Lib.hid hW
  have hall := Below.refl base w
  have hown0 := hown
  obtain ⟨_, ⟨rfl, h0⟩ | ⟨g, cap, cur, rfl, _⟩⟩ := hown
  · skip
    obtain rfl : L = [] := List.eq_nil_of_length_eq_zero h0
    have hown := hown0
    clear hown0
    refine K_enter 42 Try.func30 rfl rfl fun a H => ?_
    replace H := H.pick [0, 1]
    refine wp_seq ?_
    refine wp_region_lit ?_
    refine wl_v _ (r_assign evc) ?_; refine kl H rfl fun a H => ?_
    refine wpList_nil ?_
    refine c_next ?_
    refine wp_seq ?_
    refine wp_region_lit ?_
    refine wl_v _ (r_move (H.ev rfl)) ?_; refine kl H rfl fun a H => ?_
    refine wl_v _ (r_move (H.ev rfl)) ?_; refine kl H rfl fun a H => ?_
    refine wl_call _ _ _ (indexf_any W0 _ _ _ p f caps hf hp (hW.out.trans (hall.mono hb0)) (MOwn.row hown) (by omega)) (r_call2 cf17 (H.ev rfl) (H.ev rfl)) ?_; rintro e w9 ⟨⟨k, rfl, hfst⟩, hb⟩; refine ⟨_, rfl, ?_⟩; replace hown := ROwn.up hown hb; replace hall := hall.trans (hb.mono (Nat.le_trans hbw hall.size)); clear hb; refine kl H rfl fun a H => ?_
    refine wl_v _ (r_assign (H.ev rfl)) ?_; refine kl H rfl fun a H => ?_
    refine wpList_nil ?_
    refine c_next ?_
    refine wp_seq ?_
    refine wp_seq ?_
    rcases hfst with ⟨j, y, rfl, hy, hpy, hno⟩ | ⟨rfl, hno⟩
    · skip
      cases hy
    · skip
      refine wp_region_lit ?_
      refine wl_v _ (r_move (H.ev rfl)) ?_; refine kl H rfl fun a H => ?_
      refine wl_v _ (r_eq Try.underlying3 (H.ev rfl) evc (dec_t (by omega))) ?_; refine kl H rfl fun a H => ?_
      refine wpList_nil ?_
      refine c_next ?_
      refine c_cond_t H rfl ?_
      refine wp_seq ?_
      refine wp_region_lit ?_
      refine wl_v _ (r_move (H.ev rfl)) ?_; refine kl H rfl fun a H => ?_
      refine wl_v _ (r_assign (H.ev rfl)) ?_; refine kl H rfl fun a H => ?_
      refine wpList_nil ?_
      refine c_next ?_
      refine wp_ret ?_
      refine r_then ?_
      exact k_ret1 H rfl rfl ⟨⟨none, 0, by rw [keep_all hno]; rfl, by rw [keep_all hno]; exact hown⟩, hall⟩
  · skip
    have hown := hown0
    clear hown0
    refine K_enter 42 Try.func30 rfl rfl fun a H => ?_
    replace H := H.pick [0, 1]
    refine wp_seq ?_
    refine wp_region_lit ?_
    refine wl_v _ (r_assign evc) ?_; refine kl H rfl fun a H => ?_
    refine wpList_nil ?_
    refine c_next ?_
    refine wp_seq ?_
    refine wp_region_lit ?_
    refine wl_v _ (r_move (H.ev rfl)) ?_; refine kl H rfl fun a H => ?_
    refine wl_v _ (r_move (H.ev rfl)) ?_; refine kl H rfl fun a H => ?_
    refine wl_call _ _ _ (indexf_any W0 _ _ _ p f caps hf hp (hW.out.trans (hall.mono hb0)) (MOwn.row hown) (by omega)) (r_call2 cf17 (H.ev rfl) (H.ev rfl)) ?_; rintro e w9 ⟨⟨k, rfl, hfst⟩, hb⟩; refine ⟨_, rfl, ?_⟩; replace hown := ROwn.up hown hb; replace hall := hall.trans (hb.mono (Nat.le_trans hbw hall.size)); clear hb; refine kl H rfl fun a H => ?_
    refine wl_v _ (r_assign (H.ev rfl)) ?_; refine kl H rfl fun a H => ?_
    refine wpList_nil ?_
    refine c_next ?_
    refine wp_seq ?_
    refine wp_seq ?_
    rcases hfst with ⟨j, y, rfl, hy, hpy, hno⟩ | ⟨rfl, hno⟩
    · skip
      have hjl := (List.getElem?_eq_some_iff.1 hy).1
      have HI := Lib.hid (keep_first hy hpy hno)
      clear hy hpy hno
      refine wp_region_lit ?_
      refine wl_v _ (r_move (H.ev rfl)) ?_; refine kl H rfl fun a H => ?_
      refine wl_v _ (r_eq Try.underlying3 (H.ev rfl) evc (dec_f (by omega))) ?_; refine kl H rfl fun a H => ?_
      refine wpList_nil ?_
      refine c_next ?_
      refine c_cond_f H rfl ?_
      refine wp_skip ?_
      refine c_next ?_
      refine wp_seq ?_
      refine wp_seq ?_
      refine wp_region_lit ?_
      refine wl_v _ (r_move (H.ev rfl)) ?_; refine kl H rfl fun a H => ?_
      refine wl_v _ (r_add (q := ((j + 1 : Nat) : Int)) Try.underlying3 (H.ev rfl) evc (by omega) (by omega)) ?_; refine kl H rfl fun a H => ?_
      refine wl_v _ (r_assign (H.ev rfl)) ?_; refine kl H rfl fun a H => ?_
      refine wpList_nil ?_
      refine c_next ?_
      refine wp_block ?_
      refine wp_loop (Df30 w base g cap L p f caps) (fun a _ => L.length - (intOf (a.eval (.tmp 6))).toNat) ⟨j + 1, j, L, H.pick [0, 1, 5, 6], by omega, rfl, HI.out.1, by omega, HI.out.2, rfl, hown, hall⟩ ?_
      clear H hall hown HI hjl
      rintro a w' ⟨q, i, M, H, hq, hM, hi, hiq, htk, hdr, hown, hall⟩
      have H0 := H
      replace htk := Lib.hid htk
      replace hdr := Lib.hid hdr
      replace hi := Lib.hid hi
      by_cases hlt : q < L.length
      · skip
        have hyL : L[q]? = some L[q] := List.getElem?_eq_getElem hlt
        have hyM := at_drop hdr.out hyL
        have HYL := Lib.hid hyL
        have HYM := Lib.hid hyM
        generalize L[q] = y at *
        clear hyL hyM
        have hbw2 := Nat.le_trans hbw hall.size
        cases he : p y
        · skip
          refine wp_seq ?_
          refine wp_seq ?_
          refine wp_region_lit ?_
          refine wl_v _ (r_move (H.ev rfl)) ?_; refine kl H rfl fun a H => ?_
          refine wl_v _ (r_move (H.ev rfl)) ?_; refine kl H rfl fun a H => ?_
          refine wl_v _ (r_len Try.underlying22 (H.ev rfl)) ?_; refine kl H rfl fun a H => ?_
          refine wl_v _ (r_lt Try.underlying3 (H.ev rfl) (H.ev rfl) (dec_t (by omega))) ?_; refine kl H rfl fun a H => ?_
          refine wpList_nil ?_
          refine c_next ?_
          refine c_cond_t H rfl ?_
          refine wp_skip ?_
          refine c_next ?_
          refine wp_seq ?_
          refine wp_block ?_
          refine wp_seq ?_
          refine wp_region_lit ?_
          refine wl_v _ (r_move (H.ev rfl)) ?_; refine kl H rfl fun a H => ?_
          refine wl_v _ (r_move (H.ev rfl)) ?_; refine kl H rfl fun a H => ?_
          refine wl_v _ (r_idx (j := q) (q := 0 + q * 2) Try.underlying22 s29 (H.ev rfl) (H.ev rfl) (by omega) rfl) ?_; refine kl H rfl fun a H => ?_
          refine wl_v _ (r_row (cs := [.int .i64 y.1, .int .i64 y.2]) (H.ev rfl) (own_range encM_len hown HYM.out) (by kernel_rfl) s29 rfl) ?_; refine kl H rfl fun a H => ?_
          refine op_new 29 7 (.tmp 25) #[.int .i64 y.1, .int .i64 y.2] _ z29 s29 rfl (ints_one [y.1, y.2]) (fun p => (H.put 7 p rfl).ev rfl) (fun p => (H.put 7 p rfl).ev rfl) fun w1 b1 hge hb k1 => ?_; have g1 := Nat.le_trans hall.size hge; replace hown := ROwn.up hown hb; replace hall := hall.trans (hb.mono hbw2); replace hbw2 := Nat.le_trans hbw2 hb.size; clear hb; clear hge; refine kl H rfl fun a H => ?_
          refine wpList_nil ?_
          refine c_next ?_
          refine wp_seq ?_
          refine wp_region_lit ?_
          refine wl_v _ (r_move (H.ev rfl)) ?_; refine kl H rfl fun a H => ?_
          refine wl_v _ (r_row (cs := [.int .i64 y.1, .int .i64 y.2]) (H.ev rfl) (block_range k1) (by kernel_rfl) s29 rfl) ?_; refine kl H rfl fun a H => ?_
          refine wl_call f _ _ (hp y _ (hW.out.trans (hall.mono hb0))) (r_callC hf (H.ev rfl) (H.ev rfl)) ?_; rintro e w9 ⟨rfl, hb⟩; refine ⟨_, rfl, ?_⟩; rw [he]; replace hown := ROwn.up hown hb; replace k1 := Block.ups k1 hb; replace hall := hall.trans (hb.mono hbw2); replace hbw2 := Nat.le_trans hbw2 hb.size; clear hb; refine kl H rfl fun a H => ?_
          refine wl_v _ (r_not (H.ev rfl) rfl) ?_; refine kl H rfl fun a H => ?_
          refine wpList_nil ?_
          refine c_next ?_
          refine c_cond_t H rfl ?_
          refine wp_seq ?_
          refine wp_region_lit ?_
          refine wl_v _ (r_move (H.ev rfl)) ?_; refine kl H rfl fun a H => ?_
          refine wl_v _ (r_move (H.ev rfl)) ?_; refine kl H rfl fun a H => ?_
          refine wl_v _ (r_row (cs := [.int .i64 y.1, .int .i64 y.2]) (H.ev rfl) (block_range k1) (by kernel_rfl) s29 rfl) ?_; refine kl H rfl fun a H => ?_
          refine wl_v _ (r_idx (j := i) (q := 0 + i * 2) Try.underlying22 s29 (H.ev rfl) (H.ev rfl) (by omega) rfl) ?_; refine kl H rfl fun a H => ?_
          obtain ⟨hbg, cur, hg, hfit, hset⟩ := own_seti (i := i) encM_len hown (by omega); refine op_store1 29 (.tmp 33) (.tmp 32) g (0 + i * 2) 29 (.agg #[.int .i64 y.1, .int .i64 y.2]) cur (H.ev rfl) (H.ev rfl) hg s29 (by simp only [Value.cells, List.size_toArray, List.length_cons, List.length_nil]; omega) (ints_one [y.1, y.2]) fun w7 hb7 ho7 kq => ?_; replace hown := hset y _ kq; replace hall := hall.trans (hb7 _ hbg); clear hb7 ho7 kq hg hset; refine kl0 H fun a H => ?_
          refine wpList_nil ?_
          refine c_next ?_
          refine wp_region_lit ?_
          refine wl_v _ (r_move (H.ev rfl)) ?_; refine kl H rfl fun a H => ?_
          refine wl_v _ (r_add (q := ((i + 1 : Nat) : Int)) Try.underlying3 (H.ev rfl) evc (by omega) (by omega)) ?_; refine kl H rfl fun a H => ?_
          refine wl_v _ (r_assign (H.ev rfl)) ?_; refine kl H rfl fun a H => ?_
          refine wpList_nil ?_
          refine n_block ?_
          refine c_next ?_
          refine wp_region_lit ?_
          refine wl_v _ (r_move (H.ev rfl)) ?_; refine kl H rfl fun a H => ?_
          refine wl_v _ (r_add (q := ((q + 1 : Nat) : Int)) Try.underlying3 (H.ev rfl) evc (by omega) (by omega)) ?_; refine kl H rfl fun a H => ?_
          refine wl_v _ (r_assign (H.ev rfl)) ?_; refine kl H rfl fun a H => ?_
          refine wpList_nil ?_
          refine n_then ⟨⟨q + 1, i + 1, M.set i y, H.pick [0, 1, 5, 6], by omega, by rw [List.length_set]; exact hM, by rw [keep_take HYL.out he, List.length_append, hi.out]; rfl, by omega, by rw [keep_take HYL.out he, ← htk.out]; exact take_set (by omega), by rw [List.drop_set_of_lt (by omega)]; exact drop_next hdr.out, hown, hall⟩, ?_⟩
          rw [H.ev (j := 6) rfl, H0.ev (j := 6) rfl]
          simp only [intOf]
          omega
        · skip
          refine wp_seq ?_
          refine wp_seq ?_
          refine wp_region_lit ?_
          refine wl_v _ (r_move (H.ev rfl)) ?_; refine kl H rfl fun a H => ?_
          refine wl_v _ (r_move (H.ev rfl)) ?_; refine kl H rfl fun a H => ?_
          refine wl_v _ (r_len Try.underlying22 (H.ev rfl)) ?_; refine kl H rfl fun a H => ?_
          refine wl_v _ (r_lt Try.underlying3 (H.ev rfl) (H.ev rfl) (dec_t (by omega))) ?_; refine kl H rfl fun a H => ?_
          refine wpList_nil ?_
          refine c_next ?_
          refine c_cond_t H rfl ?_
          refine wp_skip ?_
          refine c_next ?_
          refine wp_seq ?_
          refine wp_block ?_
          refine wp_seq ?_
          refine wp_region_lit ?_
          refine wl_v _ (r_move (H.ev rfl)) ?_; refine kl H rfl fun a H => ?_
          refine wl_v _ (r_move (H.ev rfl)) ?_; refine kl H rfl fun a H => ?_
          refine wl_v _ (r_idx (j := q) (q := 0 + q * 2) Try.underlying22 s29 (H.ev rfl) (H.ev rfl) (by omega) rfl) ?_; refine kl H rfl fun a H => ?_
          refine wl_v _ (r_row (cs := [.int .i64 y.1, .int .i64 y.2]) (H.ev rfl) (own_range encM_len hown HYM.out) (by kernel_rfl) s29 rfl) ?_; refine kl H rfl fun a H => ?_
          refine op_new 29 7 (.tmp 25) #[.int .i64 y.1, .int .i64 y.2] _ z29 s29 rfl (ints_one [y.1, y.2]) (fun p => (H.put 7 p rfl).ev rfl) (fun p => (H.put 7 p rfl).ev rfl) fun w1 b1 hge hb k1 => ?_; have g1 := Nat.le_trans hall.size hge; replace hown := ROwn.up hown hb; replace hall := hall.trans (hb.mono hbw2); replace hbw2 := Nat.le_trans hbw2 hb.size; clear hb; clear hge; refine kl H rfl fun a H => ?_
          refine wpList_nil ?_
          refine c_next ?_
          refine wp_seq ?_
          refine wp_region_lit ?_
          refine wl_v _ (r_move (H.ev rfl)) ?_; refine kl H rfl fun a H => ?_
          refine wl_v _ (r_row (cs := [.int .i64 y.1, .int .i64 y.2]) (H.ev rfl) (block_range k1) (by kernel_rfl) s29 rfl) ?_; refine kl H rfl fun a H => ?_
          refine wl_call f _ _ (hp y _ (hW.out.trans (hall.mono hb0))) (r_callC hf (H.ev rfl) (H.ev rfl)) ?_; rintro e w9 ⟨rfl, hb⟩; refine ⟨_, rfl, ?_⟩; rw [he]; replace hown := ROwn.up hown hb; replace k1 := Block.ups k1 hb; replace hall := hall.trans (hb.mono hbw2); replace hbw2 := Nat.le_trans hbw2 hb.size; clear hb; refine kl H rfl fun a H => ?_
          refine wl_v _ (r_not (H.ev rfl) rfl) ?_; refine kl H rfl fun a H => ?_
          refine wpList_nil ?_
          refine c_next ?_
          refine c_cond_f H rfl ?_
          refine wp_skip ?_
          refine n_block ?_
          refine c_next ?_
          refine wp_region_lit ?_
          refine wl_v _ (r_move (H.ev rfl)) ?_; refine kl H rfl fun a H => ?_
          refine wl_v _ (r_add (q := ((q + 1 : Nat) : Int)) Try.underlying3 (H.ev rfl) evc (by omega) (by omega)) ?_; refine kl H rfl fun a H => ?_
          refine wl_v _ (r_assign (H.ev rfl)) ?_; refine kl H rfl fun a H => ?_
          refine wpList_nil ?_
          refine n_then ⟨⟨q + 1, i, M, H.pick [0, 1, 5, 6], by omega, hM, by rw [keep_skip HYL.out he]; exact hi.out, by omega, by rw [keep_skip HYL.out he]; exact htk.out, drop_next hdr.out, hown, hall⟩, ?_⟩
          rw [H.ev (j := 6) rfl, H0.ev (j := 6) rfl]
          simp only [intOf]
          omega
      · skip
        obtain rfl : q = L.length := by omega
        have hii : i = (keepF p L).length := by rw [← hi.out, List.take_length]
        obtain ⟨hbg, cur, hg, hcap, hcm, hcs, hct⟩ := own_parts hown
        have HC := Lib.hid hct
        have HCS := Lib.hid hcs
        have hcs2 : L.length * 2 ≤ cur.size := by rw [hcs]; omega
        clear hct hcs
        refine wp_seq ?_
        refine wp_seq ?_
        refine wp_region_lit ?_
        refine wl_v _ (r_move (H.ev rfl)) ?_; refine kl H rfl fun a H => ?_
        refine wl_v _ (r_move (H.ev rfl)) ?_; refine kl H rfl fun a H => ?_
        refine wl_v _ (r_len Try.underlying22 (H.ev rfl)) ?_; refine kl H rfl fun a H => ?_
        refine wl_v _ (r_lt Try.underlying3 (H.ev rfl) (H.ev rfl) (dec_f (by omega))) ?_; refine kl H rfl fun a H => ?_
        refine wpList_nil ?_
        refine c_next ?_
        refine c_cond_f H rfl ?_
        refine wp_exit ?_
        refine e_then ?_
        refine e_then ?_
        refine e_here ?_
        refine c_next ?_
        refine wp_seq ?_
        refine wp_region_lit ?_
        refine wl_v _ (r_move (H.ev rfl)) ?_; refine kl H rfl fun a H => ?_
        refine wl_v _ (r_move (H.ev rfl)) ?_; refine kl H rfl fun a H => ?_
        refine wl_v (.slice (some ⟨g, 0 + i * 2, none⟩) (L.length - i) (cap - i)) (run_op_slice Try.underlying22 (.slice (some ⟨g, 0, none⟩) L.length cap) (some (.int .i64 (i : Nat))) none none (H.ev rfl) (congrArg some (H.ev rfl)) rfl rfl (slice_any i L.length Try.underlying22 s29 _ _ (.inr rfl) (.inl ⟨rfl, rfl⟩) (by omega) (by omega) (slAt_some (by omega)) rfl rfl)) ?_; refine kl H rfl fun a H => ?_
        refine wl_row (.tuple #[]) g 29 _ _ hg (run_b1 (.slice (some ⟨g, 0 + i * 2, none⟩) (L.length - i) (cap - i)) (H.ev rfl) (b_clear (run_clear_in _ _ _ 29 (.agg #[.int .i64 0, .int .i64 0]) Try.underlying22 zero29 g (0 + i * 2) (L.length - i) _ _ hg (zcs_one _) (by rw [zcs_size]; omega) (by omega)))) fun w6 hg6 hb6 _ => ?_; replace hall := hall.trans (hb6 _ hbg); clear hb6 hown; refine kl0 H fun a H => ?_
        refine wpList_nil ?_
        refine c_next ?_
        refine wp_seq ?_
        refine wp_region_lit ?_
        refine wl_v _ (r_move (H.ev rfl)) ?_; refine kl H rfl fun a H => ?_
        refine wl_v _ (r_move (H.ev rfl)) ?_; refine kl H rfl fun a H => ?_
        refine wl_v (.slice (some ⟨g, 0, none⟩) i cap) (run_op_slice Try.underlying22 (.slice (some ⟨g, 0, none⟩) L.length cap) none (some (.int .i64 (i : Nat))) none (H.ev rfl) rfl (congrArg some (H.ev rfl)) rfl (slice_any 0 i Try.underlying22 s29 _ _ (.inl ⟨rfl, rfl⟩) (.inr rfl) (by omega) (by omega) (by simp [slAt, add_flat]) (by omega) (by omega))) ?_; refine kl H rfl fun a H => ?_
        refine wl_v _ (r_assign (H.ev rfl)) ?_; refine kl H rfl fun a H => ?_
        refine wpList_nil ?_
        refine c_next ?_
        refine wp_ret ?_
        exact k_ret1 H rfl rfl ⟨⟨some ⟨g, 0, none⟩, cap, by rw [hii], by rw [← hii]; exact own_cut hbg hg6 (by omega) hcm HCS.out HC.out (by omega) (by rw [htk.out, List.take_length]) (by rw [Array.length_toList, zcs_size]; omega) (by omega)⟩, hall⟩
    · skip
      refine wp_region_lit ?_
      refine wl_v _ (r_move (H.ev rfl)) ?_; refine kl H rfl fun a H => ?_
      refine wl_v _ (r_eq Try.underlying3 (H.ev rfl) evc (dec_t (by omega))) ?_; refine kl H rfl fun a H => ?_
      refine wpList_nil ?_
      refine c_next ?_
      refine c_cond_t H rfl ?_
      refine wp_seq ?_
      refine wp_region_lit ?_
      refine wl_v _ (r_move (H.ev rfl)) ?_; refine kl H rfl fun a H => ?_
      refine wl_v _ (r_assign (H.ev rfl)) ?_; refine kl H rfl fun a H => ?_
      refine wpList_nil ?_
      refine c_next ?_
      refine wp_ret ?_
      refine r_then ?_
      exact k_ret1 H rfl rfl ⟨⟨some ⟨g, 0, none⟩, cap, by rw [keep_all hno], by rw [keep_all hno]; exact hown⟩, hall⟩
end Go.Proofs.Ytpegfbdepgmbjaa
