/- Recv: insertion sort of a row whose last item alone is out of its place. -/
import Derived.Test.YthfdjlhplcmicaaE
namespace Go.Proofs.Ythfdjlhplcmicaa
open Go.RowKit
set_option linter.unusedVariables false
set_option linter.unusedSimpArgs false

section
variable {P : Program} {d : Option Tmp} {tt : TypeId} {ps : String} {af : Array Edge} {gd : Option (Nat × Bool)} {a : Act} {w : World}
theorem r_callf2 {f : FuncId} (hf : entF P f) {g x y : Operand} {vx vy : Value} {ats : Array TypeId} (hg : a.eval g = .func (.func f) #[] #[]) (hx : a.eval x = vx) (hy : a.eval y = vy) :
    (execOp a.eval ⟨d, .call { callee := .value g, args := #[x, y], argTypes := ats }, tt, ps, af, gd⟩).run P w = .ok (.enter f #[vx, vy]) w := by
  unfold execOp
  simp [resolve, invoke, hx, hy, hg, Deferred.ofValue, hf _ w]
theorem k_ret0 {n : Nat} {l : List (Nat × Value)} {fn : Func} {R : Ending → World → Prop} (H : Kn a n l) (hf : fn.results = #[]) (h : R (.returned (.tuple #[])) w) : bodyPost P fn R .ret a w :=
  ⟨H.defers, .tuple #[], by simp [results, hf], h⟩
theorem k_end0 {n : Nat} {l : List (Nat × Value)} {fn : Func} {R : Ending → World → Prop} (H : Kn a n l) (hf : fn.results = #[]) (h : R (.returned (.tuple #[])) w) : bodyPost P fn R .normal a w :=
  ⟨H.defers, .tuple #[], by simp [results, hf], h⟩
end
theorem setL_list : ∀ (vs : List Value) (C : Array Value) (o : Nat), o + vs.length ≤ C.size → (setL C o vs).toList = C.toList.take o ++ vs ++ C.toList.drop (o + vs.length)
  | [], C, o, _ => by simp [setL]
  | v :: vs, C, o, h => by
    simp only [List.length_cons] at h
    rw [setL, setL_list vs _ _ (by simp; omega), Array.toList_setIfInBounds]
    have e1 : (C.toList.set o v).take (o + 1) = C.toList.take o ++ [v] := by
      rw [List.take_set, List.take_succ_eq_append_getElem (by simp; omega), List.set_append_right _ _ (by simp; omega)]
      have : o - (C.toList.take o).length = 0 := by simp; omega
      rw [this]; rfl
    have e2 : (C.toList.set o v).drop (o + 1 + vs.length) = C.toList.drop (o + (vs.length + 1)) := by
      rw [List.drop_set_of_lt (by omega)]
      congr 1; omega
    rw [e1, e2]
    simp
theorem setL_size : ∀ (vs : List Value) (C : Array Value) (o : Nat), (setL C o vs).size = C.size
  | [], _, _ => rfl
  | v :: vs, C, o => by rw [setL, setL_size vs]; simp
section
variable {α : Type} {enc : α → List Int} {k : Nat} (hk : ∀ x, (enc x).length = k) {w w' : World} {base g n c i : Nat} {e : TypeId} {M : List α}
include hk
theorem own_range {y : α} {j : Nat} (h : ROwn enc e k w base (.slice (some ⟨g, 0, none⟩) n c) M) (hy : M[j]? = some y) : w.rangeAt g (0 + j * k) (IV (enc y)) := by
  obtain ⟨hj, rfl⟩ := List.getElem?_eq_some_iff.1 hy
  obtain ⟨A, c', e1, hh, _, _⟩ := own_slice h
  injection e1 with e1 e2 e3
  subst e1
  exact flat_range hk hh rfl hj
theorem own_seti (h : ROwn enc e k w base (.slice (some ⟨g, 0, none⟩) n c) M) (hi : i < M.length) : base ≤ g ∧ ∃ cur, Block w g e cur ∧ 0 + i * k + k ≤ cur.size ∧ ∀ y w', Block w' g e (setL cur (0 + i * k) (IV (enc y))) → ROwn enc e k w' base (.slice (some ⟨g, 0, none⟩) n c) (M.set i y) := by
  obtain ⟨h0, ⟨e1, h1⟩ | ⟨g', cap, cur, e1, hbg, hg, hc, hcm, hcs, htk⟩⟩ := h
  · cases e1
  · injection e1 with e1 e2 e3
    injection e1 with e1
    injection e1 with e1
    subst e1 e2 e3
    have hle : i * k + k ≤ cur.size := by
      rw [hcs]
      have : (i + 1) * k ≤ c * k := Nat.mul_le_mul_right _ (by omega)
      rw [Nat.add_mul] at this
      omega
    refine ⟨hbg, cur, hg, by omega, fun y w' hb => ?_⟩
    unfold ROwn
    rw [List.length_set]
    refine ⟨by rw [FV_len hk, List.length_set], .inr ⟨g, c, _, rfl, hbg, hb, hc, hcm, by rw [setL_size]; exact hcs, ?_⟩⟩
    have hl : (IV (enc y)).length = k := by simp [IV, hk]
    have hle2 : i * k + k ≤ M.length * k := by
      have : (i + 1) * k ≤ M.length * k := Nat.mul_le_mul_right _ (by omega)
      rw [Nat.add_mul] at this
      omega
    rw [setL_list _ _ _ (by rw [hl]; omega), hl, Nat.zero_add, List.set_eq_take_append_cons_drop, if_pos hi, FV_append, FV_take hk, ← htk, List.take_append, List.take_append]
    have a1 : (cur.toList.take (i * k)).length = i * k := by simp; omega
    rw [List.take_of_length_le (by rw [a1]; omega), List.take_take, Nat.min_eq_left (by omega)]
    simp only [List.length_append, a1, hl]
    have a2 : FV enc (y :: M.drop (i + 1)) = IV (enc y) ++ FV enc (M.drop (i + 1)) := by simp [FV, IV, flat_cons]
    rw [a2, FV_drop hk, ← htk, List.append_assoc, List.take_of_length_le (l := IV (enc y)) (by rw [hl]; omega)]
    congr 2
    rw [List.drop_take, Nat.add_mul, Nat.one_mul]
end
def insI (S : List It) (x : It) : List It := S.filter (fun y => decide (¬ x.1 < y.1)) ++ x :: S.filter (fun y => decide (x.1 < y.1))
theorem sorted_at {S : List It} (hS : S.Pairwise (fun a b => a.1 < b.1)) {i j : Nat} {y z : It} (hy : S[i]? = some y) (hz : S[j]? = some z) (h : i < j) : y.1 < z.1 := by
  obtain ⟨h1, rfl⟩ := List.getElem?_eq_some_iff.1 hy
  obtain ⟨h2, rfl⟩ := List.getElem?_eq_some_iff.1 hz
  exact List.pairwise_iff_getElem.1 hS i j h1 h2 h
theorem filter_take {α : Type} {p : α → Bool} : ∀ {L : List α} {k : Nat}, (∀ j y, j < k → L[j]? = some y → p y = true) → (∀ j y, k ≤ j → L[j]? = some y → p y = false) → L.filter p = L.take k
  | [], _, _, _ => by simp
  | x :: L, 0, _, h2 => by
    rw [List.take_zero, List.filter_eq_nil_iff]
    intro y hy
    obtain ⟨j, hj, rfl⟩ := List.mem_iff_getElem.1 hy
    rw [h2 j _ (by omega) (List.getElem?_eq_getElem hj)]
    simp
  | x :: L, k + 1, h1, h2 => by
    rw [List.take_succ_cons, List.filter_cons, h1 0 x (by omega) rfl, if_pos rfl, filter_take (k := k) (fun j y hj hy => h1 (j + 1) y (by omega) (by simpa using hy)) (fun j y hj hy => h2 (j + 1) y (by omega) (by simpa using hy))]
theorem filter_drop {α : Type} {p : α → Bool} : ∀ {L : List α} {k : Nat}, (∀ j y, j < k → L[j]? = some y → p y = false) → (∀ j y, k ≤ j → L[j]? = some y → p y = true) → L.filter p = L.drop k
  | [], _, _, _ => by simp
  | x :: L, 0, _, h2 => by
    rw [List.drop_zero, List.filter_eq_self]
    intro y hy
    obtain ⟨j, hj, rfl⟩ := List.mem_iff_getElem.1 hy
    exact h2 j _ (by omega) (List.getElem?_eq_getElem hj)
  | x :: L, k + 1, h1, h2 => by
    rw [List.drop_succ_cons, List.filter_cons, h1 0 x (by omega) rfl, if_neg (by simp), filter_drop (k := k) (fun j y hj hy => h1 (j + 1) y (by omega) (by simpa using hy)) (fun j y hj hy => h2 (j + 1) y (by omega) (by simpa using hy))]
theorem drop_mem {S : List It} {j i : Nat} {y : It} (hy : S[i]? = some y) (h : j ≤ i) : y ∈ S.drop j := by
  have : (S.drop j)[i - j]? = some y := by rw [List.getElem?_drop]; rwa [show j + (i - j) = i by omega]
  exact List.mem_of_getElem? this
theorem ins_at {S : List It} {x : It} {j : Nat} (hS : S.Pairwise (fun a b => a.1 < b.1)) (hj : j ≤ S.length) (h1 : ∀ y ∈ S.drop j, x.1 < y.1) (h2 : j = 0 ∨ ∃ p y, j = p + 1 ∧ S[p]? = some y ∧ ¬ x.1 < y.1) : S.take j ++ x :: S.drop j = insI S x := by
  have hlo : ∀ i y, i < j → S[i]? = some y → ¬ x.1 < y.1 := by
    intro i y hi hy
    rcases h2 with rfl | ⟨p, z, rfl, hz, hn⟩
    · omega
    · by_cases e : i = p
      · subst e
        rw [hy] at hz
        injection hz with hz
        rw [hz]; exact hn
      · have := sorted_at hS hy hz (by omega)
        omega
  unfold insI
  rw [filter_take (p := fun y => decide (¬ x.1 < y.1)) (k := j) (fun i y hi hy => decide_eq_true (hlo i y hi hy)) (fun i y hi hy => decide_eq_false (by have := h1 y (drop_mem hy hi); omega)),
    filter_drop (p := fun y => decide (x.1 < y.1)) (k := j) (fun i y hi hy => decide_eq_false (hlo i y hi hy)) (fun i y hi hy => decide_eq_true (h1 y (drop_mem hy hi)))]
theorem so_start {w : World} {base m : Nat} {v : Value} {S : List It} {x : It} (hm : S.length = m) (h : IOwn w base v (S ++ [x])) : (1 ≤ m ∧ IOwn w base v (S ++ [x])) ∨ (1 = m + 1 ∧ IOwn w base v (insI S x)) := by
  by_cases e : m = 0
  · subst e
    obtain rfl : S = [] := List.eq_nil_of_length_eq_zero hm
    exact .inr ⟨rfl, h⟩
  · exact .inl ⟨by omega, h⟩
section
variable {S : List It} {x y : It} {p : Nat}
theorem mid_at (hy : S[p]? = some y) : (S.take (p + 1) ++ x :: S.drop (p + 1))[p]? = some y ∧ (S.take (p + 1) ++ x :: S.drop (p + 1))[p + 1]? = some x := by
  have hp := (List.getElem?_eq_some_iff.1 hy).1
  have hl : (S.take (p + 1)).length = p + 1 := by simp; omega
  constructor
  · rw [List.getElem?_append_left (by omega), List.getElem?_take, if_pos (by omega)]; exact hy
  · rw [List.getElem?_append_right (by omega), hl]; simp
theorem mid_lt {j i : Nat} (h : i ≤ S.length) : i < (S.take j ++ x :: S.drop j).length := by simp; omega
theorem swap_mid (hy : S[p]? = some y) : ((S.take (p + 1) ++ x :: S.drop (p + 1)).set (p + 1) y).set p x = S.take p ++ x :: S.drop p := by
  obtain ⟨hp, rfl⟩ := List.getElem?_eq_some_iff.1 hy
  have hl : (S.take p).length = p := by simp; omega
  rw [List.take_succ_eq_append_getElem hp, List.append_assoc, List.set_append_right _ _ (by omega), hl, show p + 1 - p = 1 by omega]
  simp only [List.singleton_append, List.set_cons_succ, List.set_cons_zero]
  rw [List.set_append_right _ _ (by omega), hl, Nat.sub_self, List.set_cons_zero, ← List.drop_eq_getElem_cons hp]
theorem gt_next (hy : S[p]? = some y) (h : ∀ z ∈ S.drop (p + 1), x.1 < z.1) (hl : x.1 < y.1) : ∀ z ∈ S.drop p, x.1 < z.1 := by
  obtain ⟨hp, rfl⟩ := List.getElem?_eq_some_iff.1 hy
  intro z hz
  rw [List.drop_eq_getElem_cons hp] at hz
  rcases List.mem_cons.1 hz with rfl | hz
  · exact hl
  · exact h z hz
end
def SoO (W : World) (base g cap m : Nat) (S : List It) (x : It) (a : Act) (w : World) : Prop :=
  ∃ i : Nat, Kn a 53 [(0, .slice (some ⟨g, 0, none⟩) (m + 1) cap), (1, .int .i64 0), (2, .int .i64 (m + 1 : Nat)), (3, .func (.func 25) #[] #[]), (8, .int .i64 (i : Nat))] ∧ 1 ≤ i ∧ i ≤ m + 1 ∧ ((i ≤ m ∧ IOwn w base (.slice (some ⟨g, 0, none⟩) (m + 1) cap) (S ++ [x])) ∨ (i = m + 1 ∧ IOwn w base (.slice (some ⟨g, 0, none⟩) (m + 1) cap) (insI S x))) ∧ Below base W w
def SoJ (W : World) (base g cap m : Nat) (S : List It) (x : It) (q : Nat) (a : Act) (w : World) : Prop :=
  Kn a 53 [(0, .slice (some ⟨g, 0, none⟩) (m + 1) cap), (1, .int .i64 0), (2, .int .i64 (m + 1 : Nat)), (3, .func (.func 25) #[] #[]), (8, .int .i64 (q + 1 : Nat)), (9, .int .i64 (q + 1 : Nat))] ∧ IOwn w base (.slice (some ⟨g, 0, none⟩) (m + 1) cap) (S ++ [x]) ∧ Below base W w
def SoK (W : World) (base g cap q : Nat) (S : List It) (x : It) (a : Act) (w : World) : Prop :=
  ∃ j : Nat, Kn a 53 [(0, .slice (some ⟨g, 0, none⟩) (q + 1 + 1) cap), (1, .int .i64 0), (2, .int .i64 (q + 1 + 1 : Nat)), (3, .func (.func 25) #[] #[]), (8, .int .i64 (q + 1 : Nat)), (9, .int .i64 (j : Nat))] ∧ j ≤ q + 1 ∧ (∀ y ∈ S.drop j, x.1 < y.1) ∧ IOwn w base (.slice (some ⟨g, 0, none⟩) (q + 1 + 1) cap) (S.take j ++ x :: S.drop j) ∧ Below base W w
def SSo (W : World) (base : Nat) (v : Value) (M : List It) (w : World) : Prop := (Below base W w ∧ base ≤ w.heap.size) ∧ IOwn w base v M
theorem SSo.up {W w w' : World} {base : Nat} {v : Value} {M : List It} (h : SSo W base v M w) (hb : Below w.heap.size w w') : SSo W base v M w' := ⟨⟨h.1.1.trans (hb.mono h.1.2), Nat.le_trans h.1.2 hb.size⟩, h.2.up hb⟩
set_option maxHeartbeats 8000000 in
theorem isort_any (w : World) (base g cap m : Nat) (S : List It) (x : It) (hbw : base ≤ w.heap.size) (hm : S.length = m) (hm1 : 0 < m + 1) (hn : m ≤ 100000) (hS : S.Pairwise (fun a b => a.1 < b.1)) (hB : ∀ y ∈ S ++ [x], 0 ≤ y.1 ∧ y.1 ≤ 2147483648) (hown : IOwn w base (.slice (some ⟨g, 0, none⟩) (m + 1) cap) (S ++ [x])) :
    Calls Try.prog 29 #[.slice (some ⟨g, 0, none⟩) (m + 1) cap, .int .i64 0, .int .i64 (m + 1 : Nat), .func (.func 25) #[] #[]] w fun e w' => e = .returned (.tuple #[]) ∧ IOwn w' base (.slice (some ⟨g, 0, none⟩) (m + 1) cap) (insI S x) ∧ Below base w w' := by
  have hall := Below.refl base w
  replace hB := Lib.hid hB
  refine K_enter 53 Try.func29 rfl rfl fun a H => ?_
  replace H := H.pick [0, 1, 2, 3]
  refine wp_seq ?_
  refine wp_region_lit ?_
  refine wl_v _ (r_move (H.ev rfl)) ?_; refine kl H rfl fun a H => ?_
  refine wl_v _ (r_add (q := 0 + 1) Try.underlying3 (H.ev rfl) evc (by omega) (by omega)) ?_; refine kl H rfl fun a H => ?_
  refine wl_v _ (r_assign (H.ev rfl)) ?_; refine kl H rfl fun a H => ?_
  refine wpList_nil ?_
  refine c_next ?_
  refine wp_block ?_
  refine wp_loop (SoO w base g cap m S x) (fun a _ => m + 1 - (intOf (a.eval (.tmp 8))).toNat) ⟨1, H.pick [0, 1, 2, 3, 8], by omega, by omega, so_start hm hown, hall⟩ ?_
  clear H hall hown
  rintro a w' ⟨i, H, hi1, hi, hcase, hall⟩
  have H0 := H
  rcases hcase with ⟨him, hown⟩ | ⟨him, hown⟩
  · skip
    obtain ⟨q, rfl⟩ : ∃ q, i = q + 1 := ⟨i - 1, by omega⟩
    by_cases hlast : q + 1 < m
    · skip
      obtain ⟨y, hy⟩ : ∃ y, S[q]? = some y := ⟨_, List.getElem?_eq_getElem (by omega)⟩
      obtain ⟨z, hz⟩ : ∃ z, S[q + 1]? = some z := ⟨_, List.getElem?_eq_getElem (by omega)⟩
      have hy2 : (S ++ [x])[q]? = some y := by rw [List.getElem?_append_left (by omega)]; exact hy
      have hz2 : (S ++ [x])[q + 1]? = some z := by rw [List.getElem?_append_left (by omega)]; exact hz
      have hyz := sorted_at hS hy hz (by omega)
      have hby := hB.out y (List.mem_of_getElem? hy2)
      have hbz := hB.out z (List.mem_of_getElem? hz2)
      have HY := Lib.hid hy2
      have HZ := Lib.hid hz2
      clear hy hz hy2 hz2
      refine wp_seq ?_
      refine wp_seq ?_
      refine wp_region_lit ?_
      refine wl_v _ (r_move (H.ev rfl)) ?_; refine kl H rfl fun a H => ?_
      refine wl_v _ (r_move (H.ev rfl)) ?_; refine kl H rfl fun a H => ?_
      refine wl_v _ (r_lt Try.underlying3 (H.ev rfl) (H.ev rfl) (dec_t (by omega))) ?_; refine kl H rfl fun a H => ?_
      refine wpList_nil ?_
      refine c_next ?_
      refine c_cond_t H rfl ?_
      refine wp_skip ?_
      refine c_next ?_
      refine wp_seq ?_
      refine wp_block ?_
      refine wp_seq ?_
      refine wp_region_lit ?_
      refine wl_v _ (r_move (H.ev rfl)) ?_; refine kl H rfl fun a H => ?_
      refine wl_v _ (r_assign (H.ev rfl)) ?_; refine kl H rfl fun a H => ?_
      refine wpList_nil ?_
      refine c_next ?_
      refine wp_block ?_
      refine wp_loop (SoJ w base g cap m S x q) (fun a _ => 0) ⟨H.pick [0, 1, 2, 3, 8, 9], hown, hall⟩ ?_
      clear H hall hown
      rintro a w' ⟨H, hown, hall⟩
      refine wp_seq ?_
      refine wp_seq ?_
      have hS : SSo w base (.slice (some ⟨g, 0, none⟩) (m + 1) cap) (S ++ [x]) _ := ⟨⟨hall.drew, Nat.le_trans hbw hall.size⟩, ROwn.keep hown (fun _ _ => rfl)⟩
      refine region_pi (SSo w base (.slice (some ⟨g, 0, none⟩) (m + 1) cap) (S ++ [x])) [(0, true), (1, true), (2, true), (3, true), (4, true), (5, true), (6, true), (7, true), (8, true), (9, true), (10, true), (11, true), (12, true), (13, true), (14, false), (15, true), (16, true)] (by kernel_rfl) (by kernel_rfl) rfl (by kernel_rfl) hS ?_
      clear hall hown
      refine pi_f0 _ rfl (fun w' hS' => r_move (H.ev rfl)) ?_; refine kp H rfl fun a H => ?_
      refine pi_f0 _ rfl (fun w' hS' => r_move (H.ev rfl)) ?_; refine kp H rfl fun a H => ?_
      refine pi_f0 _ rfl (fun w' hS' => r_gt Try.underlying3 (H.ev rfl) (H.ev rfl) (dec_t (by omega))) ?_; refine kp H rfl fun a H => ?_
      refine pi_f0 _ rfl (fun w' hS' => r_move (H.ev rfl)) ?_; refine kp H rfl fun a H => ?_
      refine pi_f1 _ rfl rfl rfl (H.ev rfl) (fun w' hS' => r_move (H.ev rfl)) ?_; refine kp H rfl fun a H => ?_
      refine pi_f1 _ rfl rfl rfl (H.ev rfl) (fun w' hS' => r_move (H.ev rfl)) ?_; refine kp H rfl fun a H => ?_
      refine pi_f1 _ rfl rfl rfl (H.ev rfl) (fun w' hS' => r_move (H.ev rfl)) ?_; refine kp H rfl fun a H => ?_
      refine pi_f1 (.pointer (some ⟨g, 0 + (q + 1) * 5, none⟩)) rfl rfl rfl (H.ev rfl) (fun w' hS' => r_idx (j := q + 1) (q := 0 + (q + 1) * 5) Try.underlying22 s33 (H.ev rfl) (H.ev rfl) (by omega) rfl) ?_; refine kp H rfl fun a H => ?_
      refine pi_f1 _ rfl rfl rfl (H.ev rfl) (fun w' hS' => r_row (cs := [.int .i64 z.1, .int .i64 z.2.1, .int .i64 z.2.2.1, .int .i64 z.2.2.2.1, .int .i64 z.2.2.2.2]) (H.ev rfl) (own_range encI_len hS'.2 HZ.out) (by kernel_rfl) s33 rfl) ?_; refine kp H rfl fun a H => ?_
      refine pi_f1 _ rfl rfl rfl (H.ev rfl) (fun w' hS' => r_move (H.ev rfl)) ?_; refine kp H rfl fun a H => ?_
      refine pi_f1 _ rfl rfl rfl (H.ev rfl) (fun w' hS' => r_move (H.ev rfl)) ?_; refine kp H rfl fun a H => ?_
      refine pi_f1 (.int .i64 (q : Nat)) rfl rfl rfl (H.ev rfl) (fun w' hS' => r_sub (q := ((q : Nat) : Int)) Try.underlying3 (H.ev rfl) evc (by omega) (by omega)) ?_; refine kp H rfl fun a H => ?_
      refine pi_f1 _ rfl rfl rfl (H.ev rfl) (fun w' hS' => r_idx (j := q) (q := 0 + q * 5) Try.underlying22 s33 (H.ev rfl) (H.ev rfl) (by omega) rfl) ?_; refine kp H rfl fun a H => ?_
      refine pi_f1 _ rfl rfl rfl (H.ev rfl) (fun w' hS' => r_row (cs := [.int .i64 y.1, .int .i64 y.2.1, .int .i64 y.2.2.1, .int .i64 y.2.2.2.1, .int .i64 y.2.2.2.2]) (H.ev rfl) (own_range encI_len hS'.2 HY.out) (by kernel_rfl) s33 rfl) ?_; refine kp H rfl fun a H => ?_
      refine pi_a1 rfl rfl rfl (H.ev rfl) (fun K hK => ?_); refine wpo_call 25 _ _ (cmp_any z y _ (by omega) (by omega)) (r_callf2 cf25 (H.ev rfl) (H.ev rfl) (H.ev rfl)) ?_; rintro e w9 ⟨rfl, hb9⟩; refine ⟨_, rfl, ?_⟩; replace hS := hS.up hb9; clear hb9; refine hK _ _ ⟨hS, ?_⟩; clear hK; clear K; refine kp H rfl fun a H => ?_
      refine pi_f1 _ rfl rfl rfl (H.ev rfl) (fun w' hS' => r_lt Try.underlying3 (H.ev rfl) evc (dec_f (by omega))) ?_; refine kp H rfl fun a H => ?_
      refine pi_f0 _ rfl (fun w' hS' => r_pick_t (H.ev rfl) (H.ev rfl)) ?_; refine kp H rfl fun a H => ?_
      refine pi_nil (NoPanic.normal ?_)
      have hall := hS.1.1
      have hown := hS.2
      clear hS
      refine c_next ?_
      refine c_cond_f H rfl ?_
      refine wp_exit ?_
      refine e_then ?_
      refine e_then ?_
      refine e_here ?_
      refine n_block ?_
      refine c_next ?_
      refine wp_region_lit ?_
      refine wl_v _ (r_move (H.ev rfl)) ?_; refine kl H rfl fun a H => ?_
      refine wl_v _ (r_add (q := ((q + 1 + 1 : Nat) : Int)) Try.underlying3 (H.ev rfl) evc (by omega) (by omega)) ?_; refine kl H rfl fun a H => ?_
      refine wl_v _ (r_assign (H.ev rfl)) ?_; refine kl H rfl fun a H => ?_
      refine wpList_nil ?_
      refine n_then ⟨⟨q + 1 + 1, H.pick [0, 1, 2, 3, 8], by omega, by omega, .inl ⟨by omega, hown⟩, hall⟩, ?_⟩
      rw [H.ev (j := 8) rfl, H0.ev (j := 8) rfl]
      simp only [intOf]
      omega
    · skip
      obtain rfl : m = q + 1 := by omega
      refine wp_seq ?_
      refine wp_seq ?_
      refine wp_region_lit ?_
      refine wl_v _ (r_move (H.ev rfl)) ?_; refine kl H rfl fun a H => ?_
      refine wl_v _ (r_move (H.ev rfl)) ?_; refine kl H rfl fun a H => ?_
      refine wl_v _ (r_lt Try.underlying3 (H.ev rfl) (H.ev rfl) (dec_t (by omega))) ?_; refine kl H rfl fun a H => ?_
      refine wpList_nil ?_
      refine c_next ?_
      refine c_cond_t H rfl ?_
      refine wp_skip ?_
      refine c_next ?_
      refine wp_seq ?_
      refine wp_block ?_
      refine wp_seq ?_
      refine wp_region_lit ?_
      refine wl_v _ (r_move (H.ev rfl)) ?_; refine kl H rfl fun a H => ?_
      refine wl_v _ (r_assign (H.ev rfl)) ?_; refine kl H rfl fun a H => ?_
      refine wpList_nil ?_
      refine c_next ?_
      refine wp_block ?_
      refine wp_loop (SoK w base g cap q S x) (fun a _ => (intOf (a.eval (.tmp 9))).toNat) ⟨q + 1, H.pick [0, 1, 2, 3, 8, 9], by omega, (fun y hy => by rw [List.drop_eq_nil_of_le (by omega)] at hy; cases hy), by rw [List.drop_eq_nil_of_le (by omega), List.take_of_length_le (by omega)]; exact hown, hall⟩ ?_
      clear H hall hown
      rintro a w' ⟨j, H, hj, hgt, hown, hall⟩
      have H1 := H
      by_cases h0 : j = 0
      · skip
        obtain rfl := h0
        rw [ins_at hS (by omega) hgt (.inl rfl)] at hown
        refine wp_seq ?_
        refine wp_seq ?_
        have hS : SSo w base (.slice (some ⟨g, 0, none⟩) (q + 1 + 1) cap) (insI S x) _ := ⟨⟨hall.drew, Nat.le_trans hbw hall.size⟩, ROwn.keep hown (fun _ _ => rfl)⟩
        refine region_pi (SSo w base (.slice (some ⟨g, 0, none⟩) (q + 1 + 1) cap) (insI S x)) [(0, true), (1, true), (2, true), (3, true), (4, true), (5, true), (6, true), (7, true), (8, true), (9, true), (10, true), (11, true), (12, true), (13, true), (14, false), (15, true), (16, true)] (by kernel_rfl) (by kernel_rfl) rfl (by kernel_rfl) hS ?_
        clear hall hown
        refine pi_f0 _ rfl (fun w' hS' => r_move (H.ev rfl)) ?_; refine kp H rfl fun a H => ?_
        refine pi_f0 _ rfl (fun w' hS' => r_move (H.ev rfl)) ?_; refine kp H rfl fun a H => ?_
        refine pi_f0 _ rfl (fun w' hS' => r_gt Try.underlying3 (H.ev rfl) (H.ev rfl) (dec_f (by omega))) ?_; refine kp H rfl fun a H => ?_
        refine pi_f0 _ rfl (fun w' hS' => r_move (H.ev rfl)) ?_; refine kp H rfl fun a H => ?_
        refine pi_s1 rfl rfl rfl (H.ev rfl) ?_; refine kp H rfl fun a H => ?_
        refine pi_s1 rfl rfl rfl (H.ev rfl) ?_; refine kp H rfl fun a H => ?_
        refine pi_s1 rfl rfl rfl (H.ev rfl) ?_; refine kp H rfl fun a H => ?_
        refine pi_s1 rfl rfl rfl (H.ev rfl) ?_; refine kp H rfl fun a H => ?_
        refine pi_s1 rfl rfl rfl (H.ev rfl) ?_; refine kp H rfl fun a H => ?_
        refine pi_s1 rfl rfl rfl (H.ev rfl) ?_; refine kp H rfl fun a H => ?_
        refine pi_s1 rfl rfl rfl (H.ev rfl) ?_; refine kp H rfl fun a H => ?_
        refine pi_s1 rfl rfl rfl (H.ev rfl) ?_; refine kp H rfl fun a H => ?_
        refine pi_s1 rfl rfl rfl (H.ev rfl) ?_; refine kp H rfl fun a H => ?_
        refine pi_s1 rfl rfl rfl (H.ev rfl) ?_; refine kp H rfl fun a H => ?_
        refine pi_s1 rfl rfl rfl (H.ev rfl) ?_; refine kp H rfl fun a H => ?_
        refine pi_s1 rfl rfl rfl (H.ev rfl) ?_; refine kp H rfl fun a H => ?_
        refine pi_f0 _ rfl (fun w' hS' => r_pick_f (H.ev rfl) evc) ?_; refine kp H rfl fun a H => ?_
        refine pi_nil (NoPanic.normal ?_)
        have hall := hS.1.1
        have hown := hS.2
        clear hS
        refine c_next ?_
        refine c_cond_f H rfl ?_
        refine wp_exit ?_
        refine e_then ?_
        refine e_then ?_
        refine e_here ?_
        refine n_block ?_
        refine c_next ?_
        refine wp_region_lit ?_
        refine wl_v _ (r_move (H.ev rfl)) ?_; refine kl H rfl fun a H => ?_
        refine wl_v _ (r_add (q := ((q + 1 + 1 : Nat) : Int)) Try.underlying3 (H.ev rfl) evc (by omega) (by omega)) ?_; refine kl H rfl fun a H => ?_
        refine wl_v _ (r_assign (H.ev rfl)) ?_; refine kl H rfl fun a H => ?_
        refine wpList_nil ?_
        refine n_then ⟨⟨q + 1 + 1, H.pick [0, 1, 2, 3, 8], by omega, by omega, .inr ⟨by omega, hown⟩, hall⟩, ?_⟩
        rw [H.ev (j := 8) rfl, H0.ev (j := 8) rfl]
        simp only [intOf]
        omega
      · skip
        obtain ⟨p, rfl⟩ : ∃ p, j = p + 1 := ⟨j - 1, by omega⟩
        clear h0
        obtain ⟨y, hy⟩ : ∃ y, S[p]? = some y := ⟨_, List.getElem?_eq_getElem (by omega)⟩
        obtain ⟨hy2, hx2⟩ := mid_at (x := x) hy
        have hby := hB.out y (List.mem_append_left _ (List.mem_of_getElem? hy))
        have hbx := hB.out x (List.mem_append_right _ (List.mem_singleton.2 rfl))
        have HS := Lib.hid hy
        have HY := Lib.hid hy2
        have HZ := Lib.hid hx2
        clear hy hy2 hx2
        refine wp_seq ?_
        refine wp_seq ?_
        have hS : SSo w base (.slice (some ⟨g, 0, none⟩) (q + 1 + 1) cap) (S.take (p + 1) ++ x :: S.drop (p + 1)) _ := ⟨⟨hall.drew, Nat.le_trans hbw hall.size⟩, ROwn.keep hown (fun _ _ => rfl)⟩
        refine region_pi (SSo w base (.slice (some ⟨g, 0, none⟩) (q + 1 + 1) cap) (S.take (p + 1) ++ x :: S.drop (p + 1))) [(0, true), (1, true), (2, true), (3, true), (4, true), (5, true), (6, true), (7, true), (8, true), (9, true), (10, true), (11, true), (12, true), (13, true), (14, false), (15, true), (16, true)] (by kernel_rfl) (by kernel_rfl) rfl (by kernel_rfl) hS ?_
        clear hall hown
        refine pi_f0 _ rfl (fun w' hS' => r_move (H.ev rfl)) ?_; refine kp H rfl fun a H => ?_
        refine pi_f0 _ rfl (fun w' hS' => r_move (H.ev rfl)) ?_; refine kp H rfl fun a H => ?_
        refine pi_f0 _ rfl (fun w' hS' => r_gt Try.underlying3 (H.ev rfl) (H.ev rfl) (dec_t (by omega))) ?_; refine kp H rfl fun a H => ?_
        refine pi_f0 _ rfl (fun w' hS' => r_move (H.ev rfl)) ?_; refine kp H rfl fun a H => ?_
        refine pi_f1 _ rfl rfl rfl (H.ev rfl) (fun w' hS' => r_move (H.ev rfl)) ?_; refine kp H rfl fun a H => ?_
        refine pi_f1 _ rfl rfl rfl (H.ev rfl) (fun w' hS' => r_move (H.ev rfl)) ?_; refine kp H rfl fun a H => ?_
        refine pi_f1 _ rfl rfl rfl (H.ev rfl) (fun w' hS' => r_move (H.ev rfl)) ?_; refine kp H rfl fun a H => ?_
        refine pi_f1 (.pointer (some ⟨g, 0 + (p + 1) * 5, none⟩)) rfl rfl rfl (H.ev rfl) (fun w' hS' => r_idx (j := p + 1) (q := 0 + (p + 1) * 5) Try.underlying22 s33 (H.ev rfl) (H.ev rfl) (by omega) rfl) ?_; refine kp H rfl fun a H => ?_
        refine pi_f1 _ rfl rfl rfl (H.ev rfl) (fun w' hS' => r_row (cs := [.int .i64 x.1, .int .i64 x.2.1, .int .i64 x.2.2.1, .int .i64 x.2.2.2.1, .int .i64 x.2.2.2.2]) (H.ev rfl) (own_range encI_len hS'.2 HZ.out) (by kernel_rfl) s33 rfl) ?_; refine kp H rfl fun a H => ?_
        refine pi_f1 _ rfl rfl rfl (H.ev rfl) (fun w' hS' => r_move (H.ev rfl)) ?_; refine kp H rfl fun a H => ?_
        refine pi_f1 _ rfl rfl rfl (H.ev rfl) (fun w' hS' => r_move (H.ev rfl)) ?_; refine kp H rfl fun a H => ?_
        refine pi_f1 (.int .i64 (p : Nat)) rfl rfl rfl (H.ev rfl) (fun w' hS' => r_sub (q := ((p : Nat) : Int)) Try.underlying3 (H.ev rfl) evc (by omega) (by omega)) ?_; refine kp H rfl fun a H => ?_
        refine pi_f1 _ rfl rfl rfl (H.ev rfl) (fun w' hS' => r_idx (j := p) (q := 0 + p * 5) Try.underlying22 s33 (H.ev rfl) (H.ev rfl) (by omega) rfl) ?_; refine kp H rfl fun a H => ?_
        refine pi_f1 _ rfl rfl rfl (H.ev rfl) (fun w' hS' => r_row (cs := [.int .i64 y.1, .int .i64 y.2.1, .int .i64 y.2.2.1, .int .i64 y.2.2.2.1, .int .i64 y.2.2.2.2]) (H.ev rfl) (own_range encI_len hS'.2 HY.out) (by kernel_rfl) s33 rfl) ?_; refine kp H rfl fun a H => ?_
        refine pi_a1 rfl rfl rfl (H.ev rfl) (fun K hK => ?_); refine wpo_call 25 _ _ (cmp_any x y _ (by omega) (by omega)) (r_callf2 cf25 (H.ev rfl) (H.ev rfl) (H.ev rfl)) ?_; rintro e w9 ⟨rfl, hb9⟩; refine ⟨_, rfl, ?_⟩; replace hS := hS.up hb9; clear hb9; refine hK _ _ ⟨hS, ?_⟩; clear hK; clear K; refine kp H rfl fun a H => ?_
        by_cases c0 : (x.1 - y.1) < 0
        · skip
          refine pi_f1 _ rfl rfl rfl (H.ev rfl) (fun w' hS' => r_lt Try.underlying3 (H.ev rfl) evc (dec_t (c0))) ?_; refine kp H rfl fun a H => ?_
          refine pi_f0 _ rfl (fun w' hS' => r_pick_t (H.ev rfl) (H.ev rfl)) ?_; refine kp H rfl fun a H => ?_
          refine pi_nil (NoPanic.normal ?_)
          have hall := hS.1.1
          have hown := hS.2
          clear hS
          refine c_next ?_
          refine c_cond_t H rfl ?_
          refine wp_skip ?_
          refine c_next ?_
          refine wp_seq ?_
          refine wp_block ?_
          refine region_tree (AnyW) 18 (.fl 0 (.fl 1 (.fl 2 (.fl 3 (.fl 4 (.fl 5 (.fl 6 (.fl 7 (.fl 8 (.fl 10 (.fl 11 (.fl 12 (.two 9 (.one 13 (.fl 14 (.one 15 (.fl 16 (.one 17 .done))))) 13 (.one 9 (.fl 14 (.one 15 (.fl 16 (.one 17 .done)))))))))))))))))) (by kernel_rfl) (by kernel_rfl) rfl (by kernel_rfl) (AnyW.any _) ?_
          replace hown : IOwn (World.drew _) base (.slice (some ⟨g, 0, none⟩) (q + 1 + 1) cap) _ := ROwn.keep hown (fun _ _ => rfl)
          replace hall := hall.drew
          refine pt_f0 _ rfl (fun w' hS' => r_move (H.ev rfl)) ?_; refine kt H rfl fun a H => ?_
          refine pt_f0 _ rfl (fun w' hS' => r_move (H.ev rfl)) ?_; refine kt H rfl fun a H => ?_
          refine pt_f0 _ rfl (fun w' hS' => r_move (H.ev rfl)) ?_; refine kt H rfl fun a H => ?_
          refine pt_f0 _ rfl (fun w' hS' => r_move (H.ev rfl)) ?_; refine kt H rfl fun a H => ?_
          refine pt_f0 (.int .i64 (p : Nat)) rfl (fun w' hS' => r_sub (q := ((p : Nat) : Int)) Try.underlying3 (H.ev rfl) evc (by omega) (by omega)) ?_; refine kt H rfl fun a H => ?_
          refine pt_f0 _ rfl (fun w' hS' => r_move (H.ev rfl)) ?_; refine kt H rfl fun a H => ?_
          refine pt_f0 _ rfl (fun w' hS' => r_move (H.ev rfl)) ?_; refine kt H rfl fun a H => ?_
          refine pt_f0 (.int .i64 (p : Nat)) rfl (fun w' hS' => r_sub (q := ((p : Nat) : Int)) Try.underlying3 (H.ev rfl) evc (by omega) (by omega)) ?_; refine kt H rfl fun a H => ?_
          refine pt_f0 (.pointer (some ⟨g, 0 + (p) * 5, none⟩)) rfl (fun w' hS' => r_idx (j := p) (q := 0 + (p) * 5) Try.underlying22 s33 (H.ev rfl) (H.ev rfl) (by omega) rfl) ?_; refine kt H rfl fun a H => ?_
          refine pt_f0 _ rfl (fun w' hS' => r_move (H.ev rfl)) ?_; refine kt H rfl fun a H => ?_
          refine pt_f0 _ rfl (fun w' hS' => r_move (H.ev rfl)) ?_; refine kt H rfl fun a H => ?_
          refine pt_f0 (.pointer (some ⟨g, 0 + (p + 1) * 5, none⟩)) rfl (fun w' hS' => r_idx (j := p + 1) (q := 0 + (p + 1) * 5) Try.underlying22 s33 (H.ev rfl) (H.ev rfl) (by omega) rfl) ?_; refine kt H rfl fun a H => ?_
          refine pt_two (fun K hK => ?_) (fun K hK => ?_)
          · skip
            refine st_a0 rfl ?_; refine wpo_w (.agg #[.int .i64 y.1, .int .i64 y.2.1, .int .i64 y.2.2.1, .int .i64 y.2.2.2.1, .int .i64 y.2.2.2.2]) _ (r_row (cs := [.int .i64 y.1, .int .i64 y.2.1, .int .i64 y.2.2.1, .int .i64 y.2.2.2.1, .int .i64 y.2.2.2.2]) (H.ev rfl) (own_range encI_len hown HY.out) (by kernel_rfl) s33 rfl) ?_; refine hK _ _ ⟨(fun _ => AnyW.any _), ?_⟩; clear hK; clear K; refine kt H rfl fun a H => ?_
            refine pt_one (fun K hK => ?_)
            refine st_a0 rfl ?_; refine wpo_w (.agg #[.int .i64 x.1, .int .i64 x.2.1, .int .i64 x.2.2.1, .int .i64 x.2.2.2.1, .int .i64 x.2.2.2.2]) _ (r_row (cs := [.int .i64 x.1, .int .i64 x.2.1, .int .i64 x.2.2.1, .int .i64 x.2.2.2.1, .int .i64 x.2.2.2.2]) (H.ev rfl) (own_range encI_len hown HZ.out) (by kernel_rfl) s33 rfl) ?_; refine hK _ _ ⟨(fun _ => AnyW.any _), ?_⟩; clear hK; clear K; refine kt H rfl fun a H => ?_
            refine pt_f0 (.pointer (some ⟨g, 0 + (p + 1) * 5, none⟩)) rfl (fun w' hS' => r_idx (j := p + 1) (q := 0 + (p + 1) * 5) Try.underlying22 s33 (H.ev rfl) (H.ev rfl) (by omega) rfl) ?_; refine kt H rfl fun a H => ?_
            refine pt_one (fun K hK => ?_)
            refine st_a0 rfl ?_; obtain ⟨hbg, cur, hg, hfit, hset⟩ := own_seti (i := p + 1) encI_len hown (mid_lt (by omega)); refine wpo_store1 33 (.tmp 51) (.tmp 46) g (0 + (p + 1) * 5) 33 (.agg #[.int .i64 y.1, .int .i64 y.2.1, .int .i64 y.2.2.1, .int .i64 y.2.2.2.1, .int .i64 y.2.2.2.2]) cur (H.ev rfl) (H.ev rfl) hg s33 (by simp only [Value.cells, List.size_toArray, List.length_cons, List.length_nil]; omega) (ints_one [y.1, y.2.1, y.2.2.1, y.2.2.2.1, y.2.2.2.2]) fun w7 hb7 ho7 kq => ?_; have hown1 := hset y _ kq; replace hall := hall.trans (hb7 _ hbg); clear hb7 ho7 kq hg hset hown; refine hK _ _ ⟨(fun _ => AnyW.any _), ?_⟩; clear hK; clear K; skip
            refine pt_f0 (.pointer (some ⟨g, 0 + (p) * 5, none⟩)) rfl (fun w' hS' => r_idx (j := p) (q := 0 + (p) * 5) Try.underlying22 s33 (H.ev rfl) (H.ev rfl) (by omega) rfl) ?_; refine kt H rfl fun a H => ?_
            refine pt_one (fun K hK => ?_)
            refine st_a0 rfl ?_; obtain ⟨hbg2, cur2, hg2, hfit2, hset2⟩ := own_seti (i := p) encI_len hown1 (by rw [List.length_set]; exact mid_lt (by omega)); refine wpo_store1 33 (.tmp 52) (.tmp 50) g (0 + (p) * 5) 33 (.agg #[.int .i64 x.1, .int .i64 x.2.1, .int .i64 x.2.2.1, .int .i64 x.2.2.2.1, .int .i64 x.2.2.2.2]) cur2 (H.ev rfl) (H.ev rfl) hg2 s33 (by simp only [Value.cells, List.size_toArray, List.length_cons, List.length_nil]; omega) (ints_one [x.1, x.2.1, x.2.2.1, x.2.2.2.1, x.2.2.2.2]) fun w8 hb8 ho8 kq => ?_; have hown := hset2 x _ kq; rw [swap_mid HS.out] at hown; replace hall := hall.trans (hb8 _ hbg2); clear hb8 ho8 kq hg2 hset2 hown1; refine hK _ _ ⟨(fun _ => AnyW.any _), ?_⟩; clear hK; clear K; skip
            refine pt_done (NoPanic.normal ?_)
            refine n_block ?_
            refine c_next ?_
            refine wp_region_lit ?_
            refine wl_v _ (r_move (H.ev rfl)) ?_; refine kl H rfl fun a H => ?_
            refine wl_v _ (r_sub (q := ((p : Nat) : Int)) Try.underlying3 (H.ev rfl) evc (by omega) (by omega)) ?_; refine kl H rfl fun a H => ?_
            refine wl_v _ (r_assign (H.ev rfl)) ?_; refine kl H rfl fun a H => ?_
            refine wpList_nil ?_
            refine n_then ⟨⟨p, H.pick [0, 1, 2, 3, 8, 9], by omega, gt_next HS.out hgt (by omega), hown, hall⟩, ?_⟩
            rw [H.ev (j := 9) rfl, H1.ev (j := 9) rfl]
            simp only [intOf]
            omega
          · skip
            refine st_a0 rfl ?_; refine wpo_w (.agg #[.int .i64 x.1, .int .i64 x.2.1, .int .i64 x.2.2.1, .int .i64 x.2.2.2.1, .int .i64 x.2.2.2.2]) _ (r_row (cs := [.int .i64 x.1, .int .i64 x.2.1, .int .i64 x.2.2.1, .int .i64 x.2.2.2.1, .int .i64 x.2.2.2.2]) (H.ev rfl) (own_range encI_len hown HZ.out) (by kernel_rfl) s33 rfl) ?_; refine hK _ _ ⟨(fun _ => AnyW.any _), ?_⟩; clear hK; clear K; refine kt H rfl fun a H => ?_
            refine pt_one (fun K hK => ?_)
            refine st_a0 rfl ?_; refine wpo_w (.agg #[.int .i64 y.1, .int .i64 y.2.1, .int .i64 y.2.2.1, .int .i64 y.2.2.2.1, .int .i64 y.2.2.2.2]) _ (r_row (cs := [.int .i64 y.1, .int .i64 y.2.1, .int .i64 y.2.2.1, .int .i64 y.2.2.2.1, .int .i64 y.2.2.2.2]) (H.ev rfl) (own_range encI_len hown HY.out) (by kernel_rfl) s33 rfl) ?_; refine hK _ _ ⟨(fun _ => AnyW.any _), ?_⟩; clear hK; clear K; refine kt H rfl fun a H => ?_
            refine pt_f0 (.pointer (some ⟨g, 0 + (p + 1) * 5, none⟩)) rfl (fun w' hS' => r_idx (j := p + 1) (q := 0 + (p + 1) * 5) Try.underlying22 s33 (H.ev rfl) (H.ev rfl) (by omega) rfl) ?_; refine kt H rfl fun a H => ?_
            refine pt_one (fun K hK => ?_)
            refine st_a0 rfl ?_; obtain ⟨hbg, cur, hg, hfit, hset⟩ := own_seti (i := p + 1) encI_len hown (mid_lt (by omega)); refine wpo_store1 33 (.tmp 51) (.tmp 46) g (0 + (p + 1) * 5) 33 (.agg #[.int .i64 y.1, .int .i64 y.2.1, .int .i64 y.2.2.1, .int .i64 y.2.2.2.1, .int .i64 y.2.2.2.2]) cur (H.ev rfl) (H.ev rfl) hg s33 (by simp only [Value.cells, List.size_toArray, List.length_cons, List.length_nil]; omega) (ints_one [y.1, y.2.1, y.2.2.1, y.2.2.2.1, y.2.2.2.2]) fun w7 hb7 ho7 kq => ?_; have hown1 := hset y _ kq; replace hall := hall.trans (hb7 _ hbg); clear hb7 ho7 kq hg hset hown; refine hK _ _ ⟨(fun _ => AnyW.any _), ?_⟩; clear hK; clear K; skip
            refine pt_f0 (.pointer (some ⟨g, 0 + (p) * 5, none⟩)) rfl (fun w' hS' => r_idx (j := p) (q := 0 + (p) * 5) Try.underlying22 s33 (H.ev rfl) (H.ev rfl) (by omega) rfl) ?_; refine kt H rfl fun a H => ?_
            refine pt_one (fun K hK => ?_)
            refine st_a0 rfl ?_; obtain ⟨hbg2, cur2, hg2, hfit2, hset2⟩ := own_seti (i := p) encI_len hown1 (by rw [List.length_set]; exact mid_lt (by omega)); refine wpo_store1 33 (.tmp 52) (.tmp 50) g (0 + (p) * 5) 33 (.agg #[.int .i64 x.1, .int .i64 x.2.1, .int .i64 x.2.2.1, .int .i64 x.2.2.2.1, .int .i64 x.2.2.2.2]) cur2 (H.ev rfl) (H.ev rfl) hg2 s33 (by simp only [Value.cells, List.size_toArray, List.length_cons, List.length_nil]; omega) (ints_one [x.1, x.2.1, x.2.2.1, x.2.2.2.1, x.2.2.2.2]) fun w8 hb8 ho8 kq => ?_; have hown := hset2 x _ kq; rw [swap_mid HS.out] at hown; replace hall := hall.trans (hb8 _ hbg2); clear hb8 ho8 kq hg2 hset2 hown1; refine hK _ _ ⟨(fun _ => AnyW.any _), ?_⟩; clear hK; clear K; skip
            refine pt_done (NoPanic.normal ?_)
            refine n_block ?_
            refine c_next ?_
            refine wp_region_lit ?_
            refine wl_v _ (r_move (H.ev rfl)) ?_; refine kl H rfl fun a H => ?_
            refine wl_v _ (r_sub (q := ((p : Nat) : Int)) Try.underlying3 (H.ev rfl) evc (by omega) (by omega)) ?_; refine kl H rfl fun a H => ?_
            refine wl_v _ (r_assign (H.ev rfl)) ?_; refine kl H rfl fun a H => ?_
            refine wpList_nil ?_
            refine n_then ⟨⟨p, H.pick [0, 1, 2, 3, 8, 9], by omega, gt_next HS.out hgt (by omega), hown, hall⟩, ?_⟩
            rw [H.ev (j := 9) rfl, H1.ev (j := 9) rfl]
            simp only [intOf]
            omega
        · skip
          refine pi_f1 _ rfl rfl rfl (H.ev rfl) (fun w' hS' => r_lt Try.underlying3 (H.ev rfl) evc (dec_f (c0))) ?_; refine kp H rfl fun a H => ?_
          refine pi_f0 _ rfl (fun w' hS' => r_pick_t (H.ev rfl) (H.ev rfl)) ?_; refine kp H rfl fun a H => ?_
          refine pi_nil (NoPanic.normal ?_)
          have hall := hS.1.1
          have hown := hS.2
          clear hS
          refine c_next ?_
          refine c_cond_f H rfl ?_
          refine wp_exit ?_
          refine e_then ?_
          refine e_then ?_
          refine e_here ?_
          refine n_block ?_
          refine c_next ?_
          rw [ins_at hS (by omega) hgt (.inr ⟨p, y, rfl, HS.out, by omega⟩)] at hown
          refine wp_region_lit ?_
          refine wl_v _ (r_move (H.ev rfl)) ?_; refine kl H rfl fun a H => ?_
          refine wl_v _ (r_add (q := ((q + 1 + 1 : Nat) : Int)) Try.underlying3 (H.ev rfl) evc (by omega) (by omega)) ?_; refine kl H rfl fun a H => ?_
          refine wl_v _ (r_assign (H.ev rfl)) ?_; refine kl H rfl fun a H => ?_
          refine wpList_nil ?_
          refine n_then ⟨⟨q + 1 + 1, H.pick [0, 1, 2, 3, 8], by omega, by omega, .inr ⟨by omega, hown⟩, hall⟩, ?_⟩
          rw [H.ev (j := 8) rfl, H0.ev (j := 8) rfl]
          simp only [intOf]
          omega
  · skip
    obtain rfl : i = m + 1 := by omega
    refine wp_seq ?_
    refine wp_seq ?_
    refine wp_region_lit ?_
    refine wl_v _ (r_move (H.ev rfl)) ?_; refine kl H rfl fun a H => ?_
    refine wl_v _ (r_move (H.ev rfl)) ?_; refine kl H rfl fun a H => ?_
    refine wl_v _ (r_lt Try.underlying3 (H.ev rfl) (H.ev rfl) (dec_f (by omega))) ?_; refine kl H rfl fun a H => ?_
    refine wpList_nil ?_
    refine c_next ?_
    refine c_cond_f H rfl ?_
    refine wp_exit ?_
    refine e_then ?_
    refine e_then ?_
    refine e_here ?_
    exact k_end0 H rfl ⟨rfl, hown, hall⟩
end Go.Proofs.Ythfdjlhplcmicaa
