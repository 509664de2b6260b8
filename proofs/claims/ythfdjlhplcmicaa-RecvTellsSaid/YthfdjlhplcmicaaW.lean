/- Recv: Right. -/
import Derived.Test.YthfdjlhplcmicaaU
namespace Go.Proofs.Ythfdjlhplcmicaa
open Go.RowKit
set_option linter.unusedVariables false
set_option linter.unusedSimpArgs false

theorem r_subw {P : Program} {a : Act} {w : World} {d : Option Tmp} {tt : TypeId} {ps : String} {af : Array Edge} {gd : Option (Nat × Bool)} {x y : Operand} {m n q : Int} {t t2 : TypeId} (ht : P.underlying t = some (.int .i64)) (hx : a.eval x = .int .i64 m) (hy : a.eval y = .int .i64 n) (hq : IntKind.i64.wrap (m - n) = q) : (execOp a.eval ⟨d, .binOp .sub t x y t2, tt, ps, af, gd⟩).run P w = .ok (.value (.int .i64 q)) w := by
  subst hq
  unfold execOp
  simp only [hx, hy]
  go_simp
def RightL (n : Int) (L : List It) : Prop := 1 ≤ n ∧ n ≤ 1073741824 ∧ L.Pairwise (fun a b => a.1 < b.1) ∧ ∀ y ∈ L, n < y.1 ∧ y.1 - n < 8 ∧ y.1 < 1073741824
instance (n : Int) (L : List It) : Decidable (RightL n L) := by unfold RightL; infer_instance
def rightF (n : Int) (L : List It) : Bool := decide (RightL n L)
def OkTo (n : Int) (L : List It) (k : Nat) : Prop := ∀ (j : Nat) (y : It), j < k → L[j]? = some y → n < y.1 ∧ IntKind.i64.wrap (y.1 - n) < 8 ∧ y.1 < 1073741824 ∧ ∀ i p, j = i + 1 → L[i]? = some p → p.1 < y.1
def LastI (n : Int) (L : List It) (k : Nat) (l : Int) : Prop := (k = 0 ∧ l = n) ∨ ∃ j p, k = j + 1 ∧ L[j]? = some p ∧ l = p.1
section
variable {n l : Int} {L : List It} {k : Nat} {y : It}
theorem last_ge (hok : OkTo n L k) (hl : LastI n L k l) : n ≤ l := by
  rcases hl with ⟨_, rfl⟩ | ⟨j, p, e, hp, rfl⟩
  · omega
  · have := (hok j p (by omega) hp).1; omega
theorem ok_next (hok : OkTo n L k) (hl : LastI n L k l) (hy : L[k]? = some y) (h1 : l < y.1) (h2 : IntKind.i64.wrap (y.1 - n) < 8) (h3 : y.1 < 1073741824) : OkTo n L (k + 1) := by
  have hge := last_ge hok hl
  intro j z hj hz
  by_cases e : j = k
  · subst e
    rw [hy] at hz
    injection hz with hz
    subst hz
    refine ⟨by omega, h2, h3, fun i p e hp => ?_⟩
    rcases hl with ⟨e0, rfl⟩ | ⟨j', q, e', hq, rfl⟩
    · omega
    · obtain rfl : i = j' := by omega
      rw [hq] at hp
      injection hp with hp
      rw [← hp]; exact h1
  · exact hok j z (by omega) hz
theorem sorted_steps : ∀ {L : List It}, (∀ j p y, L[j]? = some p → L[j + 1]? = some y → p.1 < y.1) → L.Pairwise (fun a b => a.1 < b.1)
  | [], _ => .nil
  | [a], _ => by simp
  | a :: b :: L, h => by
    have ih := sorted_steps (L := b :: L) fun j p y hp hy => h (j + 1) p y (by simpa using hp) (by simpa using hy)
    have hab : a.1 < b.1 := h 0 a b rfl rfl
    rw [List.pairwise_cons]
    refine ⟨fun y hy => ?_, ih⟩
    rcases List.mem_cons.1 hy with rfl | hy
    · exact hab
    · have := (List.pairwise_cons.1 ih).1 y hy; omega
theorem wrap_in {m : Int} (h : -9223372036854775808 ≤ m ∧ m ≤ 9223372036854775807) : IntKind.i64.wrap m = m := IntWalk.i64_in _ h
theorem right_yes (hok : OkTo n L L.length) (h1 : 1 ≤ n) (h2 : n ≤ 1073741824) : rightF n L = true := by
  unfold rightF
  apply decide_eq_true
  refine ⟨h1, h2, sorted_steps fun j p y hp hy => (hok (j + 1) y (List.getElem?_eq_some_iff.1 hy).1 hy).2.2.2 j p rfl hp, fun y hy => ?_⟩
  obtain ⟨j, hj, rfl⟩ := List.mem_iff_getElem.1 hy
  obtain ⟨a1, a2, a3, _⟩ := hok j _ hj (List.getElem?_eq_getElem hj)
  rw [wrap_in (by omega)] at a2
  exact ⟨a1, a2, a3⟩
theorem right_out (h : ¬ (1 ≤ n ∧ n ≤ 1073741824)) : rightF n L = false := by
  unfold rightF
  apply decide_eq_false
  rintro ⟨h1, h2, _⟩
  exact h ⟨h1, h2⟩
theorem right_no (hy : L[k]? = some y) (hok : OkTo n L k) (hl : LastI n L k l) (h : y.1 ≤ l ∨ 8 ≤ IntKind.i64.wrap (y.1 - n) ∨ 1073741824 ≤ y.1) : rightF n L = false := by
  unfold rightF
  apply decide_eq_false
  rintro ⟨h1, h2, h3, h4⟩
  obtain ⟨a1, a2, a3⟩ := h4 y (List.mem_of_getElem? hy)
  rw [wrap_in (by omega)] at h
  rcases h with h | h | h
  · rcases hl with ⟨_, rfl⟩ | ⟨j, p, rfl, hp, rfl⟩
    · omega
    · obtain ⟨hj, rfl⟩ := List.getElem?_eq_some_iff.1 hy
      obtain ⟨hj', rfl⟩ := List.getElem?_eq_some_iff.1 hp
      have := List.pairwise_iff_getElem.1 h3 j (j + 1) hj' hj (by omega)
      omega
  · omega
  · omega
end
def Rt16 (W : World) (b0 : Nat) (n : Int) (A : Option Addr) (c : Nat) (L : List It) (a : Act) (w : World) : Prop :=
  ∃ (k : Nat) (l : Int), Kn a 43 [(1, .pointer (some ⟨b0, 0, none⟩)), (3, .int .i64 l), (9, .slice A L.length c), (10, .int .i64 (L.length : Nat)), (11, .int .i64 (k : Nat))] ∧ k ≤ L.length ∧ LastI n L k l ∧ OkTo n L k ∧ Block w b0 24 #[.int .i64 n, .slice A L.length c] ∧ Below W.heap.size W w
theorem right_any (w : World) (n : Int) (v : Value) (L : List It) (h : IRow w v L) (hn : L.length ≤ 9223372036854775807) :
    Calls Try.prog 16 #[.agg #[.int .i64 n, v]] w fun e w' => e = .returned (.bool (rightF n L)) ∧ Below w.heap.size w w' := by
  obtain ⟨A, c, rfl, h1, h2, h3, hh⟩ := h
  replace hh := Lib.hid hh
  have hall := Below.refl w.heap.size w
  refine K_enter 43 Try.func16 rfl rfl fun a H => ?_
  replace H := H.pick [0]
  refine wp_seq ?_
  refine wp_region_lit ?_
  refine op_box 24 _ #[.int .i64 n, .slice A L.length c] (H.ev rfl) fun w0 b0 hge hb k0 => ?_; have g0 := Nat.le_trans hall.size hge; replace hall := hall.trans (hb.mono hall.size); clear hb; clear hge; refine kl H rfl fun a H => ?_
  refine wl_v _ (r_assign evc) ?_; refine kl H rfl fun a H => ?_
  refine wpList_nil ?_
  refine c_next ?_
  refine wp_seq ?_
  refine wp_region_lit ?_
  refine wl_v _ (r_fld (q := 0) fld24_0 (H.ev rfl) rfl) ?_; refine kl H rfl fun a H => ?_
  refine wl_v _ (r_ld Try.underlying3 rfl (H.ev rfl) ((Block.cell k0 0).trans rfl)) ?_; refine kl H rfl fun a H => ?_
  refine wl_v _ (r_assign (H.ev rfl)) ?_; refine kl H rfl fun a H => ?_
  refine wpList_nil ?_
  refine c_next ?_
  refine wp_seq ?_
  refine wp_seq ?_
  refine wp_region_lit ?_
  refine wl_v _ (r_fld (q := 1) fld24_1 (H.ev rfl) rfl) ?_; refine kl H rfl fun a H => ?_
  refine wl_v _ (r_ld Try.underlying22 rfl (H.ev rfl) ((Block.cell k0 1).trans rfl)) ?_; refine kl H rfl fun a H => ?_
  refine wl_v _ (r_len Try.underlying22 (H.ev rfl)) ?_; refine kl H rfl fun a H => ?_
  refine wl_v _ (r_move evc) ?_; refine kl H rfl fun a H => ?_
  refine wpList_nil ?_
  refine c_next ?_
  refine wp_block ?_
  refine wp_loop (Rt16 w b0 n A c L) (fun a _ => L.length - (intOf (a.eval (.tmp 11))).toNat) ⟨0, n, H.pick [1, 3, 9, 10, 11], by omega, .inl ⟨rfl, rfl⟩, fun j y hj => by omega, k0, hall⟩ ?_
  clear H hall k0
  rintro a w' ⟨k, l, H, hk, hl, hok, k0, hall⟩
  have H0 := H
  by_cases hlt : k < L.length
  · skip
    obtain ⟨b, o, hA, hr⟩ := flat_some encI_len hh.out (by omega) hlt
    subst hA
    have hy : L[k]? = some L[k] := List.getElem?_eq_getElem hlt
    have HY := Lib.hid hy
    have HRG := Lib.hid hr
    generalize L[k] = y at *
    obtain ⟨d, hd⟩ : ∃ d, IntKind.i64.wrap (y.1 - n) = d := ⟨_, rfl⟩
    have HDD := Lib.hid hd
    clear hy hr hd
    have H := H0
    refine wp_seq ?_
    refine wp_region_lit ?_
    refine wl_v _ (r_lt Try.underlying3 (H.ev rfl) (H.ev rfl) (dec_t (by omega))) ?_; refine kl H rfl fun a H => ?_
    refine wpList_nil ?_
    refine c_next ?_
    refine wp_seq ?_
    refine c_cond_t H rfl ?_
    refine wp_skip ?_
    refine c_next ?_
    refine wp_seq ?_
    refine wp_block ?_
    refine wp_seq ?_
    refine wp_region_lit ?_
    refine wl_v _ (r_idx (j := k) (q := o + k * 5) Try.underlying22 s33 (H.ev rfl) (H.ev rfl) (by omega) rfl) ?_; refine kl H rfl fun a H => ?_
    refine wl_v _ (r_row (cs := [.int .i64 y.1, .int .i64 y.2.1, .int .i64 y.2.2.1, .int .i64 y.2.2.2.1, .int .i64 y.2.2.2.2]) (H.ev rfl) (range_ups HRG.out hall) (by kernel_rfl) s33 rfl) ?_; refine kl H rfl fun a H => ?_
    refine op_new 33 5 (.tmp 14) #[.int .i64 y.1, .int .i64 y.2.1, .int .i64 y.2.2.1, .int .i64 y.2.2.2.1, .int .i64 y.2.2.2.2] _ z33 s33 rfl (ints_one [y.1, y.2.1, y.2.2.1, y.2.2.2.1, y.2.2.2.2]) (fun p => (H.put 5 p rfl).ev rfl) (fun p => (H.put 5 p rfl).ev rfl) fun w1 b1 hge hb k1 => ?_; have g1 := Nat.le_trans hall.size hge; replace k0 := Block.ups k0 hb; replace hall := hall.trans (hb.mono hall.size); clear hb; clear hge; refine kl H rfl fun a H => ?_
    refine wpList_nil ?_
    refine c_next ?_
    refine wp_seq ?_
    refine wp_seq ?_
    refine wp_region_lit ?_
    refine wl_v _ (r_fld (q := 0) fld33_0 (H.ev rfl) rfl) ?_; refine kl H rfl fun a H => ?_
    refine wl_v _ (r_ld Try.underlying3 rfl (H.ev rfl) ((Block.cell k1 0).trans rfl)) ?_; refine kl H rfl fun a H => ?_
    refine wl_v _ (r_move (H.ev rfl)) ?_; refine kl H rfl fun a H => ?_
    by_cases c0 : y.1 ≤ l
    · skip
      refine wl_v _ (r_le Try.underlying3 (H.ev rfl) (H.ev rfl) (dec_t (c0))) ?_; refine kl H rfl fun a H => ?_
      refine wl_v _ (r_move (H.ev rfl)) ?_; refine kl H rfl fun a H => ?_
      refine wl_s (kg_no rfl H rfl rfl rfl) ?_; refine kl H rfl fun a H => ?_
      refine wl_s (kg_no rfl H rfl rfl rfl) ?_; refine kl H rfl fun a H => ?_
      refine wl_s (kg_no rfl H rfl rfl rfl) ?_; refine kl H rfl fun a H => ?_
      refine wl_s (kg_no rfl H rfl rfl rfl) ?_; refine kl H rfl fun a H => ?_
      refine wl_s (kg_no rfl H rfl rfl rfl) ?_; refine kl H rfl fun a H => ?_
      refine wl_s (kg_no rfl H rfl rfl rfl) ?_; refine kl H rfl fun a H => ?_
      refine wl_v _ (r_pick_t (H.ev rfl) evc) ?_; refine kl H rfl fun a H => ?_
      refine wl_v _ (r_move (H.ev rfl)) ?_; refine kl H rfl fun a H => ?_
      refine wl_s (kg_no rfl H rfl rfl rfl) ?_; refine kl H rfl fun a H => ?_
      refine wl_s (kg_no rfl H rfl rfl rfl) ?_; refine kl H rfl fun a H => ?_
      refine wl_s (kg_no rfl H rfl rfl rfl) ?_; refine kl H rfl fun a H => ?_
      refine wl_v _ (r_pick_t (H.ev rfl) evc) ?_; refine kl H rfl fun a H => ?_
      refine wpList_nil ?_
      refine c_next ?_
      refine c_cond_t H rfl ?_
      refine wp_seq ?_
      refine wp_region_lit ?_
      refine wl_v _ (r_assign evc) ?_; refine kl H rfl fun a H => ?_
      refine wpList_nil ?_
      refine c_next ?_
      refine wp_ret ?_
      refine r_then ?_
      refine r_block ?_
      refine r_then ?_
      refine r_then ?_
      refine r_block ?_
      refine r_then ?_
      exact k_ret1 H rfl rfl ⟨by rw [right_no HY.out hok hl (by rw [HDD.out]; omega)], hall⟩
    · skip
      refine wl_v _ (r_le Try.underlying3 (H.ev rfl) (H.ev rfl) (dec_f (c0))) ?_; refine kl H rfl fun a H => ?_
      refine wl_v _ (r_move (H.ev rfl)) ?_; refine kl H rfl fun a H => ?_
      refine op_unguard _ _ (kg_yes rfl H rfl rfl rfl) ?_; refine wl_v _ (r_fld (q := 0) fld33_0 (H.ev rfl) rfl) ?_; refine kl H rfl fun a H => ?_
      refine op_unguard _ _ (kg_yes rfl H rfl rfl rfl) ?_; refine wl_v _ (r_ld Try.underlying3 rfl (H.ev rfl) ((Block.cell k1 0).trans rfl)) ?_; refine kl H rfl fun a H => ?_
      refine op_unguard _ _ (kg_yes rfl H rfl rfl rfl) ?_; refine wl_v _ (r_fld (q := 0) fld24_0 (H.ev rfl) rfl) ?_; refine kl H rfl fun a H => ?_
      refine op_unguard _ _ (kg_yes rfl H rfl rfl rfl) ?_; refine wl_v _ (r_ld Try.underlying3 rfl (H.ev rfl) ((Block.cell k0 0).trans rfl)) ?_; refine kl H rfl fun a H => ?_
      refine op_unguard _ _ (kg_yes rfl H rfl rfl rfl) ?_; refine wl_v (.int .i64 d) (r_subw Try.underlying3 (H.ev rfl) (H.ev rfl) HDD.out) ?_; refine kl H rfl fun a H => ?_
      by_cases c1 : d ≥ 8
      · skip
        refine op_unguard _ _ (kg_yes rfl H rfl rfl rfl) ?_; refine wl_v _ (r_ge Try.underlying3 (H.ev rfl) evc (dec_t (c1))) ?_; refine kl H rfl fun a H => ?_
        refine wl_v _ (r_pick_f (H.ev rfl) (H.ev rfl)) ?_; refine kl H rfl fun a H => ?_
        refine wl_v _ (r_move (H.ev rfl)) ?_; refine kl H rfl fun a H => ?_
        refine wl_s (kg_no rfl H rfl rfl rfl) ?_; refine kl H rfl fun a H => ?_
        refine wl_s (kg_no rfl H rfl rfl rfl) ?_; refine kl H rfl fun a H => ?_
        refine wl_s (kg_no rfl H rfl rfl rfl) ?_; refine kl H rfl fun a H => ?_
        refine wl_v _ (r_pick_t (H.ev rfl) evc) ?_; refine kl H rfl fun a H => ?_
        refine wpList_nil ?_
        refine c_next ?_
        refine c_cond_t H rfl ?_
        refine wp_seq ?_
        refine wp_region_lit ?_
        refine wl_v _ (r_assign evc) ?_; refine kl H rfl fun a H => ?_
        refine wpList_nil ?_
        refine c_next ?_
        refine wp_ret ?_
        refine r_then ?_
        refine r_block ?_
        refine r_then ?_
        refine r_then ?_
        refine r_block ?_
        refine r_then ?_
        exact k_ret1 H rfl rfl ⟨by rw [right_no HY.out hok hl (by rw [HDD.out]; omega)], hall⟩
      · skip
        refine op_unguard _ _ (kg_yes rfl H rfl rfl rfl) ?_; refine wl_v _ (r_ge Try.underlying3 (H.ev rfl) evc (dec_f (c1))) ?_; refine kl H rfl fun a H => ?_
        refine wl_v _ (r_pick_f (H.ev rfl) (H.ev rfl)) ?_; refine kl H rfl fun a H => ?_
        refine wl_v _ (r_move (H.ev rfl)) ?_; refine kl H rfl fun a H => ?_
        refine op_unguard _ _ (kg_yes rfl H rfl rfl rfl) ?_; refine wl_v _ (r_fld (q := 0) fld33_0 (H.ev rfl) rfl) ?_; refine kl H rfl fun a H => ?_
        refine op_unguard _ _ (kg_yes rfl H rfl rfl rfl) ?_; refine wl_v _ (r_ld Try.underlying3 rfl (H.ev rfl) ((Block.cell k1 0).trans rfl)) ?_; refine kl H rfl fun a H => ?_
        by_cases c2 : y.1 ≥ 1073741824
        · skip
          refine op_unguard _ _ (kg_yes rfl H rfl rfl rfl) ?_; refine wl_v _ (r_ge Try.underlying3 (H.ev rfl) evc (dec_t (c2))) ?_; refine kl H rfl fun a H => ?_
          refine wl_v _ (r_pick_f (H.ev rfl) (H.ev rfl)) ?_; refine kl H rfl fun a H => ?_
          refine wpList_nil ?_
          refine c_next ?_
          refine c_cond_t H rfl ?_
          refine wp_seq ?_
          refine wp_region_lit ?_
          refine wl_v _ (r_assign evc) ?_; refine kl H rfl fun a H => ?_
          refine wpList_nil ?_
          refine c_next ?_
          refine wp_ret ?_
          refine r_then ?_
          refine r_block ?_
          refine r_then ?_
          refine r_then ?_
          refine r_block ?_
          refine r_then ?_
          exact k_ret1 H rfl rfl ⟨by rw [right_no HY.out hok hl (by rw [HDD.out]; omega)], hall⟩
        · skip
          refine op_unguard _ _ (kg_yes rfl H rfl rfl rfl) ?_; refine wl_v _ (r_ge Try.underlying3 (H.ev rfl) evc (dec_f (c2))) ?_; refine kl H rfl fun a H => ?_
          refine wl_v _ (r_pick_f (H.ev rfl) (H.ev rfl)) ?_; refine kl H rfl fun a H => ?_
          refine wpList_nil ?_
          refine c_next ?_
          refine c_cond_f H rfl ?_
          refine wp_skip ?_
          refine c_next ?_
          refine wp_region_lit ?_
          refine wl_v _ (r_fld (q := 0) fld33_0 (H.ev rfl) rfl) ?_; refine kl H rfl fun a H => ?_
          refine wl_v _ (r_ld Try.underlying3 rfl (H.ev rfl) ((Block.cell k1 0).trans rfl)) ?_; refine kl H rfl fun a H => ?_
          refine wl_v _ (r_assign (H.ev rfl)) ?_; refine kl H rfl fun a H => ?_
          refine wpList_nil ?_
          refine n_block ?_
          refine c_next ?_
          refine wp_region_lit ?_
          refine wl_v _ (r_add (q := ((k + 1 : Nat) : Int)) Try.underlying3 (H.ev rfl) evc (by omega) (by omega)) ?_; refine kl H rfl fun a H => ?_
          refine wl_v _ (r_move (H.ev rfl)) ?_; refine kl H rfl fun a H => ?_
          refine wpList_nil ?_
          refine n_then ⟨⟨k + 1, y.1, H.pick [1, 3, 9, 10, 11], by omega, .inr ⟨k, y, rfl, HY.out, rfl⟩, ok_next hok hl HY.out (by omega) (by rw [HDD.out]; omega) (by omega), k0, hall⟩, ?_⟩
          rw [H.ev (j := 11) rfl, H0.ev (j := 11) rfl]
          simp only [intOf]
          omega
  · skip
    obtain rfl : k = L.length := by omega
    refine wp_seq ?_
    refine wp_region_lit ?_
    refine wl_v _ (r_lt Try.underlying3 (H.ev rfl) (H.ev rfl) (dec_f (by omega))) ?_; refine kl H rfl fun a H => ?_
    refine wpList_nil ?_
    refine c_next ?_
    refine wp_seq ?_
    refine c_cond_f H rfl ?_
    refine wp_exit ?_
    refine e_then ?_
    refine e_then ?_
    refine e_here ?_
    refine c_next ?_
    refine wp_seq ?_
    refine wp_region_lit ?_
    refine wl_v _ (r_fld (q := 0) fld24_0 (H.ev rfl) rfl) ?_; refine kl H rfl fun a H => ?_
    refine wl_v _ (r_ld Try.underlying3 rfl (H.ev rfl) ((Block.cell k0 0).trans rfl)) ?_; refine kl H rfl fun a H => ?_
    by_cases c3 : n ≥ 1
    · skip
      refine wl_v _ (r_ge Try.underlying3 (H.ev rfl) evc (dec_t (c3))) ?_; refine kl H rfl fun a H => ?_
      refine wl_v _ (r_move (H.ev rfl)) ?_; refine kl H rfl fun a H => ?_
      refine op_unguard _ _ (kg_yes rfl H rfl rfl rfl) ?_; refine wl_v _ (r_fld (q := 0) fld24_0 (H.ev rfl) rfl) ?_; refine kl H rfl fun a H => ?_
      refine op_unguard _ _ (kg_yes rfl H rfl rfl rfl) ?_; refine wl_v _ (r_ld Try.underlying3 rfl (H.ev rfl) ((Block.cell k0 0).trans rfl)) ?_; refine kl H rfl fun a H => ?_
      by_cases c4 : n ≤ 1073741824
      · skip
        refine op_unguard _ _ (kg_yes rfl H rfl rfl rfl) ?_; refine wl_v _ (r_le Try.underlying3 (H.ev rfl) evc (dec_t (c4))) ?_; refine kl H rfl fun a H => ?_
        refine wl_v _ (r_pick_t (H.ev rfl) (H.ev rfl)) ?_; refine kl H rfl fun a H => ?_
        refine wl_v _ (r_assign (H.ev rfl)) ?_; refine kl H rfl fun a H => ?_
        refine wpList_nil ?_
        refine c_next ?_
        refine wp_ret ?_
        exact k_ret1 H rfl rfl ⟨by rw [show rightF n L = true from right_yes hok (by omega) (by omega)], hall⟩
      · skip
        refine op_unguard _ _ (kg_yes rfl H rfl rfl rfl) ?_; refine wl_v _ (r_le Try.underlying3 (H.ev rfl) evc (dec_f (c4))) ?_; refine kl H rfl fun a H => ?_
        refine wl_v _ (r_pick_t (H.ev rfl) (H.ev rfl)) ?_; refine kl H rfl fun a H => ?_
        refine wl_v _ (r_assign (H.ev rfl)) ?_; refine kl H rfl fun a H => ?_
        refine wpList_nil ?_
        refine c_next ?_
        refine wp_ret ?_
        exact k_ret1 H rfl rfl ⟨by rw [show rightF n L = false from right_out (by omega)], hall⟩
    · skip
      refine wl_v _ (r_ge Try.underlying3 (H.ev rfl) evc (dec_f (c3))) ?_; refine kl H rfl fun a H => ?_
      refine wl_v _ (r_move (H.ev rfl)) ?_; refine kl H rfl fun a H => ?_
      refine wl_s (kg_no rfl H rfl rfl rfl) ?_; refine kl H rfl fun a H => ?_
      refine wl_s (kg_no rfl H rfl rfl rfl) ?_; refine kl H rfl fun a H => ?_
      refine wl_s (kg_no rfl H rfl rfl rfl) ?_; refine kl H rfl fun a H => ?_
      refine wl_v _ (r_pick_f (H.ev rfl) evc) ?_; refine kl H rfl fun a H => ?_
      refine wl_v _ (r_assign (H.ev rfl)) ?_; refine kl H rfl fun a H => ?_
      refine wpList_nil ?_
      refine c_next ?_
      refine wp_ret ?_
      exact k_ret1 H rfl rfl ⟨by rw [show rightF n L = false from right_out (by omega)], hall⟩
def Rt17 (W : World) (b0 : Nat) (n : Int) (A : Option Addr) (c : Nat) (L : List It) (a : Act) (w : World) : Prop :=
  ∃ (k : Nat) (l : Int), Kn a 56 [(1, .pointer (some ⟨b0, 0, none⟩)), (3, .int .i64 (k : Nat))] ∧ k ≤ L.length ∧ LastI n L k l ∧ OkTo n L k ∧ Block w b0 24 #[.int .i64 n, .slice A L.length c] ∧ Below W.heap.size W w
set_option maxHeartbeats 4000000 in
theorem rright_any (w : World) (n : Int) (v : Value) (L : List It) (h : IRow w v L) (hn : L.length ≤ 9223372036854775807) :
    Calls Try.prog 17 #[.agg #[.int .i64 n, v]] w fun e w' => e = .returned (.bool (rightF n L)) ∧ Below w.heap.size w w' := by
  obtain ⟨A, c, rfl, h1, h2, h3, hh⟩ := h
  replace hh := Lib.hid hh
  have hall := Below.refl w.heap.size w
  refine K_enter 56 Try.func17 rfl rfl fun a H => ?_
  replace H := H.pick [0]
  refine wp_seq ?_
  refine wp_region_lit ?_
  refine op_box 24 _ #[.int .i64 n, .slice A L.length c] (H.ev rfl) fun w0 b0 hge hb k0 => ?_; have g0 := Nat.le_trans hall.size hge; replace hall := hall.trans (hb.mono hall.size); clear hb; clear hge; refine kl H rfl fun a H => ?_
  refine wl_v _ (r_assign evc) ?_; refine kl H rfl fun a H => ?_
  refine wpList_nil ?_
  refine c_next ?_
  refine wp_seq ?_
  refine wp_seq ?_
  refine wp_region_lit ?_
  refine wl_v _ (r_assign evc) ?_; refine kl H rfl fun a H => ?_
  refine wpList_nil ?_
  refine c_next ?_
  refine wp_block ?_
  refine wp_loop (Rt17 w b0 n A c L) (fun a _ => L.length - (intOf (a.eval (.tmp 3))).toNat) ⟨0, n, H.pick [1, 3], by omega, .inl ⟨rfl, rfl⟩, fun j y hj => by omega, k0, hall⟩ ?_
  clear H hall k0
  rintro a w' ⟨k, l, H, hk, hl, hok, k0, hall⟩
  have H0 := H
  by_cases hlt : k < L.length
  · skip
    obtain ⟨b, o, hA, hr⟩ := flat_some encI_len hh.out (by omega) hlt
    subst hA
    have hy : L[k]? = some L[k] := List.getElem?_eq_getElem hlt
    have HY := Lib.hid hy
    have HRG := Lib.hid hr
    generalize L[k] = y at *
    obtain ⟨d, hd⟩ : ∃ d, IntKind.i64.wrap (y.1 - n) = d := ⟨_, rfl⟩
    have HDD := Lib.hid hd
    clear hy hr hd
    have H := H0
    have hln := last_ge hok hl
    by_cases h0 : k = 0
    · skip
      have hl0 : l = n := by rcases hl with ⟨_, e⟩ | ⟨j, p, e, _⟩; exact e; omega
      refine wp_seq ?_
      refine wp_seq ?_
      refine wp_region_lit ?_
      refine wl_v _ (r_move (H.ev rfl)) ?_; refine kl H rfl fun a H => ?_
      refine wl_v _ (r_fld (q := 1) fld24_1 (H.ev rfl) rfl) ?_; refine kl H rfl fun a H => ?_
      refine wl_v _ (r_ld Try.underlying22 rfl (H.ev rfl) ((Block.cell k0 1).trans rfl)) ?_; refine kl H rfl fun a H => ?_
      refine wl_v _ (r_len Try.underlying22 (H.ev rfl)) ?_; refine kl H rfl fun a H => ?_
      refine wl_v _ (r_lt Try.underlying3 (H.ev rfl) (H.ev rfl) (dec_t (by omega))) ?_; refine kl H rfl fun a H => ?_
      refine wpList_nil ?_
      refine c_next ?_
      refine c_cond_t H rfl ?_
      refine wp_skip ?_
      refine c_next ?_
      refine wp_seq ?_
      refine wp_block ?_
      refine wp_seq ?_
      refine wp_region_lit ?_
      refine wl_v _ (r_fld (q := 1) fld24_1 (H.ev rfl) rfl) ?_; refine kl H rfl fun a H => ?_
      refine wl_v _ (r_ld Try.underlying22 rfl (H.ev rfl) ((Block.cell k0 1).trans rfl)) ?_; refine kl H rfl fun a H => ?_
      refine wl_v _ (r_move (H.ev rfl)) ?_; refine kl H rfl fun a H => ?_
      refine wl_v _ (r_idx (j := k) (q := o + k * 5) Try.underlying22 s33 (H.ev rfl) (H.ev rfl) (by omega) rfl) ?_; refine kl H rfl fun a H => ?_
      refine wl_v _ (r_fld (q := o + k * 5) fld33_0 (H.ev rfl) rfl) ?_; refine kl H rfl fun a H => ?_
      refine wl_v _ (r_ld Try.underlying3 rfl (H.ev rfl) (range_cell (range_ups HRG.out hall) 0 rfl)) ?_; refine kl H rfl fun a H => ?_
      refine wl_v _ (r_assign (H.ev rfl)) ?_; refine kl H rfl fun a H => ?_
      refine wpList_nil ?_
      refine c_next ?_
      refine wp_seq ?_
      refine wp_region_lit ?_
      refine wl_v _ (r_move (H.ev rfl)) ?_; refine kl H rfl fun a H => ?_
      refine wl_v _ (r_fld (q := 0) fld24_0 (H.ev rfl) rfl) ?_; refine kl H rfl fun a H => ?_
      refine wl_v _ (r_ld Try.underlying3 rfl (H.ev rfl) ((Block.cell k0 0).trans rfl)) ?_; refine kl H rfl fun a H => ?_
      by_cases c0 : y.1 ≤ n
      · skip
        refine wl_v _ (r_le Try.underlying3 (H.ev rfl) (H.ev rfl) (dec_t (c0))) ?_; refine kl H rfl fun a H => ?_
        refine wl_v _ (r_move (H.ev rfl)) ?_; refine kl H rfl fun a H => ?_
        refine wl_s (kg_no rfl H rfl rfl rfl) ?_; refine kl H rfl fun a H => ?_
        refine wl_s (kg_no rfl H rfl rfl rfl) ?_; refine kl H rfl fun a H => ?_
        refine wl_s (kg_no rfl H rfl rfl rfl) ?_; refine kl H rfl fun a H => ?_
        refine wl_s (kg_no rfl H rfl rfl rfl) ?_; refine kl H rfl fun a H => ?_
        refine wl_s (kg_no rfl H rfl rfl rfl) ?_; refine kl H rfl fun a H => ?_
        refine wl_v _ (r_pick_t (H.ev rfl) evc) ?_; refine kl H rfl fun a H => ?_
        refine wl_v _ (r_move (H.ev rfl)) ?_; refine kl H rfl fun a H => ?_
        refine wl_s (kg_no rfl H rfl rfl rfl) ?_; refine kl H rfl fun a H => ?_
        refine wl_s (kg_no rfl H rfl rfl rfl) ?_; refine kl H rfl fun a H => ?_
        refine wl_v _ (r_pick_t (H.ev rfl) evc) ?_; refine kl H rfl fun a H => ?_
        refine wl_v _ (r_move (H.ev rfl)) ?_; refine kl H rfl fun a H => ?_
        refine wl_s (kg_no rfl H rfl rfl rfl) ?_; refine kl H rfl fun a H => ?_
        refine wl_s (kg_no rfl H rfl rfl rfl) ?_; refine kl H rfl fun a H => ?_
        refine wl_s (kg_no rfl H rfl rfl rfl) ?_; refine kl H rfl fun a H => ?_
        refine wl_s (kg_un rfl H rfl rfl rfl) ?_; refine kl H rfl fun a H => ?_
        refine wl_s (kg_un rfl H rfl rfl rfl) ?_; refine kl H rfl fun a H => ?_
        refine wl_s (kg_un rfl H rfl rfl rfl) ?_; refine kl H rfl fun a H => ?_
        refine wl_s (kg_un rfl H rfl rfl rfl) ?_; refine kl H rfl fun a H => ?_
        refine wl_s (kg_un rfl H rfl rfl rfl) ?_; refine kl H rfl fun a H => ?_
        refine wl_s (kg_un rfl H rfl rfl rfl) ?_; refine kl H rfl fun a H => ?_
        refine wl_s (kg_un rfl H rfl rfl rfl) ?_; refine kl H rfl fun a H => ?_
        refine wl_s (kg_un rfl H rfl rfl rfl) ?_; refine kl H rfl fun a H => ?_
        refine wl_s (kg_un rfl H rfl rfl rfl) ?_; refine kl H rfl fun a H => ?_
        refine wl_s (kg_no rfl H rfl rfl rfl) ?_; refine kl H rfl fun a H => ?_
        refine wl_v _ (r_pick_t (H.ev rfl) evc) ?_; refine kl H rfl fun a H => ?_
        refine wpList_nil ?_
        refine c_next ?_
        refine c_cond_t H rfl ?_
        refine wp_seq ?_
        refine wp_region_lit ?_
        refine wl_v _ (r_assign evc) ?_; refine kl H rfl fun a H => ?_
        refine wpList_nil ?_
        refine c_next ?_
        refine wp_ret ?_
        refine r_block ?_
        refine r_then ?_
        refine r_then ?_
        refine r_block ?_
        refine r_then ?_
        exact k_ret1 H rfl rfl ⟨by rw [right_no HY.out hok hl (by rw [HDD.out]; omega)], hall⟩
      · skip
        refine wl_v _ (r_le Try.underlying3 (H.ev rfl) (H.ev rfl) (dec_f (c0))) ?_; refine kl H rfl fun a H => ?_
        refine wl_v _ (r_move (H.ev rfl)) ?_; refine kl H rfl fun a H => ?_
        refine op_unguard _ _ (kg_yes rfl H rfl rfl rfl) ?_; refine wl_v _ (r_move (H.ev rfl)) ?_; refine kl H rfl fun a H => ?_
        refine op_unguard _ _ (kg_yes rfl H rfl rfl rfl) ?_; refine wl_v _ (r_fld (q := 0) fld24_0 (H.ev rfl) rfl) ?_; refine kl H rfl fun a H => ?_
        refine op_unguard _ _ (kg_yes rfl H rfl rfl rfl) ?_; refine wl_v _ (r_ld Try.underlying3 rfl (H.ev rfl) ((Block.cell k0 0).trans rfl)) ?_; refine kl H rfl fun a H => ?_
        refine op_unguard _ _ (kg_yes rfl H rfl rfl rfl) ?_; refine wl_v (.int .i64 d) (r_subw Try.underlying3 (H.ev rfl) (H.ev rfl) HDD.out) ?_; refine kl H rfl fun a H => ?_
        by_cases c1 : d ≥ 8
        · skip
          refine op_unguard _ _ (kg_yes rfl H rfl rfl rfl) ?_; refine wl_v _ (r_ge Try.underlying3 (H.ev rfl) evc (dec_t (c1))) ?_; refine kl H rfl fun a H => ?_
          refine wl_v _ (r_pick_f (H.ev rfl) (H.ev rfl)) ?_; refine kl H rfl fun a H => ?_
          refine wl_v _ (r_move (H.ev rfl)) ?_; refine kl H rfl fun a H => ?_
          refine wl_s (kg_no rfl H rfl rfl rfl) ?_; refine kl H rfl fun a H => ?_
          refine wl_s (kg_no rfl H rfl rfl rfl) ?_; refine kl H rfl fun a H => ?_
          refine wl_v _ (r_pick_t (H.ev rfl) evc) ?_; refine kl H rfl fun a H => ?_
          refine wl_v _ (r_move (H.ev rfl)) ?_; refine kl H rfl fun a H => ?_
          refine wl_s (kg_no rfl H rfl rfl rfl) ?_; refine kl H rfl fun a H => ?_
          refine wl_s (kg_no rfl H rfl rfl rfl) ?_; refine kl H rfl fun a H => ?_
          refine wl_s (kg_no rfl H rfl rfl rfl) ?_; refine kl H rfl fun a H => ?_
          refine wl_s (kg_un rfl H rfl rfl rfl) ?_; refine kl H rfl fun a H => ?_
          refine wl_s (kg_un rfl H rfl rfl rfl) ?_; refine kl H rfl fun a H => ?_
          refine wl_s (kg_un rfl H rfl rfl rfl) ?_; refine kl H rfl fun a H => ?_
          refine wl_s (kg_un rfl H rfl rfl rfl) ?_; refine kl H rfl fun a H => ?_
          refine wl_s (kg_un rfl H rfl rfl rfl) ?_; refine kl H rfl fun a H => ?_
          refine wl_s (kg_un rfl H rfl rfl rfl) ?_; refine kl H rfl fun a H => ?_
          refine wl_s (kg_un rfl H rfl rfl rfl) ?_; refine kl H rfl fun a H => ?_
          refine wl_s (kg_un rfl H rfl rfl rfl) ?_; refine kl H rfl fun a H => ?_
          refine wl_s (kg_un rfl H rfl rfl rfl) ?_; refine kl H rfl fun a H => ?_
          refine wl_s (kg_no rfl H rfl rfl rfl) ?_; refine kl H rfl fun a H => ?_
          refine wl_v _ (r_pick_t (H.ev rfl) evc) ?_; refine kl H rfl fun a H => ?_
          refine wpList_nil ?_
          refine c_next ?_
          refine c_cond_t H rfl ?_
          refine wp_seq ?_
          refine wp_region_lit ?_
          refine wl_v _ (r_assign evc) ?_; refine kl H rfl fun a H => ?_
          refine wpList_nil ?_
          refine c_next ?_
          refine wp_ret ?_
          refine r_block ?_
          refine r_then ?_
          refine r_then ?_
          refine r_block ?_
          refine r_then ?_
          exact k_ret1 H rfl rfl ⟨by rw [right_no HY.out hok hl (by rw [HDD.out]; omega)], hall⟩
        · skip
          refine op_unguard _ _ (kg_yes rfl H rfl rfl rfl) ?_; refine wl_v _ (r_ge Try.underlying3 (H.ev rfl) evc (dec_f (c1))) ?_; refine kl H rfl fun a H => ?_
          refine wl_v _ (r_pick_f (H.ev rfl) (H.ev rfl)) ?_; refine kl H rfl fun a H => ?_
          refine wl_v _ (r_move (H.ev rfl)) ?_; refine kl H rfl fun a H => ?_
          refine op_unguard _ _ (kg_yes rfl H rfl rfl rfl) ?_; refine wl_v _ (r_move (H.ev rfl)) ?_; refine kl H rfl fun a H => ?_
          by_cases c2 : y.1 ≥ 1073741824
          · skip
            refine op_unguard _ _ (kg_yes rfl H rfl rfl rfl) ?_; refine wl_v _ (r_ge Try.underlying3 (H.ev rfl) evc (dec_t (c2))) ?_; refine kl H rfl fun a H => ?_
            refine wl_v _ (r_pick_f (H.ev rfl) (H.ev rfl)) ?_; refine kl H rfl fun a H => ?_
            refine wl_v _ (r_move (H.ev rfl)) ?_; refine kl H rfl fun a H => ?_
            refine wl_s (kg_no rfl H rfl rfl rfl) ?_; refine kl H rfl fun a H => ?_
            refine wl_s (kg_no rfl H rfl rfl rfl) ?_; refine kl H rfl fun a H => ?_
            refine wl_s (kg_no rfl H rfl rfl rfl) ?_; refine kl H rfl fun a H => ?_
            refine wl_s (kg_un rfl H rfl rfl rfl) ?_; refine kl H rfl fun a H => ?_
            refine wl_s (kg_un rfl H rfl rfl rfl) ?_; refine kl H rfl fun a H => ?_
            refine wl_s (kg_un rfl H rfl rfl rfl) ?_; refine kl H rfl fun a H => ?_
            refine wl_s (kg_un rfl H rfl rfl rfl) ?_; refine kl H rfl fun a H => ?_
            refine wl_s (kg_un rfl H rfl rfl rfl) ?_; refine kl H rfl fun a H => ?_
            refine wl_s (kg_un rfl H rfl rfl rfl) ?_; refine kl H rfl fun a H => ?_
            refine wl_s (kg_un rfl H rfl rfl rfl) ?_; refine kl H rfl fun a H => ?_
            refine wl_s (kg_un rfl H rfl rfl rfl) ?_; refine kl H rfl fun a H => ?_
            refine wl_s (kg_un rfl H rfl rfl rfl) ?_; refine kl H rfl fun a H => ?_
            refine wl_s (kg_no rfl H rfl rfl rfl) ?_; refine kl H rfl fun a H => ?_
            refine wl_v _ (r_pick_t (H.ev rfl) evc) ?_; refine kl H rfl fun a H => ?_
            refine wpList_nil ?_
            refine c_next ?_
            refine c_cond_t H rfl ?_
            refine wp_seq ?_
            refine wp_region_lit ?_
            refine wl_v _ (r_assign evc) ?_; refine kl H rfl fun a H => ?_
            refine wpList_nil ?_
            refine c_next ?_
            refine wp_ret ?_
            refine r_block ?_
            refine r_then ?_
            refine r_then ?_
            refine r_block ?_
            refine r_then ?_
            exact k_ret1 H rfl rfl ⟨by rw [right_no HY.out hok hl (by rw [HDD.out]; omega)], hall⟩
          · skip
            refine op_unguard _ _ (kg_yes rfl H rfl rfl rfl) ?_; refine wl_v _ (r_ge Try.underlying3 (H.ev rfl) evc (dec_f (c2))) ?_; refine kl H rfl fun a H => ?_
            refine wl_v _ (r_pick_f (H.ev rfl) (H.ev rfl)) ?_; refine kl H rfl fun a H => ?_
            refine wl_v _ (r_move (H.ev rfl)) ?_; refine kl H rfl fun a H => ?_
            refine op_unguard _ _ (kg_yes rfl H rfl rfl rfl) ?_; refine wl_v _ (r_move (H.ev rfl)) ?_; refine kl H rfl fun a H => ?_
            refine op_unguard _ _ (kg_yes rfl H rfl rfl rfl) ?_; refine wl_v _ (r_gt Try.underlying3 (H.ev rfl) evc (dec_f (by omega))) ?_; refine kl H rfl fun a H => ?_
            refine op_unguard _ _ (kg_yes rfl H rfl rfl rfl) ?_; refine wl_v _ (r_move (H.ev rfl)) ?_; refine kl H rfl fun a H => ?_
            refine wl_s (kg_no rfl H rfl rfl rfl) ?_; refine kl H rfl fun a H => ?_
            refine wl_s (kg_no rfl H rfl rfl rfl) ?_; refine kl H rfl fun a H => ?_
            refine wl_s (kg_no rfl H rfl rfl rfl) ?_; refine kl H rfl fun a H => ?_
            refine wl_s (kg_no rfl H rfl rfl rfl) ?_; refine kl H rfl fun a H => ?_
            refine wl_s (kg_no rfl H rfl rfl rfl) ?_; refine kl H rfl fun a H => ?_
            refine wl_s (kg_no rfl H rfl rfl rfl) ?_; refine kl H rfl fun a H => ?_
            refine wl_s (kg_no rfl H rfl rfl rfl) ?_; refine kl H rfl fun a H => ?_
            refine wl_s (kg_no rfl H rfl rfl rfl) ?_; refine kl H rfl fun a H => ?_
            refine wl_s (kg_no rfl H rfl rfl rfl) ?_; refine kl H rfl fun a H => ?_
            refine op_unguard _ _ (kg_yes rfl H rfl rfl rfl) ?_; refine wl_v _ (r_pick_f (H.ev rfl) evc) ?_; refine kl H rfl fun a H => ?_
            refine wl_v _ (r_pick_f (H.ev rfl) (H.ev rfl)) ?_; refine kl H rfl fun a H => ?_
            refine wpList_nil ?_
            refine c_next ?_
            refine c_cond_f H rfl ?_
            refine wp_skip ?_
            refine n_block ?_
            refine c_next ?_
            refine wp_region_lit ?_
            refine wl_v _ (r_move (H.ev rfl)) ?_; refine kl H rfl fun a H => ?_
            refine wl_v _ (r_add (q := ((k + 1 : Nat) : Int)) Try.underlying3 (H.ev rfl) evc (by omega) (by omega)) ?_; refine kl H rfl fun a H => ?_
            refine wl_v _ (r_assign (H.ev rfl)) ?_; refine kl H rfl fun a H => ?_
            refine wpList_nil ?_
            refine n_then ⟨⟨k + 1, y.1, H.pick [1, 3], by omega, .inr ⟨k, y, rfl, HY.out, rfl⟩, ok_next hok hl HY.out (by omega) (by rw [HDD.out]; omega) (by omega), k0, hall⟩, ?_⟩
            rw [H.ev (j := 3) rfl, H0.ev (j := 3) rfl]
            simp only [intOf]
            omega
    · skip
      obtain ⟨j, p, hj, hp, hlp⟩ : ∃ j p, k = j + 1 ∧ L[j]? = some p ∧ l = p.1 := by rcases hl with ⟨e, _⟩ | h; exact absurd e h0; exact h
      have hjl := (List.getElem?_eq_some_iff.1 hp).1
      have hrp := flat_range encI_len hh.out rfl hjl
      rw [(List.getElem?_eq_some_iff.1 hp).2] at hrp
      have HP := Lib.hid hrp
      clear hrp h0
      refine wp_seq ?_
      refine wp_seq ?_
      refine wp_region_lit ?_
      refine wl_v _ (r_move (H.ev rfl)) ?_; refine kl H rfl fun a H => ?_
      refine wl_v _ (r_fld (q := 1) fld24_1 (H.ev rfl) rfl) ?_; refine kl H rfl fun a H => ?_
      refine wl_v _ (r_ld Try.underlying22 rfl (H.ev rfl) ((Block.cell k0 1).trans rfl)) ?_; refine kl H rfl fun a H => ?_
      refine wl_v _ (r_len Try.underlying22 (H.ev rfl)) ?_; refine kl H rfl fun a H => ?_
      refine wl_v _ (r_lt Try.underlying3 (H.ev rfl) (H.ev rfl) (dec_t (by omega))) ?_; refine kl H rfl fun a H => ?_
      refine wpList_nil ?_
      refine c_next ?_
      refine c_cond_t H rfl ?_
      refine wp_skip ?_
      refine c_next ?_
      refine wp_seq ?_
      refine wp_block ?_
      refine wp_seq ?_
      refine wp_region_lit ?_
      refine wl_v _ (r_fld (q := 1) fld24_1 (H.ev rfl) rfl) ?_; refine kl H rfl fun a H => ?_
      refine wl_v _ (r_ld Try.underlying22 rfl (H.ev rfl) ((Block.cell k0 1).trans rfl)) ?_; refine kl H rfl fun a H => ?_
      refine wl_v _ (r_move (H.ev rfl)) ?_; refine kl H rfl fun a H => ?_
      refine wl_v _ (r_idx (j := k) (q := o + k * 5) Try.underlying22 s33 (H.ev rfl) (H.ev rfl) (by omega) rfl) ?_; refine kl H rfl fun a H => ?_
      refine wl_v _ (r_fld (q := o + k * 5) fld33_0 (H.ev rfl) rfl) ?_; refine kl H rfl fun a H => ?_
      refine wl_v _ (r_ld Try.underlying3 rfl (H.ev rfl) (range_cell (range_ups HRG.out hall) 0 rfl)) ?_; refine kl H rfl fun a H => ?_
      refine wl_v _ (r_assign (H.ev rfl)) ?_; refine kl H rfl fun a H => ?_
      refine wpList_nil ?_
      refine c_next ?_
      refine wp_seq ?_
      refine wp_region_lit ?_
      refine wl_v _ (r_move (H.ev rfl)) ?_; refine kl H rfl fun a H => ?_
      refine wl_v _ (r_fld (q := 0) fld24_0 (H.ev rfl) rfl) ?_; refine kl H rfl fun a H => ?_
      refine wl_v _ (r_ld Try.underlying3 rfl (H.ev rfl) ((Block.cell k0 0).trans rfl)) ?_; refine kl H rfl fun a H => ?_
      by_cases c3 : y.1 ≤ n
      · skip
        refine wl_v _ (r_le Try.underlying3 (H.ev rfl) (H.ev rfl) (dec_t (c3))) ?_; refine kl H rfl fun a H => ?_
        refine wl_v _ (r_move (H.ev rfl)) ?_; refine kl H rfl fun a H => ?_
        refine wl_s (kg_no rfl H rfl rfl rfl) ?_; refine kl H rfl fun a H => ?_
        refine wl_s (kg_no rfl H rfl rfl rfl) ?_; refine kl H rfl fun a H => ?_
        refine wl_s (kg_no rfl H rfl rfl rfl) ?_; refine kl H rfl fun a H => ?_
        refine wl_s (kg_no rfl H rfl rfl rfl) ?_; refine kl H rfl fun a H => ?_
        refine wl_s (kg_no rfl H rfl rfl rfl) ?_; refine kl H rfl fun a H => ?_
        refine wl_v _ (r_pick_t (H.ev rfl) evc) ?_; refine kl H rfl fun a H => ?_
        refine wl_v _ (r_move (H.ev rfl)) ?_; refine kl H rfl fun a H => ?_
        refine wl_s (kg_no rfl H rfl rfl rfl) ?_; refine kl H rfl fun a H => ?_
        refine wl_s (kg_no rfl H rfl rfl rfl) ?_; refine kl H rfl fun a H => ?_
        refine wl_v _ (r_pick_t (H.ev rfl) evc) ?_; refine kl H rfl fun a H => ?_
        refine wl_v _ (r_move (H.ev rfl)) ?_; refine kl H rfl fun a H => ?_
        refine wl_s (kg_no rfl H rfl rfl rfl) ?_; refine kl H rfl fun a H => ?_
        refine wl_s (kg_no rfl H rfl rfl rfl) ?_; refine kl H rfl fun a H => ?_
        refine wl_s (kg_no rfl H rfl rfl rfl) ?_; refine kl H rfl fun a H => ?_
        refine wl_s (kg_un rfl H rfl rfl rfl) ?_; refine kl H rfl fun a H => ?_
        refine wl_s (kg_un rfl H rfl rfl rfl) ?_; refine kl H rfl fun a H => ?_
        refine wl_s (kg_un rfl H rfl rfl rfl) ?_; refine kl H rfl fun a H => ?_
        refine wl_s (kg_un rfl H rfl rfl rfl) ?_; refine kl H rfl fun a H => ?_
        refine wl_s (kg_un rfl H rfl rfl rfl) ?_; refine kl H rfl fun a H => ?_
        refine wl_s (kg_un rfl H rfl rfl rfl) ?_; refine kl H rfl fun a H => ?_
        refine wl_s (kg_un rfl H rfl rfl rfl) ?_; refine kl H rfl fun a H => ?_
        refine wl_s (kg_un rfl H rfl rfl rfl) ?_; refine kl H rfl fun a H => ?_
        refine wl_s (kg_un rfl H rfl rfl rfl) ?_; refine kl H rfl fun a H => ?_
        refine wl_s (kg_no rfl H rfl rfl rfl) ?_; refine kl H rfl fun a H => ?_
        refine wl_v _ (r_pick_t (H.ev rfl) evc) ?_; refine kl H rfl fun a H => ?_
        refine wpList_nil ?_
        refine c_next ?_
        refine c_cond_t H rfl ?_
        refine wp_seq ?_
        refine wp_region_lit ?_
        refine wl_v _ (r_assign evc) ?_; refine kl H rfl fun a H => ?_
        refine wpList_nil ?_
        refine c_next ?_
        refine wp_ret ?_
        refine r_block ?_
        refine r_then ?_
        refine r_then ?_
        refine r_block ?_
        refine r_then ?_
        exact k_ret1 H rfl rfl ⟨by rw [right_no HY.out hok hl (by rw [HDD.out]; omega)], hall⟩
      · skip
        refine wl_v _ (r_le Try.underlying3 (H.ev rfl) (H.ev rfl) (dec_f (c3))) ?_; refine kl H rfl fun a H => ?_
        refine wl_v _ (r_move (H.ev rfl)) ?_; refine kl H rfl fun a H => ?_
        refine op_unguard _ _ (kg_yes rfl H rfl rfl rfl) ?_; refine wl_v _ (r_move (H.ev rfl)) ?_; refine kl H rfl fun a H => ?_
        refine op_unguard _ _ (kg_yes rfl H rfl rfl rfl) ?_; refine wl_v _ (r_fld (q := 0) fld24_0 (H.ev rfl) rfl) ?_; refine kl H rfl fun a H => ?_
        refine op_unguard _ _ (kg_yes rfl H rfl rfl rfl) ?_; refine wl_v _ (r_ld Try.underlying3 rfl (H.ev rfl) ((Block.cell k0 0).trans rfl)) ?_; refine kl H rfl fun a H => ?_
        refine op_unguard _ _ (kg_yes rfl H rfl rfl rfl) ?_; refine wl_v (.int .i64 d) (r_subw Try.underlying3 (H.ev rfl) (H.ev rfl) HDD.out) ?_; refine kl H rfl fun a H => ?_
        by_cases c4 : d ≥ 8
        · skip
          refine op_unguard _ _ (kg_yes rfl H rfl rfl rfl) ?_; refine wl_v _ (r_ge Try.underlying3 (H.ev rfl) evc (dec_t (c4))) ?_; refine kl H rfl fun a H => ?_
          refine wl_v _ (r_pick_f (H.ev rfl) (H.ev rfl)) ?_; refine kl H rfl fun a H => ?_
          refine wl_v _ (r_move (H.ev rfl)) ?_; refine kl H rfl fun a H => ?_
          refine wl_s (kg_no rfl H rfl rfl rfl) ?_; refine kl H rfl fun a H => ?_
          refine wl_s (kg_no rfl H rfl rfl rfl) ?_; refine kl H rfl fun a H => ?_
          refine wl_v _ (r_pick_t (H.ev rfl) evc) ?_; refine kl H rfl fun a H => ?_
          refine wl_v _ (r_move (H.ev rfl)) ?_; refine kl H rfl fun a H => ?_
          refine wl_s (kg_no rfl H rfl rfl rfl) ?_; refine kl H rfl fun a H => ?_
          refine wl_s (kg_no rfl H rfl rfl rfl) ?_; refine kl H rfl fun a H => ?_
          refine wl_s (kg_no rfl H rfl rfl rfl) ?_; refine kl H rfl fun a H => ?_
          refine wl_s (kg_un rfl H rfl rfl rfl) ?_; refine kl H rfl fun a H => ?_
          refine wl_s (kg_un rfl H rfl rfl rfl) ?_; refine kl H rfl fun a H => ?_
          refine wl_s (kg_un rfl H rfl rfl rfl) ?_; refine kl H rfl fun a H => ?_
          refine wl_s (kg_un rfl H rfl rfl rfl) ?_; refine kl H rfl fun a H => ?_
          refine wl_s (kg_un rfl H rfl rfl rfl) ?_; refine kl H rfl fun a H => ?_
          refine wl_s (kg_un rfl H rfl rfl rfl) ?_; refine kl H rfl fun a H => ?_
          refine wl_s (kg_un rfl H rfl rfl rfl) ?_; refine kl H rfl fun a H => ?_
          refine wl_s (kg_un rfl H rfl rfl rfl) ?_; refine kl H rfl fun a H => ?_
          refine wl_s (kg_un rfl H rfl rfl rfl) ?_; refine kl H rfl fun a H => ?_
          refine wl_s (kg_no rfl H rfl rfl rfl) ?_; refine kl H rfl fun a H => ?_
          refine wl_v _ (r_pick_t (H.ev rfl) evc) ?_; refine kl H rfl fun a H => ?_
          refine wpList_nil ?_
          refine c_next ?_
          refine c_cond_t H rfl ?_
          refine wp_seq ?_
          refine wp_region_lit ?_
          refine wl_v _ (r_assign evc) ?_; refine kl H rfl fun a H => ?_
          refine wpList_nil ?_
          refine c_next ?_
          refine wp_ret ?_
          refine r_block ?_
          refine r_then ?_
          refine r_then ?_
          refine r_block ?_
          refine r_then ?_
          exact k_ret1 H rfl rfl ⟨by rw [right_no HY.out hok hl (by rw [HDD.out]; omega)], hall⟩
        · skip
          refine op_unguard _ _ (kg_yes rfl H rfl rfl rfl) ?_; refine wl_v _ (r_ge Try.underlying3 (H.ev rfl) evc (dec_f (c4))) ?_; refine kl H rfl fun a H => ?_
          refine wl_v _ (r_pick_f (H.ev rfl) (H.ev rfl)) ?_; refine kl H rfl fun a H => ?_
          refine wl_v _ (r_move (H.ev rfl)) ?_; refine kl H rfl fun a H => ?_
          refine op_unguard _ _ (kg_yes rfl H rfl rfl rfl) ?_; refine wl_v _ (r_move (H.ev rfl)) ?_; refine kl H rfl fun a H => ?_
          by_cases c5 : y.1 ≥ 1073741824
          · skip
            refine op_unguard _ _ (kg_yes rfl H rfl rfl rfl) ?_; refine wl_v _ (r_ge Try.underlying3 (H.ev rfl) evc (dec_t (c5))) ?_; refine kl H rfl fun a H => ?_
            refine wl_v _ (r_pick_f (H.ev rfl) (H.ev rfl)) ?_; refine kl H rfl fun a H => ?_
            refine wl_v _ (r_move (H.ev rfl)) ?_; refine kl H rfl fun a H => ?_
            refine wl_s (kg_no rfl H rfl rfl rfl) ?_; refine kl H rfl fun a H => ?_
            refine wl_s (kg_no rfl H rfl rfl rfl) ?_; refine kl H rfl fun a H => ?_
            refine wl_s (kg_no rfl H rfl rfl rfl) ?_; refine kl H rfl fun a H => ?_
            refine wl_s (kg_un rfl H rfl rfl rfl) ?_; refine kl H rfl fun a H => ?_
            refine wl_s (kg_un rfl H rfl rfl rfl) ?_; refine kl H rfl fun a H => ?_
            refine wl_s (kg_un rfl H rfl rfl rfl) ?_; refine kl H rfl fun a H => ?_
            refine wl_s (kg_un rfl H rfl rfl rfl) ?_; refine kl H rfl fun a H => ?_
            refine wl_s (kg_un rfl H rfl rfl rfl) ?_; refine kl H rfl fun a H => ?_
            refine wl_s (kg_un rfl H rfl rfl rfl) ?_; refine kl H rfl fun a H => ?_
            refine wl_s (kg_un rfl H rfl rfl rfl) ?_; refine kl H rfl fun a H => ?_
            refine wl_s (kg_un rfl H rfl rfl rfl) ?_; refine kl H rfl fun a H => ?_
            refine wl_s (kg_un rfl H rfl rfl rfl) ?_; refine kl H rfl fun a H => ?_
            refine wl_s (kg_no rfl H rfl rfl rfl) ?_; refine kl H rfl fun a H => ?_
            refine wl_v _ (r_pick_t (H.ev rfl) evc) ?_; refine kl H rfl fun a H => ?_
            refine wpList_nil ?_
            refine c_next ?_
            refine c_cond_t H rfl ?_
            refine wp_seq ?_
            refine wp_region_lit ?_
            refine wl_v _ (r_assign evc) ?_; refine kl H rfl fun a H => ?_
            refine wpList_nil ?_
            refine c_next ?_
            refine wp_ret ?_
            refine r_block ?_
            refine r_then ?_
            refine r_then ?_
            refine r_block ?_
            refine r_then ?_
            exact k_ret1 H rfl rfl ⟨by rw [right_no HY.out hok hl (by rw [HDD.out]; omega)], hall⟩
          · skip
            refine op_unguard _ _ (kg_yes rfl H rfl rfl rfl) ?_; refine wl_v _ (r_ge Try.underlying3 (H.ev rfl) evc (dec_f (c5))) ?_; refine kl H rfl fun a H => ?_
            refine wl_v _ (r_pick_f (H.ev rfl) (H.ev rfl)) ?_; refine kl H rfl fun a H => ?_
            refine wl_v _ (r_move (H.ev rfl)) ?_; refine kl H rfl fun a H => ?_
            refine op_unguard _ _ (kg_yes rfl H rfl rfl rfl) ?_; refine wl_v _ (r_move (H.ev rfl)) ?_; refine kl H rfl fun a H => ?_
            refine op_unguard _ _ (kg_yes rfl H rfl rfl rfl) ?_; refine wl_v _ (r_gt Try.underlying3 (H.ev rfl) evc (dec_t (by omega))) ?_; refine kl H rfl fun a H => ?_
            refine op_unguard _ _ (kg_yes rfl H rfl rfl rfl) ?_; refine wl_v _ (r_move (H.ev rfl)) ?_; refine kl H rfl fun a H => ?_
            refine op_unguard _ _ (kg_yes rfl H rfl rfl rfl) ?_; refine wl_v _ (r_move (H.ev rfl)) ?_; refine kl H rfl fun a H => ?_
            refine op_unguard _ _ (kg_yes rfl H rfl rfl rfl) ?_; refine wl_v _ (r_fld (q := 1) fld24_1 (H.ev rfl) rfl) ?_; refine kl H rfl fun a H => ?_
            refine op_unguard _ _ (kg_yes rfl H rfl rfl rfl) ?_; refine wl_v _ (r_ld Try.underlying22 rfl (H.ev rfl) ((Block.cell k0 1).trans rfl)) ?_; refine kl H rfl fun a H => ?_
            refine op_unguard _ _ (kg_yes rfl H rfl rfl rfl) ?_; refine wl_v _ (r_move (H.ev rfl)) ?_; refine kl H rfl fun a H => ?_
            refine op_unguard _ _ (kg_yes rfl H rfl rfl rfl) ?_; refine wl_v (.int .i64 (j : Nat)) (r_sub (q := ((j : Nat) : Int)) Try.underlying3 (H.ev rfl) evc (by omega) (by omega)) ?_; refine kl H rfl fun a H => ?_
            refine op_unguard _ _ (kg_yes rfl H rfl rfl rfl) ?_; refine wl_v _ (r_idx (j := j) (q := o + j * 5) Try.underlying22 s33 (H.ev rfl) (H.ev rfl) (by omega) rfl) ?_; refine kl H rfl fun a H => ?_
            refine op_unguard _ _ (kg_yes rfl H rfl rfl rfl) ?_; refine wl_v _ (r_fld (q := o + j * 5) fld33_0 (H.ev rfl) rfl) ?_; refine kl H rfl fun a H => ?_
            refine op_unguard _ _ (kg_yes rfl H rfl rfl rfl) ?_; refine wl_v _ (r_ld Try.underlying3 rfl (H.ev rfl) (range_cell (range_ups HP.out hall) 0 rfl)) ?_; refine kl H rfl fun a H => ?_
            by_cases c6 : y.1 ≤ p.1
            · skip
              refine op_unguard _ _ (kg_yes rfl H rfl rfl rfl) ?_; refine wl_v _ (r_le Try.underlying3 (H.ev rfl) (H.ev rfl) (dec_t (c6))) ?_; refine kl H rfl fun a H => ?_
              refine op_unguard _ _ (kg_yes rfl H rfl rfl rfl) ?_; refine wl_v _ (r_pick_t (H.ev rfl) (H.ev rfl)) ?_; refine kl H rfl fun a H => ?_
              refine wl_v _ (r_pick_f (H.ev rfl) (H.ev rfl)) ?_; refine kl H rfl fun a H => ?_
              refine wpList_nil ?_
              refine c_next ?_
              refine c_cond_t H rfl ?_
              refine wp_seq ?_
              refine wp_region_lit ?_
              refine wl_v _ (r_assign evc) ?_; refine kl H rfl fun a H => ?_
              refine wpList_nil ?_
              refine c_next ?_
              refine wp_ret ?_
              refine r_block ?_
              refine r_then ?_
              refine r_then ?_
              refine r_block ?_
              refine r_then ?_
              exact k_ret1 H rfl rfl ⟨by rw [right_no HY.out hok hl (by rw [HDD.out]; omega)], hall⟩
            · skip
              refine op_unguard _ _ (kg_yes rfl H rfl rfl rfl) ?_; refine wl_v _ (r_le Try.underlying3 (H.ev rfl) (H.ev rfl) (dec_f (c6))) ?_; refine kl H rfl fun a H => ?_
              refine op_unguard _ _ (kg_yes rfl H rfl rfl rfl) ?_; refine wl_v _ (r_pick_t (H.ev rfl) (H.ev rfl)) ?_; refine kl H rfl fun a H => ?_
              refine wl_v _ (r_pick_f (H.ev rfl) (H.ev rfl)) ?_; refine kl H rfl fun a H => ?_
              refine wpList_nil ?_
              refine c_next ?_
              refine c_cond_f H rfl ?_
              refine wp_skip ?_
              refine n_block ?_
              refine c_next ?_
              refine wp_region_lit ?_
              refine wl_v _ (r_move (H.ev rfl)) ?_; refine kl H rfl fun a H => ?_
              refine wl_v _ (r_add (q := ((k + 1 : Nat) : Int)) Try.underlying3 (H.ev rfl) evc (by omega) (by omega)) ?_; refine kl H rfl fun a H => ?_
              refine wl_v _ (r_assign (H.ev rfl)) ?_; refine kl H rfl fun a H => ?_
              refine wpList_nil ?_
              refine n_then ⟨⟨k + 1, y.1, H.pick [1, 3], by omega, .inr ⟨k, y, rfl, HY.out, rfl⟩, ok_next hok hl HY.out (by omega) (by rw [HDD.out]; omega) (by omega), k0, hall⟩, ?_⟩
              rw [H.ev (j := 3) rfl, H0.ev (j := 3) rfl]
              simp only [intOf]
              omega
  · skip
    obtain rfl : k = L.length := by omega
    refine wp_seq ?_
    refine wp_seq ?_
    refine wp_region_lit ?_
    refine wl_v _ (r_move (H.ev rfl)) ?_; refine kl H rfl fun a H => ?_
    refine wl_v _ (r_fld (q := 1) fld24_1 (H.ev rfl) rfl) ?_; refine kl H rfl fun a H => ?_
    refine wl_v _ (r_ld Try.underlying22 rfl (H.ev rfl) ((Block.cell k0 1).trans rfl)) ?_; refine kl H rfl fun a H => ?_
    refine wl_v _ (r_len Try.underlying22 (H.ev rfl)) ?_; refine kl H rfl fun a H => ?_
    refine wl_v _ (r_lt Try.underlying3 (H.ev rfl) (H.ev rfl) (dec_f (by omega))) ?_; refine kl H rfl fun a H => ?_
    refine wpList_nil ?_
    refine c_next ?_
    refine c_cond_f H rfl ?_
    refine wp_exit ?_
    refine e_then ?_
    refine e_then ?_
    refine e_here ?_
    refine c_next ?_
    refine wp_seq ?_
    refine wp_region_lit ?_
    refine wl_v _ (r_fld (q := 0) fld24_0 (H.ev rfl) rfl) ?_; refine kl H rfl fun a H => ?_
    refine wl_v _ (r_ld Try.underlying3 rfl (H.ev rfl) ((Block.cell k0 0).trans rfl)) ?_; refine kl H rfl fun a H => ?_
    by_cases c7 : n ≥ 1
    · skip
      refine wl_v _ (r_ge Try.underlying3 (H.ev rfl) evc (dec_t (c7))) ?_; refine kl H rfl fun a H => ?_
      refine wl_v _ (r_move (H.ev rfl)) ?_; refine kl H rfl fun a H => ?_
      refine op_unguard _ _ (kg_yes rfl H rfl rfl rfl) ?_; refine wl_v _ (r_fld (q := 0) fld24_0 (H.ev rfl) rfl) ?_; refine kl H rfl fun a H => ?_
      refine op_unguard _ _ (kg_yes rfl H rfl rfl rfl) ?_; refine wl_v _ (r_ld Try.underlying3 rfl (H.ev rfl) ((Block.cell k0 0).trans rfl)) ?_; refine kl H rfl fun a H => ?_
      by_cases c8 : n ≤ 1073741824
      · skip
        refine op_unguard _ _ (kg_yes rfl H rfl rfl rfl) ?_; refine wl_v _ (r_le Try.underlying3 (H.ev rfl) evc (dec_t (c8))) ?_; refine kl H rfl fun a H => ?_
        refine wl_v _ (r_pick_t (H.ev rfl) (H.ev rfl)) ?_; refine kl H rfl fun a H => ?_
        refine wl_v _ (r_assign (H.ev rfl)) ?_; refine kl H rfl fun a H => ?_
        refine wpList_nil ?_
        refine c_next ?_
        refine wp_ret ?_
        exact k_ret1 H rfl rfl ⟨by rw [show rightF n L = true from right_yes hok (by omega) (by omega)], hall⟩
      · skip
        refine op_unguard _ _ (kg_yes rfl H rfl rfl rfl) ?_; refine wl_v _ (r_le Try.underlying3 (H.ev rfl) evc (dec_f (c8))) ?_; refine kl H rfl fun a H => ?_
        refine wl_v _ (r_pick_t (H.ev rfl) (H.ev rfl)) ?_; refine kl H rfl fun a H => ?_
        refine wl_v _ (r_assign (H.ev rfl)) ?_; refine kl H rfl fun a H => ?_
        refine wpList_nil ?_
        refine c_next ?_
        refine wp_ret ?_
        exact k_ret1 H rfl rfl ⟨by rw [show rightF n L = false from right_out (by omega)], hall⟩
    · skip
      refine wl_v _ (r_ge Try.underlying3 (H.ev rfl) evc (dec_f (c7))) ?_; refine kl H rfl fun a H => ?_
      refine wl_v _ (r_move (H.ev rfl)) ?_; refine kl H rfl fun a H => ?_
      refine wl_s (kg_no rfl H rfl rfl rfl) ?_; refine kl H rfl fun a H => ?_
      refine wl_s (kg_no rfl H rfl rfl rfl) ?_; refine kl H rfl fun a H => ?_
      refine wl_s (kg_no rfl H rfl rfl rfl) ?_; refine kl H rfl fun a H => ?_
      refine wl_v _ (r_pick_f (H.ev rfl) evc) ?_; refine kl H rfl fun a H => ?_
      refine wl_v _ (r_assign (H.ev rfl)) ?_; refine kl H rfl fun a H => ?_
      refine wpList_nil ?_
      refine c_next ?_
      refine wp_ret ?_
      exact k_ret1 H rfl rfl ⟨by rw [show rightF n L = false from right_out (by omega)], hall⟩
end Go.Proofs.Ythfdjlhplcmicaa
