/- Recv: ref Take. -/
import Derived.Test.YthfdjlhplcmicaaZ
namespace Go.Proofs.Ythfdjlhplcmicaa
open Go.RowKit
set_option linter.unusedVariables false
set_option linter.unusedSimpArgs false

abbrev BelowTo {B : Nat} {W w : World} (_ : Below B W w) : World := w
def BelowAt (B : Nat) (W w : World) : Prop := Below B W w
theorem BelowOf.step {W w w' : World} (h : BelowOf W w) (hb : Below w.heap.size w w') : BelowOf W w' := Below.trans h (hb.mono (Below.size h))
theorem BelowOf.step2 {W w w' : World} (h : BelowOf W w) (hb : Below W.heap.size w w') : BelowOf W w' := Below.trans h hb
theorem BelowOf.size {W w : World} (h : BelowOf W w) : W.heap.size ≤ w.heap.size := Below.size h
theorem BelowAt.trans {B : Nat} {W w w' : World} (h : BelowAt B W w) (hb : Below B w w') : BelowAt B W w' := Below.trans h hb
theorem rs_src {w : World} {A : Option Addr} {c : Nat} {M : List It} (h : Holds w A (FV encI M)) (hc : M.length ≤ c) (k : Nat) : Holds w (slAt A c k 5) (FV encI (M.drop k)) := by
  rw [FV_drop encI_len]
  exact slAt_holds (FV_len encI_len M) hc h k
theorem rs_end {w : World} {base : Nat} {v : Value} {M : List It} {x : It} {k : Nat} (hk : k ≤ M.length) (h : w.ownsRow base 33 5 v (0 + k + 1 + (M.length - k)) ([] ++ FV encI (M.take k) ++ FV encI [x] ++ FV encI (M.drop k))) : IOwn w base v (M.take k ++ x :: M.drop k) := by
  show w.ownsRow _ _ _ _ _ _
  have e : (M.take k ++ x :: M.drop k).length = 0 + k + 1 + (M.length - k) := by simp; omega
  rw [e, FV_append, show x :: M.drop k = [x] ++ M.drop k from rfl, FV_append, ← List.append_assoc]
  exact h
def LoTo (L : List It) (x : It) (k : Nat) : Prop := ∀ (j : Nat) (y : It), j < k → L[j]? = some y → y.1 < x.1
theorem lo_next {L : List It} {x y : It} {k : Nat} (h : LoTo L x k) (hy : L[k]? = some y) (hl : y.1 < x.1) : LoTo L x (k + 1) := by
  intro j z hj hz
  by_cases e : j = k
  · subst e
    rw [hy] at hz
    injection hz with hz
    rw [← hz]; exact hl
  · exact h j z (by omega) hz
theorem lo_last {L : List It} {x : It} {k : Nat} (h : LoTo L x k) (hk : k ≤ L.length) : k = 0 ∨ ∃ p y, k = p + 1 ∧ L[p]? = some y ∧ ¬ x.1 < y.1 := by
  cases k with
  | zero => exact .inl rfl
  | succ p =>
    have := h p L[p] (by omega) (List.getElem?_eq_getElem (by omega))
    exact .inr ⟨p, L[p], rfl, List.getElem?_eq_getElem (by omega), by omega⟩
theorem drop_gt {L : List It} {x y : It} {k : Nat} (hS : L.Pairwise (fun a b => a.1 < b.1)) (hy : L[k]? = some y) (hl : x.1 < y.1) : ∀ z ∈ L.drop k, x.1 < z.1 := by
  intro z hz
  obtain ⟨j, hj, rfl⟩ := List.mem_iff_getElem.1 hz
  rw [List.getElem_drop]
  have hlen : k + j < L.length := by simp at hj; omega
  cases j with
  | zero =>
    have e := List.getElem?_eq_getElem (l := L) (i := k) (by omega)
    rw [hy] at e
    injection e with e
    simp only [Nat.add_zero]
    rw [← e]; exact hl
  | succ j =>
    have := sorted_at hS hy (List.getElem?_eq_getElem hlen) (by omega)
    omega
theorem no_has {L : List It} {x y : It} {k : Nat} (hS : L.Pairwise (fun a b => a.1 < b.1)) (hlo : LoTo L x k) (hy : L[k]? = some y) (hl : x.1 < y.1) : hasQ L x.1 = false := has_no.2 fun z hz => by
  obtain ⟨j, hj, rfl⟩ := List.mem_iff_getElem.1 hz
  by_cases e : j < k
  · have := hlo j _ e (List.getElem?_eq_getElem hj); omega
  · have := drop_gt hS hy hl L[j] (drop_mem (List.getElem?_eq_getElem hj) (by omega))
    omega
theorem no_all {L : List It} {x : It} (hlo : LoTo L x L.length) : hasQ L x.1 = false := has_no.2 fun z hz => by
  obtain ⟨j, hj, rfl⟩ := List.mem_iff_getElem.1 hz
  have := hlo j _ hj (List.getElem?_eq_getElem hj); omega
theorem wp_mid {P : Program} {c : Code} {Q : Exit → Act → World → Prop} {a : Act} {w : World} (M : Act → World → Prop) (h : c.wp P (fun e a w => e = .normal ∧ M a w) a w) (k : ∀ a w, M a w → Q .normal a w) : c.wp P Q a w :=
  wp_mono h fun e a w ⟨he, hm⟩ => he.symm ▸ k a w hm
def Md1 (W : World) (b0 b1 b2 : Nat) (n : Int) (A : Option Addr) (c : Nat) (L : List It) (x : It) (a : Act) (w : World) : Prop :=
  ∃ (B b6 : Nat) (A1 : Option Addr) (c1 : Nat), Kn a 122 [(2, .pointer (some ⟨b0, 0, none⟩)), (3, .pointer (some ⟨b1, 0, none⟩)), (4, .pointer (some ⟨b2, 0, none⟩)), (6, .pointer (some ⟨b6, 0, none⟩))] ∧ (b0 < B ∧ b1 < B ∧ b2 < B ∧ B ≤ b6 ∧ W.heap.size ≤ B ∧ B ≤ w.heap.size) ∧
    Block w b0 24 #[.int .i64 n, .slice A L.length c] ∧ Block w b1 33 #[.int .i64 x.1, .int .i64 x.2.1, .int .i64 x.2.2.1, .int .i64 x.2.2.2.1, .int .i64 x.2.2.2.2] ∧ Block w b2 24 #[.int .i64 0, .slice none 0 0] ∧ Block w b6 24 #[.int .i64 n, .slice A1 L.length c1] ∧ IOwn w B (.slice A1 L.length c1) L ∧ Below W.heap.size W w
def Md9 (W : World) (b2 b6 : Nat) (n : Int) (L : List It) (x : It) (a : Act) (w : World) : Prop :=
  ∃ (B2 g cap : Nat), Kn a 122 [(4, .pointer (some ⟨b2, 0, none⟩)), (6, .pointer (some ⟨b6, 0, none⟩))] ∧ (b2 < B2 ∧ b6 < B2 ∧ W.heap.size ≤ B2 ∧ B2 ≤ w.heap.size ∧ B2 ≤ g ∧ g < w.heap.size) ∧ takeF n L x = popF n (insI L x) ∧
    Block w b2 24 #[.int .i64 0, .slice none 0 0] ∧ Block w b6 24 #[.int .i64 n, .slice (some ⟨g, 0, none⟩) (L.length + 1) cap] ∧ IOwn w B2 (.slice (some ⟨g, 0, none⟩) (L.length + 1) cap) (insI L x) ∧ Below W.heap.size W w
def Tk13 (W : World) (B b0 b1 b2 b6 : Nat) (n : Int) (A : Option Addr) (c : Nat) (L : List It) (A1 : Option Addr) (c1 : Nat) (x : It) (a : Act) (w : World) : Prop :=
  ∃ k : Nat, Kn a 122 [(2, .pointer (some ⟨b0, 0, none⟩)), (3, .pointer (some ⟨b1, 0, none⟩)), (4, .pointer (some ⟨b2, 0, none⟩)), (6, .pointer (some ⟨b6, 0, none⟩)), (7, .int .i64 (k : Nat))] ∧ k ≤ L.length ∧ LoTo L x k ∧
    Block w b0 24 #[.int .i64 n, .slice A L.length c] ∧ Block w b1 33 #[.int .i64 x.1, .int .i64 x.2.1, .int .i64 x.2.2.1, .int .i64 x.2.2.2.1, .int .i64 x.2.2.2.2] ∧ Block w b2 24 #[.int .i64 0, .slice none 0 0] ∧ Block w b6 24 #[.int .i64 n, .slice A1 L.length c1] ∧ IOwn w B (.slice A1 L.length c1) L ∧ B ≤ w.heap.size ∧ Below W.heap.size W w
def TkJ (W : World) (B b2 b6 g : Nat) (top : Int) (T : (Int × List It) × List Nt) (a : Act) (w : World) : Prop :=
  ∃ (M : List It) (nn : Int) (A' : Option Addr) (c' : Nat) (o : Value) (NS : List Nt), Kn a 122 [(4, .pointer (some ⟨b2, 0, none⟩)), (6, .pointer (some ⟨b6, 0, none⟩)), (8, o)] ∧ (1 ≤ nn ∧ nn + (M.length : Nat) ≤ top) ∧
    Block w b2 24 #[.int .i64 0, .slice none 0 0] ∧ Block w b6 24 #[.int .i64 nn, .slice A' M.length c'] ∧ IRow w (.slice A' M.length c') M ∧ (∀ b o', A' = some ⟨b, o', none⟩ → b = g) ∧
    NOwn w B o NS ∧ o.ownBlock ≠ some g ∧ NS.length + M.length ≤ 8 ∧ g < w.heap.size ∧ B ≤ w.heap.size ∧ T = ((popF nn M).1, NS ++ (popF nn M).2) ∧ Below W.heap.size W w
set_option maxHeartbeats 8000000 in
theorem rtake_any (w : World) (n : Int) (v : Value) (L : List It) (x : It) (h0 : IRow w v L) (hn : L.length ≤ 100000) (hx1 : -9223372036854775808 ≤ x.1) (hx2 : x.1 ≤ 9223372036854775807) :
    Calls Try.prog 13 #[.agg #[.int .i64 n, v], .agg #[.int .i64 x.1, .int .i64 x.2.1, .int .i64 x.2.2.1, .int .i64 x.2.2.2.1, .int .i64 x.2.2.2.2]] w fun e w' => (∃ s o, e = .returned (.tuple #[.agg #[.int .i64 (takeF n L x).1.1, s], o]) ∧ (IRow w' s (takeF n L x).1.2 ∧ Fresh w.heap.size s) ∧ (NRow w' o (takeF n L x).2 ∧ Fresh w.heap.size o)) ∧ Below w.heap.size w w' := by
  obtain ⟨A, c, rfl, hlc, h2, h3, hh⟩ := h0
  have h : Hid (IRow w (.slice A L.length c) L) := Lib.hid ⟨A, c, rfl, hlc, h2, h3, hh⟩
  replace hh := Lib.hid hh
  clear h2 h3
  have hall := Below.refl w.heap.size w
  refine K_enter 122 Try.func13 rfl rfl fun a H => ?_
  replace H := H.pick [0, 1]
  refine wp_seq ?_
  refine wp_region_lit ?_
  refine op_box 24 _ #[.int .i64 n, .slice A L.length c] (H.ev rfl) fun w0 b0 hge hb k0 => ?_; have g0 := Nat.le_trans hall.size hge; replace hall := hall.trans (hb.mono hall.size); clear hb; clear hge; refine kl H rfl fun a H => ?_
  refine op_box 33 _ #[.int .i64 x.1, .int .i64 x.2.1, .int .i64 x.2.2.1, .int .i64 x.2.2.2.1, .int .i64 x.2.2.2.2] (H.ev rfl) fun w1 b1 hge hb k1 => ?_; have g1 := Nat.le_trans hall.size hge; have d0_1 : b0 < b1 := Nat.lt_of_lt_of_le k0.lt hge; replace k0 := Block.ups k0 hb; replace hall := hall.trans (hb.mono hall.size); clear hb; clear hge; refine kl H rfl fun a H => ?_
  refine op_alloc 24 #[.int .i64 0, .slice none 0 0] z24 fun w2 b2 hge hb k2 => ?_; have g2 := Nat.le_trans hall.size hge; have d0_2 : b0 < b2 := Nat.lt_of_lt_of_le k0.lt hge; have d1_2 : b1 < b2 := Nat.lt_of_lt_of_le k1.lt hge; replace k0 := Block.ups k0 hb; replace k1 := Block.ups k1 hb; replace hall := hall.trans (hb.mono hall.size); clear hb; clear hge; refine kl H rfl fun a H => ?_
  refine wl_v _ (r_assign evc) ?_; refine kl H rfl fun a H => ?_
  refine wpList_nil ?_
  refine c_next ?_
  refine wp_seq ?_
  refine wp_mid (Md1 w b0 b1 b2 n A c L x) ?_ ?_
  · skip
    have hall8 := hall
    have hS : BelowOf (BelowTo hall8) _ := Below.drew (Below.refl _ (BelowTo hall8))
    refine region_tree (BelowOf (BelowTo hall8)) 9 (.fl 0 (.fl 1 (.fl 3 (.fl 4 (.two 2 (.two 5 (.fl 6 (.one 7 (.one 8 .done))) 7 (.one 5 (.fl 6 (.one 8 .done)))) 7 (.one 2 (.one 5 (.fl 6 (.one 8 .done))))))))) (by kernel_rfl) (by kernel_rfl) rfl (by kernel_rfl) hS ?_
    refine pt_f0 _ rfl (fun w' hS' => r_fld (q := 0) fld24_0 (H.ev rfl) rfl) ?_; refine kt H rfl fun a H => ?_
    refine pt_f0 _ rfl (fun w' hS' => r_ld Try.underlying3 rfl (H.ev rfl) ((Block.cell (Block.ups k0 hS') 0).trans rfl)) ?_; refine kt H rfl fun a H => ?_
    refine pt_f0 _ rfl (fun w' hS' => r_fld (q := 1) fld24_1 (H.ev rfl) rfl) ?_; refine kt H rfl fun a H => ?_
    refine pt_f0 _ rfl (fun w' hS' => r_ld Try.underlying22 rfl (H.ev rfl) ((Block.cell (Block.ups k0 hS') 1).trans rfl)) ?_; refine kt H rfl fun a H => ?_
    refine pt_two (fun K hK => ?_) (fun K hK => ?_)
    · skip
      refine st_a0 rfl ?_; refine wpo_litv 22 0 #[] 33 #[] (by simp) (fun w => by kernel_rfl) fun w1 bl hge hb kk => ?_; have q0 := own_empty (base := (BelowTo hall8).heap.size) (size := 5) kk (Nat.le_trans (BelowOf.size hS) hge); have q0l := kk.lt; (try have hne : b6 ≠ bl := (by have := k6.lt; omega)); (try replace k6 := k6.ups hb); replace hS := BelowOf.step hS hb; clear hb hge kk; refine hK _ _ ⟨(fun _ => hS), ?_⟩; clear hK; clear K; refine kt H rfl fun a H => ?_
      refine pt_two (fun K hK => ?_) (fun K hK => ?_)
      · skip
        refine st_a0 rfl ?_; refine wpo_append 22 33 (.tmp 11) (.tmp 13) (BelowTo hall8).heap.size (.agg #[.int .i64 0, .int .i64 0, .int .i64 0, .int .i64 0, .int .i64 0]) 5 40 _ 0 [] A L.length c (FV encI L) (H.ev rfl) (H.ev rfl) Try.underlying22 i33 rfl (by omega) q0 (by rw [FV_len encI_len]) ((row_holds (Row.up h.out hall)).up hS) (FV_one _ _) (by unfold maxLen; omega) (by omega) (BelowOf.size hS) fun v5 w5 q5r hg hv hb2 => ?_; (try have hne6 := app_ne hv (show (Value.slice (some ⟨bl, 0, none⟩) 0 0).ownBlock ≠ some b6 from (by simp [Value.ownBlock]; omega)) k6.lt); (try replace k6 := Block.grown k6 hg (by simp [Value.ownBlock]; omega)); replace hS := BelowOf.step2 hS hb2; clear hb2 hg hv q0; have q5 : IOwn _ _ v5 L := own_cast encI_len (by omega) q5r rfl; clear q5r; obtain ⟨A1, c1, rfl, -, -, -⟩ := own_slice q5; refine hK _ _ ⟨(fun _ => hS), ?_⟩; clear hK; clear K; refine kt H rfl fun a H => ?_
        refine pt_f0 _ rfl (fun w' hS' => r_build #[(0, .int .i64 n), (1, .slice A1 L.length c1)] (.agg #[.int .i64 n, .slice A1 L.length c1]) (by simp [evc, H.ev (j := 10) rfl, H.ev (j := 14) rfl]) (fun w => by kernel_rfl)) ?_; refine kt H rfl fun a H => ?_
        refine pt_one (fun K hK => ?_)
        refine st_a0 rfl ?_; refine wpo_alloc 24 #[.int .i64 0, .slice none 0 0] z24 fun w1 b6 hge hb k6 => ?_; have g6 := Nat.le_trans (BelowOf.size hS) hge; (try have hne : b6 ≠ bl := (by omega)); (try replace q0 := own_ups q0 hb); (try have hne6 : (Value.slice A1 L.length c1).ownBlock ≠ some b6 := (fun e => by have := (q5.lt e).2; omega)); (try replace q5 := ROwn.up q5 hb); replace hS := BelowOf.step hS hb; clear hge hb; refine hK _ _ ⟨(fun _ => hS), ?_⟩; clear hK; clear K; refine kt H rfl fun a H => ?_
        refine pt_one (fun K hK => ?_)
        refine st_a0 rfl ?_; refine wpo_store1 24 (.tmp 6) (.tmp 15) b6 0 24 (.agg #[.int .i64 n, .slice A1 L.length c1]) _ (H.ev rfl) (H.ev rfl) k6 s24 (by simp [Value.cells]) (by simp [Value.cells, Value.oneCell']) fun w8 hb8 ho8 kq => ?_; clear k6; have k6 : Block w8 b6 24 #[.int .i64 n, .slice A1 L.length c1] := kq; clear kq; replace q5 := ROwn.keep q5 (fun q e => ho8 q (fun e2 => hne6 (e2 ▸ e))); replace hS := BelowOf.step2 hS (hb8 _ g6); clear hb8 ho8; refine hK _ _ ⟨(fun _ => hS), ?_⟩; clear hK; clear K; skip
        refine pt_done (NoPanic.normal ?_)
        have hown : IOwn _ (BelowTo hall8).heap.size (.slice A1 L.length c1) L := q5
        have e0 := k0.lt
        have e1 := k1.lt
        have e2 := k2.lt
        have hBW := hall.size
        have hBc := BelowOf.size hS
        replace k0 := Block.ups k0 hS
        replace k1 := Block.ups k1 hS
        replace k2 := Block.ups k2 hS
        replace hall := hall.trans (Below.mono hS hall.size)
        clear hS q5
        obtain ⟨B, hB⟩ : ∃ B, (BelowTo hall8).heap.size = B := ⟨_, rfl⟩
        rw [hB] at e0 e1 e2 hBW hBc hown g6
        clear hB hall8
        exact ⟨rfl, B, b6, A1, c1, H.pick [2, 3, 4, 6], ⟨e0, e1, e2, g6, hBW, hBc⟩, k0, k1, k2, k6, hown, hall⟩
      · skip
        refine st_a0 rfl ?_; refine wpo_alloc 24 #[.int .i64 0, .slice none 0 0] z24 fun w1 b6 hge hb k6 => ?_; have g6 := Nat.le_trans (BelowOf.size hS) hge; (try have hne : b6 ≠ bl := (by omega)); (try replace q0 := own_ups q0 hb); (try have hne6 : (Value.slice A1 L.length c1).ownBlock ≠ some b6 := (fun e => by have := (q5.lt e).2; omega)); (try replace q5 := ROwn.up q5 hb); replace hS := BelowOf.step hS hb; clear hge hb; refine hK _ _ ⟨(fun _ => hS), ?_⟩; clear hK; clear K; refine kt H rfl fun a H => ?_
        refine pt_one (fun K hK => ?_)
        refine st_a0 rfl ?_; refine wpo_append 22 33 (.tmp 11) (.tmp 13) (BelowTo hall8).heap.size (.agg #[.int .i64 0, .int .i64 0, .int .i64 0, .int .i64 0, .int .i64 0]) 5 40 _ 0 [] A L.length c (FV encI L) (H.ev rfl) (H.ev rfl) Try.underlying22 i33 rfl (by omega) q0 (by rw [FV_len encI_len]) ((row_holds (Row.up h.out hall)).up hS) (FV_one _ _) (by unfold maxLen; omega) (by omega) (BelowOf.size hS) fun v5 w5 q5r hg hv hb2 => ?_; (try have hne6 := app_ne hv (show (Value.slice (some ⟨bl, 0, none⟩) 0 0).ownBlock ≠ some b6 from (by simp [Value.ownBlock]; omega)) k6.lt); (try replace k6 := Block.grown k6 hg (by simp [Value.ownBlock]; omega)); replace hS := BelowOf.step2 hS hb2; clear hb2 hg hv q0; have q5 : IOwn _ _ v5 L := own_cast encI_len (by omega) q5r rfl; clear q5r; obtain ⟨A1, c1, rfl, -, -, -⟩ := own_slice q5; refine hK _ _ ⟨(fun _ => hS), ?_⟩; clear hK; clear K; refine kt H rfl fun a H => ?_
        refine pt_f0 _ rfl (fun w' hS' => r_build #[(0, .int .i64 n), (1, .slice A1 L.length c1)] (.agg #[.int .i64 n, .slice A1 L.length c1]) (by simp [evc, H.ev (j := 10) rfl, H.ev (j := 14) rfl]) (fun w => by kernel_rfl)) ?_; refine kt H rfl fun a H => ?_
        refine pt_one (fun K hK => ?_)
        refine st_a0 rfl ?_; refine wpo_store1 24 (.tmp 6) (.tmp 15) b6 0 24 (.agg #[.int .i64 n, .slice A1 L.length c1]) _ (H.ev rfl) (H.ev rfl) k6 s24 (by simp [Value.cells]) (by simp [Value.cells, Value.oneCell']) fun w8 hb8 ho8 kq => ?_; clear k6; have k6 : Block w8 b6 24 #[.int .i64 n, .slice A1 L.length c1] := kq; clear kq; replace q5 := ROwn.keep q5 (fun q e => ho8 q (fun e2 => hne6 (e2 ▸ e))); replace hS := BelowOf.step2 hS (hb8 _ g6); clear hb8 ho8; refine hK _ _ ⟨(fun _ => hS), ?_⟩; clear hK; clear K; skip
        refine pt_done (NoPanic.normal ?_)
        have hown : IOwn _ (BelowTo hall8).heap.size (.slice A1 L.length c1) L := q5
        have e0 := k0.lt
        have e1 := k1.lt
        have e2 := k2.lt
        have hBW := hall.size
        have hBc := BelowOf.size hS
        replace k0 := Block.ups k0 hS
        replace k1 := Block.ups k1 hS
        replace k2 := Block.ups k2 hS
        replace hall := hall.trans (Below.mono hS hall.size)
        clear hS q5
        obtain ⟨B, hB⟩ : ∃ B, (BelowTo hall8).heap.size = B := ⟨_, rfl⟩
        rw [hB] at e0 e1 e2 hBW hBc hown g6
        clear hB hall8
        exact ⟨rfl, B, b6, A1, c1, H.pick [2, 3, 4, 6], ⟨e0, e1, e2, g6, hBW, hBc⟩, k0, k1, k2, k6, hown, hall⟩
    · skip
      refine st_a0 rfl ?_; refine wpo_alloc 24 #[.int .i64 0, .slice none 0 0] z24 fun w1 b6 hge hb k6 => ?_; have g6 := Nat.le_trans (BelowOf.size hS) hge; (try have hne : b6 ≠ bl := (by omega)); (try replace q0 := own_ups q0 hb); (try have hne6 : (Value.slice A1 L.length c1).ownBlock ≠ some b6 := (fun e => by have := (q5.lt e).2; omega)); (try replace q5 := ROwn.up q5 hb); replace hS := BelowOf.step hS hb; clear hge hb; refine hK _ _ ⟨(fun _ => hS), ?_⟩; clear hK; clear K; refine kt H rfl fun a H => ?_
      refine pt_one (fun K hK => ?_)
      refine st_a0 rfl ?_; refine wpo_litv 22 0 #[] 33 #[] (by simp) (fun w => by kernel_rfl) fun w1 bl hge hb kk => ?_; have q0 := own_empty (base := (BelowTo hall8).heap.size) (size := 5) kk (Nat.le_trans (BelowOf.size hS) hge); have q0l := kk.lt; (try have hne : b6 ≠ bl := (by have := k6.lt; omega)); (try replace k6 := k6.ups hb); replace hS := BelowOf.step hS hb; clear hb hge kk; refine hK _ _ ⟨(fun _ => hS), ?_⟩; clear hK; clear K; refine kt H rfl fun a H => ?_
      refine pt_one (fun K hK => ?_)
      refine st_a0 rfl ?_; refine wpo_append 22 33 (.tmp 11) (.tmp 13) (BelowTo hall8).heap.size (.agg #[.int .i64 0, .int .i64 0, .int .i64 0, .int .i64 0, .int .i64 0]) 5 40 _ 0 [] A L.length c (FV encI L) (H.ev rfl) (H.ev rfl) Try.underlying22 i33 rfl (by omega) q0 (by rw [FV_len encI_len]) ((row_holds (Row.up h.out hall)).up hS) (FV_one _ _) (by unfold maxLen; omega) (by omega) (BelowOf.size hS) fun v5 w5 q5r hg hv hb2 => ?_; (try have hne6 := app_ne hv (show (Value.slice (some ⟨bl, 0, none⟩) 0 0).ownBlock ≠ some b6 from (by simp [Value.ownBlock]; omega)) k6.lt); (try replace k6 := Block.grown k6 hg (by simp [Value.ownBlock]; omega)); replace hS := BelowOf.step2 hS hb2; clear hb2 hg hv q0; have q5 : IOwn _ _ v5 L := own_cast encI_len (by omega) q5r rfl; clear q5r; obtain ⟨A1, c1, rfl, -, -, -⟩ := own_slice q5; refine hK _ _ ⟨(fun _ => hS), ?_⟩; clear hK; clear K; refine kt H rfl fun a H => ?_
      refine pt_f0 _ rfl (fun w' hS' => r_build #[(0, .int .i64 n), (1, .slice A1 L.length c1)] (.agg #[.int .i64 n, .slice A1 L.length c1]) (by simp [evc, H.ev (j := 10) rfl, H.ev (j := 14) rfl]) (fun w => by kernel_rfl)) ?_; refine kt H rfl fun a H => ?_
      refine pt_one (fun K hK => ?_)
      refine st_a0 rfl ?_; refine wpo_store1 24 (.tmp 6) (.tmp 15) b6 0 24 (.agg #[.int .i64 n, .slice A1 L.length c1]) _ (H.ev rfl) (H.ev rfl) k6 s24 (by simp [Value.cells]) (by simp [Value.cells, Value.oneCell']) fun w8 hb8 ho8 kq => ?_; clear k6; have k6 : Block w8 b6 24 #[.int .i64 n, .slice A1 L.length c1] := kq; clear kq; replace q5 := ROwn.keep q5 (fun q e => ho8 q (fun e2 => hne6 (e2 ▸ e))); replace hS := BelowOf.step2 hS (hb8 _ g6); clear hb8 ho8; refine hK _ _ ⟨(fun _ => hS), ?_⟩; clear hK; clear K; skip
      refine pt_done (NoPanic.normal ?_)
      have hown : IOwn _ (BelowTo hall8).heap.size (.slice A1 L.length c1) L := q5
      have e0 := k0.lt
      have e1 := k1.lt
      have e2 := k2.lt
      have hBW := hall.size
      have hBc := BelowOf.size hS
      replace k0 := Block.ups k0 hS
      replace k1 := Block.ups k1 hS
      replace k2 := Block.ups k2 hS
      replace hall := hall.trans (Below.mono hS hall.size)
      clear hS q5
      obtain ⟨B, hB⟩ : ∃ B, (BelowTo hall8).heap.size = B := ⟨_, rfl⟩
      rw [hB] at e0 e1 e2 hBW hBc hown g6
      clear hB hall8
      exact ⟨rfl, B, b6, A1, c1, H.pick [2, 3, 4, 6], ⟨e0, e1, e2, g6, hBW, hBc⟩, k0, k1, k2, k6, hown, hall⟩
  · skip
    clear H hall k0 k1 k2
    rintro a w' ⟨B, b6, A1, c1, H, ⟨e0, e1, e2, g6, hBW, hBc⟩, k0, k1, k2, k6, hown, hall⟩
    refine c_next ?_
    refine wp_seq ?_
    refine wp_seq ?_
    cases hrt : rightF n L
    · skip
      refine wp_region_lit ?_
      refine wl_v _ (r_row (cs := [.int .i64 n, .slice A L.length c]) (H.ev rfl) (block_range k0) (by kernel_rfl) s24 rfl) ?_; refine kl H rfl fun a H => ?_
      refine wl_call _ _ _ (rright_any _ n _ L (Row.up h.out hall) (by omega)) (r_call1 cf17 (H.ev rfl)) ?_; rintro e w9 ⟨rfl, hb⟩; refine ⟨_, rfl, ?_⟩; rw [hrt]; replace k0 := Block.ups k0 hb; replace k1 := Block.ups k1 hb; replace k2 := Block.ups k2 hb; replace k6 := Block.ups k6 hb; replace hown := ROwn.up hown hb; replace hBc := le_up hBc hb; replace hall := hall.trans (hb.mono hall.size); clear hb; refine kl H rfl fun a H => ?_
      refine wl_v _ (r_not (H.ev rfl) rfl) ?_; refine kl H rfl fun a H => ?_
      refine wl_v _ (r_move (H.ev rfl)) ?_; refine kl H rfl fun a H => ?_
      refine wl_s (kg_no rfl H rfl rfl rfl) ?_; refine kl H rfl fun a H => ?_
      refine wl_s (kg_no rfl H rfl rfl rfl) ?_; refine kl H rfl fun a H => ?_
      refine wl_s (kg_no rfl H rfl rfl rfl) ?_; refine kl H rfl fun a H => ?_
      refine wl_s (kg_no rfl H rfl rfl rfl) ?_; refine kl H rfl fun a H => ?_
      refine wl_s (kg_no rfl H rfl rfl rfl) ?_; refine kl H rfl fun a H => ?_
      refine wl_v _ (r_pick_t (H.ev rfl) evc) ?_; refine kl H rfl fun a H => ?_
      refine wl_v _ (r_move (H.ev rfl)) ?_; refine kl H rfl fun a H => ?_
      refine wl_s (kg_no rfl H rfl rfl rfl) ?_; refine kl H rfl fun a H => ?_
      refine wl_s (kg_no rfl H rfl rfl rfl) ?_; refine kl H rfl fun a H => ?_
      refine wl_s (kg_no rfl H rfl rfl rfl) ?_; refine kl H rfl fun a H => ?_
      refine wl_s (kg_no rfl H rfl rfl rfl) ?_; refine kl H rfl fun a H => ?_
      refine wl_s (kg_no rfl H rfl rfl rfl) ?_; refine kl H rfl fun a H => ?_
      refine wl_s (kg_no rfl H rfl rfl rfl) ?_; refine kl H rfl fun a H => ?_
      refine wl_v _ (r_pick_t (H.ev rfl) evc) ?_; refine kl H rfl fun a H => ?_
      refine wl_v _ (r_move (H.ev rfl)) ?_; refine kl H rfl fun a H => ?_
      refine wl_s (kg_no rfl H rfl rfl rfl) ?_; refine kl H rfl fun a H => ?_
      refine wl_s (kg_no rfl H rfl rfl rfl) ?_; refine kl H rfl fun a H => ?_
      refine wl_s (kg_no rfl H rfl rfl rfl) ?_; refine kl H rfl fun a H => ?_
      refine wl_v _ (r_pick_t (H.ev rfl) evc) ?_; refine kl H rfl fun a H => ?_
      refine wpList_nil ?_
      refine c_next ?_
      refine c_cond_t H rfl ?_
      refine wp_seq ?_
      refine wp_region_lit ?_
      refine wl_v _ (r_row (cs := [.int .i64 n, .slice A1 L.length c1]) (H.ev rfl) (block_range k6) (by kernel_rfl) s24 rfl) ?_; refine kl H rfl fun a H => ?_
      refine op_store1 24 (.tmp 4) (.tmp 39) b2 0 24 (.agg #[.int .i64 n, .slice A1 L.length c1]) _ (H.ev rfl) (H.ev rfl) k2 s24 (by simp [Value.cells]) (by simp [Value.cells, Value.oneCell']) fun w' hb ho kq => ?_; clear k2; have k2 : Block _ b2 24 #[.int .i64 n, .slice A1 L.length c1] := kq; clear kq; replace k0 := block_same k0 (ho _ (by omega)); replace k1 := block_same k1 (ho _ (by omega)); replace k6 := block_same k6 (ho _ (by omega)); replace hown := ROwn.keep hown (fun q e => ho q (by have := (hown.lt e).1; omega)); replace hBc := le_up hBc (hb _ g2); replace hall := hall.trans (hb _ g2); clear hb ho; refine kl0 H fun a H => ?_
      refine wl_v _ (r_assign evc) ?_; refine kl H rfl fun a H => ?_
      refine wpList_nil ?_
      refine c_next ?_
      refine wp_ret ?_
      refine r_then ?_
      rw [show takeF n L x = ((n, L), []) from shut_of (by first | exact .inl hrt | exact .inr (.inl (by omega)) | exact .inr (.inr (.inl (by omega))) | exact .inr (.inr (.inr (.inl (by omega)))) | exact .inr (.inr (.inr (.inr (has_iff.2 ⟨y, List.mem_of_getElem? HY.out, by omega⟩)))))]
      exact k_ret_cell2 H rfl rfl rfl k2 Try.underlying24 rfl s24 ⟨⟨_, _, rfl, ⟨IOwn.row hown, own_fresh hown hBW⟩, ⟨Row.nil, nil_fresh⟩⟩, hall⟩
    · skip
      have HRT := Lib.hid hrt
      have HR : Hid (RightL n L) := Lib.hid (of_decide_eq_true hrt)
      have hn1 := HR.out.1
      have hn2 := HR.out.2.1
      have hLl := right_len HR.out
      refine wp_region_lit ?_
      refine wl_v _ (r_row (cs := [.int .i64 n, .slice A L.length c]) (H.ev rfl) (block_range k0) (by kernel_rfl) s24 rfl) ?_; refine kl H rfl fun a H => ?_
      refine wl_call _ _ _ (rright_any _ n _ L (Row.up h.out hall) (by omega)) (r_call1 cf17 (H.ev rfl)) ?_; rintro e w9 ⟨rfl, hb⟩; refine ⟨_, rfl, ?_⟩; rw [hrt]; replace k0 := Block.ups k0 hb; replace k1 := Block.ups k1 hb; replace k2 := Block.ups k2 hb; replace k6 := Block.ups k6 hb; replace hown := ROwn.up hown hb; replace hBc := le_up hBc hb; replace hall := hall.trans (hb.mono hall.size); clear hb; refine kl H rfl fun a H => ?_
      refine wl_v _ (r_not (H.ev rfl) rfl) ?_; refine kl H rfl fun a H => ?_
      refine wl_v _ (r_move (H.ev rfl)) ?_; refine kl H rfl fun a H => ?_
      refine op_unguard _ _ (kg_yes rfl H rfl rfl rfl) ?_; refine wl_v _ (r_fld (q := 0) fld33_0 (H.ev rfl) rfl) ?_; refine kl H rfl fun a H => ?_
      refine op_unguard _ _ (kg_yes rfl H rfl rfl rfl) ?_; refine wl_v _ (r_ld Try.underlying3 rfl (H.ev rfl) ((Block.cell k1 0).trans rfl)) ?_; refine kl H rfl fun a H => ?_
      refine op_unguard _ _ (kg_yes rfl H rfl rfl rfl) ?_; refine wl_v _ (r_fld (q := 0) fld24_0 (H.ev rfl) rfl) ?_; refine kl H rfl fun a H => ?_
      refine op_unguard _ _ (kg_yes rfl H rfl rfl rfl) ?_; refine wl_v _ (r_ld Try.underlying3 rfl (H.ev rfl) ((Block.cell k0 0).trans rfl)) ?_; refine kl H rfl fun a H => ?_
      by_cases hcc0 : x.1 < n
      · skip
        refine op_unguard _ _ (kg_yes rfl H rfl rfl rfl) ?_; refine wl_v _ (r_lt Try.underlying3 (H.ev rfl) (H.ev rfl) (dec_t (hcc0))) ?_; refine kl H rfl fun a H => ?_
        refine wl_v _ (r_pick_f (H.ev rfl) (H.ev rfl)) ?_; refine kl H rfl fun a H => ?_
        refine wl_v _ (r_move (H.ev rfl)) ?_; refine kl H rfl fun a H => ?_
        refine wl_s (kg_no rfl H rfl rfl rfl) ?_; refine kl H rfl fun a H => ?_
        refine wl_s (kg_no rfl H rfl rfl rfl) ?_; refine kl H rfl fun a H => ?_
        refine wl_s (kg_no rfl H rfl rfl rfl) ?_; refine kl H rfl fun a H => ?_
        refine wl_s (kg_no rfl H rfl rfl rfl) ?_; refine kl H rfl fun a H => ?_
        refine wl_s (kg_no rfl H rfl rfl rfl) ?_; refine kl H rfl fun a H => ?_
        refine wl_s (kg_no rfl H rfl rfl rfl) ?_; refine kl H rfl fun a H => ?_
        refine wl_v _ (r_pick_t (H.ev rfl) evc) ?_; refine kl H rfl fun a H => ?_
        refine wl_v _ (r_move (H.ev rfl)) ?_; refine kl H rfl fun a H => ?_
        refine wl_s (kg_no rfl H rfl rfl rfl) ?_; refine kl H rfl fun a H => ?_
        refine wl_s (kg_no rfl H rfl rfl rfl) ?_; refine kl H rfl fun a H => ?_
        refine wl_s (kg_no rfl H rfl rfl rfl) ?_; refine kl H rfl fun a H => ?_
        refine wl_v _ (r_pick_t (H.ev rfl) evc) ?_; refine kl H rfl fun a H => ?_
        refine wpList_nil ?_
        refine c_next ?_
        refine c_cond_t H rfl ?_
        refine wp_seq ?_
        refine wp_region_lit ?_
        refine wl_v _ (r_row (cs := [.int .i64 n, .slice A1 L.length c1]) (H.ev rfl) (block_range k6) (by kernel_rfl) s24 rfl) ?_; refine kl H rfl fun a H => ?_
        refine op_store1 24 (.tmp 4) (.tmp 39) b2 0 24 (.agg #[.int .i64 n, .slice A1 L.length c1]) _ (H.ev rfl) (H.ev rfl) k2 s24 (by simp [Value.cells]) (by simp [Value.cells, Value.oneCell']) fun w' hb ho kq => ?_; clear k2; have k2 : Block _ b2 24 #[.int .i64 n, .slice A1 L.length c1] := kq; clear kq; replace k0 := block_same k0 (ho _ (by omega)); replace k1 := block_same k1 (ho _ (by omega)); replace k6 := block_same k6 (ho _ (by omega)); replace hown := ROwn.keep hown (fun q e => ho q (by have := (hown.lt e).1; omega)); replace hBc := le_up hBc (hb _ g2); replace hall := hall.trans (hb _ g2); clear hb ho; refine kl0 H fun a H => ?_
        refine wl_v _ (r_assign evc) ?_; refine kl H rfl fun a H => ?_
        refine wpList_nil ?_
        refine c_next ?_
        refine wp_ret ?_
        refine r_then ?_
        rw [show takeF n L x = ((n, L), []) from shut_of (by first | exact .inl hrt | exact .inr (.inl (by omega)) | exact .inr (.inr (.inl (by omega))) | exact .inr (.inr (.inr (.inl (by omega)))) | exact .inr (.inr (.inr (.inr (has_iff.2 ⟨y, List.mem_of_getElem? HY.out, by omega⟩)))))]
        exact k_ret_cell2 H rfl rfl rfl k2 Try.underlying24 rfl s24 ⟨⟨_, _, rfl, ⟨IOwn.row hown, own_fresh hown hBW⟩, ⟨Row.nil, nil_fresh⟩⟩, hall⟩
      · skip
        refine op_unguard _ _ (kg_yes rfl H rfl rfl rfl) ?_; refine wl_v _ (r_lt Try.underlying3 (H.ev rfl) (H.ev rfl) (dec_f (hcc0))) ?_; refine kl H rfl fun a H => ?_
        refine wl_v _ (r_pick_f (H.ev rfl) (H.ev rfl)) ?_; refine kl H rfl fun a H => ?_
        refine wl_v _ (r_move (H.ev rfl)) ?_; refine kl H rfl fun a H => ?_
        refine op_unguard _ _ (kg_yes rfl H rfl rfl rfl) ?_; refine wl_v _ (r_fld (q := 0) fld33_0 (H.ev rfl) rfl) ?_; refine kl H rfl fun a H => ?_
        refine op_unguard _ _ (kg_yes rfl H rfl rfl rfl) ?_; refine wl_v _ (r_ld Try.underlying3 rfl (H.ev rfl) ((Block.cell k1 0).trans rfl)) ?_; refine kl H rfl fun a H => ?_
        refine op_unguard _ _ (kg_yes rfl H rfl rfl rfl) ?_; refine wl_v _ (r_fld (q := 0) fld24_0 (H.ev rfl) rfl) ?_; refine kl H rfl fun a H => ?_
        refine op_unguard _ _ (kg_yes rfl H rfl rfl rfl) ?_; refine wl_v _ (r_ld Try.underlying3 rfl (H.ev rfl) ((Block.cell k0 0).trans rfl)) ?_; refine kl H rfl fun a H => ?_
        refine op_unguard _ _ (kg_yes rfl H rfl rfl rfl) ?_; refine wl_v _ (r_sub (q := x.1 - n) Try.underlying3 (H.ev rfl) (H.ev rfl) (by omega) (by omega)) ?_; refine kl H rfl fun a H => ?_
        by_cases hcc1 : (x.1 - n) ≥ 8
        · skip
          refine op_unguard _ _ (kg_yes rfl H rfl rfl rfl) ?_; refine wl_v _ (r_ge Try.underlying3 (H.ev rfl) evc (dec_t (hcc1))) ?_; refine kl H rfl fun a H => ?_
          refine wl_v _ (r_pick_f (H.ev rfl) (H.ev rfl)) ?_; refine kl H rfl fun a H => ?_
          refine wl_v _ (r_move (H.ev rfl)) ?_; refine kl H rfl fun a H => ?_
          refine wl_s (kg_no rfl H rfl rfl rfl) ?_; refine kl H rfl fun a H => ?_
          refine wl_s (kg_no rfl H rfl rfl rfl) ?_; refine kl H rfl fun a H => ?_
          refine wl_s (kg_no rfl H rfl rfl rfl) ?_; refine kl H rfl fun a H => ?_
          refine wl_v _ (r_pick_t (H.ev rfl) evc) ?_; refine kl H rfl fun a H => ?_
          refine wpList_nil ?_
          refine c_next ?_
          refine c_cond_t H rfl ?_
          refine wp_seq ?_
          refine wp_region_lit ?_
          refine wl_v _ (r_row (cs := [.int .i64 n, .slice A1 L.length c1]) (H.ev rfl) (block_range k6) (by kernel_rfl) s24 rfl) ?_; refine kl H rfl fun a H => ?_
          refine op_store1 24 (.tmp 4) (.tmp 39) b2 0 24 (.agg #[.int .i64 n, .slice A1 L.length c1]) _ (H.ev rfl) (H.ev rfl) k2 s24 (by simp [Value.cells]) (by simp [Value.cells, Value.oneCell']) fun w' hb ho kq => ?_; clear k2; have k2 : Block _ b2 24 #[.int .i64 n, .slice A1 L.length c1] := kq; clear kq; replace k0 := block_same k0 (ho _ (by omega)); replace k1 := block_same k1 (ho _ (by omega)); replace k6 := block_same k6 (ho _ (by omega)); replace hown := ROwn.keep hown (fun q e => ho q (by have := (hown.lt e).1; omega)); replace hBc := le_up hBc (hb _ g2); replace hall := hall.trans (hb _ g2); clear hb ho; refine kl0 H fun a H => ?_
          refine wl_v _ (r_assign evc) ?_; refine kl H rfl fun a H => ?_
          refine wpList_nil ?_
          refine c_next ?_
          refine wp_ret ?_
          refine r_then ?_
          rw [show takeF n L x = ((n, L), []) from shut_of (by first | exact .inl hrt | exact .inr (.inl (by omega)) | exact .inr (.inr (.inl (by omega))) | exact .inr (.inr (.inr (.inl (by omega)))) | exact .inr (.inr (.inr (.inr (has_iff.2 ⟨y, List.mem_of_getElem? HY.out, by omega⟩)))))]
          exact k_ret_cell2 H rfl rfl rfl k2 Try.underlying24 rfl s24 ⟨⟨_, _, rfl, ⟨IOwn.row hown, own_fresh hown hBW⟩, ⟨Row.nil, nil_fresh⟩⟩, hall⟩
        · skip
          refine op_unguard _ _ (kg_yes rfl H rfl rfl rfl) ?_; refine wl_v _ (r_ge Try.underlying3 (H.ev rfl) evc (dec_f (hcc1))) ?_; refine kl H rfl fun a H => ?_
          refine wl_v _ (r_pick_f (H.ev rfl) (H.ev rfl)) ?_; refine kl H rfl fun a H => ?_
          refine wl_v _ (r_move (H.ev rfl)) ?_; refine kl H rfl fun a H => ?_
          refine op_unguard _ _ (kg_yes rfl H rfl rfl rfl) ?_; refine wl_v _ (r_fld (q := 0) fld33_0 (H.ev rfl) rfl) ?_; refine kl H rfl fun a H => ?_
          refine op_unguard _ _ (kg_yes rfl H rfl rfl rfl) ?_; refine wl_v _ (r_ld Try.underlying3 rfl (H.ev rfl) ((Block.cell k1 0).trans rfl)) ?_; refine kl H rfl fun a H => ?_
          by_cases hcc2 : x.1 ≥ 1073741824
          · skip
            refine op_unguard _ _ (kg_yes rfl H rfl rfl rfl) ?_; refine wl_v _ (r_ge Try.underlying3 (H.ev rfl) evc (dec_t (hcc2))) ?_; refine kl H rfl fun a H => ?_
            refine wl_v _ (r_pick_f (H.ev rfl) (H.ev rfl)) ?_; refine kl H rfl fun a H => ?_
            refine wpList_nil ?_
            refine c_next ?_
            refine c_cond_t H rfl ?_
            refine wp_seq ?_
            refine wp_region_lit ?_
            refine wl_v _ (r_row (cs := [.int .i64 n, .slice A1 L.length c1]) (H.ev rfl) (block_range k6) (by kernel_rfl) s24 rfl) ?_; refine kl H rfl fun a H => ?_
            refine op_store1 24 (.tmp 4) (.tmp 39) b2 0 24 (.agg #[.int .i64 n, .slice A1 L.length c1]) _ (H.ev rfl) (H.ev rfl) k2 s24 (by simp [Value.cells]) (by simp [Value.cells, Value.oneCell']) fun w' hb ho kq => ?_; clear k2; have k2 : Block _ b2 24 #[.int .i64 n, .slice A1 L.length c1] := kq; clear kq; replace k0 := block_same k0 (ho _ (by omega)); replace k1 := block_same k1 (ho _ (by omega)); replace k6 := block_same k6 (ho _ (by omega)); replace hown := ROwn.keep hown (fun q e => ho q (by have := (hown.lt e).1; omega)); replace hBc := le_up hBc (hb _ g2); replace hall := hall.trans (hb _ g2); clear hb ho; refine kl0 H fun a H => ?_
            refine wl_v _ (r_assign evc) ?_; refine kl H rfl fun a H => ?_
            refine wpList_nil ?_
            refine c_next ?_
            refine wp_ret ?_
            refine r_then ?_
            rw [show takeF n L x = ((n, L), []) from shut_of (by first | exact .inl hrt | exact .inr (.inl (by omega)) | exact .inr (.inr (.inl (by omega))) | exact .inr (.inr (.inr (.inl (by omega)))) | exact .inr (.inr (.inr (.inr (has_iff.2 ⟨y, List.mem_of_getElem? HY.out, by omega⟩)))))]
            exact k_ret_cell2 H rfl rfl rfl k2 Try.underlying24 rfl s24 ⟨⟨_, _, rfl, ⟨IOwn.row hown, own_fresh hown hBW⟩, ⟨Row.nil, nil_fresh⟩⟩, hall⟩
          · skip
            refine op_unguard _ _ (kg_yes rfl H rfl rfl rfl) ?_; refine wl_v _ (r_ge Try.underlying3 (H.ev rfl) evc (dec_f (hcc2))) ?_; refine kl H rfl fun a H => ?_
            refine wl_v _ (r_pick_f (H.ev rfl) (H.ev rfl)) ?_; refine kl H rfl fun a H => ?_
            refine wpList_nil ?_
            refine c_next ?_
            refine c_cond_f H rfl ?_
            refine wp_skip ?_
            refine c_next ?_
            refine wp_seq ?_
            refine wp_region_lit ?_
            refine wl_v _ (r_assign evc) ?_; refine kl H rfl fun a H => ?_
            refine wpList_nil ?_
            refine c_next ?_
            refine wp_seq ?_
            refine wp_block ?_
            refine wp_loop (Tk13 w B b0 b1 b2 b6 n A c L A1 c1 x) (fun a _ => L.length - (intOf (a.eval (.tmp 7))).toNat) ⟨0, H.pick [2, 3, 4, 6, 7], by omega, (fun j y hj => by omega), k0, k1, k2, k6, hown, hBc, hall⟩ ?_
            clear H hall k0 k1 k2 k6 hown hBc
            rintro a w' ⟨k, H, hk, hlo, k0, k1, k2, k6, hown, hBc, hall⟩
            have H0 := H
            by_cases hlt : k < L.length
            · skip
              obtain ⟨b, o, hA, hr⟩ := flat_some encI_len hh.out (by omega) hlt
              subst hA
              have hy : L[k]? = some L[k] := List.getElem?_eq_getElem hlt
              have HRG := Lib.hid hr
              generalize L[k] = y at *
              have HY := Lib.hid hy
              clear hy hr
              have H := H0
              refine wp_seq ?_
              refine wp_seq ?_
              have hall5 := hall
              have hS : BelowOf (BelowTo hall5) _ := Below.drew (Below.refl _ (BelowTo hall5))
              refine region_pi (BelowOf (BelowTo hall5)) [(0, true), (1, true), (2, true), (3, true), (4, true), (5, true), (6, true), (7, true), (8, true), (9, true), (10, true), (11, true), (12, true), (13, true), (14, true), (15, true)] (by kernel_rfl) (by kernel_rfl) rfl (by kernel_rfl) hS ?_
              refine pi_f0 _ rfl (fun w' hS' => r_move (H.ev rfl)) ?_; refine kp H rfl fun a H => ?_
              refine pi_f0 _ rfl (fun w' hS' => r_fld (q := 1) fld24_1 (H.ev rfl) rfl) ?_; refine kp H rfl fun a H => ?_
              refine pi_f0 _ rfl (fun w' hS' => r_ld Try.underlying22 rfl (H.ev rfl) ((Block.cell (Block.ups k0 hS') 1).trans rfl)) ?_; refine kp H rfl fun a H => ?_
              refine pi_f0 _ rfl (fun w' hS' => r_len Try.underlying22 (H.ev rfl)) ?_; refine kp H rfl fun a H => ?_
              refine pi_f0 _ rfl (fun w' hS' => r_lt Try.underlying3 (H.ev rfl) (H.ev rfl) (dec_t (by omega))) ?_; refine kp H rfl fun a H => ?_
              refine pi_f0 _ rfl (fun w' hS' => r_move (H.ev rfl)) ?_; refine kp H rfl fun a H => ?_
              refine pi_f1 _ rfl rfl rfl (H.ev rfl) (fun w' hS' => r_fld (q := 1) fld24_1 (H.ev rfl) rfl) ?_; refine kp H rfl fun a H => ?_
              refine pi_f1 _ rfl rfl rfl (H.ev rfl) (fun w' hS' => r_ld Try.underlying22 rfl (H.ev rfl) ((Block.cell (Block.ups k0 hS') 1).trans rfl)) ?_; refine kp H rfl fun a H => ?_
              refine pi_f1 _ rfl rfl rfl (H.ev rfl) (fun w' hS' => r_move (H.ev rfl)) ?_; refine kp H rfl fun a H => ?_
              refine pi_f1 _ rfl rfl rfl (H.ev rfl) (fun w' hS' => r_idx (j := k) (q := o + k * 5) Try.underlying22 s33 (H.ev rfl) (H.ev rfl) (by omega) rfl) ?_; refine kp H rfl fun a H => ?_
              refine pi_f1 _ rfl rfl rfl (H.ev rfl) (fun w' hS' => r_fld (q := o + k * 5) fld33_0 (H.ev rfl) rfl) ?_; refine kp H rfl fun a H => ?_
              refine pi_f1 _ rfl rfl rfl (H.ev rfl) (fun w' hS' => r_ld Try.underlying3 rfl (H.ev rfl) (range_cell (range_ups HRG.out (hall5.trans (Below.mono hS' hall5.size))) 0 rfl)) ?_; refine kp H rfl fun a H => ?_
              refine pi_f1 _ rfl rfl rfl (H.ev rfl) (fun w' hS' => r_fld (q := 0) fld33_0 (H.ev rfl) rfl) ?_; refine kp H rfl fun a H => ?_
              refine pi_f1 _ rfl rfl rfl (H.ev rfl) (fun w' hS' => r_ld Try.underlying3 rfl (H.ev rfl) ((Block.cell (Block.ups k1 hS') 0).trans rfl)) ?_; refine kp H rfl fun a H => ?_
              by_cases hcc3 : y.1 < x.1
              · skip
                refine pi_f1 _ rfl rfl rfl (H.ev rfl) (fun w' hS' => r_lt Try.underlying3 (H.ev rfl) (H.ev rfl) (dec_t (hcc3))) ?_; refine kp H rfl fun a H => ?_
                refine pi_f0 _ rfl (fun w' hS' => r_pick_t (H.ev rfl) (H.ev rfl)) ?_; refine kp H rfl fun a H => ?_
                refine pi_nil (NoPanic.normal ?_)
                replace k0 := Block.ups k0 hS
                replace k1 := Block.ups k1 hS
                replace k2 := Block.ups k2 hS
                replace k6 := Block.ups k6 hS
                replace hown := ROwn.up hown hS
                replace hBc := le_up hBc hS
                replace hall := hall.trans (Below.mono hS hall.size)
                clear hS
                refine c_next ?_
                refine c_cond_t H rfl ?_
                refine wp_skip ?_
                refine c_next ?_
                refine wp_block ?_
                refine wp_region_lit ?_
                refine wl_v _ (r_move (H.ev rfl)) ?_; refine kl H rfl fun a H => ?_
                refine wl_v _ (r_add (q := ((k + 1 : Nat) : Int)) Try.underlying3 (H.ev rfl) evc (by omega) (by omega)) ?_; refine kl H rfl fun a H => ?_
                refine wl_v _ (r_assign (H.ev rfl)) ?_; refine kl H rfl fun a H => ?_
                refine wpList_nil ?_
                refine n_block ?_
                refine n_then ⟨⟨k + 1, H.pick [2, 3, 4, 6, 7], by omega, (lo_next hlo HY.out (by omega)), k0, k1, k2, k6, hown, hBc, hall⟩, ?_⟩
                rw [H.ev (j := 7) rfl, H0.ev (j := 7) rfl]
                simp only [intOf]
                omega
              · skip
                refine pi_f1 _ rfl rfl rfl (H.ev rfl) (fun w' hS' => r_lt Try.underlying3 (H.ev rfl) (H.ev rfl) (dec_f (hcc3))) ?_; refine kp H rfl fun a H => ?_
                refine pi_f0 _ rfl (fun w' hS' => r_pick_t (H.ev rfl) (H.ev rfl)) ?_; refine kp H rfl fun a H => ?_
                refine pi_nil (NoPanic.normal ?_)
                replace k0 := Block.ups k0 hS
                replace k1 := Block.ups k1 hS
                replace k2 := Block.ups k2 hS
                replace k6 := Block.ups k6 hS
                replace hown := ROwn.up hown hS
                replace hBc := le_up hBc hS
                replace hall := hall.trans (Below.mono hS hall.size)
                clear hS
                refine c_next ?_
                refine c_cond_f H rfl ?_
                refine wp_exit ?_
                refine e_then ?_
                refine e_then ?_
                refine e_here ?_
                refine c_next ?_
                refine wp_seq ?_
                refine wp_seq ?_
                have hall7 := hall
                have hS : BelowOf (BelowTo hall7) _ := Below.drew (Below.refl _ (BelowTo hall7))
                refine region_pi (BelowOf (BelowTo hall7)) [(0, true), (1, true), (2, true), (3, true), (4, true), (5, true), (6, true), (7, true), (8, true), (9, true), (10, true), (11, true), (12, true), (13, true), (14, true), (15, true)] (by kernel_rfl) (by kernel_rfl) rfl (by kernel_rfl) hS ?_
                refine pi_f0 _ rfl (fun w' hS' => r_move (H.ev rfl)) ?_; refine kp H rfl fun a H => ?_
                refine pi_f0 _ rfl (fun w' hS' => r_fld (q := 1) fld24_1 (H.ev rfl) rfl) ?_; refine kp H rfl fun a H => ?_
                refine pi_f0 _ rfl (fun w' hS' => r_ld Try.underlying22 rfl (H.ev rfl) ((Block.cell (Block.ups k0 hS') 1).trans rfl)) ?_; refine kp H rfl fun a H => ?_
                refine pi_f0 _ rfl (fun w' hS' => r_len Try.underlying22 (H.ev rfl)) ?_; refine kp H rfl fun a H => ?_
                refine pi_f0 _ rfl (fun w' hS' => r_lt Try.underlying3 (H.ev rfl) (H.ev rfl) (dec_t (by omega))) ?_; refine kp H rfl fun a H => ?_
                refine pi_f0 _ rfl (fun w' hS' => r_move (H.ev rfl)) ?_; refine kp H rfl fun a H => ?_
                refine pi_f1 _ rfl rfl rfl (H.ev rfl) (fun w' hS' => r_fld (q := 1) fld24_1 (H.ev rfl) rfl) ?_; refine kp H rfl fun a H => ?_
                refine pi_f1 _ rfl rfl rfl (H.ev rfl) (fun w' hS' => r_ld Try.underlying22 rfl (H.ev rfl) ((Block.cell (Block.ups k0 hS') 1).trans rfl)) ?_; refine kp H rfl fun a H => ?_
                refine pi_f1 _ rfl rfl rfl (H.ev rfl) (fun w' hS' => r_move (H.ev rfl)) ?_; refine kp H rfl fun a H => ?_
                refine pi_f1 _ rfl rfl rfl (H.ev rfl) (fun w' hS' => r_idx (j := k) (q := o + k * 5) Try.underlying22 s33 (H.ev rfl) (H.ev rfl) (by omega) rfl) ?_; refine kp H rfl fun a H => ?_
                refine pi_f1 _ rfl rfl rfl (H.ev rfl) (fun w' hS' => r_fld (q := o + k * 5) fld33_0 (H.ev rfl) rfl) ?_; refine kp H rfl fun a H => ?_
                refine pi_f1 _ rfl rfl rfl (H.ev rfl) (fun w' hS' => r_ld Try.underlying3 rfl (H.ev rfl) (range_cell (range_ups HRG.out (hall7.trans (Below.mono hS' hall7.size))) 0 rfl)) ?_; refine kp H rfl fun a H => ?_
                refine pi_f1 _ rfl rfl rfl (H.ev rfl) (fun w' hS' => r_fld (q := 0) fld33_0 (H.ev rfl) rfl) ?_; refine kp H rfl fun a H => ?_
                refine pi_f1 _ rfl rfl rfl (H.ev rfl) (fun w' hS' => r_ld Try.underlying3 rfl (H.ev rfl) ((Block.cell (Block.ups k1 hS') 0).trans rfl)) ?_; refine kp H rfl fun a H => ?_
                by_cases hcc4 : y.1 = x.1
                · skip
                  refine pi_f1 _ rfl rfl rfl (H.ev rfl) (fun w' hS' => r_eq Try.underlying3 (H.ev rfl) (H.ev rfl) (dec_t (hcc4))) ?_; refine kp H rfl fun a H => ?_
                  refine pi_f0 _ rfl (fun w' hS' => r_pick_t (H.ev rfl) (H.ev rfl)) ?_; refine kp H rfl fun a H => ?_
                  refine pi_nil (NoPanic.normal ?_)
                  replace k0 := Block.ups k0 hS
                  replace k1 := Block.ups k1 hS
                  replace k2 := Block.ups k2 hS
                  replace k6 := Block.ups k6 hS
                  replace hown := ROwn.up hown hS
                  replace hBc := le_up hBc hS
                  replace hall := hall.trans (Below.mono hS hall.size)
                  clear hS
                  refine c_next ?_
                  refine c_cond_t H rfl ?_
                  refine wp_seq ?_
                  refine wp_region_lit ?_
                  refine wl_v _ (r_row (cs := [.int .i64 n, .slice A1 L.length c1]) (H.ev rfl) (block_range k6) (by kernel_rfl) s24 rfl) ?_; refine kl H rfl fun a H => ?_
                  refine op_store1 24 (.tmp 4) (.tmp 74) b2 0 24 (.agg #[.int .i64 n, .slice A1 L.length c1]) _ (H.ev rfl) (H.ev rfl) k2 s24 (by simp [Value.cells]) (by simp [Value.cells, Value.oneCell']) fun w' hb ho kq => ?_; clear k2; have k2 : Block _ b2 24 #[.int .i64 n, .slice A1 L.length c1] := kq; clear kq; replace k0 := block_same k0 (ho _ (by omega)); replace k1 := block_same k1 (ho _ (by omega)); replace k6 := block_same k6 (ho _ (by omega)); replace hown := ROwn.keep hown (fun q e => ho q (by have := (hown.lt e).1; omega)); replace hBc := le_up hBc (hb _ g2); replace hall := hall.trans (hb _ g2); clear hb ho; refine kl0 H fun a H => ?_
                  refine wl_v _ (r_assign evc) ?_; refine kl H rfl fun a H => ?_
                  refine wpList_nil ?_
                  refine c_next ?_
                  refine wp_ret ?_
                  refine r_then ?_
                  rw [show takeF n L x = ((n, L), []) from shut_of (by first | exact .inl hrt | exact .inr (.inl (by omega)) | exact .inr (.inr (.inl (by omega))) | exact .inr (.inr (.inr (.inl (by omega)))) | exact .inr (.inr (.inr (.inr (has_iff.2 ⟨y, List.mem_of_getElem? HY.out, by omega⟩)))))]
                  exact k_ret_cell2 H rfl rfl rfl k2 Try.underlying24 rfl s24 ⟨⟨_, _, rfl, ⟨IOwn.row hown, own_fresh hown hBW⟩, ⟨Row.nil, nil_fresh⟩⟩, hall⟩
                · skip
                  refine pi_f1 _ rfl rfl rfl (H.ev rfl) (fun w' hS' => r_eq Try.underlying3 (H.ev rfl) (H.ev rfl) (dec_f (hcc4))) ?_; refine kp H rfl fun a H => ?_
                  refine pi_f0 _ rfl (fun w' hS' => r_pick_t (H.ev rfl) (H.ev rfl)) ?_; refine kp H rfl fun a H => ?_
                  refine pi_nil (NoPanic.normal ?_)
                  replace k0 := Block.ups k0 hS
                  replace k1 := Block.ups k1 hS
                  replace k2 := Block.ups k2 hS
                  replace k6 := Block.ups k6 hS
                  replace hown := ROwn.up hown hS
                  replace hBc := le_up hBc hS
                  replace hall := hall.trans (Below.mono hS hall.size)
                  clear hS
                  refine c_next ?_
                  refine c_cond_f H rfl ?_
                  refine wp_skip ?_
                  refine c_next ?_
                  refine wp_seq ?_
                  refine wp_mid (Md9 w b2 b6 n L x) ?_ ?_
                  · skip
                    have hins : L.take k ++ x :: L.drop k = insI L x := ins_at HR.out.2.2.1 hk (drop_gt HR.out.2.2.1 HY.out (by omega)) (lo_last hlo hk)
                    have hnq : hasQ L x.1 = false := no_has HR.out.2.2.1 hlo HY.out (by omega)
                    have HTK : Hid (takeF n L x = popF n (insI L x)) := Lib.hid (take_open HR.out (by omega) (by omega) (by omega) hnq)
                    have HIN := Lib.hid hins
                    clear hins hnq hlo hown
                    have hall8 := hall
                    have f2 : b2 < (BelowTo hall8).heap.size := k2.lt
                    have f6 : b6 < (BelowTo hall8).heap.size := k6.lt
                    have hBW2 : w.heap.size ≤ (BelowTo hall8).heap.size := hall.size
                    have hT : Below (BelowTo hall8).heap.size (BelowTo hall8) (World.drew _) := Below.drew (Below.refl _ (BelowTo hall8))
                    have hBc8 : B ≤ (BelowTo hall8).heap.size := hBc
                    have hS : BelowAt B (BelowTo hall8) _ := Below.mono hT hBc8
                    refine region_tree (BelowAt B (BelowTo hall8)) 16 (.fl 1 (.fl 2 (.fl 3 (.fl 4 (.fl 6 (.fl 9 (.fl 10 (.fl 11 (.fl 12 (.two 0 (.two 5 (.one 7 (.one 8 (.one 13 (.fl 14 (.one 15 .done))))) 7 (.one 5 (.one 8 (.one 13 (.fl 14 (.one 15 .done)))))) 7 (.one 0 (.one 5 (.one 8 (.one 13 (.fl 14 (.one 15 .done)))))))))))))))) (by kernel_rfl) (by kernel_rfl) rfl (by kernel_rfl) hS ?_
                    refine pt_f0 _ rfl (fun w' hS' => r_fld (q := 1) fld24_1 (H.ev rfl) rfl) ?_; refine kt H rfl fun a H => ?_
                    refine pt_f0 _ rfl (fun w' hS' => r_ld Try.underlying22 rfl (H.ev rfl) ((Block.cell (Block.up k0 hS' e0) 1).trans rfl)) ?_; refine kt H rfl fun a H => ?_
                    refine pt_f0 _ rfl (fun w' hS' => r_move (H.ev rfl)) ?_; refine kt H rfl fun a H => ?_
                    refine pt_f0 (.slice (some ⟨b, o, none⟩) k c) rfl (fun w' hS' => run_op_slice Try.underlying22 (.slice (some ⟨b, o, none⟩) L.length c) none (some (.int .i64 (k : Nat))) none (H.ev rfl) rfl (by simp [H.ev (j := 78) rfl]) rfl (slice_any 0 (k) Try.underlying22 s33 _ _ (.inl ⟨rfl, rfl⟩) (.inr rfl) (by omega) (by omega) slAt_zero (by omega) (by omega))) ?_; refine kt H rfl fun a H => ?_
                    refine pt_f0 _ rfl (fun w' hS' => r_row (cs := [.int .i64 x.1, .int .i64 x.2.1, .int .i64 x.2.2.1, .int .i64 x.2.2.2.1, .int .i64 x.2.2.2.2]) (H.ev rfl) (block_range (Block.up k1 hS' e1)) (by kernel_rfl) s33 rfl) ?_; refine kt H rfl fun a H => ?_
                    refine pt_f0 _ rfl (fun w' hS' => r_fld (q := 1) fld24_1 (H.ev rfl) rfl) ?_; refine kt H rfl fun a H => ?_
                    refine pt_f0 _ rfl (fun w' hS' => r_ld Try.underlying22 rfl (H.ev rfl) ((Block.cell (Block.up k0 hS' e0) 1).trans rfl)) ?_; refine kt H rfl fun a H => ?_
                    refine pt_f0 _ rfl (fun w' hS' => r_move (H.ev rfl)) ?_; refine kt H rfl fun a H => ?_
                    refine pt_f0 (.slice (slAt (some ⟨b, o, none⟩) c k 5) (L.length - k) (c - k)) rfl (fun w' hS' => run_op_slice Try.underlying22 (.slice (some ⟨b, o, none⟩) L.length c) (some (.int .i64 (k : Nat))) none none (H.ev rfl) (by simp [H.ev (j := 86) rfl]) rfl rfl (slice_any (k) L.length Try.underlying22 s33 _ _ (.inr rfl) (.inl ⟨rfl, rfl⟩) (by omega) (by omega) rfl rfl rfl)) ?_; refine kt H rfl fun a H => ?_
                    refine pt_two (fun K hK => ?_) (fun K hK => ?_)
                    · skip
                      refine st_a0 rfl ?_; refine wpo_litv 22 0 #[] 33 #[] (by simp) (fun w => by kernel_rfl) fun w1 bl hge hb kk => ?_; have q0 := own_empty (base := (BelowTo hall8).heap.size) (size := 5) kk (Nat.le_trans hT.size hge); have q0l := kk.lt; (try have hne : b11 ≠ bl := (by have := k11.lt; omega)); (try replace k11 := k11.ups hb); replace hT := hT.trans (hb.mono hT.size); replace hS : BelowAt B (BelowTo hall8) _ := Below.mono hT hBc8; clear hb hge kk; refine hK _ _ ⟨(fun _ => hS), ?_⟩; clear hK; clear K; refine kt H rfl fun a H => ?_
                      refine pt_two (fun K hK => ?_) (fun K hK => ?_)
                      · skip
                        refine st_a0 rfl ?_; refine wpo_append 22 33 (.tmp 75) (.tmp 79) (BelowTo hall8).heap.size (.agg #[.int .i64 0, .int .i64 0, .int .i64 0, .int .i64 0, .int .i64 0]) 5 40 _ 0 [] (some ⟨b, o, none⟩) k c (FV encI (L.take k)) (H.ev rfl) (H.ev rfl) Try.underlying22 i33 rfl (by omega) q0 (by rw [FV_len encI_len, List.length_take]; omega) (((row_holds (Row.up h.out hall8)).up hT).take_fv encI_len _) (FV_one _ _) (by unfold maxLen; omega) (by omega) hT.size fun v4 w4 q4 hg hv hb2 => ?_; (try replace k11 := Block.grown k11 hg (by simp [Value.ownBlock]; omega)); replace hT := hT.trans hb2; replace hS : BelowAt B (BelowTo hall8) _ := Below.mono hT hBc8; clear hb2 hg hv q0; refine hK _ _ ⟨(fun _ => hS), ?_⟩; clear hK; clear K; refine kt H rfl fun a H => ?_
                        refine pt_one (fun K hK => ?_)
                        refine st_a0 rfl ?_; refine wpo_litv 22 1 #[(0, .agg #[.int .i64 x.1, .int .i64 x.2.1, .int .i64 x.2.2.1, .int .i64 x.2.2.2.1, .int .i64 x.2.2.2.2])] 33 #[.int .i64 x.1, .int .i64 x.2.1, .int .i64 x.2.2.1, .int .i64 x.2.2.2.1, .int .i64 x.2.2.2.2] (by simp [H.ev (j := 81) rfl]) (fun w => by kernel_rfl) fun w1 b11 hge hb k11 => ?_; (try have hne : b11 ≠ bl := (by omega)); (try replace q0 := own_ups q0 hb); (try replace q4 := own_ups q4 hb); replace hT := hT.trans (hb.mono hT.size); replace hS : BelowAt B (BelowTo hall8) _ := Below.mono hT hBc8; clear hb hge; refine hK _ _ ⟨(fun _ => hS), ?_⟩; clear hK; clear K; refine kt H rfl fun a H => ?_
                        refine pt_one (fun K hK => ?_)
                        refine st_a0 rfl ?_; refine wpo_append 22 33 (.tmp 80) (.tmp 82) (BelowTo hall8).heap.size (.agg #[.int .i64 0, .int .i64 0, .int .i64 0, .int .i64 0, .int .i64 0]) 5 40 v4 _ _ (some ⟨b11, 0, none⟩) 1 1 (FV encI [x]) (H.ev rfl) (H.ev rfl) Try.underlying22 i33 rfl (by omega) q4 (by rw [FV_len encI_len]; rfl) (holds_block k11 rfl) (FV_one _ _) (by unfold maxLen; omega) (by omega) hT.size fun v7 w7 q7 _ _ hb2 => ?_; replace hT := hT.trans hb2; replace hS : BelowAt B (BelowTo hall8) _ := Below.mono hT hBc8; clear hb2 q4 k11; refine hK _ _ ⟨(fun _ => hS), ?_⟩; clear hK; clear K; refine kt H rfl fun a H => ?_
                        refine pt_one (fun K hK => ?_)
                        refine st_a0 rfl ?_; refine wpo_append 22 33 (.tmp 83) (.tmp 87) (BelowTo hall8).heap.size (.agg #[.int .i64 0, .int .i64 0, .int .i64 0, .int .i64 0, .int .i64 0]) 5 40 v7 _ _ (slAt (some ⟨b, o, none⟩) c k 5) (L.length - k) (c - k) (FV encI (L.drop k)) (H.ev rfl) (H.ev rfl) Try.underlying22 i33 rfl (by omega) q7 (by rw [FV_len encI_len, List.length_drop]) (rs_src ((row_holds (Row.up h.out hall8)).up hT) hlc _) (FV_one _ _) (by unfold maxLen; omega) (by omega) hT.size fun v11 w11 q11 _ _ hb2 => ?_; replace hT := hT.trans hb2; replace hS : BelowAt B (BelowTo hall8) _ := Below.mono hT hBc8; clear hb2 q7; have hown4 := rs_end hk q11; rw [HIN.out] at hown4; clear q11; obtain ⟨g, cap, rfl, hBg, hgl⟩ := own_form hown4 (ins_len L x) (by omega); refine hK _ _ ⟨(fun _ => hS), ?_⟩; clear hK; clear K; refine kt H rfl fun a H => ?_
                        refine pt_f0 _ rfl (fun w' hS' => r_fld (q := 1) fld24_1 (H.ev rfl) rfl) ?_; refine kt H rfl fun a H => ?_
                        refine pt_one (fun K hK => ?_)
                        refine st_a0 rfl ?_; replace k6 := Block.ups k6 hT; refine wpo_store1 22 (.tmp 89) (.tmp 88) b6 1 24 (.slice (some ⟨g, 0, none⟩) (L.length + 1) cap) _ (H.ev rfl) (H.ev rfl) k6 s22 (by simp [Value.cells]) (by simp [Value.cells, Value.oneCell']) fun w8 hb8 ho8 kq => ?_; clear k6; have k6 : Block w8 b6 24 #[.int .i64 n, .slice (some ⟨g, 0, none⟩) (L.length + 1) cap] := kq; clear kq; replace hown4 := ROwn.keep hown4 (fun q e => ho8 q (by have := (hown4.lt e).1; omega)); replace hgl := lt_up hgl (hb8 0 (Nat.zero_le _)); have hBc2 := Nat.le_trans hT.size (hb8 0 (Nat.zero_le _)).size; replace hS : BelowAt B (BelowTo hall8) _ := hS.trans (hb8 _ g6); clear hb8 ho8 hT; refine hK _ _ ⟨(fun _ => hS), ?_⟩; clear hK; clear K; skip
                        refine pt_done (NoPanic.normal ?_)
                        replace k2 := Block.up k2 hS e2
                        replace hall := hall.trans (Below.mono hS hBW)
                        obtain ⟨B2, hB⟩ : ∃ B2, (BelowTo hall8).heap.size = B2 := ⟨_, rfl⟩
                        rw [hB] at f2 f6 hBW2 hBc2 hown4 hBg
                        clear hB hS k0 k1 hBc hBc8
                        exact ⟨rfl, B2, g, cap, H.pick [4, 6], ⟨f2, f6, hBW2, hBc2, hBg, hgl⟩, HTK.out, k2, k6, hown4, hall⟩
                      · skip
                        refine st_a0 rfl ?_; refine wpo_litv 22 1 #[(0, .agg #[.int .i64 x.1, .int .i64 x.2.1, .int .i64 x.2.2.1, .int .i64 x.2.2.2.1, .int .i64 x.2.2.2.2])] 33 #[.int .i64 x.1, .int .i64 x.2.1, .int .i64 x.2.2.1, .int .i64 x.2.2.2.1, .int .i64 x.2.2.2.2] (by simp [H.ev (j := 81) rfl]) (fun w => by kernel_rfl) fun w1 b11 hge hb k11 => ?_; (try have hne : b11 ≠ bl := (by omega)); (try replace q0 := own_ups q0 hb); (try replace q4 := own_ups q4 hb); replace hT := hT.trans (hb.mono hT.size); replace hS : BelowAt B (BelowTo hall8) _ := Below.mono hT hBc8; clear hb hge; refine hK _ _ ⟨(fun _ => hS), ?_⟩; clear hK; clear K; refine kt H rfl fun a H => ?_
                        refine pt_one (fun K hK => ?_)
                        refine st_a0 rfl ?_; refine wpo_append 22 33 (.tmp 75) (.tmp 79) (BelowTo hall8).heap.size (.agg #[.int .i64 0, .int .i64 0, .int .i64 0, .int .i64 0, .int .i64 0]) 5 40 _ 0 [] (some ⟨b, o, none⟩) k c (FV encI (L.take k)) (H.ev rfl) (H.ev rfl) Try.underlying22 i33 rfl (by omega) q0 (by rw [FV_len encI_len, List.length_take]; omega) (((row_holds (Row.up h.out hall8)).up hT).take_fv encI_len _) (FV_one _ _) (by unfold maxLen; omega) (by omega) hT.size fun v4 w4 q4 hg hv hb2 => ?_; (try replace k11 := Block.grown k11 hg (by simp [Value.ownBlock]; omega)); replace hT := hT.trans hb2; replace hS : BelowAt B (BelowTo hall8) _ := Below.mono hT hBc8; clear hb2 hg hv q0; refine hK _ _ ⟨(fun _ => hS), ?_⟩; clear hK; clear K; refine kt H rfl fun a H => ?_
                        refine pt_one (fun K hK => ?_)
                        refine st_a0 rfl ?_; refine wpo_append 22 33 (.tmp 80) (.tmp 82) (BelowTo hall8).heap.size (.agg #[.int .i64 0, .int .i64 0, .int .i64 0, .int .i64 0, .int .i64 0]) 5 40 v4 _ _ (some ⟨b11, 0, none⟩) 1 1 (FV encI [x]) (H.ev rfl) (H.ev rfl) Try.underlying22 i33 rfl (by omega) q4 (by rw [FV_len encI_len]; rfl) (holds_block k11 rfl) (FV_one _ _) (by unfold maxLen; omega) (by omega) hT.size fun v7 w7 q7 _ _ hb2 => ?_; replace hT := hT.trans hb2; replace hS : BelowAt B (BelowTo hall8) _ := Below.mono hT hBc8; clear hb2 q4 k11; refine hK _ _ ⟨(fun _ => hS), ?_⟩; clear hK; clear K; refine kt H rfl fun a H => ?_
                        refine pt_one (fun K hK => ?_)
                        refine st_a0 rfl ?_; refine wpo_append 22 33 (.tmp 83) (.tmp 87) (BelowTo hall8).heap.size (.agg #[.int .i64 0, .int .i64 0, .int .i64 0, .int .i64 0, .int .i64 0]) 5 40 v7 _ _ (slAt (some ⟨b, o, none⟩) c k 5) (L.length - k) (c - k) (FV encI (L.drop k)) (H.ev rfl) (H.ev rfl) Try.underlying22 i33 rfl (by omega) q7 (by rw [FV_len encI_len, List.length_drop]) (rs_src ((row_holds (Row.up h.out hall8)).up hT) hlc _) (FV_one _ _) (by unfold maxLen; omega) (by omega) hT.size fun v11 w11 q11 _ _ hb2 => ?_; replace hT := hT.trans hb2; replace hS : BelowAt B (BelowTo hall8) _ := Below.mono hT hBc8; clear hb2 q7; have hown4 := rs_end hk q11; rw [HIN.out] at hown4; clear q11; obtain ⟨g, cap, rfl, hBg, hgl⟩ := own_form hown4 (ins_len L x) (by omega); refine hK _ _ ⟨(fun _ => hS), ?_⟩; clear hK; clear K; refine kt H rfl fun a H => ?_
                        refine pt_f0 _ rfl (fun w' hS' => r_fld (q := 1) fld24_1 (H.ev rfl) rfl) ?_; refine kt H rfl fun a H => ?_
                        refine pt_one (fun K hK => ?_)
                        refine st_a0 rfl ?_; replace k6 := Block.ups k6 hT; refine wpo_store1 22 (.tmp 89) (.tmp 88) b6 1 24 (.slice (some ⟨g, 0, none⟩) (L.length + 1) cap) _ (H.ev rfl) (H.ev rfl) k6 s22 (by simp [Value.cells]) (by simp [Value.cells, Value.oneCell']) fun w8 hb8 ho8 kq => ?_; clear k6; have k6 : Block w8 b6 24 #[.int .i64 n, .slice (some ⟨g, 0, none⟩) (L.length + 1) cap] := kq; clear kq; replace hown4 := ROwn.keep hown4 (fun q e => ho8 q (by have := (hown4.lt e).1; omega)); replace hgl := lt_up hgl (hb8 0 (Nat.zero_le _)); have hBc2 := Nat.le_trans hT.size (hb8 0 (Nat.zero_le _)).size; replace hS : BelowAt B (BelowTo hall8) _ := hS.trans (hb8 _ g6); clear hb8 ho8 hT; refine hK _ _ ⟨(fun _ => hS), ?_⟩; clear hK; clear K; skip
                        refine pt_done (NoPanic.normal ?_)
                        replace k2 := Block.up k2 hS e2
                        replace hall := hall.trans (Below.mono hS hBW)
                        obtain ⟨B2, hB⟩ : ∃ B2, (BelowTo hall8).heap.size = B2 := ⟨_, rfl⟩
                        rw [hB] at f2 f6 hBW2 hBc2 hown4 hBg
                        clear hB hS k0 k1 hBc hBc8
                        exact ⟨rfl, B2, g, cap, H.pick [4, 6], ⟨f2, f6, hBW2, hBc2, hBg, hgl⟩, HTK.out, k2, k6, hown4, hall⟩
                    · skip
                      refine st_a0 rfl ?_; refine wpo_litv 22 1 #[(0, .agg #[.int .i64 x.1, .int .i64 x.2.1, .int .i64 x.2.2.1, .int .i64 x.2.2.2.1, .int .i64 x.2.2.2.2])] 33 #[.int .i64 x.1, .int .i64 x.2.1, .int .i64 x.2.2.1, .int .i64 x.2.2.2.1, .int .i64 x.2.2.2.2] (by simp [H.ev (j := 81) rfl]) (fun w => by kernel_rfl) fun w1 b11 hge hb k11 => ?_; (try have hne : b11 ≠ bl := (by omega)); (try replace q0 := own_ups q0 hb); (try replace q4 := own_ups q4 hb); replace hT := hT.trans (hb.mono hT.size); replace hS : BelowAt B (BelowTo hall8) _ := Below.mono hT hBc8; clear hb hge; refine hK _ _ ⟨(fun _ => hS), ?_⟩; clear hK; clear K; refine kt H rfl fun a H => ?_
                      refine pt_one (fun K hK => ?_)
                      refine st_a0 rfl ?_; refine wpo_litv 22 0 #[] 33 #[] (by simp) (fun w => by kernel_rfl) fun w1 bl hge hb kk => ?_; have q0 := own_empty (base := (BelowTo hall8).heap.size) (size := 5) kk (Nat.le_trans hT.size hge); have q0l := kk.lt; (try have hne : b11 ≠ bl := (by have := k11.lt; omega)); (try replace k11 := k11.ups hb); replace hT := hT.trans (hb.mono hT.size); replace hS : BelowAt B (BelowTo hall8) _ := Below.mono hT hBc8; clear hb hge kk; refine hK _ _ ⟨(fun _ => hS), ?_⟩; clear hK; clear K; refine kt H rfl fun a H => ?_
                      refine pt_one (fun K hK => ?_)
                      refine st_a0 rfl ?_; refine wpo_append 22 33 (.tmp 75) (.tmp 79) (BelowTo hall8).heap.size (.agg #[.int .i64 0, .int .i64 0, .int .i64 0, .int .i64 0, .int .i64 0]) 5 40 _ 0 [] (some ⟨b, o, none⟩) k c (FV encI (L.take k)) (H.ev rfl) (H.ev rfl) Try.underlying22 i33 rfl (by omega) q0 (by rw [FV_len encI_len, List.length_take]; omega) (((row_holds (Row.up h.out hall8)).up hT).take_fv encI_len _) (FV_one _ _) (by unfold maxLen; omega) (by omega) hT.size fun v4 w4 q4 hg hv hb2 => ?_; (try replace k11 := Block.grown k11 hg (by simp [Value.ownBlock]; omega)); replace hT := hT.trans hb2; replace hS : BelowAt B (BelowTo hall8) _ := Below.mono hT hBc8; clear hb2 hg hv q0; refine hK _ _ ⟨(fun _ => hS), ?_⟩; clear hK; clear K; refine kt H rfl fun a H => ?_
                      refine pt_one (fun K hK => ?_)
                      refine st_a0 rfl ?_; refine wpo_append 22 33 (.tmp 80) (.tmp 82) (BelowTo hall8).heap.size (.agg #[.int .i64 0, .int .i64 0, .int .i64 0, .int .i64 0, .int .i64 0]) 5 40 v4 _ _ (some ⟨b11, 0, none⟩) 1 1 (FV encI [x]) (H.ev rfl) (H.ev rfl) Try.underlying22 i33 rfl (by omega) q4 (by rw [FV_len encI_len]; rfl) (holds_block k11 rfl) (FV_one _ _) (by unfold maxLen; omega) (by omega) hT.size fun v7 w7 q7 _ _ hb2 => ?_; replace hT := hT.trans hb2; replace hS : BelowAt B (BelowTo hall8) _ := Below.mono hT hBc8; clear hb2 q4 k11; refine hK _ _ ⟨(fun _ => hS), ?_⟩; clear hK; clear K; refine kt H rfl fun a H => ?_
                      refine pt_one (fun K hK => ?_)
                      refine st_a0 rfl ?_; refine wpo_append 22 33 (.tmp 83) (.tmp 87) (BelowTo hall8).heap.size (.agg #[.int .i64 0, .int .i64 0, .int .i64 0, .int .i64 0, .int .i64 0]) 5 40 v7 _ _ (slAt (some ⟨b, o, none⟩) c k 5) (L.length - k) (c - k) (FV encI (L.drop k)) (H.ev rfl) (H.ev rfl) Try.underlying22 i33 rfl (by omega) q7 (by rw [FV_len encI_len, List.length_drop]) (rs_src ((row_holds (Row.up h.out hall8)).up hT) hlc _) (FV_one _ _) (by unfold maxLen; omega) (by omega) hT.size fun v11 w11 q11 _ _ hb2 => ?_; replace hT := hT.trans hb2; replace hS : BelowAt B (BelowTo hall8) _ := Below.mono hT hBc8; clear hb2 q7; have hown4 := rs_end hk q11; rw [HIN.out] at hown4; clear q11; obtain ⟨g, cap, rfl, hBg, hgl⟩ := own_form hown4 (ins_len L x) (by omega); refine hK _ _ ⟨(fun _ => hS), ?_⟩; clear hK; clear K; refine kt H rfl fun a H => ?_
                      refine pt_f0 _ rfl (fun w' hS' => r_fld (q := 1) fld24_1 (H.ev rfl) rfl) ?_; refine kt H rfl fun a H => ?_
                      refine pt_one (fun K hK => ?_)
                      refine st_a0 rfl ?_; replace k6 := Block.ups k6 hT; refine wpo_store1 22 (.tmp 89) (.tmp 88) b6 1 24 (.slice (some ⟨g, 0, none⟩) (L.length + 1) cap) _ (H.ev rfl) (H.ev rfl) k6 s22 (by simp [Value.cells]) (by simp [Value.cells, Value.oneCell']) fun w8 hb8 ho8 kq => ?_; clear k6; have k6 : Block w8 b6 24 #[.int .i64 n, .slice (some ⟨g, 0, none⟩) (L.length + 1) cap] := kq; clear kq; replace hown4 := ROwn.keep hown4 (fun q e => ho8 q (by have := (hown4.lt e).1; omega)); replace hgl := lt_up hgl (hb8 0 (Nat.zero_le _)); have hBc2 := Nat.le_trans hT.size (hb8 0 (Nat.zero_le _)).size; replace hS : BelowAt B (BelowTo hall8) _ := hS.trans (hb8 _ g6); clear hb8 ho8 hT; refine hK _ _ ⟨(fun _ => hS), ?_⟩; clear hK; clear K; skip
                      refine pt_done (NoPanic.normal ?_)
                      replace k2 := Block.up k2 hS e2
                      replace hall := hall.trans (Below.mono hS hBW)
                      obtain ⟨B2, hB⟩ : ∃ B2, (BelowTo hall8).heap.size = B2 := ⟨_, rfl⟩
                      rw [hB] at f2 f6 hBW2 hBc2 hown4 hBg
                      clear hB hS k0 k1 hBc hBc8
                      exact ⟨rfl, B2, g, cap, H.pick [4, 6], ⟨f2, f6, hBW2, hBc2, hBg, hgl⟩, HTK.out, k2, k6, hown4, hall⟩
                  · skip
                    clear H hall k0 k1 k2 k6 hown hBc
                    rintro a w' ⟨B2, g, cap, H, ⟨f2, f6, hBW2, hBc2, hBg, hgl⟩, htk, k2, k6, hown4, hall⟩
                    have HTK := Lib.hid htk
                    clear htk
                    refine c_next ?_
                    refine wp_seq ?_
                    refine wp_region_lit ?_
                    refine wl_v _ (r_assign evc) ?_; refine kl H rfl fun a H => ?_
                    refine wpList_nil ?_
                    refine c_next ?_
                    refine wp_seq ?_
                    refine wp_block ?_
                    obtain ⟨hgl', hrow⟩ := own_row_at hown4
                    have hlen := ins_len L x
                    have hbd0 : 1 ≤ n ∧ n + ((insI L x).length : Nat) ≤ n + 8 := by omega
                    have g6B := g6
                    replace g6 : w.heap.size ≤ b6 := Nat.le_trans hBW g6B
                    refine wp_loop (TkJ w B2 b2 b6 g (n + 8) (popF n (insI L x))) (fun a w' => lenAt w' b6) ⟨insI L x, n, some ⟨g, 0, none⟩, cap, .slice none 0 0, [], H.pick [4, 6, 8], hbd0, k2, by rw [hlen]; exact k6, by rw [hlen]; exact hrow, (fun b o e => by injection e with e; injection e with e; exact e.symm), ROwn.nil, (fun e => by cases e), by simp only [List.length_nil]; omega, hgl', hBc2, rfl, hall⟩ ?_
                    clear H hall k2 k6 hrow hgl hgl' hown4 hBc2 hbd0
                    rintro a w' ⟨M, nn, A', c', o, NS, H, ⟨hbd1, hbd⟩, k2, k6, hrow, hAg, hno, hog, hNS, hgl, hBc2, hpop, hall⟩
                    have H0 := H
                    cases M with
                    | nil =>
                      have k6' : Block w' b6 24 #[.int .i64 nn, .slice A' 0 c'] := k6
                      replace k6 := k6'
                      clear k6'
                      have HPE := Lib.hid (popF_nil nn)
                      refine wp_seq ?_
                      refine wp_seq ?_
                      have hall11 := hall
                      have hS : BelowOf (BelowTo hall11) _ := Below.drew (Below.refl _ (BelowTo hall11))
                      refine region_pi (BelowOf (BelowTo hall11)) [(0, true), (1, true), (2, true), (3, true), (4, true), (5, true), (6, true), (7, true), (8, true), (9, true), (10, true), (11, true), (12, true), (13, true)] (by kernel_rfl) (by kernel_rfl) rfl (by kernel_rfl) hS ?_
                      refine pi_f0 _ rfl (fun w' hS' => r_fld (q := 1) fld24_1 (H.ev rfl) rfl) ?_; refine kp H rfl fun a H => ?_
                      refine pi_f0 _ rfl (fun w' hS' => r_ld Try.underlying22 rfl (H.ev rfl) ((Block.cell (Block.ups k6 hS') 1).trans rfl)) ?_; refine kp H rfl fun a H => ?_
                      refine pi_f0 _ rfl (fun w' hS' => r_len Try.underlying22 (H.ev rfl)) ?_; refine kp H rfl fun a H => ?_
                      refine pi_f0 _ rfl (fun w' hS' => r_gt Try.underlying3 (H.ev rfl) evc (dec_f (by omega))) ?_; refine kp H rfl fun a H => ?_
                      refine pi_f0 _ rfl (fun w' hS' => r_move (H.ev rfl)) ?_; refine kp H rfl fun a H => ?_
                      refine pi_s1 rfl rfl rfl (H.ev rfl) ?_; refine kp H rfl fun a H => ?_
                      refine pi_s1 rfl rfl rfl (H.ev rfl) ?_; refine kp H rfl fun a H => ?_
                      refine pi_s1 rfl rfl rfl (H.ev rfl) ?_; refine kp H rfl fun a H => ?_
                      refine pi_s1 rfl rfl rfl (H.ev rfl) ?_; refine kp H rfl fun a H => ?_
                      refine pi_s1 rfl rfl rfl (H.ev rfl) ?_; refine kp H rfl fun a H => ?_
                      refine pi_s1 rfl rfl rfl (H.ev rfl) ?_; refine kp H rfl fun a H => ?_
                      refine pi_s1 rfl rfl rfl (H.ev rfl) ?_; refine kp H rfl fun a H => ?_
                      refine pi_s1 rfl rfl rfl (H.ev rfl) ?_; refine kp H rfl fun a H => ?_
                      refine pi_f0 _ rfl (fun w' hS' => r_pick_f (H.ev rfl) evc) ?_; refine kp H rfl fun a H => ?_
                      refine pi_nil (NoPanic.normal ?_)
                      replace k2 := Block.ups k2 hS
                      replace k6 := Block.ups k6 hS
                      replace hrow := Row.up hrow hS
                      replace hno := ROwn.up hno hS
                      replace hgl := lt_up hgl hS
                      replace hBc2 := le_up hBc2 hS
                      replace hall := hall.trans (Below.mono hS hall.size)
                      clear hS
                      refine c_next ?_
                      refine c_cond_f H rfl ?_
                      refine wp_exit ?_
                      refine e_then ?_
                      refine e_then ?_
                      refine e_here ?_
                      refine c_next ?_
                      refine wp_seq ?_
                      refine wp_region_lit ?_
                      refine wl_v _ (r_row (cs := [.int .i64 nn, .slice A' 0 c']) (H.ev rfl) (block_range k6) (by kernel_rfl) s24 rfl) ?_; refine kl H rfl fun a H => ?_
                      refine wl_v _ (r_move (H.ev rfl)) ?_; refine kl H rfl fun a H => ?_
                      refine op_store1 24 (.tmp 4) (.tmp 120) b2 0 24 (.agg #[.int .i64 nn, .slice A' 0 c']) _ (H.ev rfl) (H.ev rfl) k2 s24 (by simp [Value.cells]) (by simp [Value.cells, Value.oneCell']) fun w' hb ho kq => ?_; clear k2; have k2 : Block _ b2 24 #[.int .i64 nn, .slice A' 0 c'] := kq; clear kq; replace k6 := block_same k6 (ho _ (by omega)); replace hrow := Row.keep hrow (fun b o e => ho b (by have := hAg b o e; omega)); replace hno := ROwn.keep hno (fun q e => ho q (by have := (hno.lt e).1; omega)); replace hgl := lt_up hgl (hb _ g2); replace hBc2 := le_up hBc2 (hb _ g2); replace hall := hall.trans (hb _ g2); clear hb ho; refine kl0 H fun a H => ?_
                      refine wl_v _ (r_assign (H.ev rfl)) ?_; refine kl H rfl fun a H => ?_
                      refine wpList_nil ?_
                      refine c_next ?_
                      refine wp_ret ?_
                      rw [HTK.out, hpop, HPE.out, List.append_nil]
                      exact k_ret_cell2 H rfl rfl rfl k2 Try.underlying24 rfl s24 ⟨⟨_, _, rfl, ⟨hrow, fun A n c e b o' ea => by injection e with e1 e2 e3; rw [← e1] at ea; have := hAg b o' ea; omega⟩, ⟨NOwn.row hno, own_fresh hno hBW2⟩⟩, hall⟩
                    | cons y M =>
                      have hyl : (0 : Nat) < (y :: M).length := by simp
                      have hylI : (((y :: M).length : Nat) : Int) > 0 := by simp
                      have hyl2 : (y :: M).length = M.length + 1 := rfl
                      obtain ⟨b, oo, hA, hr⟩ := flat_some encI_len (row_holds hrow) (by omega) hyl
                      subst hA
                      have hbg : b = g := hAg b oo rfl
                      subst hbg
                      simp only [List.getElem_cons_zero] at hr
                      have hsl := hrow.slice_le
                      have H := H0
                      have HK6 := Lib.hid k6
                      by_cases hyn : y.1 = nn
                      · skip
                        refine wp_seq ?_
                        refine wp_seq ?_
                        have hall11 := hall
                        have hS : BelowOf (BelowTo hall11) _ := Below.drew (Below.refl _ (BelowTo hall11))
                        refine region_pi (BelowOf (BelowTo hall11)) [(0, true), (1, true), (2, true), (3, true), (4, true), (5, true), (6, true), (7, true), (8, true), (9, true), (10, true), (11, true), (12, true), (13, true)] (by kernel_rfl) (by kernel_rfl) rfl (by kernel_rfl) hS ?_
                        refine pi_f0 _ rfl (fun w' hS' => r_fld (q := 1) fld24_1 (H.ev rfl) rfl) ?_; refine kp H rfl fun a H => ?_
                        refine pi_f0 _ rfl (fun w' hS' => r_ld Try.underlying22 rfl (H.ev rfl) ((Block.cell (Block.ups k6 hS') 1).trans rfl)) ?_; refine kp H rfl fun a H => ?_
                        refine pi_f0 _ rfl (fun w' hS' => r_len Try.underlying22 (H.ev rfl)) ?_; refine kp H rfl fun a H => ?_
                        refine pi_f0 _ rfl (fun w' hS' => r_gt Try.underlying3 (H.ev rfl) evc (dec_t (hylI))) ?_; refine kp H rfl fun a H => ?_
                        refine pi_f0 _ rfl (fun w' hS' => r_move (H.ev rfl)) ?_; refine kp H rfl fun a H => ?_
                        refine pi_f1 _ rfl rfl rfl (H.ev rfl) (fun w' hS' => r_fld (q := 1) fld24_1 (H.ev rfl) rfl) ?_; refine kp H rfl fun a H => ?_
                        refine pi_f1 _ rfl rfl rfl (H.ev rfl) (fun w' hS' => r_ld Try.underlying22 rfl (H.ev rfl) ((Block.cell (Block.ups k6 hS') 1).trans rfl)) ?_; refine kp H rfl fun a H => ?_
                        refine pi_f1 _ rfl rfl rfl (H.ev rfl) (fun w' hS' => r_idx (j := 0) (q := oo + 0 * 5) Try.underlying22 s33 (H.ev rfl) evc (by omega) rfl) ?_; refine kp H rfl fun a H => ?_
                        refine pi_f1 _ rfl rfl rfl (H.ev rfl) (fun w' hS' => r_fld (q := oo + 0 * 5) fld33_0 (H.ev rfl) rfl) ?_; refine kp H rfl fun a H => ?_
                        refine pi_f1 _ rfl rfl rfl (H.ev rfl) (fun w' hS' => r_ld Try.underlying3 rfl (H.ev rfl) (range_cell (range_ups hr hS') 0 rfl)) ?_; refine kp H rfl fun a H => ?_
                        refine pi_f1 _ rfl rfl rfl (H.ev rfl) (fun w' hS' => r_fld (q := 0) fld24_0 (H.ev rfl) rfl) ?_; refine kp H rfl fun a H => ?_
                        refine pi_f1 _ rfl rfl rfl (H.ev rfl) (fun w' hS' => r_ld Try.underlying3 rfl (H.ev rfl) ((Block.cell (Block.ups k6 hS') 0).trans rfl)) ?_; refine kp H rfl fun a H => ?_
                        refine pi_f1 _ rfl rfl rfl (H.ev rfl) (fun w' hS' => r_eq Try.underlying3 (H.ev rfl) (H.ev rfl) (dec_t (hyn))) ?_; refine kp H rfl fun a H => ?_
                        refine pi_f0 _ rfl (fun w' hS' => r_pick_t (H.ev rfl) (H.ev rfl)) ?_; refine kp H rfl fun a H => ?_
                        refine pi_nil (NoPanic.normal ?_)
                        replace k2 := Block.ups k2 hS
                        replace k6 := Block.ups k6 hS
                        replace hrow := Row.up hrow hS
                        replace hno := ROwn.up hno hS
                        replace hgl := lt_up hgl hS
                        replace hBc2 := le_up hBc2 hS
                        replace hr := range_ups hr hS
                        replace hall := hall.trans (Below.mono hS hall.size)
                        clear hS
                        refine c_next ?_
                        refine c_cond_t H rfl ?_
                        refine wp_skip ?_
                        refine c_next ?_
                        refine wp_block ?_
                        refine wp_seq ?_
                        refine wp_region_lit ?_
                        refine wl_v _ (r_move (H.ev rfl)) ?_; refine kl H rfl fun a H => ?_
                        refine wl_v _ (r_fld (q := 1) fld24_1 (H.ev rfl) rfl) ?_; refine kl H rfl fun a H => ?_
                        refine wl_v _ (r_ld Try.underlying22 rfl (H.ev rfl) ((Block.cell k6 1).trans rfl)) ?_; refine kl H rfl fun a H => ?_
                        refine wl_v _ (r_idx (j := 0) (q := oo + 0 * 5) Try.underlying22 s33 (H.ev rfl) evc (by omega) rfl) ?_; refine kl H rfl fun a H => ?_
                        refine wl_v _ (r_fld (q := oo + 0 * 5 + 1) fld33_1 (H.ev rfl) rfl) ?_; refine kl H rfl fun a H => ?_
                        refine wl_v _ (r_row (cs := [.int .i64 y.2.1, .int .i64 y.2.2.1, .int .i64 y.2.2.2.1, .int .i64 y.2.2.2.2]) (H.ev rfl) (range_tail hr) (by kernel_rfl) s31 rfl) ?_; refine kl H rfl fun a H => ?_
                        refine op_litv 27 1 #[(0, .agg #[.int .i64 y.2.1, .int .i64 y.2.2.1, .int .i64 y.2.2.2.1, .int .i64 y.2.2.2.2])] 31 #[.int .i64 y.2.1, .int .i64 y.2.2.1, .int .i64 y.2.2.2.1, .int .i64 y.2.2.2.2] (by simp [evc, H.ev (j := 109) rfl]) (fun w => by kernel_rfl) fun w10 b10 hge hb k10 => ?_; have g10 := Nat.le_trans hall.size hge; have d2_10 : b2 < b10 := Nat.lt_of_lt_of_le k2.lt hge; have d6_10 : b6 < b10 := Nat.lt_of_lt_of_le k6.lt hge; replace k2 := Block.ups k2 hb; replace k6 := Block.ups k6 hb; replace hrow := Row.up hrow hb; replace hno := ROwn.up hno hb; replace hgl := lt_up hgl hb; replace hBc2 := le_up hBc2 hb; replace hr := range_ups hr hb; replace hall := hall.trans (hb.mono hall.size); clear hb; clear hge; refine kl H rfl fun a H => ?_
                        refine op_append 27 31 (.tmp 104) (.tmp 110) B2 (.agg #[.int .i64 0, .int .i64 0, .int .i64 0, .int .i64 0]) 4 32 o _ _ (some ⟨b10, 0, none⟩) 1 1 (FV encN [y.2]) (H.ev rfl) (H.ev rfl) Try.underlying27 i31 rfl (by omega) hno (by rw [FV_len encN_len]; rfl) (holds_block k10 rfl) (FV_one _ _) (by unfold maxLen; omega) (by omega) hBc2 fun o2 w9 hown2 hg9 hv9 hb2 => ?_; replace k2 := Block.up k2 hb2 f2; replace k6 := Block.up k6 hb2 f6; clear hr; replace hrow := Row.keep hrow (fun b' o' e => by have := hAg b' o' e; subst this; exact hg9.block _ hgl (fun e => hog e.symm)); have hog2 := app_ne hv9 hog hgl; have hno2 := app_own hown2; replace hgl := lt_up hgl hb2; replace hBc2 := le_up hBc2 hb2; replace hall := hall.trans (hb2.mono hBW2); clear hown2 hno k10 hg9 hv9 hb2 hog; have hno := hno2; have hog := hog2; clear hno2 hog2; refine kl H rfl fun a H => ?_
                        refine wl_v _ (r_assign (H.ev rfl)) ?_; refine kl H rfl fun a H => ?_
                        refine wpList_nil ?_
                        refine c_next ?_
                        refine wp_seq ?_
                        refine wp_region_lit ?_
                        refine wl_v _ (r_fld (q := 1) fld24_1 (H.ev rfl) rfl) ?_; refine kl H rfl fun a H => ?_
                        refine wl_v _ (r_ld Try.underlying22 rfl (H.ev rfl) ((Block.cell k6 1).trans rfl)) ?_; refine kl H rfl fun a H => ?_
                        refine wl_v (.slice (slAt (some ⟨b, oo, none⟩) c' 1 5) M.length (c' - 1)) (run_op_slice Try.underlying22 (.slice (some ⟨b, oo, none⟩) (y :: M).length c') (some (.int .i64 (1 : Nat))) none none (H.ev rfl) rfl rfl rfl (slice_any 1 (y :: M).length Try.underlying22 s33 _ _ (.inr rfl) (.inl ⟨rfl, rfl⟩) (by omega) (by omega) rfl (by simp) rfl)) ?_; refine kl H rfl fun a H => ?_
                        refine wl_v _ (r_fld (q := 1) fld24_1 (H.ev rfl) rfl) ?_; refine kl H rfl fun a H => ?_
                        refine op_store1 22 (.tmp 115) (.tmp 114) b6 1 24 (.slice (slAt (some ⟨b, oo, none⟩) c' 1 5) M.length (c' - 1)) _ (H.ev rfl) (H.ev rfl) k6 s22 (by simp [Value.cells]) (by simp [Value.cells, Value.oneCell']) fun w' hb ho kq => ?_; clear k6; have k6 : Block _ b6 24 #[.int .i64 nn, .slice (slAt (some ⟨b, oo, none⟩) c' 1 5) M.length (c' - 1)] := kq; clear kq; replace k2 := block_same k2 (ho _ (by omega)); replace hrow := Row.keep hrow (fun b o e => ho b (by have := hAg b o e; omega)); replace hno := ROwn.keep hno (fun q e => ho q (by have := (hno.lt e).1; omega)); replace hgl := lt_up hgl (hb _ g6); replace hBc2 := le_up hBc2 (hb _ g6); replace hall := hall.trans (hb _ g6); clear hb ho; refine kl0 H fun a H => ?_
                        refine wpList_nil ?_
                        refine c_next ?_
                        refine wp_region_lit ?_
                        refine wl_v _ (r_fld (q := 0) fld24_0 (H.ev rfl) rfl) ?_; refine kl H rfl fun a H => ?_
                        refine wl_v _ (r_ld Try.underlying3 rfl (H.ev rfl) ((Block.cell k6 0).trans rfl)) ?_; refine kl H rfl fun a H => ?_
                        refine wl_v _ (r_add (q := nn + 1) Try.underlying3 (H.ev rfl) evc (by omega) (by omega)) ?_; refine kl H rfl fun a H => ?_
                        refine wl_v _ (r_fld (q := 0) fld24_0 (H.ev rfl) rfl) ?_; refine kl H rfl fun a H => ?_
                        refine op_store1 3 (.tmp 119) (.tmp 118) b6 0 24 (.int .i64 (nn + 1)) _ (H.ev rfl) (H.ev rfl) k6 s3 (by simp [Value.cells]) (ints_one [(nn + 1)]) fun w' hb ho kq => ?_; clear k6; have k6 : Block _ b6 24 #[.int .i64 (nn + 1), .slice (slAt (some ⟨b, oo, none⟩) c' 1 5) M.length (c' - 1)] := kq; clear kq; replace k2 := block_same k2 (ho _ (by omega)); replace hrow := Row.keep hrow (fun b o e => ho b (by have := hAg b o e; omega)); replace hno := ROwn.keep hno (fun q e => ho q (by have := (hno.lt e).1; omega)); replace hgl := lt_up hgl (hb _ g6); replace hBc2 := le_up hBc2 (hb _ g6); replace hall := hall.trans (hb _ g6); clear hb ho; refine kl0 H fun a H => ?_
                        refine wpList_nil ?_
                        refine n_block ?_
                        have hrow2 : IRow _ (.slice (slAt (some ⟨b, oo, none⟩) c' 1 5) M.length (c' - 1)) M := row_tail hrow
                        have hAg2 : ∀ b' o', slAt (some ⟨b, oo, none⟩) c' 1 5 = some ⟨b', o', none⟩ → b' = b := fun b' o' e => slAt_block e
                        refine n_then ⟨⟨M, nn + 1, _, _, o2, NS ++ [y.2], H.pick [4, 6, 8], ⟨by omega, by omega⟩, k2, k6, hrow2, hAg2, hno, hog, by rw [List.length_append]; simp only [List.length_cons, List.length_nil]; omega, hgl, hBc2, by rw [hpop, popF_go (M := M) hyn, List.append_assoc]; rfl, hall⟩, ?_⟩
                        rw [lenAt_eq k6, lenAt_eq HK6.out]
                        simp
                      · skip
                        have HPE := Lib.hid (popF_stop (M := M) hyn)
                        refine wp_seq ?_
                        refine wp_seq ?_
                        have hall11 := hall
                        have hS : BelowOf (BelowTo hall11) _ := Below.drew (Below.refl _ (BelowTo hall11))
                        refine region_pi (BelowOf (BelowTo hall11)) [(0, true), (1, true), (2, true), (3, true), (4, true), (5, true), (6, true), (7, true), (8, true), (9, true), (10, true), (11, true), (12, true), (13, true)] (by kernel_rfl) (by kernel_rfl) rfl (by kernel_rfl) hS ?_
                        refine pi_f0 _ rfl (fun w' hS' => r_fld (q := 1) fld24_1 (H.ev rfl) rfl) ?_; refine kp H rfl fun a H => ?_
                        refine pi_f0 _ rfl (fun w' hS' => r_ld Try.underlying22 rfl (H.ev rfl) ((Block.cell (Block.ups k6 hS') 1).trans rfl)) ?_; refine kp H rfl fun a H => ?_
                        refine pi_f0 _ rfl (fun w' hS' => r_len Try.underlying22 (H.ev rfl)) ?_; refine kp H rfl fun a H => ?_
                        refine pi_f0 _ rfl (fun w' hS' => r_gt Try.underlying3 (H.ev rfl) evc (dec_t (hylI))) ?_; refine kp H rfl fun a H => ?_
                        refine pi_f0 _ rfl (fun w' hS' => r_move (H.ev rfl)) ?_; refine kp H rfl fun a H => ?_
                        refine pi_f1 _ rfl rfl rfl (H.ev rfl) (fun w' hS' => r_fld (q := 1) fld24_1 (H.ev rfl) rfl) ?_; refine kp H rfl fun a H => ?_
                        refine pi_f1 _ rfl rfl rfl (H.ev rfl) (fun w' hS' => r_ld Try.underlying22 rfl (H.ev rfl) ((Block.cell (Block.ups k6 hS') 1).trans rfl)) ?_; refine kp H rfl fun a H => ?_
                        refine pi_f1 _ rfl rfl rfl (H.ev rfl) (fun w' hS' => r_idx (j := 0) (q := oo + 0 * 5) Try.underlying22 s33 (H.ev rfl) evc (by omega) rfl) ?_; refine kp H rfl fun a H => ?_
                        refine pi_f1 _ rfl rfl rfl (H.ev rfl) (fun w' hS' => r_fld (q := oo + 0 * 5) fld33_0 (H.ev rfl) rfl) ?_; refine kp H rfl fun a H => ?_
                        refine pi_f1 _ rfl rfl rfl (H.ev rfl) (fun w' hS' => r_ld Try.underlying3 rfl (H.ev rfl) (range_cell (range_ups hr hS') 0 rfl)) ?_; refine kp H rfl fun a H => ?_
                        refine pi_f1 _ rfl rfl rfl (H.ev rfl) (fun w' hS' => r_fld (q := 0) fld24_0 (H.ev rfl) rfl) ?_; refine kp H rfl fun a H => ?_
                        refine pi_f1 _ rfl rfl rfl (H.ev rfl) (fun w' hS' => r_ld Try.underlying3 rfl (H.ev rfl) ((Block.cell (Block.ups k6 hS') 0).trans rfl)) ?_; refine kp H rfl fun a H => ?_
                        refine pi_f1 _ rfl rfl rfl (H.ev rfl) (fun w' hS' => r_eq Try.underlying3 (H.ev rfl) (H.ev rfl) (dec_f (hyn))) ?_; refine kp H rfl fun a H => ?_
                        refine pi_f0 _ rfl (fun w' hS' => r_pick_t (H.ev rfl) (H.ev rfl)) ?_; refine kp H rfl fun a H => ?_
                        refine pi_nil (NoPanic.normal ?_)
                        replace k2 := Block.ups k2 hS
                        replace k6 := Block.ups k6 hS
                        replace hrow := Row.up hrow hS
                        replace hno := ROwn.up hno hS
                        replace hgl := lt_up hgl hS
                        replace hBc2 := le_up hBc2 hS
                        replace hr := range_ups hr hS
                        replace hall := hall.trans (Below.mono hS hall.size)
                        clear hS
                        refine c_next ?_
                        refine c_cond_f H rfl ?_
                        refine wp_exit ?_
                        refine e_then ?_
                        refine e_then ?_
                        refine e_here ?_
                        refine c_next ?_
                        refine wp_seq ?_
                        refine wp_region_lit ?_
                        refine wl_v _ (r_row (cs := [.int .i64 nn, .slice (some ⟨b, oo, none⟩) (y :: M).length c']) (H.ev rfl) (block_range k6) (by kernel_rfl) s24 rfl) ?_; refine kl H rfl fun a H => ?_
                        refine wl_v _ (r_move (H.ev rfl)) ?_; refine kl H rfl fun a H => ?_
                        refine op_store1 24 (.tmp 4) (.tmp 120) b2 0 24 (.agg #[.int .i64 nn, .slice (some ⟨b, oo, none⟩) (y :: M).length c']) _ (H.ev rfl) (H.ev rfl) k2 s24 (by simp [Value.cells]) (by simp [Value.cells, Value.oneCell']) fun w' hb ho kq => ?_; clear k2; have k2 : Block _ b2 24 #[.int .i64 nn, .slice (some ⟨b, oo, none⟩) (y :: M).length c'] := kq; clear kq; replace k6 := block_same k6 (ho _ (by omega)); replace hrow := Row.keep hrow (fun b o e => ho b (by have := hAg b o e; omega)); replace hno := ROwn.keep hno (fun q e => ho q (by have := (hno.lt e).1; omega)); replace hgl := lt_up hgl (hb _ g2); replace hBc2 := le_up hBc2 (hb _ g2); replace hall := hall.trans (hb _ g2); clear hb ho; refine kl0 H fun a H => ?_
                        refine wl_v _ (r_assign (H.ev rfl)) ?_; refine kl H rfl fun a H => ?_
                        refine wpList_nil ?_
                        refine c_next ?_
                        refine wp_ret ?_
                        rw [HTK.out, hpop, HPE.out, List.append_nil]
                        exact k_ret_cell2 H rfl rfl rfl k2 Try.underlying24 rfl s24 ⟨⟨_, _, rfl, ⟨hrow, fun A n c e b o' ea => by injection e with e1 e2 e3; rw [← e1] at ea; have := hAg b o' ea; omega⟩, ⟨NOwn.row hno, own_fresh hno hBW2⟩⟩, hall⟩
            · skip
              refine wp_seq ?_
              refine wp_seq ?_
              have hall5 := hall
              have hS : BelowOf (BelowTo hall5) _ := Below.drew (Below.refl _ (BelowTo hall5))
              refine region_pi (BelowOf (BelowTo hall5)) [(0, true), (1, true), (2, true), (3, true), (4, true), (5, true), (6, true), (7, true), (8, true), (9, true), (10, true), (11, true), (12, true), (13, true), (14, true), (15, true)] (by kernel_rfl) (by kernel_rfl) rfl (by kernel_rfl) hS ?_
              refine pi_f0 _ rfl (fun w' hS' => r_move (H.ev rfl)) ?_; refine kp H rfl fun a H => ?_
              refine pi_f0 _ rfl (fun w' hS' => r_fld (q := 1) fld24_1 (H.ev rfl) rfl) ?_; refine kp H rfl fun a H => ?_
              refine pi_f0 _ rfl (fun w' hS' => r_ld Try.underlying22 rfl (H.ev rfl) ((Block.cell (Block.ups k0 hS') 1).trans rfl)) ?_; refine kp H rfl fun a H => ?_
              refine pi_f0 _ rfl (fun w' hS' => r_len Try.underlying22 (H.ev rfl)) ?_; refine kp H rfl fun a H => ?_
              refine pi_f0 _ rfl (fun w' hS' => r_lt Try.underlying3 (H.ev rfl) (H.ev rfl) (dec_f (by omega))) ?_; refine kp H rfl fun a H => ?_
              refine pi_f0 _ rfl (fun w' hS' => r_move (H.ev rfl)) ?_; refine kp H rfl fun a H => ?_
              refine pi_s1 rfl rfl rfl (H.ev rfl) ?_; refine kp H rfl fun a H => ?_
              refine pi_s1 rfl rfl rfl (H.ev rfl) ?_; refine kp H rfl fun a H => ?_
              refine pi_s1 rfl rfl rfl (H.ev rfl) ?_; refine kp H rfl fun a H => ?_
              refine pi_s1 rfl rfl rfl (H.ev rfl) ?_; refine kp H rfl fun a H => ?_
              refine pi_s1 rfl rfl rfl (H.ev rfl) ?_; refine kp H rfl fun a H => ?_
              refine pi_s1 rfl rfl rfl (H.ev rfl) ?_; refine kp H rfl fun a H => ?_
              refine pi_s1 rfl rfl rfl (H.ev rfl) ?_; refine kp H rfl fun a H => ?_
              refine pi_s1 rfl rfl rfl (H.ev rfl) ?_; refine kp H rfl fun a H => ?_
              refine pi_s1 rfl rfl rfl (H.ev rfl) ?_; refine kp H rfl fun a H => ?_
              refine pi_f0 _ rfl (fun w' hS' => r_pick_f (H.ev rfl) evc) ?_; refine kp H rfl fun a H => ?_
              refine pi_nil (NoPanic.normal ?_)
              replace k0 := Block.ups k0 hS
              replace k1 := Block.ups k1 hS
              replace k2 := Block.ups k2 hS
              replace k6 := Block.ups k6 hS
              replace hown := ROwn.up hown hS
              replace hBc := le_up hBc hS
              replace hall := hall.trans (Below.mono hS hall.size)
              clear hS
              refine c_next ?_
              refine c_cond_f H rfl ?_
              refine wp_exit ?_
              refine e_then ?_
              refine e_then ?_
              refine e_here ?_
              refine c_next ?_
              refine wp_seq ?_
              refine wp_seq ?_
              have hall7 := hall
              have hS : BelowOf (BelowTo hall7) _ := Below.drew (Below.refl _ (BelowTo hall7))
              refine region_pi (BelowOf (BelowTo hall7)) [(0, true), (1, true), (2, true), (3, true), (4, true), (5, true), (6, true), (7, true), (8, true), (9, true), (10, true), (11, true), (12, true), (13, true), (14, true), (15, true)] (by kernel_rfl) (by kernel_rfl) rfl (by kernel_rfl) hS ?_
              refine pi_f0 _ rfl (fun w' hS' => r_move (H.ev rfl)) ?_; refine kp H rfl fun a H => ?_
              refine pi_f0 _ rfl (fun w' hS' => r_fld (q := 1) fld24_1 (H.ev rfl) rfl) ?_; refine kp H rfl fun a H => ?_
              refine pi_f0 _ rfl (fun w' hS' => r_ld Try.underlying22 rfl (H.ev rfl) ((Block.cell (Block.ups k0 hS') 1).trans rfl)) ?_; refine kp H rfl fun a H => ?_
              refine pi_f0 _ rfl (fun w' hS' => r_len Try.underlying22 (H.ev rfl)) ?_; refine kp H rfl fun a H => ?_
              refine pi_f0 _ rfl (fun w' hS' => r_lt Try.underlying3 (H.ev rfl) (H.ev rfl) (dec_f (by omega))) ?_; refine kp H rfl fun a H => ?_
              refine pi_f0 _ rfl (fun w' hS' => r_move (H.ev rfl)) ?_; refine kp H rfl fun a H => ?_
              refine pi_s1 rfl rfl rfl (H.ev rfl) ?_; refine kp H rfl fun a H => ?_
              refine pi_s1 rfl rfl rfl (H.ev rfl) ?_; refine kp H rfl fun a H => ?_
              refine pi_s1 rfl rfl rfl (H.ev rfl) ?_; refine kp H rfl fun a H => ?_
              refine pi_s1 rfl rfl rfl (H.ev rfl) ?_; refine kp H rfl fun a H => ?_
              refine pi_s1 rfl rfl rfl (H.ev rfl) ?_; refine kp H rfl fun a H => ?_
              refine pi_s1 rfl rfl rfl (H.ev rfl) ?_; refine kp H rfl fun a H => ?_
              refine pi_s1 rfl rfl rfl (H.ev rfl) ?_; refine kp H rfl fun a H => ?_
              refine pi_s1 rfl rfl rfl (H.ev rfl) ?_; refine kp H rfl fun a H => ?_
              refine pi_s1 rfl rfl rfl (H.ev rfl) ?_; refine kp H rfl fun a H => ?_
              refine pi_f0 _ rfl (fun w' hS' => r_pick_f (H.ev rfl) evc) ?_; refine kp H rfl fun a H => ?_
              refine pi_nil (NoPanic.normal ?_)
              replace k0 := Block.ups k0 hS
              replace k1 := Block.ups k1 hS
              replace k2 := Block.ups k2 hS
              replace k6 := Block.ups k6 hS
              replace hown := ROwn.up hown hS
              replace hBc := le_up hBc hS
              replace hall := hall.trans (Below.mono hS hall.size)
              clear hS
              refine c_next ?_
              refine c_cond_f H rfl ?_
              refine wp_skip ?_
              refine c_next ?_
              refine wp_seq ?_
              refine wp_mid (Md9 w b2 b6 n L x) ?_ ?_
              · skip
                obtain rfl : k = L.length := by omega
                have hins : L.take L.length ++ x :: L.drop L.length = insI L x := ins_at HR.out.2.2.1 (Nat.le_refl _) (by simp) (lo_last hlo hk)
                have hnq : hasQ L x.1 = false := no_all hlo
                have HTK : Hid (takeF n L x = popF n (insI L x)) := Lib.hid (take_open HR.out (by omega) (by omega) (by omega) hnq)
                have HIN := Lib.hid hins
                clear hins hnq hlo hown
                have hall8 := hall
                have f2 : b2 < (BelowTo hall8).heap.size := k2.lt
                have f6 : b6 < (BelowTo hall8).heap.size := k6.lt
                have hBW2 : w.heap.size ≤ (BelowTo hall8).heap.size := hall.size
                have hT : Below (BelowTo hall8).heap.size (BelowTo hall8) (World.drew _) := Below.drew (Below.refl _ (BelowTo hall8))
                have hBc8 : B ≤ (BelowTo hall8).heap.size := hBc
                have hS : BelowAt B (BelowTo hall8) _ := Below.mono hT hBc8
                refine region_tree (BelowAt B (BelowTo hall8)) 16 (.fl 1 (.fl 2 (.fl 3 (.fl 4 (.fl 6 (.fl 9 (.fl 10 (.fl 11 (.fl 12 (.two 0 (.two 5 (.one 7 (.one 8 (.one 13 (.fl 14 (.one 15 .done))))) 7 (.one 5 (.one 8 (.one 13 (.fl 14 (.one 15 .done)))))) 7 (.one 0 (.one 5 (.one 8 (.one 13 (.fl 14 (.one 15 .done)))))))))))))))) (by kernel_rfl) (by kernel_rfl) rfl (by kernel_rfl) hS ?_
                refine pt_f0 _ rfl (fun w' hS' => r_fld (q := 1) fld24_1 (H.ev rfl) rfl) ?_; refine kt H rfl fun a H => ?_
                refine pt_f0 _ rfl (fun w' hS' => r_ld Try.underlying22 rfl (H.ev rfl) ((Block.cell (Block.up k0 hS' e0) 1).trans rfl)) ?_; refine kt H rfl fun a H => ?_
                refine pt_f0 _ rfl (fun w' hS' => r_move (H.ev rfl)) ?_; refine kt H rfl fun a H => ?_
                refine pt_f0 (.slice A (L.length) c) rfl (fun w' hS' => run_op_slice Try.underlying22 (.slice A L.length c) none (some (.int .i64 (L.length : Nat))) none (H.ev rfl) rfl (by simp [H.ev (j := 78) rfl]) rfl (slice_any 0 (L.length) Try.underlying22 s33 _ _ (.inl ⟨rfl, rfl⟩) (.inr rfl) (by omega) (by omega) slAt_zero (by omega) (by omega))) ?_; refine kt H rfl fun a H => ?_
                refine pt_f0 _ rfl (fun w' hS' => r_row (cs := [.int .i64 x.1, .int .i64 x.2.1, .int .i64 x.2.2.1, .int .i64 x.2.2.2.1, .int .i64 x.2.2.2.2]) (H.ev rfl) (block_range (Block.up k1 hS' e1)) (by kernel_rfl) s33 rfl) ?_; refine kt H rfl fun a H => ?_
                refine pt_f0 _ rfl (fun w' hS' => r_fld (q := 1) fld24_1 (H.ev rfl) rfl) ?_; refine kt H rfl fun a H => ?_
                refine pt_f0 _ rfl (fun w' hS' => r_ld Try.underlying22 rfl (H.ev rfl) ((Block.cell (Block.up k0 hS' e0) 1).trans rfl)) ?_; refine kt H rfl fun a H => ?_
                refine pt_f0 _ rfl (fun w' hS' => r_move (H.ev rfl)) ?_; refine kt H rfl fun a H => ?_
                refine pt_f0 (.slice (slAt A c (L.length) 5) (L.length - L.length) (c - L.length)) rfl (fun w' hS' => run_op_slice Try.underlying22 (.slice A L.length c) (some (.int .i64 (L.length : Nat))) none none (H.ev rfl) (by simp [H.ev (j := 86) rfl]) rfl rfl (slice_any (L.length) L.length Try.underlying22 s33 _ _ (.inr rfl) (.inl ⟨rfl, rfl⟩) (by omega) (by omega) rfl rfl rfl)) ?_; refine kt H rfl fun a H => ?_
                refine pt_two (fun K hK => ?_) (fun K hK => ?_)
                · skip
                  refine st_a0 rfl ?_; refine wpo_litv 22 0 #[] 33 #[] (by simp) (fun w => by kernel_rfl) fun w1 bl hge hb kk => ?_; have q0 := own_empty (base := (BelowTo hall8).heap.size) (size := 5) kk (Nat.le_trans hT.size hge); have q0l := kk.lt; (try have hne : b11 ≠ bl := (by have := k11.lt; omega)); (try replace k11 := k11.ups hb); replace hT := hT.trans (hb.mono hT.size); replace hS : BelowAt B (BelowTo hall8) _ := Below.mono hT hBc8; clear hb hge kk; refine hK _ _ ⟨(fun _ => hS), ?_⟩; clear hK; clear K; refine kt H rfl fun a H => ?_
                  refine pt_two (fun K hK => ?_) (fun K hK => ?_)
                  · skip
                    refine st_a0 rfl ?_; refine wpo_append 22 33 (.tmp 75) (.tmp 79) (BelowTo hall8).heap.size (.agg #[.int .i64 0, .int .i64 0, .int .i64 0, .int .i64 0, .int .i64 0]) 5 40 _ 0 [] A (L.length) c (FV encI (L.take (L.length))) (H.ev rfl) (H.ev rfl) Try.underlying22 i33 rfl (by omega) q0 (by rw [FV_len encI_len, List.length_take]; omega) (((row_holds (Row.up h.out hall8)).up hT).take_fv encI_len _) (FV_one _ _) (by unfold maxLen; omega) (by omega) hT.size fun v4 w4 q4 hg hv hb2 => ?_; (try replace k11 := Block.grown k11 hg (by simp [Value.ownBlock]; omega)); replace hT := hT.trans hb2; replace hS : BelowAt B (BelowTo hall8) _ := Below.mono hT hBc8; clear hb2 hg hv q0; refine hK _ _ ⟨(fun _ => hS), ?_⟩; clear hK; clear K; refine kt H rfl fun a H => ?_
                    refine pt_one (fun K hK => ?_)
                    refine st_a0 rfl ?_; refine wpo_litv 22 1 #[(0, .agg #[.int .i64 x.1, .int .i64 x.2.1, .int .i64 x.2.2.1, .int .i64 x.2.2.2.1, .int .i64 x.2.2.2.2])] 33 #[.int .i64 x.1, .int .i64 x.2.1, .int .i64 x.2.2.1, .int .i64 x.2.2.2.1, .int .i64 x.2.2.2.2] (by simp [H.ev (j := 81) rfl]) (fun w => by kernel_rfl) fun w1 b11 hge hb k11 => ?_; (try have hne : b11 ≠ bl := (by omega)); (try replace q0 := own_ups q0 hb); (try replace q4 := own_ups q4 hb); replace hT := hT.trans (hb.mono hT.size); replace hS : BelowAt B (BelowTo hall8) _ := Below.mono hT hBc8; clear hb hge; refine hK _ _ ⟨(fun _ => hS), ?_⟩; clear hK; clear K; refine kt H rfl fun a H => ?_
                    refine pt_one (fun K hK => ?_)
                    refine st_a0 rfl ?_; refine wpo_append 22 33 (.tmp 80) (.tmp 82) (BelowTo hall8).heap.size (.agg #[.int .i64 0, .int .i64 0, .int .i64 0, .int .i64 0, .int .i64 0]) 5 40 v4 _ _ (some ⟨b11, 0, none⟩) 1 1 (FV encI [x]) (H.ev rfl) (H.ev rfl) Try.underlying22 i33 rfl (by omega) q4 (by rw [FV_len encI_len]; rfl) (holds_block k11 rfl) (FV_one _ _) (by unfold maxLen; omega) (by omega) hT.size fun v7 w7 q7 _ _ hb2 => ?_; replace hT := hT.trans hb2; replace hS : BelowAt B (BelowTo hall8) _ := Below.mono hT hBc8; clear hb2 q4 k11; refine hK _ _ ⟨(fun _ => hS), ?_⟩; clear hK; clear K; refine kt H rfl fun a H => ?_
                    refine pt_one (fun K hK => ?_)
                    refine st_a0 rfl ?_; refine wpo_append 22 33 (.tmp 83) (.tmp 87) (BelowTo hall8).heap.size (.agg #[.int .i64 0, .int .i64 0, .int .i64 0, .int .i64 0, .int .i64 0]) 5 40 v7 _ _ (slAt A c (L.length) 5) (L.length - L.length) (c - L.length) (FV encI (L.drop (L.length))) (H.ev rfl) (H.ev rfl) Try.underlying22 i33 rfl (by omega) q7 (by rw [FV_len encI_len, List.length_drop]) (rs_src ((row_holds (Row.up h.out hall8)).up hT) hlc _) (FV_one _ _) (by unfold maxLen; omega) (by omega) hT.size fun v11 w11 q11 _ _ hb2 => ?_; replace hT := hT.trans hb2; replace hS : BelowAt B (BelowTo hall8) _ := Below.mono hT hBc8; clear hb2 q7; have hown4 := rs_end hk q11; rw [HIN.out] at hown4; clear q11; obtain ⟨g, cap, rfl, hBg, hgl⟩ := own_form hown4 (ins_len L x) (by omega); refine hK _ _ ⟨(fun _ => hS), ?_⟩; clear hK; clear K; refine kt H rfl fun a H => ?_
                    refine pt_f0 _ rfl (fun w' hS' => r_fld (q := 1) fld24_1 (H.ev rfl) rfl) ?_; refine kt H rfl fun a H => ?_
                    refine pt_one (fun K hK => ?_)
                    refine st_a0 rfl ?_; replace k6 := Block.ups k6 hT; refine wpo_store1 22 (.tmp 89) (.tmp 88) b6 1 24 (.slice (some ⟨g, 0, none⟩) (L.length + 1) cap) _ (H.ev rfl) (H.ev rfl) k6 s22 (by simp [Value.cells]) (by simp [Value.cells, Value.oneCell']) fun w8 hb8 ho8 kq => ?_; clear k6; have k6 : Block w8 b6 24 #[.int .i64 n, .slice (some ⟨g, 0, none⟩) (L.length + 1) cap] := kq; clear kq; replace hown4 := ROwn.keep hown4 (fun q e => ho8 q (by have := (hown4.lt e).1; omega)); replace hgl := lt_up hgl (hb8 0 (Nat.zero_le _)); have hBc2 := Nat.le_trans hT.size (hb8 0 (Nat.zero_le _)).size; replace hS : BelowAt B (BelowTo hall8) _ := hS.trans (hb8 _ g6); clear hb8 ho8 hT; refine hK _ _ ⟨(fun _ => hS), ?_⟩; clear hK; clear K; skip
                    refine pt_done (NoPanic.normal ?_)
                    replace k2 := Block.up k2 hS e2
                    replace hall := hall.trans (Below.mono hS hBW)
                    obtain ⟨B2, hB⟩ : ∃ B2, (BelowTo hall8).heap.size = B2 := ⟨_, rfl⟩
                    rw [hB] at f2 f6 hBW2 hBc2 hown4 hBg
                    clear hB hS k0 k1 hBc hBc8
                    exact ⟨rfl, B2, g, cap, H.pick [4, 6], ⟨f2, f6, hBW2, hBc2, hBg, hgl⟩, HTK.out, k2, k6, hown4, hall⟩
                  · skip
                    refine st_a0 rfl ?_; refine wpo_litv 22 1 #[(0, .agg #[.int .i64 x.1, .int .i64 x.2.1, .int .i64 x.2.2.1, .int .i64 x.2.2.2.1, .int .i64 x.2.2.2.2])] 33 #[.int .i64 x.1, .int .i64 x.2.1, .int .i64 x.2.2.1, .int .i64 x.2.2.2.1, .int .i64 x.2.2.2.2] (by simp [H.ev (j := 81) rfl]) (fun w => by kernel_rfl) fun w1 b11 hge hb k11 => ?_; (try have hne : b11 ≠ bl := (by omega)); (try replace q0 := own_ups q0 hb); (try replace q4 := own_ups q4 hb); replace hT := hT.trans (hb.mono hT.size); replace hS : BelowAt B (BelowTo hall8) _ := Below.mono hT hBc8; clear hb hge; refine hK _ _ ⟨(fun _ => hS), ?_⟩; clear hK; clear K; refine kt H rfl fun a H => ?_
                    refine pt_one (fun K hK => ?_)
                    refine st_a0 rfl ?_; refine wpo_append 22 33 (.tmp 75) (.tmp 79) (BelowTo hall8).heap.size (.agg #[.int .i64 0, .int .i64 0, .int .i64 0, .int .i64 0, .int .i64 0]) 5 40 _ 0 [] A (L.length) c (FV encI (L.take (L.length))) (H.ev rfl) (H.ev rfl) Try.underlying22 i33 rfl (by omega) q0 (by rw [FV_len encI_len, List.length_take]; omega) (((row_holds (Row.up h.out hall8)).up hT).take_fv encI_len _) (FV_one _ _) (by unfold maxLen; omega) (by omega) hT.size fun v4 w4 q4 hg hv hb2 => ?_; (try replace k11 := Block.grown k11 hg (by simp [Value.ownBlock]; omega)); replace hT := hT.trans hb2; replace hS : BelowAt B (BelowTo hall8) _ := Below.mono hT hBc8; clear hb2 hg hv q0; refine hK _ _ ⟨(fun _ => hS), ?_⟩; clear hK; clear K; refine kt H rfl fun a H => ?_
                    refine pt_one (fun K hK => ?_)
                    refine st_a0 rfl ?_; refine wpo_append 22 33 (.tmp 80) (.tmp 82) (BelowTo hall8).heap.size (.agg #[.int .i64 0, .int .i64 0, .int .i64 0, .int .i64 0, .int .i64 0]) 5 40 v4 _ _ (some ⟨b11, 0, none⟩) 1 1 (FV encI [x]) (H.ev rfl) (H.ev rfl) Try.underlying22 i33 rfl (by omega) q4 (by rw [FV_len encI_len]; rfl) (holds_block k11 rfl) (FV_one _ _) (by unfold maxLen; omega) (by omega) hT.size fun v7 w7 q7 _ _ hb2 => ?_; replace hT := hT.trans hb2; replace hS : BelowAt B (BelowTo hall8) _ := Below.mono hT hBc8; clear hb2 q4 k11; refine hK _ _ ⟨(fun _ => hS), ?_⟩; clear hK; clear K; refine kt H rfl fun a H => ?_
                    refine pt_one (fun K hK => ?_)
                    refine st_a0 rfl ?_; refine wpo_append 22 33 (.tmp 83) (.tmp 87) (BelowTo hall8).heap.size (.agg #[.int .i64 0, .int .i64 0, .int .i64 0, .int .i64 0, .int .i64 0]) 5 40 v7 _ _ (slAt A c (L.length) 5) (L.length - L.length) (c - L.length) (FV encI (L.drop (L.length))) (H.ev rfl) (H.ev rfl) Try.underlying22 i33 rfl (by omega) q7 (by rw [FV_len encI_len, List.length_drop]) (rs_src ((row_holds (Row.up h.out hall8)).up hT) hlc _) (FV_one _ _) (by unfold maxLen; omega) (by omega) hT.size fun v11 w11 q11 _ _ hb2 => ?_; replace hT := hT.trans hb2; replace hS : BelowAt B (BelowTo hall8) _ := Below.mono hT hBc8; clear hb2 q7; have hown4 := rs_end hk q11; rw [HIN.out] at hown4; clear q11; obtain ⟨g, cap, rfl, hBg, hgl⟩ := own_form hown4 (ins_len L x) (by omega); refine hK _ _ ⟨(fun _ => hS), ?_⟩; clear hK; clear K; refine kt H rfl fun a H => ?_
                    refine pt_f0 _ rfl (fun w' hS' => r_fld (q := 1) fld24_1 (H.ev rfl) rfl) ?_; refine kt H rfl fun a H => ?_
                    refine pt_one (fun K hK => ?_)
                    refine st_a0 rfl ?_; replace k6 := Block.ups k6 hT; refine wpo_store1 22 (.tmp 89) (.tmp 88) b6 1 24 (.slice (some ⟨g, 0, none⟩) (L.length + 1) cap) _ (H.ev rfl) (H.ev rfl) k6 s22 (by simp [Value.cells]) (by simp [Value.cells, Value.oneCell']) fun w8 hb8 ho8 kq => ?_; clear k6; have k6 : Block w8 b6 24 #[.int .i64 n, .slice (some ⟨g, 0, none⟩) (L.length + 1) cap] := kq; clear kq; replace hown4 := ROwn.keep hown4 (fun q e => ho8 q (by have := (hown4.lt e).1; omega)); replace hgl := lt_up hgl (hb8 0 (Nat.zero_le _)); have hBc2 := Nat.le_trans hT.size (hb8 0 (Nat.zero_le _)).size; replace hS : BelowAt B (BelowTo hall8) _ := hS.trans (hb8 _ g6); clear hb8 ho8 hT; refine hK _ _ ⟨(fun _ => hS), ?_⟩; clear hK; clear K; skip
                    refine pt_done (NoPanic.normal ?_)
                    replace k2 := Block.up k2 hS e2
                    replace hall := hall.trans (Below.mono hS hBW)
                    obtain ⟨B2, hB⟩ : ∃ B2, (BelowTo hall8).heap.size = B2 := ⟨_, rfl⟩
                    rw [hB] at f2 f6 hBW2 hBc2 hown4 hBg
                    clear hB hS k0 k1 hBc hBc8
                    exact ⟨rfl, B2, g, cap, H.pick [4, 6], ⟨f2, f6, hBW2, hBc2, hBg, hgl⟩, HTK.out, k2, k6, hown4, hall⟩
                · skip
                  refine st_a0 rfl ?_; refine wpo_litv 22 1 #[(0, .agg #[.int .i64 x.1, .int .i64 x.2.1, .int .i64 x.2.2.1, .int .i64 x.2.2.2.1, .int .i64 x.2.2.2.2])] 33 #[.int .i64 x.1, .int .i64 x.2.1, .int .i64 x.2.2.1, .int .i64 x.2.2.2.1, .int .i64 x.2.2.2.2] (by simp [H.ev (j := 81) rfl]) (fun w => by kernel_rfl) fun w1 b11 hge hb k11 => ?_; (try have hne : b11 ≠ bl := (by omega)); (try replace q0 := own_ups q0 hb); (try replace q4 := own_ups q4 hb); replace hT := hT.trans (hb.mono hT.size); replace hS : BelowAt B (BelowTo hall8) _ := Below.mono hT hBc8; clear hb hge; refine hK _ _ ⟨(fun _ => hS), ?_⟩; clear hK; clear K; refine kt H rfl fun a H => ?_
                  refine pt_one (fun K hK => ?_)
                  refine st_a0 rfl ?_; refine wpo_litv 22 0 #[] 33 #[] (by simp) (fun w => by kernel_rfl) fun w1 bl hge hb kk => ?_; have q0 := own_empty (base := (BelowTo hall8).heap.size) (size := 5) kk (Nat.le_trans hT.size hge); have q0l := kk.lt; (try have hne : b11 ≠ bl := (by have := k11.lt; omega)); (try replace k11 := k11.ups hb); replace hT := hT.trans (hb.mono hT.size); replace hS : BelowAt B (BelowTo hall8) _ := Below.mono hT hBc8; clear hb hge kk; refine hK _ _ ⟨(fun _ => hS), ?_⟩; clear hK; clear K; refine kt H rfl fun a H => ?_
                  refine pt_one (fun K hK => ?_)
                  refine st_a0 rfl ?_; refine wpo_append 22 33 (.tmp 75) (.tmp 79) (BelowTo hall8).heap.size (.agg #[.int .i64 0, .int .i64 0, .int .i64 0, .int .i64 0, .int .i64 0]) 5 40 _ 0 [] A (L.length) c (FV encI (L.take (L.length))) (H.ev rfl) (H.ev rfl) Try.underlying22 i33 rfl (by omega) q0 (by rw [FV_len encI_len, List.length_take]; omega) (((row_holds (Row.up h.out hall8)).up hT).take_fv encI_len _) (FV_one _ _) (by unfold maxLen; omega) (by omega) hT.size fun v4 w4 q4 hg hv hb2 => ?_; (try replace k11 := Block.grown k11 hg (by simp [Value.ownBlock]; omega)); replace hT := hT.trans hb2; replace hS : BelowAt B (BelowTo hall8) _ := Below.mono hT hBc8; clear hb2 hg hv q0; refine hK _ _ ⟨(fun _ => hS), ?_⟩; clear hK; clear K; refine kt H rfl fun a H => ?_
                  refine pt_one (fun K hK => ?_)
                  refine st_a0 rfl ?_; refine wpo_append 22 33 (.tmp 80) (.tmp 82) (BelowTo hall8).heap.size (.agg #[.int .i64 0, .int .i64 0, .int .i64 0, .int .i64 0, .int .i64 0]) 5 40 v4 _ _ (some ⟨b11, 0, none⟩) 1 1 (FV encI [x]) (H.ev rfl) (H.ev rfl) Try.underlying22 i33 rfl (by omega) q4 (by rw [FV_len encI_len]; rfl) (holds_block k11 rfl) (FV_one _ _) (by unfold maxLen; omega) (by omega) hT.size fun v7 w7 q7 _ _ hb2 => ?_; replace hT := hT.trans hb2; replace hS : BelowAt B (BelowTo hall8) _ := Below.mono hT hBc8; clear hb2 q4 k11; refine hK _ _ ⟨(fun _ => hS), ?_⟩; clear hK; clear K; refine kt H rfl fun a H => ?_
                  refine pt_one (fun K hK => ?_)
                  refine st_a0 rfl ?_; refine wpo_append 22 33 (.tmp 83) (.tmp 87) (BelowTo hall8).heap.size (.agg #[.int .i64 0, .int .i64 0, .int .i64 0, .int .i64 0, .int .i64 0]) 5 40 v7 _ _ (slAt A c (L.length) 5) (L.length - L.length) (c - L.length) (FV encI (L.drop (L.length))) (H.ev rfl) (H.ev rfl) Try.underlying22 i33 rfl (by omega) q7 (by rw [FV_len encI_len, List.length_drop]) (rs_src ((row_holds (Row.up h.out hall8)).up hT) hlc _) (FV_one _ _) (by unfold maxLen; omega) (by omega) hT.size fun v11 w11 q11 _ _ hb2 => ?_; replace hT := hT.trans hb2; replace hS : BelowAt B (BelowTo hall8) _ := Below.mono hT hBc8; clear hb2 q7; have hown4 := rs_end hk q11; rw [HIN.out] at hown4; clear q11; obtain ⟨g, cap, rfl, hBg, hgl⟩ := own_form hown4 (ins_len L x) (by omega); refine hK _ _ ⟨(fun _ => hS), ?_⟩; clear hK; clear K; refine kt H rfl fun a H => ?_
                  refine pt_f0 _ rfl (fun w' hS' => r_fld (q := 1) fld24_1 (H.ev rfl) rfl) ?_; refine kt H rfl fun a H => ?_
                  refine pt_one (fun K hK => ?_)
                  refine st_a0 rfl ?_; replace k6 := Block.ups k6 hT; refine wpo_store1 22 (.tmp 89) (.tmp 88) b6 1 24 (.slice (some ⟨g, 0, none⟩) (L.length + 1) cap) _ (H.ev rfl) (H.ev rfl) k6 s22 (by simp [Value.cells]) (by simp [Value.cells, Value.oneCell']) fun w8 hb8 ho8 kq => ?_; clear k6; have k6 : Block w8 b6 24 #[.int .i64 n, .slice (some ⟨g, 0, none⟩) (L.length + 1) cap] := kq; clear kq; replace hown4 := ROwn.keep hown4 (fun q e => ho8 q (by have := (hown4.lt e).1; omega)); replace hgl := lt_up hgl (hb8 0 (Nat.zero_le _)); have hBc2 := Nat.le_trans hT.size (hb8 0 (Nat.zero_le _)).size; replace hS : BelowAt B (BelowTo hall8) _ := hS.trans (hb8 _ g6); clear hb8 ho8 hT; refine hK _ _ ⟨(fun _ => hS), ?_⟩; clear hK; clear K; skip
                  refine pt_done (NoPanic.normal ?_)
                  replace k2 := Block.up k2 hS e2
                  replace hall := hall.trans (Below.mono hS hBW)
                  obtain ⟨B2, hB⟩ : ∃ B2, (BelowTo hall8).heap.size = B2 := ⟨_, rfl⟩
                  rw [hB] at f2 f6 hBW2 hBc2 hown4 hBg
                  clear hB hS k0 k1 hBc hBc8
                  exact ⟨rfl, B2, g, cap, H.pick [4, 6], ⟨f2, f6, hBW2, hBc2, hBg, hgl⟩, HTK.out, k2, k6, hown4, hall⟩
              · skip
                clear H hall k0 k1 k2 k6 hown hBc
                rintro a w' ⟨B2, g, cap, H, ⟨f2, f6, hBW2, hBc2, hBg, hgl⟩, htk, k2, k6, hown4, hall⟩
                have HTK := Lib.hid htk
                clear htk
                refine c_next ?_
                refine wp_seq ?_
                refine wp_region_lit ?_
                refine wl_v _ (r_assign evc) ?_; refine kl H rfl fun a H => ?_
                refine wpList_nil ?_
                refine c_next ?_
                refine wp_seq ?_
                refine wp_block ?_
                obtain ⟨hgl', hrow⟩ := own_row_at hown4
                have hlen := ins_len L x
                have hbd0 : 1 ≤ n ∧ n + ((insI L x).length : Nat) ≤ n + 8 := by omega
                have g6B := g6
                replace g6 : w.heap.size ≤ b6 := Nat.le_trans hBW g6B
                refine wp_loop (TkJ w B2 b2 b6 g (n + 8) (popF n (insI L x))) (fun a w' => lenAt w' b6) ⟨insI L x, n, some ⟨g, 0, none⟩, cap, .slice none 0 0, [], H.pick [4, 6, 8], hbd0, k2, by rw [hlen]; exact k6, by rw [hlen]; exact hrow, (fun b o e => by injection e with e; injection e with e; exact e.symm), ROwn.nil, (fun e => by cases e), by simp only [List.length_nil]; omega, hgl', hBc2, rfl, hall⟩ ?_
                clear H hall k2 k6 hrow hgl hgl' hown4 hBc2 hbd0
                rintro a w' ⟨M, nn, A', c', o, NS, H, ⟨hbd1, hbd⟩, k2, k6, hrow, hAg, hno, hog, hNS, hgl, hBc2, hpop, hall⟩
                have H0 := H
                cases M with
                | nil =>
                  have k6' : Block w' b6 24 #[.int .i64 nn, .slice A' 0 c'] := k6
                  replace k6 := k6'
                  clear k6'
                  have HPE := Lib.hid (popF_nil nn)
                  refine wp_seq ?_
                  refine wp_seq ?_
                  have hall11 := hall
                  have hS : BelowOf (BelowTo hall11) _ := Below.drew (Below.refl _ (BelowTo hall11))
                  refine region_pi (BelowOf (BelowTo hall11)) [(0, true), (1, true), (2, true), (3, true), (4, true), (5, true), (6, true), (7, true), (8, true), (9, true), (10, true), (11, true), (12, true), (13, true)] (by kernel_rfl) (by kernel_rfl) rfl (by kernel_rfl) hS ?_
                  refine pi_f0 _ rfl (fun w' hS' => r_fld (q := 1) fld24_1 (H.ev rfl) rfl) ?_; refine kp H rfl fun a H => ?_
                  refine pi_f0 _ rfl (fun w' hS' => r_ld Try.underlying22 rfl (H.ev rfl) ((Block.cell (Block.ups k6 hS') 1).trans rfl)) ?_; refine kp H rfl fun a H => ?_
                  refine pi_f0 _ rfl (fun w' hS' => r_len Try.underlying22 (H.ev rfl)) ?_; refine kp H rfl fun a H => ?_
                  refine pi_f0 _ rfl (fun w' hS' => r_gt Try.underlying3 (H.ev rfl) evc (dec_f (by omega))) ?_; refine kp H rfl fun a H => ?_
                  refine pi_f0 _ rfl (fun w' hS' => r_move (H.ev rfl)) ?_; refine kp H rfl fun a H => ?_
                  refine pi_s1 rfl rfl rfl (H.ev rfl) ?_; refine kp H rfl fun a H => ?_
                  refine pi_s1 rfl rfl rfl (H.ev rfl) ?_; refine kp H rfl fun a H => ?_
                  refine pi_s1 rfl rfl rfl (H.ev rfl) ?_; refine kp H rfl fun a H => ?_
                  refine pi_s1 rfl rfl rfl (H.ev rfl) ?_; refine kp H rfl fun a H => ?_
                  refine pi_s1 rfl rfl rfl (H.ev rfl) ?_; refine kp H rfl fun a H => ?_
                  refine pi_s1 rfl rfl rfl (H.ev rfl) ?_; refine kp H rfl fun a H => ?_
                  refine pi_s1 rfl rfl rfl (H.ev rfl) ?_; refine kp H rfl fun a H => ?_
                  refine pi_s1 rfl rfl rfl (H.ev rfl) ?_; refine kp H rfl fun a H => ?_
                  refine pi_f0 _ rfl (fun w' hS' => r_pick_f (H.ev rfl) evc) ?_; refine kp H rfl fun a H => ?_
                  refine pi_nil (NoPanic.normal ?_)
                  replace k2 := Block.ups k2 hS
                  replace k6 := Block.ups k6 hS
                  replace hrow := Row.up hrow hS
                  replace hno := ROwn.up hno hS
                  replace hgl := lt_up hgl hS
                  replace hBc2 := le_up hBc2 hS
                  replace hall := hall.trans (Below.mono hS hall.size)
                  clear hS
                  refine c_next ?_
                  refine c_cond_f H rfl ?_
                  refine wp_exit ?_
                  refine e_then ?_
                  refine e_then ?_
                  refine e_here ?_
                  refine c_next ?_
                  refine wp_seq ?_
                  refine wp_region_lit ?_
                  refine wl_v _ (r_row (cs := [.int .i64 nn, .slice A' 0 c']) (H.ev rfl) (block_range k6) (by kernel_rfl) s24 rfl) ?_; refine kl H rfl fun a H => ?_
                  refine wl_v _ (r_move (H.ev rfl)) ?_; refine kl H rfl fun a H => ?_
                  refine op_store1 24 (.tmp 4) (.tmp 120) b2 0 24 (.agg #[.int .i64 nn, .slice A' 0 c']) _ (H.ev rfl) (H.ev rfl) k2 s24 (by simp [Value.cells]) (by simp [Value.cells, Value.oneCell']) fun w' hb ho kq => ?_; clear k2; have k2 : Block _ b2 24 #[.int .i64 nn, .slice A' 0 c'] := kq; clear kq; replace k6 := block_same k6 (ho _ (by omega)); replace hrow := Row.keep hrow (fun b o e => ho b (by have := hAg b o e; omega)); replace hno := ROwn.keep hno (fun q e => ho q (by have := (hno.lt e).1; omega)); replace hgl := lt_up hgl (hb _ g2); replace hBc2 := le_up hBc2 (hb _ g2); replace hall := hall.trans (hb _ g2); clear hb ho; refine kl0 H fun a H => ?_
                  refine wl_v _ (r_assign (H.ev rfl)) ?_; refine kl H rfl fun a H => ?_
                  refine wpList_nil ?_
                  refine c_next ?_
                  refine wp_ret ?_
                  rw [HTK.out, hpop, HPE.out, List.append_nil]
                  exact k_ret_cell2 H rfl rfl rfl k2 Try.underlying24 rfl s24 ⟨⟨_, _, rfl, ⟨hrow, fun A n c e b o' ea => by injection e with e1 e2 e3; rw [← e1] at ea; have := hAg b o' ea; omega⟩, ⟨NOwn.row hno, own_fresh hno hBW2⟩⟩, hall⟩
                | cons y M =>
                  have hyl : (0 : Nat) < (y :: M).length := by simp
                  have hylI : (((y :: M).length : Nat) : Int) > 0 := by simp
                  have hyl2 : (y :: M).length = M.length + 1 := rfl
                  obtain ⟨b, oo, hA, hr⟩ := flat_some encI_len (row_holds hrow) (by omega) hyl
                  subst hA
                  have hbg : b = g := hAg b oo rfl
                  subst hbg
                  simp only [List.getElem_cons_zero] at hr
                  have hsl := hrow.slice_le
                  have H := H0
                  have HK6 := Lib.hid k6
                  by_cases hyn : y.1 = nn
                  · skip
                    refine wp_seq ?_
                    refine wp_seq ?_
                    have hall11 := hall
                    have hS : BelowOf (BelowTo hall11) _ := Below.drew (Below.refl _ (BelowTo hall11))
                    refine region_pi (BelowOf (BelowTo hall11)) [(0, true), (1, true), (2, true), (3, true), (4, true), (5, true), (6, true), (7, true), (8, true), (9, true), (10, true), (11, true), (12, true), (13, true)] (by kernel_rfl) (by kernel_rfl) rfl (by kernel_rfl) hS ?_
                    refine pi_f0 _ rfl (fun w' hS' => r_fld (q := 1) fld24_1 (H.ev rfl) rfl) ?_; refine kp H rfl fun a H => ?_
                    refine pi_f0 _ rfl (fun w' hS' => r_ld Try.underlying22 rfl (H.ev rfl) ((Block.cell (Block.ups k6 hS') 1).trans rfl)) ?_; refine kp H rfl fun a H => ?_
                    refine pi_f0 _ rfl (fun w' hS' => r_len Try.underlying22 (H.ev rfl)) ?_; refine kp H rfl fun a H => ?_
                    refine pi_f0 _ rfl (fun w' hS' => r_gt Try.underlying3 (H.ev rfl) evc (dec_t (hylI))) ?_; refine kp H rfl fun a H => ?_
                    refine pi_f0 _ rfl (fun w' hS' => r_move (H.ev rfl)) ?_; refine kp H rfl fun a H => ?_
                    refine pi_f1 _ rfl rfl rfl (H.ev rfl) (fun w' hS' => r_fld (q := 1) fld24_1 (H.ev rfl) rfl) ?_; refine kp H rfl fun a H => ?_
                    refine pi_f1 _ rfl rfl rfl (H.ev rfl) (fun w' hS' => r_ld Try.underlying22 rfl (H.ev rfl) ((Block.cell (Block.ups k6 hS') 1).trans rfl)) ?_; refine kp H rfl fun a H => ?_
                    refine pi_f1 _ rfl rfl rfl (H.ev rfl) (fun w' hS' => r_idx (j := 0) (q := oo + 0 * 5) Try.underlying22 s33 (H.ev rfl) evc (by omega) rfl) ?_; refine kp H rfl fun a H => ?_
                    refine pi_f1 _ rfl rfl rfl (H.ev rfl) (fun w' hS' => r_fld (q := oo + 0 * 5) fld33_0 (H.ev rfl) rfl) ?_; refine kp H rfl fun a H => ?_
                    refine pi_f1 _ rfl rfl rfl (H.ev rfl) (fun w' hS' => r_ld Try.underlying3 rfl (H.ev rfl) (range_cell (range_ups hr hS') 0 rfl)) ?_; refine kp H rfl fun a H => ?_
                    refine pi_f1 _ rfl rfl rfl (H.ev rfl) (fun w' hS' => r_fld (q := 0) fld24_0 (H.ev rfl) rfl) ?_; refine kp H rfl fun a H => ?_
                    refine pi_f1 _ rfl rfl rfl (H.ev rfl) (fun w' hS' => r_ld Try.underlying3 rfl (H.ev rfl) ((Block.cell (Block.ups k6 hS') 0).trans rfl)) ?_; refine kp H rfl fun a H => ?_
                    refine pi_f1 _ rfl rfl rfl (H.ev rfl) (fun w' hS' => r_eq Try.underlying3 (H.ev rfl) (H.ev rfl) (dec_t (hyn))) ?_; refine kp H rfl fun a H => ?_
                    refine pi_f0 _ rfl (fun w' hS' => r_pick_t (H.ev rfl) (H.ev rfl)) ?_; refine kp H rfl fun a H => ?_
                    refine pi_nil (NoPanic.normal ?_)
                    replace k2 := Block.ups k2 hS
                    replace k6 := Block.ups k6 hS
                    replace hrow := Row.up hrow hS
                    replace hno := ROwn.up hno hS
                    replace hgl := lt_up hgl hS
                    replace hBc2 := le_up hBc2 hS
                    replace hr := range_ups hr hS
                    replace hall := hall.trans (Below.mono hS hall.size)
                    clear hS
                    refine c_next ?_
                    refine c_cond_t H rfl ?_
                    refine wp_skip ?_
                    refine c_next ?_
                    refine wp_block ?_
                    refine wp_seq ?_
                    refine wp_region_lit ?_
                    refine wl_v _ (r_move (H.ev rfl)) ?_; refine kl H rfl fun a H => ?_
                    refine wl_v _ (r_fld (q := 1) fld24_1 (H.ev rfl) rfl) ?_; refine kl H rfl fun a H => ?_
                    refine wl_v _ (r_ld Try.underlying22 rfl (H.ev rfl) ((Block.cell k6 1).trans rfl)) ?_; refine kl H rfl fun a H => ?_
                    refine wl_v _ (r_idx (j := 0) (q := oo + 0 * 5) Try.underlying22 s33 (H.ev rfl) evc (by omega) rfl) ?_; refine kl H rfl fun a H => ?_
                    refine wl_v _ (r_fld (q := oo + 0 * 5 + 1) fld33_1 (H.ev rfl) rfl) ?_; refine kl H rfl fun a H => ?_
                    refine wl_v _ (r_row (cs := [.int .i64 y.2.1, .int .i64 y.2.2.1, .int .i64 y.2.2.2.1, .int .i64 y.2.2.2.2]) (H.ev rfl) (range_tail hr) (by kernel_rfl) s31 rfl) ?_; refine kl H rfl fun a H => ?_
                    refine op_litv 27 1 #[(0, .agg #[.int .i64 y.2.1, .int .i64 y.2.2.1, .int .i64 y.2.2.2.1, .int .i64 y.2.2.2.2])] 31 #[.int .i64 y.2.1, .int .i64 y.2.2.1, .int .i64 y.2.2.2.1, .int .i64 y.2.2.2.2] (by simp [evc, H.ev (j := 109) rfl]) (fun w => by kernel_rfl) fun w11 b11 hge hb k11 => ?_; have g11 := Nat.le_trans hall.size hge; have d2_11 : b2 < b11 := Nat.lt_of_lt_of_le k2.lt hge; have d6_11 : b6 < b11 := Nat.lt_of_lt_of_le k6.lt hge; replace k2 := Block.ups k2 hb; replace k6 := Block.ups k6 hb; replace hrow := Row.up hrow hb; replace hno := ROwn.up hno hb; replace hgl := lt_up hgl hb; replace hBc2 := le_up hBc2 hb; replace hr := range_ups hr hb; replace hall := hall.trans (hb.mono hall.size); clear hb; clear hge; refine kl H rfl fun a H => ?_
                    refine op_append 27 31 (.tmp 104) (.tmp 110) B2 (.agg #[.int .i64 0, .int .i64 0, .int .i64 0, .int .i64 0]) 4 32 o _ _ (some ⟨b11, 0, none⟩) 1 1 (FV encN [y.2]) (H.ev rfl) (H.ev rfl) Try.underlying27 i31 rfl (by omega) hno (by rw [FV_len encN_len]; rfl) (holds_block k11 rfl) (FV_one _ _) (by unfold maxLen; omega) (by omega) hBc2 fun o2 w9 hown2 hg9 hv9 hb2 => ?_; replace k2 := Block.up k2 hb2 f2; replace k6 := Block.up k6 hb2 f6; clear hr; replace hrow := Row.keep hrow (fun b' o' e => by have := hAg b' o' e; subst this; exact hg9.block _ hgl (fun e => hog e.symm)); have hog2 := app_ne hv9 hog hgl; have hno2 := app_own hown2; replace hgl := lt_up hgl hb2; replace hBc2 := le_up hBc2 hb2; replace hall := hall.trans (hb2.mono hBW2); clear hown2 hno k11 hg9 hv9 hb2 hog; have hno := hno2; have hog := hog2; clear hno2 hog2; refine kl H rfl fun a H => ?_
                    refine wl_v _ (r_assign (H.ev rfl)) ?_; refine kl H rfl fun a H => ?_
                    refine wpList_nil ?_
                    refine c_next ?_
                    refine wp_seq ?_
                    refine wp_region_lit ?_
                    refine wl_v _ (r_fld (q := 1) fld24_1 (H.ev rfl) rfl) ?_; refine kl H rfl fun a H => ?_
                    refine wl_v _ (r_ld Try.underlying22 rfl (H.ev rfl) ((Block.cell k6 1).trans rfl)) ?_; refine kl H rfl fun a H => ?_
                    refine wl_v (.slice (slAt (some ⟨b, oo, none⟩) c' 1 5) M.length (c' - 1)) (run_op_slice Try.underlying22 (.slice (some ⟨b, oo, none⟩) (y :: M).length c') (some (.int .i64 (1 : Nat))) none none (H.ev rfl) rfl rfl rfl (slice_any 1 (y :: M).length Try.underlying22 s33 _ _ (.inr rfl) (.inl ⟨rfl, rfl⟩) (by omega) (by omega) rfl (by simp) rfl)) ?_; refine kl H rfl fun a H => ?_
                    refine wl_v _ (r_fld (q := 1) fld24_1 (H.ev rfl) rfl) ?_; refine kl H rfl fun a H => ?_
                    refine op_store1 22 (.tmp 115) (.tmp 114) b6 1 24 (.slice (slAt (some ⟨b, oo, none⟩) c' 1 5) M.length (c' - 1)) _ (H.ev rfl) (H.ev rfl) k6 s22 (by simp [Value.cells]) (by simp [Value.cells, Value.oneCell']) fun w' hb ho kq => ?_; clear k6; have k6 : Block _ b6 24 #[.int .i64 nn, .slice (slAt (some ⟨b, oo, none⟩) c' 1 5) M.length (c' - 1)] := kq; clear kq; replace k2 := block_same k2 (ho _ (by omega)); replace hrow := Row.keep hrow (fun b o e => ho b (by have := hAg b o e; omega)); replace hno := ROwn.keep hno (fun q e => ho q (by have := (hno.lt e).1; omega)); replace hgl := lt_up hgl (hb _ g6); replace hBc2 := le_up hBc2 (hb _ g6); replace hall := hall.trans (hb _ g6); clear hb ho; refine kl0 H fun a H => ?_
                    refine wpList_nil ?_
                    refine c_next ?_
                    refine wp_region_lit ?_
                    refine wl_v _ (r_fld (q := 0) fld24_0 (H.ev rfl) rfl) ?_; refine kl H rfl fun a H => ?_
                    refine wl_v _ (r_ld Try.underlying3 rfl (H.ev rfl) ((Block.cell k6 0).trans rfl)) ?_; refine kl H rfl fun a H => ?_
                    refine wl_v _ (r_add (q := nn + 1) Try.underlying3 (H.ev rfl) evc (by omega) (by omega)) ?_; refine kl H rfl fun a H => ?_
                    refine wl_v _ (r_fld (q := 0) fld24_0 (H.ev rfl) rfl) ?_; refine kl H rfl fun a H => ?_
                    refine op_store1 3 (.tmp 119) (.tmp 118) b6 0 24 (.int .i64 (nn + 1)) _ (H.ev rfl) (H.ev rfl) k6 s3 (by simp [Value.cells]) (ints_one [(nn + 1)]) fun w' hb ho kq => ?_; clear k6; have k6 : Block _ b6 24 #[.int .i64 (nn + 1), .slice (slAt (some ⟨b, oo, none⟩) c' 1 5) M.length (c' - 1)] := kq; clear kq; replace k2 := block_same k2 (ho _ (by omega)); replace hrow := Row.keep hrow (fun b o e => ho b (by have := hAg b o e; omega)); replace hno := ROwn.keep hno (fun q e => ho q (by have := (hno.lt e).1; omega)); replace hgl := lt_up hgl (hb _ g6); replace hBc2 := le_up hBc2 (hb _ g6); replace hall := hall.trans (hb _ g6); clear hb ho; refine kl0 H fun a H => ?_
                    refine wpList_nil ?_
                    refine n_block ?_
                    have hrow2 : IRow _ (.slice (slAt (some ⟨b, oo, none⟩) c' 1 5) M.length (c' - 1)) M := row_tail hrow
                    have hAg2 : ∀ b' o', slAt (some ⟨b, oo, none⟩) c' 1 5 = some ⟨b', o', none⟩ → b' = b := fun b' o' e => slAt_block e
                    refine n_then ⟨⟨M, nn + 1, _, _, o2, NS ++ [y.2], H.pick [4, 6, 8], ⟨by omega, by omega⟩, k2, k6, hrow2, hAg2, hno, hog, by rw [List.length_append]; simp only [List.length_cons, List.length_nil]; omega, hgl, hBc2, by rw [hpop, popF_go (M := M) hyn, List.append_assoc]; rfl, hall⟩, ?_⟩
                    rw [lenAt_eq k6, lenAt_eq HK6.out]
                    simp
                  · skip
                    have HPE := Lib.hid (popF_stop (M := M) hyn)
                    refine wp_seq ?_
                    refine wp_seq ?_
                    have hall11 := hall
                    have hS : BelowOf (BelowTo hall11) _ := Below.drew (Below.refl _ (BelowTo hall11))
                    refine region_pi (BelowOf (BelowTo hall11)) [(0, true), (1, true), (2, true), (3, true), (4, true), (5, true), (6, true), (7, true), (8, true), (9, true), (10, true), (11, true), (12, true), (13, true)] (by kernel_rfl) (by kernel_rfl) rfl (by kernel_rfl) hS ?_
                    refine pi_f0 _ rfl (fun w' hS' => r_fld (q := 1) fld24_1 (H.ev rfl) rfl) ?_; refine kp H rfl fun a H => ?_
                    refine pi_f0 _ rfl (fun w' hS' => r_ld Try.underlying22 rfl (H.ev rfl) ((Block.cell (Block.ups k6 hS') 1).trans rfl)) ?_; refine kp H rfl fun a H => ?_
                    refine pi_f0 _ rfl (fun w' hS' => r_len Try.underlying22 (H.ev rfl)) ?_; refine kp H rfl fun a H => ?_
                    refine pi_f0 _ rfl (fun w' hS' => r_gt Try.underlying3 (H.ev rfl) evc (dec_t (hylI))) ?_; refine kp H rfl fun a H => ?_
                    refine pi_f0 _ rfl (fun w' hS' => r_move (H.ev rfl)) ?_; refine kp H rfl fun a H => ?_
                    refine pi_f1 _ rfl rfl rfl (H.ev rfl) (fun w' hS' => r_fld (q := 1) fld24_1 (H.ev rfl) rfl) ?_; refine kp H rfl fun a H => ?_
                    refine pi_f1 _ rfl rfl rfl (H.ev rfl) (fun w' hS' => r_ld Try.underlying22 rfl (H.ev rfl) ((Block.cell (Block.ups k6 hS') 1).trans rfl)) ?_; refine kp H rfl fun a H => ?_
                    refine pi_f1 _ rfl rfl rfl (H.ev rfl) (fun w' hS' => r_idx (j := 0) (q := oo + 0 * 5) Try.underlying22 s33 (H.ev rfl) evc (by omega) rfl) ?_; refine kp H rfl fun a H => ?_
                    refine pi_f1 _ rfl rfl rfl (H.ev rfl) (fun w' hS' => r_fld (q := oo + 0 * 5) fld33_0 (H.ev rfl) rfl) ?_; refine kp H rfl fun a H => ?_
                    refine pi_f1 _ rfl rfl rfl (H.ev rfl) (fun w' hS' => r_ld Try.underlying3 rfl (H.ev rfl) (range_cell (range_ups hr hS') 0 rfl)) ?_; refine kp H rfl fun a H => ?_
                    refine pi_f1 _ rfl rfl rfl (H.ev rfl) (fun w' hS' => r_fld (q := 0) fld24_0 (H.ev rfl) rfl) ?_; refine kp H rfl fun a H => ?_
                    refine pi_f1 _ rfl rfl rfl (H.ev rfl) (fun w' hS' => r_ld Try.underlying3 rfl (H.ev rfl) ((Block.cell (Block.ups k6 hS') 0).trans rfl)) ?_; refine kp H rfl fun a H => ?_
                    refine pi_f1 _ rfl rfl rfl (H.ev rfl) (fun w' hS' => r_eq Try.underlying3 (H.ev rfl) (H.ev rfl) (dec_f (hyn))) ?_; refine kp H rfl fun a H => ?_
                    refine pi_f0 _ rfl (fun w' hS' => r_pick_t (H.ev rfl) (H.ev rfl)) ?_; refine kp H rfl fun a H => ?_
                    refine pi_nil (NoPanic.normal ?_)
                    replace k2 := Block.ups k2 hS
                    replace k6 := Block.ups k6 hS
                    replace hrow := Row.up hrow hS
                    replace hno := ROwn.up hno hS
                    replace hgl := lt_up hgl hS
                    replace hBc2 := le_up hBc2 hS
                    replace hr := range_ups hr hS
                    replace hall := hall.trans (Below.mono hS hall.size)
                    clear hS
                    refine c_next ?_
                    refine c_cond_f H rfl ?_
                    refine wp_exit ?_
                    refine e_then ?_
                    refine e_then ?_
                    refine e_here ?_
                    refine c_next ?_
                    refine wp_seq ?_
                    refine wp_region_lit ?_
                    refine wl_v _ (r_row (cs := [.int .i64 nn, .slice (some ⟨b, oo, none⟩) (y :: M).length c']) (H.ev rfl) (block_range k6) (by kernel_rfl) s24 rfl) ?_; refine kl H rfl fun a H => ?_
                    refine wl_v _ (r_move (H.ev rfl)) ?_; refine kl H rfl fun a H => ?_
                    refine op_store1 24 (.tmp 4) (.tmp 120) b2 0 24 (.agg #[.int .i64 nn, .slice (some ⟨b, oo, none⟩) (y :: M).length c']) _ (H.ev rfl) (H.ev rfl) k2 s24 (by simp [Value.cells]) (by simp [Value.cells, Value.oneCell']) fun w' hb ho kq => ?_; clear k2; have k2 : Block _ b2 24 #[.int .i64 nn, .slice (some ⟨b, oo, none⟩) (y :: M).length c'] := kq; clear kq; replace k6 := block_same k6 (ho _ (by omega)); replace hrow := Row.keep hrow (fun b o e => ho b (by have := hAg b o e; omega)); replace hno := ROwn.keep hno (fun q e => ho q (by have := (hno.lt e).1; omega)); replace hgl := lt_up hgl (hb _ g2); replace hBc2 := le_up hBc2 (hb _ g2); replace hall := hall.trans (hb _ g2); clear hb ho; refine kl0 H fun a H => ?_
                    refine wl_v _ (r_assign (H.ev rfl)) ?_; refine kl H rfl fun a H => ?_
                    refine wpList_nil ?_
                    refine c_next ?_
                    refine wp_ret ?_
                    rw [HTK.out, hpop, HPE.out, List.append_nil]
                    exact k_ret_cell2 H rfl rfl rfl k2 Try.underlying24 rfl s24 ⟨⟨_, _, rfl, ⟨hrow, fun A n c e b o' ea => by injection e with e1 e2 e3; rw [← e1] at ea; have := hAg b o' ea; omega⟩, ⟨NOwn.row hno, own_fresh hno hBW2⟩⟩, hall⟩
end Go.Proofs.Ythfdjlhplcmicaa
