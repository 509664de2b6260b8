/- Recv: Take. -/
import Derived.Test.YthfdjlhplcmicaaW
namespace Go.Proofs.Ythfdjlhplcmicaa
open Go.RowKit
set_option linter.unusedVariables false
set_option linter.unusedSimpArgs false

theorem cloneB_any (w : World) (v : Value) (L : List It) (h : IRow w v L) (hn : L.length ≤ 100000) :
    Calls Try.prog 21 #[v] w fun e w' => (∃ B v', B = w.heap.size ∧ e = .returned v' ∧ IOwn w' B v' L) ∧ Below w.heap.size w w' :=
  (clone_any w v L h hn).mono fun e w' ⟨⟨v', he, ho⟩, hb⟩ => ⟨⟨_, v', rfl, he, ho⟩, hb⟩
theorem le_up {B b : Nat} {w w' : World} (h : B ≤ w.heap.size) (hb : Below b w w') : B ≤ w'.heap.size := Nat.le_trans h hb.size
theorem lt_up {B b : Nat} {w w' : World} (h : B < w.heap.size) (hb : Below b w w') : B < w'.heap.size := Nat.lt_of_lt_of_le h hb.size
theorem cell_keep {w w' : World} {b o : Nat} (h : w'.heap[b]? = w.heap[b]?) : w'.cell? ⟨b, o, none⟩ = w.cell? ⟨b, o, none⟩ := by unfold World.cell?; rw [h]
theorem range_keep {w w' : World} {b o : Nat} {cs : List Value} (h : w.rangeAt b o cs) (hk : w'.heap[b]? = w.heap[b]?) : w'.rangeAt b o cs := fun j v hv => (cell_keep hk).trans (h j v hv)
theorem range_tail {w : World} {b o : Nat} {v : Value} {cs : List Value} (h : w.rangeAt b o (v :: cs)) : w.rangeAt b (o + 1) cs := fun j u hu => by
  have := h (j + 1) u (by simpa using hu)
  rwa [Nat.add_assoc, Nat.add_comm 1 j]
theorem Row.keep {α : Type} {enc : α → List Int} {w w' : World} {A : Option Addr} {n c : Nat} {L : List α} (h : Row enc w (.slice A n c) L) (hk : ∀ b o, A = some ⟨b, o, none⟩ → w'.heap[b]? = w.heap[b]?) : Row enc w' (.slice A n c) L := by
  obtain ⟨A', c', e, a1, a2, a3, hh⟩ := h
  injection e with e1 e2 e3
  subst e1 e3
  refine ⟨_, _, by rw [e2], a1, a2, a3, fun j hj => ?_⟩
  obtain ⟨b, o, he, hc⟩ := hh j hj
  exact ⟨b, o, he, (cell_keep (hk b o he)).trans hc⟩
theorem Row.slice_le {α : Type} {enc : α → List Int} {w : World} {A : Option Addr} {n c : Nat} {L : List α} (h : Row enc w (.slice A n c) L) : n ≤ c := by
  obtain ⟨A', c', e, a1, a2, a3, hh⟩ := h
  injection e with e1 e2 e3
  omega
theorem row_tail {w : World} {A : Option Addr} {c : Nat} {y : It} {M : List It} (h : IRow w (.slice A (y :: M).length c) (y :: M)) : IRow w (.slice (slAt A c 1 5) M.length (c - 1)) M := Row.drop encI_len h (j := 1) (by simp)
theorem slAt_block {b o c lo size b' o' : Nat} (h : slAt (some ⟨b, o, none⟩) c lo size = some ⟨b', o', none⟩) : b' = b := by
  unfold slAt at h
  split at h
  · injection h with h; injection h with h; exact h.symm
  · simp [add_flat] at h; exact h.1.symm
theorem own_form {w : World} {B : Nat} {v : Value} {M : List It} {n : Nat} (h : IOwn w B v M) (hl : M.length = n) (hp : 0 < n) : ∃ g cap, v = .slice (some ⟨g, 0, none⟩) n cap ∧ B ≤ g ∧ g < w.heap.size := by
  subst hl
  obtain ⟨_, ⟨_, h1⟩ | ⟨g, cap, cur, rfl, hb, hg, _⟩⟩ := h
  · omega
  · exact ⟨g, cap, rfl, hb, Block.lt hg⟩
theorem own_row_at {w : World} {B g n cap : Nat} {M : List It} (h : IOwn w B (.slice (some ⟨g, 0, none⟩) n cap) M) : g < w.heap.size ∧ IRow w (.slice (some ⟨g, 0, none⟩) n cap) M := ⟨(ROwn.lt h rfl).2, IOwn.row h⟩
theorem app_own {α : Type} {enc : α → List Int} {e : TypeId} {size : Nat} {w : World} {B : Nat} {v : Value} {L : List α} {x : α} (h : w.ownsRow B e size v (L.length + 1) (FV enc L ++ FV enc [x])) : ROwn enc e size w B v (L ++ [x]) := by
  unfold ROwn
  rw [List.length_append, FV_append]
  exact h
/-- a slice whose memory lies from block B on -/
def Fresh (B : Nat) (s : Value) : Prop := ∀ A n c, s = .slice A n c → ∀ b o, A = some ⟨b, o, none⟩ → B ≤ b
theorem nil_fresh {B : Nat} : Fresh B (.slice none 0 0) := fun A n c e b o ea => by injection e with e1; rw [← e1] at ea; cases ea
theorem own_fresh {α : Type} {enc : α → List Int} {e : TypeId} {size : Nat} {w : World} {B B' : Nat} {v : Value} {L : List α} (h : ROwn enc e size w B v L) (hB : B' ≤ B) : Fresh B' v := fun A n c ev b o ea => by
  subst ev ea
  have := (h.lt (q := b) rfl).1
  omega
theorem ins_len1 (L : List It) (x : It) : (L ++ [x]).length = L.length + 1 := by simp
theorem filter_parts {α : Type} (p : α → Bool) (L : List α) : (L.filter p).length + (L.filter fun y => !p y).length = L.length := by
  induction L with
  | nil => rfl
  | cons y L ih =>
    simp only [List.filter_cons]
    cases hp : p y
    · simp; omega
    · simp; omega
theorem ins_len (L : List It) (x : It) : (insI L x).length = L.length + 1 := by
  have h := filter_parts (fun y : It => decide (x.1 < y.1)) L
  have e : (fun y : It => decide (¬ x.1 < y.1)) = fun y => !decide (x.1 < y.1) := by funext y; rw [decide_not]
  unfold insI
  rw [List.length_append, List.length_cons, e]
  omega
theorem right_len {n : Int} {L : List It} (h : RightL n L) : L.length ≤ 7 := by
  have key : ∀ (L : List It) (l : Int), L.Pairwise (fun a b => a.1 < b.1) → (∀ y ∈ L, l < y.1 ∧ y.1 < n + 8) → (L.length : Int) ≤ n + 7 - l ∨ L = [] := by
    intro L
    induction L with
    | nil => intro l _ _; exact .inr rfl
    | cons y L ih =>
      intro l hp hb
      left
      rw [List.pairwise_cons] at hp
      have hy := hb y (List.mem_cons_self ..)
      rcases ih y.1 hp.2 (fun z hz => ⟨hp.1 z hz, (hb z (List.mem_cons_of_mem _ hz)).2⟩) with h | h
      · simp only [List.length_cons]; omega
      · subst h; simp; omega
  rcases key L n h.2.2.1 (fun y hy => by have := h.2.2.2 y hy; omega) with h | h
  · omega
  · subst h; simp
theorem ins_bound {n : Int} {L : List It} {x : It} (h : RightL n L) (h0 : n ≤ x.1) (h1 : x.1 < 1073741824) : ∀ y ∈ L ++ [x], 0 ≤ y.1 ∧ y.1 ≤ 2147483648 := by
  intro y hy
  have := h.1
  rcases List.mem_append.1 hy with hy | hy
  · have := h.2.2.2 y hy; omega
  · have := List.mem_singleton.1 hy; subst this; omega
/-- what goes, and what waits -/
def popF : Int → List It → (Int × List It) × List Nt
  | n, [] => ((n, []), [])
  | n, y :: M => if y.1 = n then ((popF (n + 1) M).1, y.2 :: (popF (n + 1) M).2) else ((n, y :: M), [])
theorem popF_nil (n : Int) : popF n [] = ((n, []), []) := rfl
theorem popF_stop {n : Int} {y : It} {M : List It} (h : ¬ y.1 = n) : popF n (y :: M) = ((n, y :: M), []) := if_neg h
theorem popF_go {n : Int} {y : It} {M : List It} (h : y.1 = n) : popF n (y :: M) = ((popF (n + 1) M).1, y.2 :: (popF (n + 1) M).2) := if_pos h
def ShutP (n : Int) (L : List It) (x : It) : Prop := rightF n L = false ∨ x.1 < n ∨ 8 ≤ x.1 - n ∨ 1073741824 ≤ x.1 ∨ hasQ L x.1 = true
instance (n : Int) (L : List It) (x : It) : Decidable (ShutP n L x) := by unfold ShutP; infer_instance
def takeF (n : Int) (L : List It) (x : It) : (Int × List It) × List Nt := if ShutP n L x then ((n, L), []) else popF n (insI L x)
theorem shut_of {n : Int} {L : List It} {x : It} (h : rightF n L = false ∨ x.1 < n ∨ 8 ≤ x.1 - n ∨ 1073741824 ≤ x.1 ∨ hasQ L x.1 = true) : takeF n L x = ((n, L), []) := if_pos h
theorem take_open {n : Int} {L : List It} {x : It} (h : RightL n L) (h1 : n ≤ x.1) (h2 : x.1 - n < 8) (h3 : x.1 < 1073741824) (h4 : hasQ L x.1 = false) : takeF n L x = popF n (insI L x) := by
  unfold takeF
  rw [if_neg]
  rintro (e | e | e | e | e)
  · rw [show rightF n L = true from decide_eq_true h] at e; cases e
  · omega
  · omega
  · omega
  · rw [h4] at e; cases e
def lenAt (w : World) (b : Nat) : Nat := match w.cell? ⟨b, 1, none⟩ with | some (.slice _ n _) => n | _ => 0
theorem lenAt_eq {w : World} {b : Nat} {t : TypeId} {x : Value} {A : Option Addr} {n c : Nat} (k : Block w b t #[x, .slice A n c]) : lenAt w b = n := by
  unfold lenAt
  rw [k.cell 1]
  rfl
theorem k_ret_cell2 {P : Program} {a : Act} {w : World} {n : Nat} {l : List (Nat × Value)} {fn : Func} {R : Ending → World → Prop} {p u : Tmp} {ty : TypeId} {g : Nat} {t : TypeId} {C : Array Value} {x : Value} {ds : TypeDesc} (H : Kn a n l) (hf : fn.results = #[.cell p ty, .tmp u]) (hp : lk l p = some (.pointer (some ⟨g, 0, none⟩))) (hx : lk l u = some x)
    (hg : Block w g t C) (hu : P.underlying ty = some ds) (hd : (match ds with | .struct _ | .array _ _ => true | _ => false) = true) (hi : (P.info? ty).map (·.size) = some C.size) (h : R (.returned (.tuple #[.agg C, x])) w) : bodyPost P fn R .ret a w := by
  refine ⟨H.defers, _, res_row_tmp hf a.tmps w g t C ds (H.at_ p _ hp) hg hu hd hi, ?_⟩
  rw [H.at_ u x hx]
  exact h
def STn (W : World) (b0 : Nat) (nn : Int) (s : Value) (w : World) : Prop := Below W.heap.size W w ∧ Block w b0 24 #[.int .i64 nn, s]
def STk (W : World) (b0 : Nat) (nn : Int) (s : Value) (b oo : Nat) (y : It) (w : World) : Prop := Below W.heap.size W w ∧ Block w b0 24 #[.int .i64 nn, s] ∧ w.rangeAt b (oo + 0 * 5) (IV (encI y))
def TkI (W : World) (B b0 b1 b2 g : Nat) (x : It) (top : Int) (T : (Int × List It) × List Nt) (a : Act) (w : World) : Prop :=
  ∃ (M : List It) (nn : Int) (A' : Option Addr) (c' : Nat) (o : Value) (NS : List Nt), Kn a 84 [(2, .pointer (some ⟨b0, 0, none⟩)), (3, .pointer (some ⟨b1, 0, none⟩)), (4, .pointer (some ⟨b2, 0, none⟩)), (7, o)] ∧ (1 ≤ nn ∧ nn + (M.length : Nat) ≤ top) ∧
    Block w b0 24 #[.int .i64 nn, .slice A' M.length c'] ∧ Block w b1 33 #[.int .i64 x.1, .int .i64 x.2.1, .int .i64 x.2.2.1, .int .i64 x.2.2.2.1, .int .i64 x.2.2.2.2] ∧ Block w b2 24 #[.int .i64 0, .slice none 0 0] ∧ IRow w (.slice A' M.length c') M ∧ (∀ b o', A' = some ⟨b, o', none⟩ → b = g) ∧
    NOwn w B o NS ∧ o.ownBlock ≠ some g ∧ NS.length + M.length ≤ 8 ∧ g < w.heap.size ∧ B ≤ w.heap.size ∧ T = ((popF nn M).1, NS ++ (popF nn M).2) ∧ Below W.heap.size W w
set_option maxHeartbeats 8000000 in
theorem take_any (w : World) (n : Int) (v : Value) (L : List It) (x : It) (h : IRow w v L) (hn : L.length ≤ 100000) (hx1 : -9223372036854775808 ≤ x.1) (hx2 : x.1 ≤ 9223372036854775807) :
    Calls Try.prog 12 #[.agg #[.int .i64 n, v], .agg #[.int .i64 x.1, .int .i64 x.2.1, .int .i64 x.2.2.1, .int .i64 x.2.2.2.1, .int .i64 x.2.2.2.2]] w fun e w' => (∃ s o, e = .returned (.tuple #[.agg #[.int .i64 (takeF n L x).1.1, s], o]) ∧ (IRow w' s (takeF n L x).1.2 ∧ Fresh w.heap.size s) ∧ (NRow w' o (takeF n L x).2 ∧ Fresh w.heap.size o)) ∧ Below w.heap.size w w' := by
  have hall := Below.refl w.heap.size w
  refine K_enter 84 Try.func12 rfl rfl fun a H => ?_
  replace H := H.pick [0, 1]
  refine wp_seq ?_
  refine wp_region_lit ?_
  refine op_box 24 _ #[.int .i64 n, v] (H.ev rfl) fun w0 b0 hge hb k0 => ?_; have g0 := Nat.le_trans hall.size hge; replace hall := hall.trans (hb.mono hall.size); clear hb; clear hge; refine kl H rfl fun a H => ?_
  refine op_box 33 _ #[.int .i64 x.1, .int .i64 x.2.1, .int .i64 x.2.2.1, .int .i64 x.2.2.2.1, .int .i64 x.2.2.2.2] (H.ev rfl) fun w1 b1 hge hb k1 => ?_; have g1 := Nat.le_trans hall.size hge; have d0_1 : b0 < b1 := Nat.lt_of_lt_of_le k0.lt hge; replace k0 := Block.ups k0 hb; replace hall := hall.trans (hb.mono hall.size); clear hb; clear hge; refine kl H rfl fun a H => ?_
  refine op_alloc 24 #[.int .i64 0, .slice none 0 0] z24 fun w2 b2 hge hb k2 => ?_; have g2 := Nat.le_trans hall.size hge; have d0_2 : b0 < b2 := Nat.lt_of_lt_of_le k0.lt hge; have d1_2 : b1 < b2 := Nat.lt_of_lt_of_le k1.lt hge; replace k0 := Block.ups k0 hb; replace k1 := Block.ups k1 hb; replace hall := hall.trans (hb.mono hall.size); clear hb; clear hge; refine kl H rfl fun a H => ?_
  refine wl_v _ (r_assign evc) ?_; refine kl H rfl fun a H => ?_
  refine wpList_nil ?_
  refine c_next ?_
  refine wp_seq ?_
  refine wp_region_lit ?_
  refine wl_v _ (r_fld (q := 1) fld24_1 (H.ev rfl) rfl) ?_; refine kl H rfl fun a H => ?_
  refine wl_v _ (r_ld Try.underlying22 rfl (H.ev rfl) ((Block.cell k0 1).trans rfl)) ?_; refine kl H rfl fun a H => ?_
  refine wl_call _ _ _ (cloneB_any _ _ L (Row.up h hall) hn) (r_call1 cf21 (H.ev rfl)) ?_; rintro e w9 ⟨⟨B, v1, hB, rfl, hown⟩, hb⟩; refine ⟨_, rfl, ?_⟩; have e0 : b0 < B := hB ▸ k0.lt; have e1 : b1 < B := hB ▸ k1.lt; have e2 : b2 < B := hB ▸ k2.lt; have hBW := hall.size; rw [← hB] at hBW; have hBc := hb.size; rw [← hB] at hBc; replace k0 := Block.ups k0 hb; replace k1 := Block.ups k1 hb; replace k2 := Block.ups k2 hb; replace hall := hall.trans (hb.mono hall.size); clear hb; clear hB; obtain ⟨A1, c1, rfl, -, -, -⟩ := own_slice hown; refine kl H rfl fun a H => ?_
  refine wl_v _ (r_fld (q := 1) fld24_1 (H.ev rfl) rfl) ?_; refine kl H rfl fun a H => ?_
  refine op_store1 22 (.tmp 11) (.tmp 10) b0 1 24 (.slice A1 L.length c1) _ (H.ev rfl) (H.ev rfl) k0 s22 (by simp [Value.cells]) (by simp [Value.cells, Value.oneCell']) fun w' hb ho kq => ?_; clear k0; have k0 : Block _ b0 24 #[.int .i64 n, .slice A1 L.length c1] := kq; clear kq; replace k1 := block_same k1 (ho _ (by omega)); replace k2 := block_same k2 (ho _ (by omega)); replace hown := ROwn.keep hown (fun q e => ho q (by have := (hown.lt e).1; omega)); replace hBc := le_up hBc (hb _ g0); replace hall := hall.trans (hb _ g0); clear hb ho; refine kl0 H fun a H => ?_
  refine wpList_nil ?_
  refine c_next ?_
  refine wp_seq ?_
  refine wp_region_lit ?_
  refine wl_v (.func (.func 22) #[] #[.pointer (some ⟨b1, 0, none⟩)]) (r_mkfn1 (H.ev rfl)) ?_; refine kl H rfl fun a H => ?_
  refine wl_v _ (r_assign (H.ev rfl)) ?_; refine kl H rfl fun a H => ?_
  refine wpList_nil ?_
  refine c_next ?_
  refine wp_seq ?_
  refine wp_seq ?_
  obtain ⟨rt, hrt⟩ : ∃ rt, rightF n L = rt := ⟨_, rfl⟩
  obtain ⟨hq, hhq⟩ : ∃ hq, hasQ L x.1 = hq := ⟨_, rfl⟩
  have HRT := Lib.hid hrt
  have HHQ := Lib.hid hhq
  cases rt
  · skip
    clear hrt hhq
    refine wp_region_lit ?_
    refine wl_v _ (r_row (cs := [.int .i64 n, .slice A1 L.length c1]) (H.ev rfl) (block_range k0) (by kernel_rfl) s24 rfl) ?_; refine kl H rfl fun a H => ?_
    refine wl_call _ _ _ (right_any _ n _ L (IOwn.row hown) (by omega)) (r_call1 cf16 (H.ev rfl)) ?_; rintro e w9 ⟨rfl, hb⟩; refine ⟨_, rfl, ?_⟩; rw [HRT.out]; replace k0 := Block.ups k0 hb; replace k1 := Block.ups k1 hb; replace k2 := Block.ups k2 hb; replace hown := ROwn.up hown hb; replace hBc := le_up hBc hb; replace hall := hall.trans (hb.mono hall.size); clear hb; refine kl H rfl fun a H => ?_
    refine wl_v _ (r_not (H.ev rfl) rfl) ?_; refine kl H rfl fun a H => ?_
    refine wl_v _ (r_move (H.ev rfl)) ?_; refine kl H rfl fun a H => ?_
    refine wl_s (kg_no rfl H rfl rfl rfl) ?_; refine kl H rfl fun a H => ?_
    refine wl_s (kg_no rfl H rfl rfl rfl) ?_; refine kl H rfl fun a H => ?_
    refine wl_s (kg_no rfl H rfl rfl rfl) ?_; refine kl H rfl fun a H => ?_
    refine wl_s (kg_no rfl H rfl rfl rfl) ?_; refine kl H rfl fun a H => ?_
    refine wl_s (kg_no rfl H rfl rfl rfl) ?_; refine kl H rfl fun a H => ?_
    refine wl_v _ (r_pick_t (H.ev rfl) evc) ?_; refine kl H rfl fun a H => ?_
    refine wl_v _ (r_move (H.ev rfl)) ?_; refine kl H rfl fun a H => ?_
    refine wl_s (kg_no rfl H rfl rfl rfl) ?_; refine kl H rfl fun a H => ?_
    refine wl_s (kg_no rfl H rfl rfl rfl) ?_; refine kl H rfl fun a H => ?_
    refine wl_s (kg_no rfl H rfl rfl rfl) ?_; refine kl H rfl fun a H => ?_
    refine wl_s (kg_no rfl H rfl rfl rfl) ?_; refine kl H rfl fun a H => ?_
    refine wl_s (kg_no rfl H rfl rfl rfl) ?_; refine kl H rfl fun a H => ?_
    refine wl_s (kg_no rfl H rfl rfl rfl) ?_; refine kl H rfl fun a H => ?_
    refine wl_v _ (r_pick_t (H.ev rfl) evc) ?_; refine kl H rfl fun a H => ?_
    refine wl_v _ (r_move (H.ev rfl)) ?_; refine kl H rfl fun a H => ?_
    refine wl_s (kg_no rfl H rfl rfl rfl) ?_; refine kl H rfl fun a H => ?_
    refine wl_s (kg_no rfl H rfl rfl rfl) ?_; refine kl H rfl fun a H => ?_
    refine wl_s (kg_no rfl H rfl rfl rfl) ?_; refine kl H rfl fun a H => ?_
    refine wl_v _ (r_pick_t (H.ev rfl) evc) ?_; refine kl H rfl fun a H => ?_
    refine wl_v _ (r_move (H.ev rfl)) ?_; refine kl H rfl fun a H => ?_
    refine wl_s (kg_no rfl H rfl rfl rfl) ?_; refine kl H rfl fun a H => ?_
    refine wl_s (kg_no rfl H rfl rfl rfl) ?_; refine kl H rfl fun a H => ?_
    refine wl_s (kg_no rfl H rfl rfl rfl) ?_; refine kl H rfl fun a H => ?_
    refine wl_s (kg_no rfl H rfl rfl rfl) ?_; refine kl H rfl fun a H => ?_
    refine wl_v _ (r_pick_t (H.ev rfl) evc) ?_; refine kl H rfl fun a H => ?_
    refine wpList_nil ?_
    refine c_next ?_
    refine c_cond_t H rfl ?_
    refine wp_seq ?_
    refine wp_region_lit ?_
    refine wl_v _ (r_row (cs := [.int .i64 n, .slice A1 L.length c1]) (H.ev rfl) (block_range k0) (by kernel_rfl) s24 rfl) ?_; refine kl H rfl fun a H => ?_
    refine op_store1 24 (.tmp 4) (.tmp 42) b2 0 24 (.agg #[.int .i64 n, .slice A1 L.length c1]) _ (H.ev rfl) (H.ev rfl) k2 s24 (by simp [Value.cells]) (by simp [Value.cells, Value.oneCell']) fun w' hb ho kq => ?_; clear k2; have k2 : Block _ b2 24 #[.int .i64 n, .slice A1 L.length c1] := kq; clear kq; replace k0 := block_same k0 (ho _ (by omega)); replace k1 := block_same k1 (ho _ (by omega)); replace hown := ROwn.keep hown (fun q e => ho q (by have := (hown.lt e).1; omega)); replace hBc := le_up hBc (hb _ g2); replace hall := hall.trans (hb _ g2); clear hb ho; refine kl0 H fun a H => ?_
    refine wl_v _ (r_assign evc) ?_; refine kl H rfl fun a H => ?_
    refine wpList_nil ?_
    refine c_next ?_
    refine wp_ret ?_
    refine r_then ?_
    rw [show takeF n L x = ((n, L), []) from shut_of (by first | exact .inl HRT.out | exact .inr (.inl (by omega)) | exact .inr (.inr (.inl (by omega))) | exact .inr (.inr (.inr (.inl (by omega)))) | exact .inr (.inr (.inr (.inr HHQ.out))))]
    exact k_ret_cell2 H rfl rfl rfl k2 Try.underlying24 rfl s24 ⟨⟨_, _, rfl, ⟨IOwn.row hown, own_fresh hown hBW⟩, ⟨Row.nil, nil_fresh⟩⟩, hall⟩
  · skip
    have hR : RightL n L := of_decide_eq_true hrt
    have hn1 := hR.1
    have hn2 := hR.2.1
    have hLl := right_len hR
    have HR := Lib.hid hR
    clear hrt hhq hR
    cases hq
    · skip
      refine wp_region_lit ?_
      refine wl_v _ (r_row (cs := [.int .i64 n, .slice A1 L.length c1]) (H.ev rfl) (block_range k0) (by kernel_rfl) s24 rfl) ?_; refine kl H rfl fun a H => ?_
      refine wl_call _ _ _ (right_any _ n _ L (IOwn.row hown) (by omega)) (r_call1 cf16 (H.ev rfl)) ?_; rintro e w9 ⟨rfl, hb⟩; refine ⟨_, rfl, ?_⟩; rw [HRT.out]; replace k0 := Block.ups k0 hb; replace k1 := Block.ups k1 hb; replace k2 := Block.ups k2 hb; replace hown := ROwn.up hown hb; replace hBc := le_up hBc hb; replace hall := hall.trans (hb.mono hall.size); clear hb; refine kl H rfl fun a H => ?_
      refine wl_v _ (r_not (H.ev rfl) rfl) ?_; refine kl H rfl fun a H => ?_
      refine wl_v _ (r_move (H.ev rfl)) ?_; refine kl H rfl fun a H => ?_
      refine op_unguard _ _ (kg_yes rfl H rfl rfl rfl) ?_; refine wl_v _ (r_fld (q := 0) fld33_0 (H.ev rfl) rfl) ?_; refine kl H rfl fun a H => ?_
      refine op_unguard _ _ (kg_yes rfl H rfl rfl rfl) ?_; refine wl_v _ (r_ld Try.underlying3 rfl (H.ev rfl) ((Block.cell k1 0).trans rfl)) ?_; refine kl H rfl fun a H => ?_
      refine op_unguard _ _ (kg_yes rfl H rfl rfl rfl) ?_; refine wl_v _ (r_fld (q := 0) fld24_0 (H.ev rfl) rfl) ?_; refine kl H rfl fun a H => ?_
      refine op_unguard _ _ (kg_yes rfl H rfl rfl rfl) ?_; refine wl_v _ (r_ld Try.underlying3 rfl (H.ev rfl) ((Block.cell k0 0).trans rfl)) ?_; refine kl H rfl fun a H => ?_
      by_cases hcc0 : x.1 < n
      · skip
        refine op_unguard _ _ (kg_yes rfl H rfl rfl rfl) ?_; refine wl_v _ (r_lt Try.underlying3 (H.ev rfl) (H.ev rfl) (dec_t (hcc0))) ?_; refine kl H rfl fun a H => ?_
        refine wl_v _ (r_pick_f (H.ev rfl) (H.ev rfl)) ?_; refine kl H rfl fun a H => ?_
        refine wl_v _ (r_move (H.ev rfl)) ?_; refine kl H rfl fun a H => ?_
        refine wl_s (kg_no rfl H rfl rfl rfl) ?_; refine kl H rfl fun a H => ?_
        refine wl_s (kg_no rfl H rfl rfl rfl) ?_; refine kl H rfl fun a H => ?_
        refine wl_s (kg_no rfl H rfl rfl rfl) ?_; refine kl H rfl fun a H => ?_
        refine wl_s (kg_no rfl H rfl rfl rfl) ?_; refine kl H rfl fun a H => ?_
        refine wl_s (kg_no rfl H rfl rfl rfl) ?_; refine kl H rfl fun a H => ?_
        refine wl_s (kg_no rfl H rfl rfl rfl) ?_; refine kl H rfl fun a H => ?_
        refine wl_v _ (r_pick_t (H.ev rfl) evc) ?_; refine kl H rfl fun a H => ?_
        refine wl_v _ (r_move (H.ev rfl)) ?_; refine kl H rfl fun a H => ?_
        refine wl_s (kg_no rfl H rfl rfl rfl) ?_; refine kl H rfl fun a H => ?_
        refine wl_s (kg_no rfl H rfl rfl rfl) ?_; refine kl H rfl fun a H => ?_
        refine wl_s (kg_no rfl H rfl rfl rfl) ?_; refine kl H rfl fun a H => ?_
        refine wl_v _ (r_pick_t (H.ev rfl) evc) ?_; refine kl H rfl fun a H => ?_
        refine wl_v _ (r_move (H.ev rfl)) ?_; refine kl H rfl fun a H => ?_
        refine wl_s (kg_no rfl H rfl rfl rfl) ?_; refine kl H rfl fun a H => ?_
        refine wl_s (kg_no rfl H rfl rfl rfl) ?_; refine kl H rfl fun a H => ?_
        refine wl_s (kg_no rfl H rfl rfl rfl) ?_; refine kl H rfl fun a H => ?_
        refine wl_s (kg_no rfl H rfl rfl rfl) ?_; refine kl H rfl fun a H => ?_
        refine wl_v _ (r_pick_t (H.ev rfl) evc) ?_; refine kl H rfl fun a H => ?_
        refine wpList_nil ?_
        refine c_next ?_
        refine c_cond_t H rfl ?_
        refine wp_seq ?_
        refine wp_region_lit ?_
        refine wl_v _ (r_row (cs := [.int .i64 n, .slice A1 L.length c1]) (H.ev rfl) (block_range k0) (by kernel_rfl) s24 rfl) ?_; refine kl H rfl fun a H => ?_
        refine op_store1 24 (.tmp 4) (.tmp 42) b2 0 24 (.agg #[.int .i64 n, .slice A1 L.length c1]) _ (H.ev rfl) (H.ev rfl) k2 s24 (by simp [Value.cells]) (by simp [Value.cells, Value.oneCell']) fun w' hb ho kq => ?_; clear k2; have k2 : Block _ b2 24 #[.int .i64 n, .slice A1 L.length c1] := kq; clear kq; replace k0 := block_same k0 (ho _ (by omega)); replace k1 := block_same k1 (ho _ (by omega)); replace hown := ROwn.keep hown (fun q e => ho q (by have := (hown.lt e).1; omega)); replace hBc := le_up hBc (hb _ g2); replace hall := hall.trans (hb _ g2); clear hb ho; refine kl0 H fun a H => ?_
        refine wl_v _ (r_assign evc) ?_; refine kl H rfl fun a H => ?_
        refine wpList_nil ?_
        refine c_next ?_
        refine wp_ret ?_
        refine r_then ?_
        rw [show takeF n L x = ((n, L), []) from shut_of (by first | exact .inl HRT.out | exact .inr (.inl (by omega)) | exact .inr (.inr (.inl (by omega))) | exact .inr (.inr (.inr (.inl (by omega)))) | exact .inr (.inr (.inr (.inr HHQ.out))))]
        exact k_ret_cell2 H rfl rfl rfl k2 Try.underlying24 rfl s24 ⟨⟨_, _, rfl, ⟨IOwn.row hown, own_fresh hown hBW⟩, ⟨Row.nil, nil_fresh⟩⟩, hall⟩
      · skip
        refine op_unguard _ _ (kg_yes rfl H rfl rfl rfl) ?_; refine wl_v _ (r_lt Try.underlying3 (H.ev rfl) (H.ev rfl) (dec_f (hcc0))) ?_; refine kl H rfl fun a H => ?_
        refine wl_v _ (r_pick_f (H.ev rfl) (H.ev rfl)) ?_; refine kl H rfl fun a H => ?_
        refine wl_v _ (r_move (H.ev rfl)) ?_; refine kl H rfl fun a H => ?_
        refine op_unguard _ _ (kg_yes rfl H rfl rfl rfl) ?_; refine wl_v _ (r_fld (q := 0) fld33_0 (H.ev rfl) rfl) ?_; refine kl H rfl fun a H => ?_
        refine op_unguard _ _ (kg_yes rfl H rfl rfl rfl) ?_; refine wl_v _ (r_ld Try.underlying3 rfl (H.ev rfl) ((Block.cell k1 0).trans rfl)) ?_; refine kl H rfl fun a H => ?_
        refine op_unguard _ _ (kg_yes rfl H rfl rfl rfl) ?_; refine wl_v _ (r_fld (q := 0) fld24_0 (H.ev rfl) rfl) ?_; refine kl H rfl fun a H => ?_
        refine op_unguard _ _ (kg_yes rfl H rfl rfl rfl) ?_; refine wl_v _ (r_ld Try.underlying3 rfl (H.ev rfl) ((Block.cell k0 0).trans rfl)) ?_; refine kl H rfl fun a H => ?_
        refine op_unguard _ _ (kg_yes rfl H rfl rfl rfl) ?_; refine wl_v _ (r_sub (q := x.1 - n) Try.underlying3 (H.ev rfl) (H.ev rfl) (by omega) (by omega)) ?_; refine kl H rfl fun a H => ?_
        by_cases hcc1 : (x.1 - n) ≥ 8
        · skip
          refine op_unguard _ _ (kg_yes rfl H rfl rfl rfl) ?_; refine wl_v _ (r_ge Try.underlying3 (H.ev rfl) evc (dec_t (hcc1))) ?_; refine kl H rfl fun a H => ?_
          refine wl_v _ (r_pick_f (H.ev rfl) (H.ev rfl)) ?_; refine kl H rfl fun a H => ?_
          refine wl_v _ (r_move (H.ev rfl)) ?_; refine kl H rfl fun a H => ?_
          refine wl_s (kg_no rfl H rfl rfl rfl) ?_; refine kl H rfl fun a H => ?_
          refine wl_s (kg_no rfl H rfl rfl rfl) ?_; refine kl H rfl fun a H => ?_
          refine wl_s (kg_no rfl H rfl rfl rfl) ?_; refine kl H rfl fun a H => ?_
          refine wl_v _ (r_pick_t (H.ev rfl) evc) ?_; refine kl H rfl fun a H => ?_
          refine wl_v _ (r_move (H.ev rfl)) ?_; refine kl H rfl fun a H => ?_
          refine wl_s (kg_no rfl H rfl rfl rfl) ?_; refine kl H rfl fun a H => ?_
          refine wl_s (kg_no rfl H rfl rfl rfl) ?_; refine kl H rfl fun a H => ?_
          refine wl_s (kg_no rfl H rfl rfl rfl) ?_; refine kl H rfl fun a H => ?_
          refine wl_s (kg_no rfl H rfl rfl rfl) ?_; refine kl H rfl fun a H => ?_
          refine wl_v _ (r_pick_t (H.ev rfl) evc) ?_; refine kl H rfl fun a H => ?_
          refine wpList_nil ?_
          refine c_next ?_
          refine c_cond_t H rfl ?_
          refine wp_seq ?_
          refine wp_region_lit ?_
          refine wl_v _ (r_row (cs := [.int .i64 n, .slice A1 L.length c1]) (H.ev rfl) (block_range k0) (by kernel_rfl) s24 rfl) ?_; refine kl H rfl fun a H => ?_
          refine op_store1 24 (.tmp 4) (.tmp 42) b2 0 24 (.agg #[.int .i64 n, .slice A1 L.length c1]) _ (H.ev rfl) (H.ev rfl) k2 s24 (by simp [Value.cells]) (by simp [Value.cells, Value.oneCell']) fun w' hb ho kq => ?_; clear k2; have k2 : Block _ b2 24 #[.int .i64 n, .slice A1 L.length c1] := kq; clear kq; replace k0 := block_same k0 (ho _ (by omega)); replace k1 := block_same k1 (ho _ (by omega)); replace hown := ROwn.keep hown (fun q e => ho q (by have := (hown.lt e).1; omega)); replace hBc := le_up hBc (hb _ g2); replace hall := hall.trans (hb _ g2); clear hb ho; refine kl0 H fun a H => ?_
          refine wl_v _ (r_assign evc) ?_; refine kl H rfl fun a H => ?_
          refine wpList_nil ?_
          refine c_next ?_
          refine wp_ret ?_
          refine r_then ?_
          rw [show takeF n L x = ((n, L), []) from shut_of (by first | exact .inl HRT.out | exact .inr (.inl (by omega)) | exact .inr (.inr (.inl (by omega))) | exact .inr (.inr (.inr (.inl (by omega)))) | exact .inr (.inr (.inr (.inr HHQ.out))))]
          exact k_ret_cell2 H rfl rfl rfl k2 Try.underlying24 rfl s24 ⟨⟨_, _, rfl, ⟨IOwn.row hown, own_fresh hown hBW⟩, ⟨Row.nil, nil_fresh⟩⟩, hall⟩
        · skip
          refine op_unguard _ _ (kg_yes rfl H rfl rfl rfl) ?_; refine wl_v _ (r_ge Try.underlying3 (H.ev rfl) evc (dec_f (hcc1))) ?_; refine kl H rfl fun a H => ?_
          refine wl_v _ (r_pick_f (H.ev rfl) (H.ev rfl)) ?_; refine kl H rfl fun a H => ?_
          refine wl_v _ (r_move (H.ev rfl)) ?_; refine kl H rfl fun a H => ?_
          refine op_unguard _ _ (kg_yes rfl H rfl rfl rfl) ?_; refine wl_v _ (r_fld (q := 0) fld33_0 (H.ev rfl) rfl) ?_; refine kl H rfl fun a H => ?_
          refine op_unguard _ _ (kg_yes rfl H rfl rfl rfl) ?_; refine wl_v _ (r_ld Try.underlying3 rfl (H.ev rfl) ((Block.cell k1 0).trans rfl)) ?_; refine kl H rfl fun a H => ?_
          by_cases hcc2 : x.1 ≥ 1073741824
          · skip
            refine op_unguard _ _ (kg_yes rfl H rfl rfl rfl) ?_; refine wl_v _ (r_ge Try.underlying3 (H.ev rfl) evc (dec_t (hcc2))) ?_; refine kl H rfl fun a H => ?_
            refine wl_v _ (r_pick_f (H.ev rfl) (H.ev rfl)) ?_; refine kl H rfl fun a H => ?_
            refine wl_v _ (r_move (H.ev rfl)) ?_; refine kl H rfl fun a H => ?_
            refine wl_s (kg_no rfl H rfl rfl rfl) ?_; refine kl H rfl fun a H => ?_
            refine wl_s (kg_no rfl H rfl rfl rfl) ?_; refine kl H rfl fun a H => ?_
            refine wl_s (kg_no rfl H rfl rfl rfl) ?_; refine kl H rfl fun a H => ?_
            refine wl_s (kg_no rfl H rfl rfl rfl) ?_; refine kl H rfl fun a H => ?_
            refine wl_v _ (r_pick_t (H.ev rfl) evc) ?_; refine kl H rfl fun a H => ?_
            refine wpList_nil ?_
            refine c_next ?_
            refine c_cond_t H rfl ?_
            refine wp_seq ?_
            refine wp_region_lit ?_
            refine wl_v _ (r_row (cs := [.int .i64 n, .slice A1 L.length c1]) (H.ev rfl) (block_range k0) (by kernel_rfl) s24 rfl) ?_; refine kl H rfl fun a H => ?_
            refine op_store1 24 (.tmp 4) (.tmp 42) b2 0 24 (.agg #[.int .i64 n, .slice A1 L.length c1]) _ (H.ev rfl) (H.ev rfl) k2 s24 (by simp [Value.cells]) (by simp [Value.cells, Value.oneCell']) fun w' hb ho kq => ?_; clear k2; have k2 : Block _ b2 24 #[.int .i64 n, .slice A1 L.length c1] := kq; clear kq; replace k0 := block_same k0 (ho _ (by omega)); replace k1 := block_same k1 (ho _ (by omega)); replace hown := ROwn.keep hown (fun q e => ho q (by have := (hown.lt e).1; omega)); replace hBc := le_up hBc (hb _ g2); replace hall := hall.trans (hb _ g2); clear hb ho; refine kl0 H fun a H => ?_
            refine wl_v _ (r_assign evc) ?_; refine kl H rfl fun a H => ?_
            refine wpList_nil ?_
            refine c_next ?_
            refine wp_ret ?_
            refine r_then ?_
            rw [show takeF n L x = ((n, L), []) from shut_of (by first | exact .inl HRT.out | exact .inr (.inl (by omega)) | exact .inr (.inr (.inl (by omega))) | exact .inr (.inr (.inr (.inl (by omega)))) | exact .inr (.inr (.inr (.inr HHQ.out))))]
            exact k_ret_cell2 H rfl rfl rfl k2 Try.underlying24 rfl s24 ⟨⟨_, _, rfl, ⟨IOwn.row hown, own_fresh hown hBW⟩, ⟨Row.nil, nil_fresh⟩⟩, hall⟩
          · skip
            refine op_unguard _ _ (kg_yes rfl H rfl rfl rfl) ?_; refine wl_v _ (r_ge Try.underlying3 (H.ev rfl) evc (dec_f (hcc2))) ?_; refine kl H rfl fun a H => ?_
            refine wl_v _ (r_pick_f (H.ev rfl) (H.ev rfl)) ?_; refine kl H rfl fun a H => ?_
            refine wl_v _ (r_move (H.ev rfl)) ?_; refine kl H rfl fun a H => ?_
            refine op_unguard _ _ (kg_yes rfl H rfl rfl rfl) ?_; refine wl_v _ (r_fld (q := 1) fld24_1 (H.ev rfl) rfl) ?_; refine kl H rfl fun a H => ?_
            refine op_unguard _ _ (kg_yes rfl H rfl rfl rfl) ?_; refine wl_v _ (r_ld Try.underlying22 rfl (H.ev rfl) ((Block.cell k0 1).trans rfl)) ?_; refine kl H rfl fun a H => ?_
            refine op_unguard _ _ (kg_yes rfl H rfl rfl rfl) ?_; refine wl_v _ (r_move (H.ev rfl)) ?_; refine kl H rfl fun a H => ?_
            refine op_unguard _ _ (kg_yes rfl H rfl rfl rfl) ?_; refine wl_call _ _ _ (contains_any _ _ L x b1 (IOwn.row hown) (by omega) (block_range k1)) (r_call2 cf23 (H.ev rfl) (H.ev rfl)) ?_; rintro e w9 ⟨rfl, hb⟩; refine ⟨_, rfl, ?_⟩; rw [HHQ.out]; replace k0 := Block.ups k0 hb; replace k1 := Block.ups k1 hb; replace k2 := Block.ups k2 hb; replace hown := ROwn.up hown hb; replace hBc := le_up hBc hb; replace hall := hall.trans (hb.mono hall.size); clear hb; refine kl H rfl fun a H => ?_
            refine wl_v _ (r_pick_f (H.ev rfl) (H.ev rfl)) ?_; refine kl H rfl fun a H => ?_
            refine wpList_nil ?_
            refine c_next ?_
            refine c_cond_f H rfl ?_
            refine wp_skip ?_
            refine c_next ?_
            refine wp_seq ?_
            refine wp_region_lit ?_
            refine wl_v _ (r_fld (q := 1) fld24_1 (H.ev rfl) rfl) ?_; refine kl H rfl fun a H => ?_
            refine wl_v _ (r_ld Try.underlying22 rfl (H.ev rfl) ((Block.cell k0 1).trans rfl)) ?_; refine kl H rfl fun a H => ?_
            refine wl_v _ (r_row (cs := [.int .i64 x.1, .int .i64 x.2.1, .int .i64 x.2.2.1, .int .i64 x.2.2.2.1, .int .i64 x.2.2.2.2]) (H.ev rfl) (block_range k1) (by kernel_rfl) s33 rfl) ?_; refine kl H rfl fun a H => ?_
            refine op_litv 22 1 #[(0, .agg #[.int .i64 x.1, .int .i64 x.2.1, .int .i64 x.2.2.1, .int .i64 x.2.2.2.1, .int .i64 x.2.2.2.2])] 33 #[.int .i64 x.1, .int .i64 x.2.1, .int .i64 x.2.2.1, .int .i64 x.2.2.2.1, .int .i64 x.2.2.2.2] (by simp [evc, H.ev (j := 45) rfl]) (fun w => by kernel_rfl) fun w3 b3 hge hb k3 => ?_; have g3 := Nat.le_trans hall.size hge; have d0_3 : b0 < b3 := Nat.lt_of_lt_of_le k0.lt hge; have d1_3 : b1 < b3 := Nat.lt_of_lt_of_le k1.lt hge; have d2_3 : b2 < b3 := Nat.lt_of_lt_of_le k2.lt hge; replace k0 := Block.ups k0 hb; replace k1 := Block.ups k1 hb; replace k2 := Block.ups k2 hb; replace hown := ROwn.up hown hb; replace hBc := le_up hBc hb; replace hall := hall.trans (hb.mono hall.size); clear hb; clear hge; refine kl H rfl fun a H => ?_
            refine op_append 22 33 (.tmp 44) (.tmp 46) B (.agg #[.int .i64 0, .int .i64 0, .int .i64 0, .int .i64 0, .int .i64 0]) 5 40 _ _ _ (some ⟨b3, 0, none⟩) 1 1 (FV encI [x]) (H.ev rfl) (H.ev rfl) Try.underlying22 i33 rfl (by omega) hown (by rw [FV_len encI_len]; rfl) (holds_block k3 rfl) (FV_one _ _) (by unfold maxLen; omega) (by omega) hBc fun v2 w9 hown2 _ _ hb2 => ?_; replace k0 := Block.up k0 hb2 e0; replace k1 := Block.up k1 hb2 e1; replace k2 := Block.up k2 hb2 e2; have hown3 := app_own hown2; replace hall := hall.trans (hb2.mono hBW); replace hBc := le_up hBc hb2; clear hown2 hown k3 hb2; obtain ⟨g, cap, rfl, hBg, hgl⟩ := own_form hown3 (ins_len1 L x) (by omega); refine kl H rfl fun a H => ?_
            refine wl_v _ (r_fld (q := 1) fld24_1 (H.ev rfl) rfl) ?_; refine kl H rfl fun a H => ?_
            refine op_store1 22 (.tmp 48) (.tmp 47) b0 1 24 (.slice (some ⟨g, 0, none⟩) (L.length + 1) cap) _ (H.ev rfl) (H.ev rfl) k0 s22 (by simp [Value.cells]) (by simp [Value.cells, Value.oneCell']) fun w' hb ho kq => ?_; clear k0; have k0 : Block _ b0 24 #[.int .i64 n, .slice (some ⟨g, 0, none⟩) (L.length + 1) cap] := kq; clear kq; replace k1 := block_same k1 (ho _ (by omega)); replace k2 := block_same k2 (ho _ (by omega)); replace hBc := le_up hBc (hb _ g0); replace hown3 := ROwn.keep hown3 (fun q e => ho q (by have := (hown3.lt e).1; omega)); replace hall := hall.trans (hb _ g0); clear hb ho; refine kl0 H fun a H => ?_
            refine wpList_nil ?_
            refine c_next ?_
            refine wp_seq ?_
            refine wp_region_lit ?_
            refine wl_v _ (r_fld (q := 1) fld24_1 (H.ev rfl) rfl) ?_; refine kl H rfl fun a H => ?_
            refine wl_v _ (r_ld Try.underlying22 rfl (H.ev rfl) ((Block.cell k0 1).trans rfl)) ?_; refine kl H rfl fun a H => ?_
            refine wl_call _ _ _ (sort_any _ B g cap L.length L x hBc rfl (by omega) HR.out.2.2.1 (ins_bound HR.out (by omega) (by omega)) hown3) (r_call2 cf24 (H.ev rfl) rfl) ?_; rintro e w9 ⟨rfl, hown4, hb2⟩; refine ⟨_, rfl, ?_⟩; replace k0 := Block.up k0 hb2 e0; replace k1 := Block.up k1 hb2 e1; replace k2 := Block.up k2 hb2 e2; replace hall := hall.trans (hb2.mono hBW); replace hBc := le_up hBc hb2; clear hb2 hown3; refine kl H rfl fun a H => ?_
            refine wpList_nil ?_
            refine c_next ?_
            refine wp_seq ?_
            refine wp_region_lit ?_
            refine wl_v _ (r_assign evc) ?_; refine kl H rfl fun a H => ?_
            refine wpList_nil ?_
            refine c_next ?_
            refine wp_seq ?_
            refine wp_block ?_
            have HTK : Hid (takeF n L x = popF n (insI L x)) := Lib.hid (take_open HR.out (by omega) (by omega) (by omega) HHQ.out)
            obtain ⟨hgl', hrow⟩ := own_row_at hown4
            have hlen := ins_len L x
            have hbd0 : 1 ≤ n ∧ n + ((insI L x).length : Nat) ≤ n + 8 := by omega
            refine wp_loop (TkI w B b0 b1 b2 g x (n + 8) (popF n (insI L x))) (fun a w' => lenAt w' b0) ⟨insI L x, n, some ⟨g, 0, none⟩, cap, .slice none 0 0, [], H.pick [2, 3, 4, 7], hbd0, by rw [hlen]; exact k0, k1, k2, by rw [hlen]; exact hrow, (fun b o e => by injection e with e; injection e with e; exact e.symm), ROwn.nil, (fun e => by cases e), by simp only [List.length_nil]; omega, hgl', hBc, rfl, hall⟩ ?_
            clear H hall k0 k1 k2 hrow hgl hgl' hown4 hBc hbd0
            rintro a w' ⟨M, nn, A', c', o, NS, H, ⟨hbd1, hbd⟩, k0, k1, k2, hrow, hAg, hno, hog, hNS, hgl, hBc, hpop, hall⟩
            have H0 := H
            cases M with
            | nil =>
              have k0' : Block w' b0 24 #[.int .i64 nn, .slice A' 0 c'] := k0
              replace k0 := k0'
              clear k0'
              have HPE := Lib.hid (popF_nil nn)
              refine wp_seq ?_
              refine wp_seq ?_
              have hS : STn w b0 nn (.slice A' 0 c') _ := ⟨hall.drew, k0⟩
              refine region_pi (STn w b0 nn (.slice A' 0 c')) [(0, true), (1, true), (2, true), (3, true), (4, true), (5, true), (6, true), (7, true), (8, true), (9, true), (10, true), (11, true), (12, true), (13, true)] (by kernel_rfl) (by kernel_rfl) rfl (by kernel_rfl) hS ?_
              replace k1 : Block (World.drew _) b1 33 _ := k1
              replace k2 : Block (World.drew _) b2 24 _ := k2
              replace hno : NOwn (World.drew _) B o NS := ROwn.keep hno (fun _ _ => rfl)
              replace hrow : IRow (World.drew _) _ _ := Row.keep hrow (fun _ _ _ => rfl)
              replace hgl : g < (World.drew _).heap.size := hgl
              replace hBc : B ≤ (World.drew _).heap.size := hBc
              clear k0 hall
              refine pi_f0 _ rfl (fun w' hS' => r_fld (q := 1) fld24_1 (H.ev rfl) rfl) ?_; refine kp H rfl fun a H => ?_
              refine pi_f0 _ rfl (fun w' hS' => r_ld Try.underlying22 rfl (H.ev rfl) ((Block.cell (hS'.2) 1).trans rfl)) ?_; refine kp H rfl fun a H => ?_
              refine pi_f0 _ rfl (fun w' hS' => r_len Try.underlying22 (H.ev rfl)) ?_; refine kp H rfl fun a H => ?_
              refine pi_f0 _ rfl (fun w' hS' => r_gt Try.underlying3 (H.ev rfl) evc (dec_f (by omega))) ?_; refine kp H rfl fun a H => ?_
              refine pi_f0 _ rfl (fun w' hS' => r_move (H.ev rfl)) ?_; refine kp H rfl fun a H => ?_
              refine pi_s1 rfl rfl rfl (H.ev rfl) ?_; refine kp H rfl fun a H => ?_
              refine pi_s1 rfl rfl rfl (H.ev rfl) ?_; refine kp H rfl fun a H => ?_
              refine pi_s1 rfl rfl rfl (H.ev rfl) ?_; refine kp H rfl fun a H => ?_
              refine pi_s1 rfl rfl rfl (H.ev rfl) ?_; refine kp H rfl fun a H => ?_
              refine pi_s1 rfl rfl rfl (H.ev rfl) ?_; refine kp H rfl fun a H => ?_
              refine pi_s1 rfl rfl rfl (H.ev rfl) ?_; refine kp H rfl fun a H => ?_
              refine pi_s1 rfl rfl rfl (H.ev rfl) ?_; refine kp H rfl fun a H => ?_
              refine pi_s1 rfl rfl rfl (H.ev rfl) ?_; refine kp H rfl fun a H => ?_
              refine pi_f0 _ rfl (fun w' hS' => r_pick_f (H.ev rfl) evc) ?_; refine kp H rfl fun a H => ?_
              refine pi_nil (NoPanic.normal ?_)
              have hall := hS.1
              have k0 := hS.2
              clear hS
              refine c_next ?_
              refine c_cond_f H rfl ?_
              refine wp_exit ?_
              refine e_then ?_
              refine e_then ?_
              refine e_here ?_
              refine c_next ?_
              refine wp_seq ?_
              refine wp_region_lit ?_
              refine wl_v _ (r_row (cs := [.int .i64 nn, .slice A' 0 c']) (H.ev rfl) (block_range k0) (by kernel_rfl) s24 rfl) ?_; refine kl H rfl fun a H => ?_
              refine wl_v _ (r_move (H.ev rfl)) ?_; refine kl H rfl fun a H => ?_
              refine op_store1 24 (.tmp 4) (.tmp 82) b2 0 24 (.agg #[.int .i64 nn, .slice A' 0 c']) _ (H.ev rfl) (H.ev rfl) k2 s24 (by simp [Value.cells]) (by simp [Value.cells, Value.oneCell']) fun w' hb ho kq => ?_; clear k2; have k2 : Block _ b2 24 #[.int .i64 nn, .slice A' 0 c'] := kq; clear kq; replace k0 := block_same k0 (ho _ (by omega)); replace k1 := block_same k1 (ho _ (by omega)); replace hrow := Row.keep hrow (fun b o e => ho b (by have := hAg b o e; omega)); replace hno := ROwn.keep hno (fun q e => ho q (by have := (hno.lt e).1; omega)); replace hgl := lt_up hgl (hb _ g2); replace hBc := le_up hBc (hb _ g2); replace hall := hall.trans (hb _ g2); clear hb ho; refine kl0 H fun a H => ?_
              refine wl_v _ (r_assign (H.ev rfl)) ?_; refine kl H rfl fun a H => ?_
              refine wpList_nil ?_
              refine c_next ?_
              refine wp_ret ?_
              rw [HTK.out, hpop, HPE.out, List.append_nil]
              exact k_ret_cell2 H rfl rfl rfl k2 Try.underlying24 rfl s24 ⟨⟨_, _, rfl, ⟨hrow, fun A n c e b o' ea => by injection e with e1 e2 e3; rw [← e1] at ea; have := hAg b o' ea; omega⟩, ⟨NOwn.row hno, own_fresh hno hBW⟩⟩, hall⟩
            | cons y M =>
              have hyl : (0 : Nat) < (y :: M).length := by simp
              have hylI : (((y :: M).length : Nat) : Int) > 0 := by simp
              have hyl2 : (y :: M).length = M.length + 1 := rfl
              obtain ⟨b, oo, hA, hr⟩ := flat_some encI_len (row_holds hrow) (by omega) hyl
              subst hA
              have hbg : b = g := hAg b oo rfl
              subst hbg
              simp only [List.getElem_cons_zero] at hr
              have hsl := hrow.slice_le
              have H := H0
              have HK0 := Lib.hid k0
              by_cases hyn : y.1 = nn
              · skip
                refine wp_seq ?_
                refine wp_seq ?_
                have hS : STk w b0 nn (.slice (some ⟨b, oo, none⟩) (y :: M).length c') b oo y _ := ⟨hall.drew, k0, hr⟩
                refine region_pi (STk w b0 nn (.slice (some ⟨b, oo, none⟩) (y :: M).length c') b oo y) [(0, true), (1, true), (2, true), (3, true), (4, true), (5, true), (6, true), (7, true), (8, true), (9, true), (10, true), (11, true), (12, true), (13, true)] (by kernel_rfl) (by kernel_rfl) rfl (by kernel_rfl) hS ?_
                replace k1 : Block (World.drew _) b1 33 _ := k1
                replace k2 : Block (World.drew _) b2 24 _ := k2
                replace hno : NOwn (World.drew _) B o NS := ROwn.keep hno (fun _ _ => rfl)
                replace hrow : IRow (World.drew _) _ _ := Row.keep hrow (fun _ _ _ => rfl)
                replace hgl : b < (World.drew _).heap.size := hgl
                replace hBc : B ≤ (World.drew _).heap.size := hBc
                clear k0 hall
                clear hr
                refine pi_f0 _ rfl (fun w' hS' => r_fld (q := 1) fld24_1 (H.ev rfl) rfl) ?_; refine kp H rfl fun a H => ?_
                refine pi_f0 _ rfl (fun w' hS' => r_ld Try.underlying22 rfl (H.ev rfl) ((Block.cell (hS'.2.1) 1).trans rfl)) ?_; refine kp H rfl fun a H => ?_
                refine pi_f0 _ rfl (fun w' hS' => r_len Try.underlying22 (H.ev rfl)) ?_; refine kp H rfl fun a H => ?_
                refine pi_f0 _ rfl (fun w' hS' => r_gt Try.underlying3 (H.ev rfl) evc (dec_t (hylI))) ?_; refine kp H rfl fun a H => ?_
                refine pi_f0 _ rfl (fun w' hS' => r_move (H.ev rfl)) ?_; refine kp H rfl fun a H => ?_
                refine pi_f1 _ rfl rfl rfl (H.ev rfl) (fun w' hS' => r_fld (q := 1) fld24_1 (H.ev rfl) rfl) ?_; refine kp H rfl fun a H => ?_
                refine pi_f1 _ rfl rfl rfl (H.ev rfl) (fun w' hS' => r_ld Try.underlying22 rfl (H.ev rfl) ((Block.cell (hS'.2.1) 1).trans rfl)) ?_; refine kp H rfl fun a H => ?_
                refine pi_f1 _ rfl rfl rfl (H.ev rfl) (fun w' hS' => r_idx (j := 0) (q := oo + 0 * 5) Try.underlying22 s33 (H.ev rfl) evc (by omega) rfl) ?_; refine kp H rfl fun a H => ?_
                refine pi_f1 _ rfl rfl rfl (H.ev rfl) (fun w' hS' => r_fld (q := oo + 0 * 5) fld33_0 (H.ev rfl) rfl) ?_; refine kp H rfl fun a H => ?_
                refine pi_f1 _ rfl rfl rfl (H.ev rfl) (fun w' hS' => r_ld Try.underlying3 rfl (H.ev rfl) (range_cell (hS'.2.2) 0 rfl)) ?_; refine kp H rfl fun a H => ?_
                refine pi_f1 _ rfl rfl rfl (H.ev rfl) (fun w' hS' => r_fld (q := 0) fld24_0 (H.ev rfl) rfl) ?_; refine kp H rfl fun a H => ?_
                refine pi_f1 _ rfl rfl rfl (H.ev rfl) (fun w' hS' => r_ld Try.underlying3 rfl (H.ev rfl) ((Block.cell (hS'.2.1) 0).trans rfl)) ?_; refine kp H rfl fun a H => ?_
                refine pi_f1 _ rfl rfl rfl (H.ev rfl) (fun w' hS' => r_eq Try.underlying3 (H.ev rfl) (H.ev rfl) (dec_t (hyn))) ?_; refine kp H rfl fun a H => ?_
                refine pi_f0 _ rfl (fun w' hS' => r_pick_t (H.ev rfl) (H.ev rfl)) ?_; refine kp H rfl fun a H => ?_
                refine pi_nil (NoPanic.normal ?_)
                have hall := hS.1
                have k0 := hS.2.1
                have hr := hS.2.2
                clear hS
                refine c_next ?_
                refine c_cond_t H rfl ?_
                refine wp_skip ?_
                refine c_next ?_
                refine wp_block ?_
                refine wp_seq ?_
                refine wp_region_lit ?_
                refine wl_v _ (r_move (H.ev rfl)) ?_; refine kl H rfl fun a H => ?_
                refine wl_v _ (r_fld (q := 1) fld24_1 (H.ev rfl) rfl) ?_; refine kl H rfl fun a H => ?_
                refine wl_v _ (r_ld Try.underlying22 rfl (H.ev rfl) ((Block.cell k0 1).trans rfl)) ?_; refine kl H rfl fun a H => ?_
                refine wl_v _ (r_idx (j := 0) (q := oo + 0 * 5) Try.underlying22 s33 (H.ev rfl) evc (by omega) rfl) ?_; refine kl H rfl fun a H => ?_
                refine wl_v _ (r_fld (q := oo + 0 * 5 + 1) fld33_1 (H.ev rfl) rfl) ?_; refine kl H rfl fun a H => ?_
                refine wl_v _ (r_row (cs := [.int .i64 y.2.1, .int .i64 y.2.2.1, .int .i64 y.2.2.2.1, .int .i64 y.2.2.2.2]) (H.ev rfl) (range_tail hr) (by kernel_rfl) s31 rfl) ?_; refine kl H rfl fun a H => ?_
                refine op_litv 27 1 #[(0, .agg #[.int .i64 y.2.1, .int .i64 y.2.2.1, .int .i64 y.2.2.2.1, .int .i64 y.2.2.2.2])] 31 #[.int .i64 y.2.1, .int .i64 y.2.2.1, .int .i64 y.2.2.2.1, .int .i64 y.2.2.2.2] (by simp [evc, H.ev (j := 71) rfl]) (fun w => by kernel_rfl) fun w4 b4 hge hb k4 => ?_; have g4 := Nat.le_trans hall.size hge; have d0_4 : b0 < b4 := Nat.lt_of_lt_of_le k0.lt hge; have d1_4 : b1 < b4 := Nat.lt_of_lt_of_le k1.lt hge; have d2_4 : b2 < b4 := Nat.lt_of_lt_of_le k2.lt hge; replace k0 := Block.ups k0 hb; replace k1 := Block.ups k1 hb; replace k2 := Block.ups k2 hb; replace hrow := Row.up hrow hb; replace hno := ROwn.up hno hb; replace hgl := lt_up hgl hb; replace hBc := le_up hBc hb; replace hr := range_ups hr hb; replace hall := hall.trans (hb.mono hall.size); clear hb; clear hge; refine kl H rfl fun a H => ?_
                refine op_append 27 31 (.tmp 66) (.tmp 72) B (.agg #[.int .i64 0, .int .i64 0, .int .i64 0, .int .i64 0]) 4 32 o _ _ (some ⟨b4, 0, none⟩) 1 1 (FV encN [y.2]) (H.ev rfl) (H.ev rfl) Try.underlying27 i31 rfl (by omega) hno (by rw [FV_len encN_len]; rfl) (holds_block k4 rfl) (FV_one _ _) (by unfold maxLen; omega) (by omega) hBc fun o2 w9 hown2 hg9 hv9 hb2 => ?_; replace k0 := Block.up k0 hb2 e0; replace k1 := Block.up k1 hb2 e1; replace k2 := Block.up k2 hb2 e2; clear hr; replace hrow := Row.keep hrow (fun b' o' e => by have := hAg b' o' e; subst this; exact hg9.block _ hgl (fun e => hog e.symm)); have hog2 := app_ne hv9 hog hgl; have hno2 := app_own hown2; replace hgl := lt_up hgl hb2; replace hBc := le_up hBc hb2; replace hall := hall.trans (hb2.mono hBW); clear hown2 hno k4 hg9 hv9 hb2 hog; have hno := hno2; have hog := hog2; clear hno2 hog2; refine kl H rfl fun a H => ?_
                refine wl_v _ (r_assign (H.ev rfl)) ?_; refine kl H rfl fun a H => ?_
                refine wpList_nil ?_
                refine c_next ?_
                refine wp_seq ?_
                refine wp_region_lit ?_
                refine wl_v _ (r_fld (q := 1) fld24_1 (H.ev rfl) rfl) ?_; refine kl H rfl fun a H => ?_
                refine wl_v _ (r_ld Try.underlying22 rfl (H.ev rfl) ((Block.cell k0 1).trans rfl)) ?_; refine kl H rfl fun a H => ?_
                refine wl_v (.slice (slAt (some ⟨b, oo, none⟩) c' 1 5) M.length (c' - 1)) (run_op_slice Try.underlying22 (.slice (some ⟨b, oo, none⟩) (y :: M).length c') (some (.int .i64 (1 : Nat))) none none (H.ev rfl) rfl rfl rfl (slice_any 1 (y :: M).length Try.underlying22 s33 _ _ (.inr rfl) (.inl ⟨rfl, rfl⟩) (by omega) (by omega) rfl (by simp) rfl)) ?_; refine kl H rfl fun a H => ?_
                refine wl_v _ (r_fld (q := 1) fld24_1 (H.ev rfl) rfl) ?_; refine kl H rfl fun a H => ?_
                refine op_store1 22 (.tmp 77) (.tmp 76) b0 1 24 (.slice (slAt (some ⟨b, oo, none⟩) c' 1 5) M.length (c' - 1)) _ (H.ev rfl) (H.ev rfl) k0 s22 (by simp [Value.cells]) (by simp [Value.cells, Value.oneCell']) fun w' hb ho kq => ?_; clear k0; have k0 : Block _ b0 24 #[.int .i64 nn, .slice (slAt (some ⟨b, oo, none⟩) c' 1 5) M.length (c' - 1)] := kq; clear kq; replace k1 := block_same k1 (ho _ (by omega)); replace k2 := block_same k2 (ho _ (by omega)); replace hrow := Row.keep hrow (fun b o e => ho b (by have := hAg b o e; omega)); replace hno := ROwn.keep hno (fun q e => ho q (by have := (hno.lt e).1; omega)); replace hgl := lt_up hgl (hb _ g0); replace hBc := le_up hBc (hb _ g0); replace hall := hall.trans (hb _ g0); clear hb ho; refine kl0 H fun a H => ?_
                refine wpList_nil ?_
                refine c_next ?_
                refine wp_region_lit ?_
                refine wl_v _ (r_fld (q := 0) fld24_0 (H.ev rfl) rfl) ?_; refine kl H rfl fun a H => ?_
                refine wl_v _ (r_ld Try.underlying3 rfl (H.ev rfl) ((Block.cell k0 0).trans rfl)) ?_; refine kl H rfl fun a H => ?_
                refine wl_v _ (r_add (q := nn + 1) Try.underlying3 (H.ev rfl) evc (by omega) (by omega)) ?_; refine kl H rfl fun a H => ?_
                refine wl_v _ (r_fld (q := 0) fld24_0 (H.ev rfl) rfl) ?_; refine kl H rfl fun a H => ?_
                refine op_store1 3 (.tmp 81) (.tmp 80) b0 0 24 (.int .i64 (nn + 1)) _ (H.ev rfl) (H.ev rfl) k0 s3 (by simp [Value.cells]) (ints_one [(nn + 1)]) fun w' hb ho kq => ?_; clear k0; have k0 : Block _ b0 24 #[.int .i64 (nn + 1), .slice (slAt (some ⟨b, oo, none⟩) c' 1 5) M.length (c' - 1)] := kq; clear kq; replace k1 := block_same k1 (ho _ (by omega)); replace k2 := block_same k2 (ho _ (by omega)); replace hrow := Row.keep hrow (fun b o e => ho b (by have := hAg b o e; omega)); replace hno := ROwn.keep hno (fun q e => ho q (by have := (hno.lt e).1; omega)); replace hgl := lt_up hgl (hb _ g0); replace hBc := le_up hBc (hb _ g0); replace hall := hall.trans (hb _ g0); clear hb ho; refine kl0 H fun a H => ?_
                refine wpList_nil ?_
                refine n_block ?_
                have hrow2 : IRow _ (.slice (slAt (some ⟨b, oo, none⟩) c' 1 5) M.length (c' - 1)) M := row_tail hrow
                have hAg2 : ∀ b' o', slAt (some ⟨b, oo, none⟩) c' 1 5 = some ⟨b', o', none⟩ → b' = b := fun b' o' e => slAt_block e
                refine n_then ⟨⟨M, nn + 1, _, _, o2, NS ++ [y.2], H.pick [2, 3, 4, 7], ⟨by omega, by omega⟩, k0, k1, k2, hrow2, hAg2, hno, hog, by rw [List.length_append]; simp only [List.length_cons, List.length_nil]; omega, hgl, hBc, by rw [hpop, popF_go (M := M) hyn, List.append_assoc]; rfl, hall⟩, ?_⟩
                rw [lenAt_eq k0, lenAt_eq HK0.out]
                simp
              · skip
                have HPE := Lib.hid (popF_stop (M := M) hyn)
                refine wp_seq ?_
                refine wp_seq ?_
                have hS : STk w b0 nn (.slice (some ⟨b, oo, none⟩) (y :: M).length c') b oo y _ := ⟨hall.drew, k0, hr⟩
                refine region_pi (STk w b0 nn (.slice (some ⟨b, oo, none⟩) (y :: M).length c') b oo y) [(0, true), (1, true), (2, true), (3, true), (4, true), (5, true), (6, true), (7, true), (8, true), (9, true), (10, true), (11, true), (12, true), (13, true)] (by kernel_rfl) (by kernel_rfl) rfl (by kernel_rfl) hS ?_
                replace k1 : Block (World.drew _) b1 33 _ := k1
                replace k2 : Block (World.drew _) b2 24 _ := k2
                replace hno : NOwn (World.drew _) B o NS := ROwn.keep hno (fun _ _ => rfl)
                replace hrow : IRow (World.drew _) _ _ := Row.keep hrow (fun _ _ _ => rfl)
                replace hgl : b < (World.drew _).heap.size := hgl
                replace hBc : B ≤ (World.drew _).heap.size := hBc
                clear k0 hall
                clear hr
                refine pi_f0 _ rfl (fun w' hS' => r_fld (q := 1) fld24_1 (H.ev rfl) rfl) ?_; refine kp H rfl fun a H => ?_
                refine pi_f0 _ rfl (fun w' hS' => r_ld Try.underlying22 rfl (H.ev rfl) ((Block.cell (hS'.2.1) 1).trans rfl)) ?_; refine kp H rfl fun a H => ?_
                refine pi_f0 _ rfl (fun w' hS' => r_len Try.underlying22 (H.ev rfl)) ?_; refine kp H rfl fun a H => ?_
                refine pi_f0 _ rfl (fun w' hS' => r_gt Try.underlying3 (H.ev rfl) evc (dec_t (hylI))) ?_; refine kp H rfl fun a H => ?_
                refine pi_f0 _ rfl (fun w' hS' => r_move (H.ev rfl)) ?_; refine kp H rfl fun a H => ?_
                refine pi_f1 _ rfl rfl rfl (H.ev rfl) (fun w' hS' => r_fld (q := 1) fld24_1 (H.ev rfl) rfl) ?_; refine kp H rfl fun a H => ?_
                refine pi_f1 _ rfl rfl rfl (H.ev rfl) (fun w' hS' => r_ld Try.underlying22 rfl (H.ev rfl) ((Block.cell (hS'.2.1) 1).trans rfl)) ?_; refine kp H rfl fun a H => ?_
                refine pi_f1 _ rfl rfl rfl (H.ev rfl) (fun w' hS' => r_idx (j := 0) (q := oo + 0 * 5) Try.underlying22 s33 (H.ev rfl) evc (by omega) rfl) ?_; refine kp H rfl fun a H => ?_
                refine pi_f1 _ rfl rfl rfl (H.ev rfl) (fun w' hS' => r_fld (q := oo + 0 * 5) fld33_0 (H.ev rfl) rfl) ?_; refine kp H rfl fun a H => ?_
                refine pi_f1 _ rfl rfl rfl (H.ev rfl) (fun w' hS' => r_ld Try.underlying3 rfl (H.ev rfl) (range_cell (hS'.2.2) 0 rfl)) ?_; refine kp H rfl fun a H => ?_
                refine pi_f1 _ rfl rfl rfl (H.ev rfl) (fun w' hS' => r_fld (q := 0) fld24_0 (H.ev rfl) rfl) ?_; refine kp H rfl fun a H => ?_
                refine pi_f1 _ rfl rfl rfl (H.ev rfl) (fun w' hS' => r_ld Try.underlying3 rfl (H.ev rfl) ((Block.cell (hS'.2.1) 0).trans rfl)) ?_; refine kp H rfl fun a H => ?_
                refine pi_f1 _ rfl rfl rfl (H.ev rfl) (fun w' hS' => r_eq Try.underlying3 (H.ev rfl) (H.ev rfl) (dec_f (hyn))) ?_; refine kp H rfl fun a H => ?_
                refine pi_f0 _ rfl (fun w' hS' => r_pick_t (H.ev rfl) (H.ev rfl)) ?_; refine kp H rfl fun a H => ?_
                refine pi_nil (NoPanic.normal ?_)
                have hall := hS.1
                have k0 := hS.2.1
                have hr := hS.2.2
                clear hS
                refine c_next ?_
                refine c_cond_f H rfl ?_
                refine wp_exit ?_
                refine e_then ?_
                refine e_then ?_
                refine e_here ?_
                refine c_next ?_
                refine wp_seq ?_
                refine wp_region_lit ?_
                refine wl_v _ (r_row (cs := [.int .i64 nn, .slice (some ⟨b, oo, none⟩) (y :: M).length c']) (H.ev rfl) (block_range k0) (by kernel_rfl) s24 rfl) ?_; refine kl H rfl fun a H => ?_
                refine wl_v _ (r_move (H.ev rfl)) ?_; refine kl H rfl fun a H => ?_
                refine op_store1 24 (.tmp 4) (.tmp 82) b2 0 24 (.agg #[.int .i64 nn, .slice (some ⟨b, oo, none⟩) (y :: M).length c']) _ (H.ev rfl) (H.ev rfl) k2 s24 (by simp [Value.cells]) (by simp [Value.cells, Value.oneCell']) fun w' hb ho kq => ?_; clear k2; have k2 : Block _ b2 24 #[.int .i64 nn, .slice (some ⟨b, oo, none⟩) (y :: M).length c'] := kq; clear kq; replace k0 := block_same k0 (ho _ (by omega)); replace k1 := block_same k1 (ho _ (by omega)); replace hrow := Row.keep hrow (fun b o e => ho b (by have := hAg b o e; omega)); replace hno := ROwn.keep hno (fun q e => ho q (by have := (hno.lt e).1; omega)); replace hgl := lt_up hgl (hb _ g2); replace hBc := le_up hBc (hb _ g2); replace hall := hall.trans (hb _ g2); clear hb ho; refine kl0 H fun a H => ?_
                refine wl_v _ (r_assign (H.ev rfl)) ?_; refine kl H rfl fun a H => ?_
                refine wpList_nil ?_
                refine c_next ?_
                refine wp_ret ?_
                rw [HTK.out, hpop, HPE.out, List.append_nil]
                exact k_ret_cell2 H rfl rfl rfl k2 Try.underlying24 rfl s24 ⟨⟨_, _, rfl, ⟨hrow, fun A n c e b o' ea => by injection e with e1 e2 e3; rw [← e1] at ea; have := hAg b o' ea; omega⟩, ⟨NOwn.row hno, own_fresh hno hBW⟩⟩, hall⟩
    · skip
      refine wp_region_lit ?_
      refine wl_v _ (r_row (cs := [.int .i64 n, .slice A1 L.length c1]) (H.ev rfl) (block_range k0) (by kernel_rfl) s24 rfl) ?_; refine kl H rfl fun a H => ?_
      refine wl_call _ _ _ (right_any _ n _ L (IOwn.row hown) (by omega)) (r_call1 cf16 (H.ev rfl)) ?_; rintro e w9 ⟨rfl, hb⟩; refine ⟨_, rfl, ?_⟩; rw [HRT.out]; replace k0 := Block.ups k0 hb; replace k1 := Block.ups k1 hb; replace k2 := Block.ups k2 hb; replace hown := ROwn.up hown hb; replace hBc := le_up hBc hb; replace hall := hall.trans (hb.mono hall.size); clear hb; refine kl H rfl fun a H => ?_
      refine wl_v _ (r_not (H.ev rfl) rfl) ?_; refine kl H rfl fun a H => ?_
      refine wl_v _ (r_move (H.ev rfl)) ?_; refine kl H rfl fun a H => ?_
      refine op_unguard _ _ (kg_yes rfl H rfl rfl rfl) ?_; refine wl_v _ (r_fld (q := 0) fld33_0 (H.ev rfl) rfl) ?_; refine kl H rfl fun a H => ?_
      refine op_unguard _ _ (kg_yes rfl H rfl rfl rfl) ?_; refine wl_v _ (r_ld Try.underlying3 rfl (H.ev rfl) ((Block.cell k1 0).trans rfl)) ?_; refine kl H rfl fun a H => ?_
      refine op_unguard _ _ (kg_yes rfl H rfl rfl rfl) ?_; refine wl_v _ (r_fld (q := 0) fld24_0 (H.ev rfl) rfl) ?_; refine kl H rfl fun a H => ?_
      refine op_unguard _ _ (kg_yes rfl H rfl rfl rfl) ?_; refine wl_v _ (r_ld Try.underlying3 rfl (H.ev rfl) ((Block.cell k0 0).trans rfl)) ?_; refine kl H rfl fun a H => ?_
      by_cases hcc3 : x.1 < n
      · skip
        refine op_unguard _ _ (kg_yes rfl H rfl rfl rfl) ?_; refine wl_v _ (r_lt Try.underlying3 (H.ev rfl) (H.ev rfl) (dec_t (hcc3))) ?_; refine kl H rfl fun a H => ?_
        refine wl_v _ (r_pick_f (H.ev rfl) (H.ev rfl)) ?_; refine kl H rfl fun a H => ?_
        refine wl_v _ (r_move (H.ev rfl)) ?_; refine kl H rfl fun a H => ?_
        refine wl_s (kg_no rfl H rfl rfl rfl) ?_; refine kl H rfl fun a H => ?_
        refine wl_s (kg_no rfl H rfl rfl rfl) ?_; refine kl H rfl fun a H => ?_
        refine wl_s (kg_no rfl H rfl rfl rfl) ?_; refine kl H rfl fun a H => ?_
        refine wl_s (kg_no rfl H rfl rfl rfl) ?_; refine kl H rfl fun a H => ?_
        refine wl_s (kg_no rfl H rfl rfl rfl) ?_; refine kl H rfl fun a H => ?_
        refine wl_s (kg_no rfl H rfl rfl rfl) ?_; refine kl H rfl fun a H => ?_
        refine wl_v _ (r_pick_t (H.ev rfl) evc) ?_; refine kl H rfl fun a H => ?_
        refine wl_v _ (r_move (H.ev rfl)) ?_; refine kl H rfl fun a H => ?_
        refine wl_s (kg_no rfl H rfl rfl rfl) ?_; refine kl H rfl fun a H => ?_
        refine wl_s (kg_no rfl H rfl rfl rfl) ?_; refine kl H rfl fun a H => ?_
        refine wl_s (kg_no rfl H rfl rfl rfl) ?_; refine kl H rfl fun a H => ?_
        refine wl_v _ (r_pick_t (H.ev rfl) evc) ?_; refine kl H rfl fun a H => ?_
        refine wl_v _ (r_move (H.ev rfl)) ?_; refine kl H rfl fun a H => ?_
        refine wl_s (kg_no rfl H rfl rfl rfl) ?_; refine kl H rfl fun a H => ?_
        refine wl_s (kg_no rfl H rfl rfl rfl) ?_; refine kl H rfl fun a H => ?_
        refine wl_s (kg_no rfl H rfl rfl rfl) ?_; refine kl H rfl fun a H => ?_
        refine wl_s (kg_no rfl H rfl rfl rfl) ?_; refine kl H rfl fun a H => ?_
        refine wl_v _ (r_pick_t (H.ev rfl) evc) ?_; refine kl H rfl fun a H => ?_
        refine wpList_nil ?_
        refine c_next ?_
        refine c_cond_t H rfl ?_
        refine wp_seq ?_
        refine wp_region_lit ?_
        refine wl_v _ (r_row (cs := [.int .i64 n, .slice A1 L.length c1]) (H.ev rfl) (block_range k0) (by kernel_rfl) s24 rfl) ?_; refine kl H rfl fun a H => ?_
        refine op_store1 24 (.tmp 4) (.tmp 42) b2 0 24 (.agg #[.int .i64 n, .slice A1 L.length c1]) _ (H.ev rfl) (H.ev rfl) k2 s24 (by simp [Value.cells]) (by simp [Value.cells, Value.oneCell']) fun w' hb ho kq => ?_; clear k2; have k2 : Block _ b2 24 #[.int .i64 n, .slice A1 L.length c1] := kq; clear kq; replace k0 := block_same k0 (ho _ (by omega)); replace k1 := block_same k1 (ho _ (by omega)); replace hown := ROwn.keep hown (fun q e => ho q (by have := (hown.lt e).1; omega)); replace hBc := le_up hBc (hb _ g2); replace hall := hall.trans (hb _ g2); clear hb ho; refine kl0 H fun a H => ?_
        refine wl_v _ (r_assign evc) ?_; refine kl H rfl fun a H => ?_
        refine wpList_nil ?_
        refine c_next ?_
        refine wp_ret ?_
        refine r_then ?_
        rw [show takeF n L x = ((n, L), []) from shut_of (by first | exact .inl HRT.out | exact .inr (.inl (by omega)) | exact .inr (.inr (.inl (by omega))) | exact .inr (.inr (.inr (.inl (by omega)))) | exact .inr (.inr (.inr (.inr HHQ.out))))]
        exact k_ret_cell2 H rfl rfl rfl k2 Try.underlying24 rfl s24 ⟨⟨_, _, rfl, ⟨IOwn.row hown, own_fresh hown hBW⟩, ⟨Row.nil, nil_fresh⟩⟩, hall⟩
      · skip
        refine op_unguard _ _ (kg_yes rfl H rfl rfl rfl) ?_; refine wl_v _ (r_lt Try.underlying3 (H.ev rfl) (H.ev rfl) (dec_f (hcc3))) ?_; refine kl H rfl fun a H => ?_
        refine wl_v _ (r_pick_f (H.ev rfl) (H.ev rfl)) ?_; refine kl H rfl fun a H => ?_
        refine wl_v _ (r_move (H.ev rfl)) ?_; refine kl H rfl fun a H => ?_
        refine op_unguard _ _ (kg_yes rfl H rfl rfl rfl) ?_; refine wl_v _ (r_fld (q := 0) fld33_0 (H.ev rfl) rfl) ?_; refine kl H rfl fun a H => ?_
        refine op_unguard _ _ (kg_yes rfl H rfl rfl rfl) ?_; refine wl_v _ (r_ld Try.underlying3 rfl (H.ev rfl) ((Block.cell k1 0).trans rfl)) ?_; refine kl H rfl fun a H => ?_
        refine op_unguard _ _ (kg_yes rfl H rfl rfl rfl) ?_; refine wl_v _ (r_fld (q := 0) fld24_0 (H.ev rfl) rfl) ?_; refine kl H rfl fun a H => ?_
        refine op_unguard _ _ (kg_yes rfl H rfl rfl rfl) ?_; refine wl_v _ (r_ld Try.underlying3 rfl (H.ev rfl) ((Block.cell k0 0).trans rfl)) ?_; refine kl H rfl fun a H => ?_
        refine op_unguard _ _ (kg_yes rfl H rfl rfl rfl) ?_; refine wl_v _ (r_sub (q := x.1 - n) Try.underlying3 (H.ev rfl) (H.ev rfl) (by omega) (by omega)) ?_; refine kl H rfl fun a H => ?_
        by_cases hcc4 : (x.1 - n) ≥ 8
        · skip
          refine op_unguard _ _ (kg_yes rfl H rfl rfl rfl) ?_; refine wl_v _ (r_ge Try.underlying3 (H.ev rfl) evc (dec_t (hcc4))) ?_; refine kl H rfl fun a H => ?_
          refine wl_v _ (r_pick_f (H.ev rfl) (H.ev rfl)) ?_; refine kl H rfl fun a H => ?_
          refine wl_v _ (r_move (H.ev rfl)) ?_; refine kl H rfl fun a H => ?_
          refine wl_s (kg_no rfl H rfl rfl rfl) ?_; refine kl H rfl fun a H => ?_
          refine wl_s (kg_no rfl H rfl rfl rfl) ?_; refine kl H rfl fun a H => ?_
          refine wl_s (kg_no rfl H rfl rfl rfl) ?_; refine kl H rfl fun a H => ?_
          refine wl_v _ (r_pick_t (H.ev rfl) evc) ?_; refine kl H rfl fun a H => ?_
          refine wl_v _ (r_move (H.ev rfl)) ?_; refine kl H rfl fun a H => ?_
          refine wl_s (kg_no rfl H rfl rfl rfl) ?_; refine kl H rfl fun a H => ?_
          refine wl_s (kg_no rfl H rfl rfl rfl) ?_; refine kl H rfl fun a H => ?_
          refine wl_s (kg_no rfl H rfl rfl rfl) ?_; refine kl H rfl fun a H => ?_
          refine wl_s (kg_no rfl H rfl rfl rfl) ?_; refine kl H rfl fun a H => ?_
          refine wl_v _ (r_pick_t (H.ev rfl) evc) ?_; refine kl H rfl fun a H => ?_
          refine wpList_nil ?_
          refine c_next ?_
          refine c_cond_t H rfl ?_
          refine wp_seq ?_
          refine wp_region_lit ?_
          refine wl_v _ (r_row (cs := [.int .i64 n, .slice A1 L.length c1]) (H.ev rfl) (block_range k0) (by kernel_rfl) s24 rfl) ?_; refine kl H rfl fun a H => ?_
          refine op_store1 24 (.tmp 4) (.tmp 42) b2 0 24 (.agg #[.int .i64 n, .slice A1 L.length c1]) _ (H.ev rfl) (H.ev rfl) k2 s24 (by simp [Value.cells]) (by simp [Value.cells, Value.oneCell']) fun w' hb ho kq => ?_; clear k2; have k2 : Block _ b2 24 #[.int .i64 n, .slice A1 L.length c1] := kq; clear kq; replace k0 := block_same k0 (ho _ (by omega)); replace k1 := block_same k1 (ho _ (by omega)); replace hown := ROwn.keep hown (fun q e => ho q (by have := (hown.lt e).1; omega)); replace hBc := le_up hBc (hb _ g2); replace hall := hall.trans (hb _ g2); clear hb ho; refine kl0 H fun a H => ?_
          refine wl_v _ (r_assign evc) ?_; refine kl H rfl fun a H => ?_
          refine wpList_nil ?_
          refine c_next ?_
          refine wp_ret ?_
          refine r_then ?_
          rw [show takeF n L x = ((n, L), []) from shut_of (by first | exact .inl HRT.out | exact .inr (.inl (by omega)) | exact .inr (.inr (.inl (by omega))) | exact .inr (.inr (.inr (.inl (by omega)))) | exact .inr (.inr (.inr (.inr HHQ.out))))]
          exact k_ret_cell2 H rfl rfl rfl k2 Try.underlying24 rfl s24 ⟨⟨_, _, rfl, ⟨IOwn.row hown, own_fresh hown hBW⟩, ⟨Row.nil, nil_fresh⟩⟩, hall⟩
        · skip
          refine op_unguard _ _ (kg_yes rfl H rfl rfl rfl) ?_; refine wl_v _ (r_ge Try.underlying3 (H.ev rfl) evc (dec_f (hcc4))) ?_; refine kl H rfl fun a H => ?_
          refine wl_v _ (r_pick_f (H.ev rfl) (H.ev rfl)) ?_; refine kl H rfl fun a H => ?_
          refine wl_v _ (r_move (H.ev rfl)) ?_; refine kl H rfl fun a H => ?_
          refine op_unguard _ _ (kg_yes rfl H rfl rfl rfl) ?_; refine wl_v _ (r_fld (q := 0) fld33_0 (H.ev rfl) rfl) ?_; refine kl H rfl fun a H => ?_
          refine op_unguard _ _ (kg_yes rfl H rfl rfl rfl) ?_; refine wl_v _ (r_ld Try.underlying3 rfl (H.ev rfl) ((Block.cell k1 0).trans rfl)) ?_; refine kl H rfl fun a H => ?_
          by_cases hcc5 : x.1 ≥ 1073741824
          · skip
            refine op_unguard _ _ (kg_yes rfl H rfl rfl rfl) ?_; refine wl_v _ (r_ge Try.underlying3 (H.ev rfl) evc (dec_t (hcc5))) ?_; refine kl H rfl fun a H => ?_
            refine wl_v _ (r_pick_f (H.ev rfl) (H.ev rfl)) ?_; refine kl H rfl fun a H => ?_
            refine wl_v _ (r_move (H.ev rfl)) ?_; refine kl H rfl fun a H => ?_
            refine wl_s (kg_no rfl H rfl rfl rfl) ?_; refine kl H rfl fun a H => ?_
            refine wl_s (kg_no rfl H rfl rfl rfl) ?_; refine kl H rfl fun a H => ?_
            refine wl_s (kg_no rfl H rfl rfl rfl) ?_; refine kl H rfl fun a H => ?_
            refine wl_s (kg_no rfl H rfl rfl rfl) ?_; refine kl H rfl fun a H => ?_
            refine wl_v _ (r_pick_t (H.ev rfl) evc) ?_; refine kl H rfl fun a H => ?_
            refine wpList_nil ?_
            refine c_next ?_
            refine c_cond_t H rfl ?_
            refine wp_seq ?_
            refine wp_region_lit ?_
            refine wl_v _ (r_row (cs := [.int .i64 n, .slice A1 L.length c1]) (H.ev rfl) (block_range k0) (by kernel_rfl) s24 rfl) ?_; refine kl H rfl fun a H => ?_
            refine op_store1 24 (.tmp 4) (.tmp 42) b2 0 24 (.agg #[.int .i64 n, .slice A1 L.length c1]) _ (H.ev rfl) (H.ev rfl) k2 s24 (by simp [Value.cells]) (by simp [Value.cells, Value.oneCell']) fun w' hb ho kq => ?_; clear k2; have k2 : Block _ b2 24 #[.int .i64 n, .slice A1 L.length c1] := kq; clear kq; replace k0 := block_same k0 (ho _ (by omega)); replace k1 := block_same k1 (ho _ (by omega)); replace hown := ROwn.keep hown (fun q e => ho q (by have := (hown.lt e).1; omega)); replace hBc := le_up hBc (hb _ g2); replace hall := hall.trans (hb _ g2); clear hb ho; refine kl0 H fun a H => ?_
            refine wl_v _ (r_assign evc) ?_; refine kl H rfl fun a H => ?_
            refine wpList_nil ?_
            refine c_next ?_
            refine wp_ret ?_
            refine r_then ?_
            rw [show takeF n L x = ((n, L), []) from shut_of (by first | exact .inl HRT.out | exact .inr (.inl (by omega)) | exact .inr (.inr (.inl (by omega))) | exact .inr (.inr (.inr (.inl (by omega)))) | exact .inr (.inr (.inr (.inr HHQ.out))))]
            exact k_ret_cell2 H rfl rfl rfl k2 Try.underlying24 rfl s24 ⟨⟨_, _, rfl, ⟨IOwn.row hown, own_fresh hown hBW⟩, ⟨Row.nil, nil_fresh⟩⟩, hall⟩
          · skip
            refine op_unguard _ _ (kg_yes rfl H rfl rfl rfl) ?_; refine wl_v _ (r_ge Try.underlying3 (H.ev rfl) evc (dec_f (hcc5))) ?_; refine kl H rfl fun a H => ?_
            refine wl_v _ (r_pick_f (H.ev rfl) (H.ev rfl)) ?_; refine kl H rfl fun a H => ?_
            refine wl_v _ (r_move (H.ev rfl)) ?_; refine kl H rfl fun a H => ?_
            refine op_unguard _ _ (kg_yes rfl H rfl rfl rfl) ?_; refine wl_v _ (r_fld (q := 1) fld24_1 (H.ev rfl) rfl) ?_; refine kl H rfl fun a H => ?_
            refine op_unguard _ _ (kg_yes rfl H rfl rfl rfl) ?_; refine wl_v _ (r_ld Try.underlying22 rfl (H.ev rfl) ((Block.cell k0 1).trans rfl)) ?_; refine kl H rfl fun a H => ?_
            refine op_unguard _ _ (kg_yes rfl H rfl rfl rfl) ?_; refine wl_v _ (r_move (H.ev rfl)) ?_; refine kl H rfl fun a H => ?_
            refine op_unguard _ _ (kg_yes rfl H rfl rfl rfl) ?_; refine wl_call _ _ _ (contains_any _ _ L x b1 (IOwn.row hown) (by omega) (block_range k1)) (r_call2 cf23 (H.ev rfl) (H.ev rfl)) ?_; rintro e w9 ⟨rfl, hb⟩; refine ⟨_, rfl, ?_⟩; rw [HHQ.out]; replace k0 := Block.ups k0 hb; replace k1 := Block.ups k1 hb; replace k2 := Block.ups k2 hb; replace hown := ROwn.up hown hb; replace hBc := le_up hBc hb; replace hall := hall.trans (hb.mono hall.size); clear hb; refine kl H rfl fun a H => ?_
            refine wl_v _ (r_pick_f (H.ev rfl) (H.ev rfl)) ?_; refine kl H rfl fun a H => ?_
            refine wpList_nil ?_
            refine c_next ?_
            refine c_cond_t H rfl ?_
            refine wp_seq ?_
            refine wp_region_lit ?_
            refine wl_v _ (r_row (cs := [.int .i64 n, .slice A1 L.length c1]) (H.ev rfl) (block_range k0) (by kernel_rfl) s24 rfl) ?_; refine kl H rfl fun a H => ?_
            refine op_store1 24 (.tmp 4) (.tmp 42) b2 0 24 (.agg #[.int .i64 n, .slice A1 L.length c1]) _ (H.ev rfl) (H.ev rfl) k2 s24 (by simp [Value.cells]) (by simp [Value.cells, Value.oneCell']) fun w' hb ho kq => ?_; clear k2; have k2 : Block _ b2 24 #[.int .i64 n, .slice A1 L.length c1] := kq; clear kq; replace k0 := block_same k0 (ho _ (by omega)); replace k1 := block_same k1 (ho _ (by omega)); replace hown := ROwn.keep hown (fun q e => ho q (by have := (hown.lt e).1; omega)); replace hBc := le_up hBc (hb _ g2); replace hall := hall.trans (hb _ g2); clear hb ho; refine kl0 H fun a H => ?_
            refine wl_v _ (r_assign evc) ?_; refine kl H rfl fun a H => ?_
            refine wpList_nil ?_
            refine c_next ?_
            refine wp_ret ?_
            refine r_then ?_
            rw [show takeF n L x = ((n, L), []) from shut_of (by first | exact .inl HRT.out | exact .inr (.inl (by omega)) | exact .inr (.inr (.inl (by omega))) | exact .inr (.inr (.inr (.inl (by omega)))) | exact .inr (.inr (.inr (.inr HHQ.out))))]
            exact k_ret_cell2 H rfl rfl rfl k2 Try.underlying24 rfl s24 ⟨⟨_, _, rfl, ⟨IOwn.row hown, own_fresh hown hBW⟩, ⟨Row.nil, nil_fresh⟩⟩, hall⟩
end Go.Proofs.Ythfdjlhplcmicaa
