/- Fanout: FanoutFair, proved: of sessions that are ready, and stay so, each has its turn before another one has two, and all marks of theirs are told, each once. -/
import Derived.Test.YtpegfbdepgmbjaaPr
namespace Go.Proofs.Ytpegfbdepgmbjaa
open Go.RowKit Go.ChangeShapes Go.WideShapes Go.ChangeAt Go.Maps
set_option linter.unusedVariables false
set_option linter.unusedSimpArgs false

def BelowTo {B : Nat} {W w : World} (_ : Below B W w) : World := w
theorem mrow_at {w : World} {c k : Nat} {A : Option Addr} {M : List Mk} (h : MRow w (.slice A M.length c) M) (hk : k < M.length) : ∃ b o, A = some ⟨b, o, none⟩ ∧ w.rangeAt b (o + k * 2) (IV (encM M[k])) := by
  obtain ⟨A', c', e, _, _, _, hh⟩ := h
  injection e with e1 e2 e3
  subst e1
  obtain ⟨b, o, hA, hr⟩ := flat_some encM_len hh (by omega) hk
  exact ⟨b, o, hA, hr⟩
theorem frow_rng {w : World} {b0 b o c k : Nat} {M : List Mk} {y : Mk} (h : FRow w b0 (some ⟨b, o, none⟩) M c) (hy : M[k]? = some y) : w.rangeAt b (o + k * 2) (IV (encM y)) := by
  obtain ⟨hk, rfl⟩ := List.getElem?_eq_some_iff.1 hy
  obtain ⟨b', o', e, hr⟩ := frow_at h hk
  injection e with e
  injection e with e1 e2
  subst e1 e2
  exact hr
theorem irow_cell {w : World} {b o c n k : Nat} {R : List Int} {x : Int} (h : IRow w (.slice (some ⟨b, o, none⟩) n c) R) (hx : R[k]? = some x) : w.cell? ⟨b, o + k, none⟩ = some (.int .i64 x) := by
  obtain ⟨A', c', e, _, _, _, hh⟩ := h
  injection e with e1 e2 e3
  subst e1
  obtain ⟨hk, rfl⟩ := List.getElem?_eq_some_iff.1 hx
  obtain ⟨b', o', he, hc⟩ := hh k (by simpa using hk)
  injection he with he
  injection he with e1 e2
  subst e1 e2
  rw [hc]
  simp [hk]
theorem own_ltI {w : World} {D n b : Nat} {v : Value} {xs : List Value} (h : w.ownsRow D 3 1 v n xs) (hge : w.heap.size ≤ b) : ∀ q, v.ownBlock = some q → q < b := fun q hq => Nat.lt_of_lt_of_le (h.lt q hq).2 hge
theorem own_addrI {w : World} {B c k : Nat} {A : Option Addr} {I : List Int} (h : w.ownsRow B 3 1 (.slice A I.length c) I.length (I.map (Value.int .i64))) (hp : k < I.length) : ∃ g, A = some ⟨g, 0, none⟩ := by
  obtain ⟨_, ⟨_, h1⟩ | ⟨g, cap, cur, e, _⟩⟩ := h
  · omega
  · injection e with e1
    exact ⟨g, e1⟩
section
variable {R : List Int} {k : Nat} {x m : Int}
theorem in_next (hx : R[k]? = some x) : m ∈ R.take (k + 1) ↔ m ∈ R.take k ∨ x = m := by
  obtain ⟨hk, rfl⟩ := List.getElem?_eq_some_iff.1 hx
  rw [List.take_succ_eq_append_getElem hk, List.mem_append, List.mem_singleton, eq_comm]
theorem in_true (h : true = true ↔ m ∈ R.take k) (hx : R[k]? = some x) : true = true ↔ m ∈ R.take (k + 1) := by
  rw [in_next hx]
  exact ⟨fun e => .inl (h.1 e), fun _ => rfl⟩
theorem in_here (hx : R[k]? = some x) (e : x = m) : true = true ↔ m ∈ R.take (k + 1) := by
  rw [in_next hx]
  exact ⟨fun _ => .inr e, fun _ => rfl⟩
theorem in_not (h : false = true ↔ m ∈ R.take k) (hx : R[k]? = some x) (e : ¬ x = m) : false = true ↔ m ∈ R.take (k + 1) := by
  rw [in_next hx]
  exact ⟨fun h => (by cases h), fun h2 => h2.elim h.2 (fun h3 => absurd h3 e)⟩
variable {P : Prop}
theorem out_false (h : false = true ↔ P ∧ m ∉ R.take k) (hx : R[k]? = some x) : false = true ↔ P ∧ m ∉ R.take (k + 1) := by
  rw [in_next hx]
  exact ⟨fun h => (by cases h), fun h2 => h.2 ⟨h2.1, fun h3 => h2.2 (.inl h3)⟩⟩
theorem out_true (h : true = true ↔ P ∧ m ∉ R.take k) (hx : R[k]? = some x) (e : ¬ x = m) : true = true ↔ P ∧ m ∉ R.take (k + 1) := by
  rw [in_next hx]
  exact ⟨fun h2 => ⟨(h.1 h2).1, fun h3 => h3.elim (h.1 h2).2 e⟩, fun _ => rfl⟩
theorem out_here (hx : R[k]? = some x) (e : x = m) : false = true ↔ P ∧ m ∉ R.take (k + 1) := by
  rw [in_next hx]
  exact ⟨fun h => (by cases h), fun h2 => absurd (.inr e) h2.2⟩
end
theorem fair_ready {L M : List Mk} {R I : List Int} {t : Int} {i lf : Nat} (h : FairI L R M t I i lf) (hi : i < lf) : 0 < R.length := by
  have h1 := h.ids
  apply List.length_pos_iff.2
  rintro rfl
  have : idsF M [] = [] := by unfold idsF; simp
  rw [this] at h1
  simp at h1
  omega
theorem next_sub {M M2 : List Mk} {t tt m1 m2 : Int} {R : List Int} {b : Bool} (hx : nextF M t R = ((M2, tt), ((m1, m2), b))) : ∀ y ∈ M2, y ∈ M := by
  rcases next_facts hx with ⟨_, rfl, _⟩ | ⟨_, j, hj, rfl, _⟩
  · exact fun y hy => hy
  · exact fun y hy => erase_mem hy
/-- the fan's row does not lie where the round lies -/
def Dis (A : Option Addr) (M : List Mk) (v : Value) : Prop := ∀ b o, A = some ⟨b, o, none⟩ → M ≠ [] → v.ownBlock ≠ some b
theorem dis_nil {A : Option Addr} {M : List Mk} {n c : Nat} : Dis A M (.slice none n c) := fun b o _ _ e => by cases e
theorem dis_own {w : World} {B c : Nat} {A : Option Addr} {M : List Mk} {v : Value} (hq : ∀ q, v.ownBlock = some q → q < B) (ho : MOwn w B (.slice A M.length c) M) : Dis A M v := fun b o e _ h => by
  subst e
  have := (ho.lt (q := b) rfl).1
  have := hq b h
  omega
theorem dis_val {A : Option Addr} {M : List Mk} {v : Value} (h : Dis A M v) : Dis A M v := h
theorem FRow.app {w w' : World} {b0 c : Nat} {A : Option Addr} {M : List Mk} {v : Value} (h : FRow w b0 A M c) (hd : Dis A M v) (hg : w.grownBy w' v.ownBlock) : FRow w' b0 A M c :=
  ⟨frow_keep h.1 fun b o e hne => hg.block b (h.2 b o e hne).2 (fun e2 => hd b o e hne e2.symm), fun b o e hne => ⟨(h.2 b o e hne).1, Nat.lt_of_lt_of_le (h.2 b o e hne).2 hg.size⟩⟩
theorem dis_app {w : World} {b0 c : Nat} {A : Option Addr} {M : List Mk} {v v' : Value} (hd : Dis A M v) (hf : FRow w b0 A M c) (h : v'.ownBlock = v.ownBlock ∨ v'.ownBlock = some w.heap.size) : Dis A M v' := fun b o e hne h2 => by
  rcases h with h | h
  · exact hd b o e hne (by rw [← h]; exact h2)
  · rw [h] at h2
    injection h2 with h2
    have := (hf.2 b o e hne).2
    omega
theorem nil_row {w : World} {b D : Nat} {t : TypeId} {C : Array Value} (_ : Block w b t C) : w.ownsRow D 3 1 (.slice none ([] : List Int).length 0) ([] : List Int).length (([] : List Int).map (Value.int .i64)) := World.ownsRow_nil _ _ _ _
theorem ne_own {w : World} {D n b : Nat} {v : Value} {xs : List Value} (h : w.ownsRow D 3 1 v n xs) (hb : b < D) : some b ≠ v.ownBlock := fun e => by
  have := (h.lt b e.symm).1
  omega
theorem ne_dif {b : Nat} {v : Value} (h : ∀ q, v.ownBlock = some q → q ≠ b) : some b ≠ v.ownBlock := fun e => h b e.symm rfl
def Cx (D b0 bg bm : Nat) (t m1 m2 : Int) (A3 : Option Addr) (M : List Mk) (c3 : Nat) (A5 : Option Addr) (I : List Int) (c5 : Nat) (A9 : Option Addr) (M2 : List Mk) (c9 : Nat) (w : World) : Prop := Block w b0 24 #[.slice A3 M.length c3, .int .i64 t] ∧ Block w bg 24 #[.slice A9 M2.length c9, .int .i64 m1] ∧ Block w bm 29 #[.int .i64 m1, .int .i64 m2] ∧ FRow w b0 A3 M c3 ∧ FRow w b0 A9 M2 c9 ∧ w.ownsRow D 3 1 (.slice A5 I.length c5) I.length (I.map (Value.int .i64)) ∧ D ≤ w.heap.size
theorem Cx.up {D b0 bg bm : Nat} {t m1 m2 : Int} {A3 : Option Addr} {M : List Mk} {c3 : Nat} {A5 : Option Addr} {I : List Int} {c5 : Nat} {A9 : Option Addr} {M2 : List Mk} {c9 : Nat} {w w' : World} (h : Cx D b0 bg bm t m1 m2 A3 M c3 A5 I c5 A9 M2 c9 w) (hb : Below w.heap.size w w') : Cx D b0 bg bm t m1 m2 A3 M c3 A5 I c5 A9 M2 c9 w' :=
  ⟨Block.ups h.1 hb, Block.ups h.2.1 hb, Block.ups h.2.2.1 hb, FRow.up h.2.2.2.1 hb, FRow.up h.2.2.2.2.1 hb, own_ups h.2.2.2.2.2.1 hb, le_up h.2.2.2.2.2.2 hb⟩
def FaA (W : World) (b0 : Nat) (t : Int) (A : Option Addr) (c : Nat) (L : List Mk) (Ar : Option Addr) (cr : Nat) (R : List Int) (a : Act) (w : World) : Prop :=
  ∃ i lf : Nat, Kn a 192 [(1, .slice Ar R.length cr), (2, .pointer (some ⟨b0, 0, none⟩)), (5, .bool true), (6, .int .i64 (lf : Nat)), (7, .int .i64 (i : Nat))] ∧ i ≤ L.length ∧ (idsF (L.take i) R).length = lf ∧ Block w b0 24 #[.slice A L.length c, .int .i64 t] ∧ Below W.heap.size W w
def FaB (W : World) (b0 : Nat) (t : Int) (A : Option Addr) (c : Nat) (L : List Mk) (Ar : Option Addr) (cr : Nat) (R : List Int) (i lf : Nat) (y : Mk) (a : Act) (w : World) : Prop :=
  ∃ k : Nat, Kn a 192 [(1, .slice Ar R.length cr), (2, .pointer (some ⟨b0, 0, none⟩)), (5, .bool true), (6, .int .i64 (lf : Nat)), (7, .int .i64 (i : Nat)), (8, .int .i64 (k : Nat))] ∧ k ≤ R.length ∧ NoI R y.1 k ∧ Block w b0 24 #[.slice A L.length c, .int .i64 t] ∧ Below W.heap.size W w
def FaC (W : World) (D b0 : Nat) (L : List Mk) (Ar : Option Addr) (cr : Nat) (R : List Int) (lf : Nat) (a : Act) (w : World) : Prop :=
  ∃ (i : Nat) (M : List Mk) (tm : Int) (A3 : Option Addr) (c3 : Nat) (I : List Int) (A5 : Option Addr) (c5 : Nat), Kn a 192 [(1, .slice Ar R.length cr), (2, .pointer (some ⟨b0, 0, none⟩)), (5, .bool true), (6, .int .i64 (lf : Nat)), (9, .int .i64 (((L.length : Nat) : Int) - ((lf : Nat) : Int))), (10, .slice A5 I.length c5), (11, .int .i64 (i : Nat))] ∧ i ≤ lf ∧ FairI L R M tm I i lf ∧
    Block w b0 24 #[.slice A3 M.length c3, .int .i64 tm] ∧ FRow w b0 A3 M c3 ∧ w.ownsRow D 3 1 (.slice A5 I.length c5) I.length (I.map (Value.int .i64)) ∧ Dis A3 M (.slice A5 I.length c5) ∧ D ≤ w.heap.size ∧ Below W.heap.size W w
def FaD (W : World) (D b0 bg bm : Nat) (t m1 m2 : Int) (A3 : Option Addr) (M : List Mk) (c3 : Nat) (A5 : Option Addr) (I : List Int) (c5 : Nat) (A9 : Option Addr) (M2 : List Mk) (c9 : Nat) (vr : Value) (lf : Nat) (rest : Int) (i : Nat) (a : Act) (w : World) : Prop := ∃ k : Nat, Kn a 192 [(1, vr), (2, .pointer (some ⟨b0, 0, none⟩)), (5, .bool true), (6, .int .i64 (lf : Nat)), (9, .int .i64 rest), (10, .slice A5 I.length c5), (11, .int .i64 (i : Nat)), (12, .pointer (some ⟨bg, 0, none⟩)), (13, .pointer (some ⟨bm, 0, none⟩)), (15, .int .i64 (k : Nat))] ∧ k ≤ I.length ∧ NoI I m1 k ∧ Cx D b0 bg bm t m1 m2 A3 M c3 A5 I c5 A9 M2 c9 w ∧ Below W.heap.size W w
def FaE (W : World) (D b0 bg bm : Nat) (t m1 m2 : Int) (A3 : Option Addr) (M : List Mk) (c3 : Nat) (A5 : Option Addr) (I : List Int) (c5 : Nat) (A9 : Option Addr) (M2 : List Mk) (c9 : Nat) (vr : Value) (lf : Nat) (rest : Int) (i : Nat) (k : Nat) (a : Act) (w : World) : Prop := ∃ n : Nat, Kn a 192 [(1, vr), (2, .pointer (some ⟨b0, 0, none⟩)), (5, .bool true), (6, .int .i64 (lf : Nat)), (9, .int .i64 rest), (10, .slice A5 I.length c5), (11, .int .i64 (i : Nat)), (12, .pointer (some ⟨bg, 0, none⟩)), (13, .pointer (some ⟨bm, 0, none⟩)), (15, .int .i64 (k : Nat)), (16, .int .i64 (n : Nat))] ∧ n ≤ M.length ∧ Cx D b0 bg bm t m1 m2 A3 M c3 A5 I c5 A9 M2 c9 w ∧ Below W.heap.size W w
def FaF (W : World) (D b0 bg bm : Nat) (t m1 m2 : Int) (A3 : Option Addr) (M : List Mk) (c3 : Nat) (A5 : Option Addr) (I : List Int) (c5 : Nat) (A9 : Option Addr) (M2 : List Mk) (c9 : Nat) (vr : Value) (lf : Nat) (rest : Int) (i : Nat) (k n : Nat) (y : Mk) (R : List Int) (a : Act) (w : World) : Prop := ∃ (j : Nat) (sb : Bool), Kn a 192 [(1, vr), (2, .pointer (some ⟨b0, 0, none⟩)), (5, .bool true), (6, .int .i64 (lf : Nat)), (9, .int .i64 rest), (10, .slice A5 I.length c5), (11, .int .i64 (i : Nat)), (12, .pointer (some ⟨bg, 0, none⟩)), (13, .pointer (some ⟨bm, 0, none⟩)), (15, .int .i64 (k : Nat)), (16, .int .i64 (n : Nat)), (17, .bool sb), (18, .int .i64 (j : Nat))] ∧ j ≤ R.length ∧ (sb = true ↔ y.1 ∈ R.take j) ∧ Cx D b0 bg bm t m1 m2 A3 M c3 A5 I c5 A9 M2 c9 w ∧ Below W.heap.size W w
def FaG (W : World) (D b0 bg bm : Nat) (t m1 m2 : Int) (A3 : Option Addr) (M : List Mk) (c3 : Nat) (A5 : Option Addr) (I : List Int) (c5 : Nat) (A9 : Option Addr) (M2 : List Mk) (c9 : Nat) (vr : Value) (lf : Nat) (rest : Int) (i : Nat) (k n : Nat) (y : Mk) (R : List Int) (a : Act) (w : World) : Prop := ∃ (j : Nat) (sb : Bool), Kn a 192 [(1, vr), (2, .pointer (some ⟨b0, 0, none⟩)), (5, .bool true), (6, .int .i64 (lf : Nat)), (9, .int .i64 rest), (10, .slice A5 I.length c5), (11, .int .i64 (i : Nat)), (12, .pointer (some ⟨bg, 0, none⟩)), (13, .pointer (some ⟨bm, 0, none⟩)), (15, .int .i64 (k : Nat)), (16, .int .i64 (n : Nat)), (17, .bool sb), (19, .int .i64 (j : Nat))] ∧ j ≤ I.length ∧ (sb = true ↔ y.1 ∈ R ∧ y.1 ∉ I.take j) ∧ Cx D b0 bg bm t m1 m2 A3 M c3 A5 I c5 A9 M2 c9 w ∧ Below W.heap.size W w
set_option maxHeartbeats 16000000 in
theorem fair_walk (w : World) (t : Int) (v vr : Value) (L : List Mk) (R : List Int) (h0 : MRow w v L) (hR0 : IRow w vr R) (hn : L.length ≤ 9223372036854775807) (hRn : R.length ≤ 9223372036854775807) (hw : ∀ y ∈ L, MWF y) (ht : -9223372036854775808 ≤ t ∧ t ≤ 9223372036854775807) :
    Calls Try.prog 3 #[.agg #[v, .int .i64 t], vr] w fun e w' => e = .returned (.bool true) ∧ Below w.heap.size w w' := by
  obtain ⟨A, c, rfl, h1, h2, h3, hh⟩ := h0
  have h : Hid (MRow w (.slice A L.length c) L) := Lib.hid ⟨A, c, rfl, h1, h2, h3, hh⟩
  clear hh
  obtain ⟨Ar, cr, rfl, r1, r2, r3, rr⟩ := hR0
  have hR : Hid (IRow w (.slice Ar R.length cr) R) := Lib.hid ⟨Ar, cr, rfl, r1, r2, r3, rr⟩
  clear rr
  replace hw := Lib.hid hw
  have hall := Below.refl w.heap.size w
  cases hrt : rightF L
  · skip
    refine K_enter 192 Try.func3 rfl rfl fun a H => ?_
    replace H := H.pick [0, 1]
    refine wp_seq ?_
    refine wp_region_lit ?_
    refine op_box 24 _ #[.slice A L.length c, .int .i64 t] (H.ev rfl) fun w0 b0 hge hb k0 => ?_; have g0 := Nat.le_trans hall.size hge; replace hall := hall.trans (hb.mono hall.size); clear hb; clear hge; refine kl H rfl fun a H => ?_
    refine wl_v _ (r_assign evc) ?_; refine kl H rfl fun a H => ?_
    refine wpList_nil ?_
    refine c_next ?_
    refine wp_seq ?_
    refine wp_region_lit ?_
    refine wl_call _ _ _ (small_any _) (r_call0 cf7) ?_; rintro e w9 ⟨rfl, hb⟩; refine ⟨_, rfl, ?_⟩; replace k0 := Block.ups k0 hb; replace hall := hall.trans (hb.mono hall.size); clear hb; refine kl H rfl fun a H => ?_
    refine wl_v _ (r_assign (H.ev rfl)) ?_; refine kl H rfl fun a H => ?_
    refine wpList_nil ?_
    refine c_next ?_
    refine wp_seq ?_
    refine wp_seq ?_
    refine wp_region_lit ?_
    refine wl_v _ (r_fld (q := 0) fld24_0 (H.ev rfl) rfl) ?_; refine kl H rfl fun a H => ?_
    refine wl_v _ (r_ld Try.underlying22 rfl (H.ev rfl) ((Block.cell k0 0).trans rfl)) ?_; refine kl H rfl fun a H => ?_
    refine wl_v _ (r_len Try.underlying22 (H.ev rfl)) ?_; refine kl H rfl fun a H => ?_
    by_cases hcc0 : ((L.length : Nat) : Int) > 100
    · skip
      refine wl_v _ (r_gt Try.underlying3 (H.ev rfl) evc (dec_t (hcc0))) ?_; refine kl H rfl fun a H => ?_
      refine wl_v _ (r_move (H.ev rfl)) ?_; refine kl H rfl fun a H => ?_
      refine wl_s (kg_no rfl H rfl rfl rfl) ?_; refine kl H rfl fun a H => ?_
      refine wl_s (kg_no rfl H rfl rfl rfl) ?_; refine kl H rfl fun a H => ?_
      refine wl_s (kg_no rfl H rfl rfl rfl) ?_; refine kl H rfl fun a H => ?_
      refine wl_v _ (r_pick_t (H.ev rfl) evc) ?_; refine kl H rfl fun a H => ?_
      refine wl_v _ (r_move (H.ev rfl)) ?_; refine kl H rfl fun a H => ?_
      refine wl_s (kg_no rfl H rfl rfl rfl) ?_; refine kl H rfl fun a H => ?_
      refine wl_s (kg_no rfl H rfl rfl rfl) ?_; refine kl H rfl fun a H => ?_
      refine wl_s (kg_no rfl H rfl rfl rfl) ?_; refine kl H rfl fun a H => ?_
      refine wl_v _ (r_pick_t (H.ev rfl) evc) ?_; refine kl H rfl fun a H => ?_
      refine wpList_nil ?_
      refine c_next ?_
      refine c_cond_t H rfl ?_
      refine wp_seq ?_
      refine wp_region_lit ?_
      refine wl_v _ (r_move (H.ev rfl)) ?_; refine kl H rfl fun a H => ?_
      refine wl_v _ (r_assign (H.ev rfl)) ?_; refine kl H rfl fun a H => ?_
      refine wpList_nil ?_
      refine c_next ?_
      refine wp_ret ?_
      refine r_then ?_
      exact k_ret1 H rfl rfl ⟨rfl, hall⟩
    · skip
      refine wl_v _ (r_gt Try.underlying3 (H.ev rfl) evc (dec_f (hcc0))) ?_; refine kl H rfl fun a H => ?_
      refine wl_v _ (r_move (H.ev rfl)) ?_; refine kl H rfl fun a H => ?_
      refine op_unguard _ _ (kg_yes rfl H rfl rfl rfl) ?_; refine wl_v _ (r_move (H.ev rfl)) ?_; refine kl H rfl fun a H => ?_
      refine op_unguard _ _ (kg_yes rfl H rfl rfl rfl) ?_; refine wl_v _ (r_len Try.underlying25 (H.ev rfl)) ?_; refine kl H rfl fun a H => ?_
      by_cases hcc1 : ((R.length : Nat) : Int) > 50
      · skip
        refine op_unguard _ _ (kg_yes rfl H rfl rfl rfl) ?_; refine wl_v _ (r_gt Try.underlying3 (H.ev rfl) evc (dec_t (hcc1))) ?_; refine kl H rfl fun a H => ?_
        refine wl_v _ (r_pick_f (H.ev rfl) (H.ev rfl)) ?_; refine kl H rfl fun a H => ?_
        refine wl_v _ (r_move (H.ev rfl)) ?_; refine kl H rfl fun a H => ?_
        refine wl_s (kg_no rfl H rfl rfl rfl) ?_; refine kl H rfl fun a H => ?_
        refine wl_s (kg_no rfl H rfl rfl rfl) ?_; refine kl H rfl fun a H => ?_
        refine wl_s (kg_no rfl H rfl rfl rfl) ?_; refine kl H rfl fun a H => ?_
        refine wl_v _ (r_pick_t (H.ev rfl) evc) ?_; refine kl H rfl fun a H => ?_
        refine wpList_nil ?_
        refine c_next ?_
        refine c_cond_t H rfl ?_
        refine wp_seq ?_
        refine wp_region_lit ?_
        refine wl_v _ (r_move (H.ev rfl)) ?_; refine kl H rfl fun a H => ?_
        refine wl_v _ (r_assign (H.ev rfl)) ?_; refine kl H rfl fun a H => ?_
        refine wpList_nil ?_
        refine c_next ?_
        refine wp_ret ?_
        refine r_then ?_
        exact k_ret1 H rfl rfl ⟨rfl, hall⟩
      · skip
        refine op_unguard _ _ (kg_yes rfl H rfl rfl rfl) ?_; refine wl_v _ (r_gt Try.underlying3 (H.ev rfl) evc (dec_f (hcc1))) ?_; refine kl H rfl fun a H => ?_
        refine wl_v _ (r_pick_f (H.ev rfl) (H.ev rfl)) ?_; refine kl H rfl fun a H => ?_
        refine wl_v _ (r_move (H.ev rfl)) ?_; refine kl H rfl fun a H => ?_
        refine op_unguard _ _ (kg_yes rfl H rfl rfl rfl) ?_; refine wl_v _ (r_row (cs := [.slice A L.length c, .int .i64 t]) (H.ev rfl) (block_range k0) (by kernel_rfl) s24 rfl) ?_; refine kl H rfl fun a H => ?_
        refine op_unguard _ _ (kg_yes rfl H rfl rfl rfl) ?_; refine wl_call _ _ _ (right_lit _ t _ L false hrt (Row.up h.out hall) (by omega) hw.out) (r_call1 cf8 (H.ev rfl)) ?_; rintro e w9 ⟨rfl, hb⟩; refine ⟨_, rfl, ?_⟩; replace k0 := Block.ups k0 hb; replace hall := hall.trans (hb.mono hall.size); clear hb; refine kl H rfl fun a H => ?_
        refine op_unguard _ _ (kg_yes rfl H rfl rfl rfl) ?_; refine wl_v _ (r_not (H.ev rfl) rfl) ?_; refine kl H rfl fun a H => ?_
        refine wl_v _ (r_pick_f (H.ev rfl) (H.ev rfl)) ?_; refine kl H rfl fun a H => ?_
        refine wpList_nil ?_
        refine c_next ?_
        refine c_cond_t H rfl ?_
        refine wp_seq ?_
        refine wp_region_lit ?_
        refine wl_v _ (r_move (H.ev rfl)) ?_; refine kl H rfl fun a H => ?_
        refine wl_v _ (r_assign (H.ev rfl)) ?_; refine kl H rfl fun a H => ?_
        refine wpList_nil ?_
        refine c_next ?_
        refine wp_ret ?_
        refine r_then ?_
        exact k_ret1 H rfl rfl ⟨rfl, hall⟩
  · skip
    refine K_enter 192 Try.func3 rfl rfl fun a H => ?_
    replace H := H.pick [0, 1]
    refine wp_seq ?_
    refine wp_region_lit ?_
    refine op_box 24 _ #[.slice A L.length c, .int .i64 t] (H.ev rfl) fun w0 b0 hge hb k0 => ?_; have g0 := Nat.le_trans hall.size hge; replace hall := hall.trans (hb.mono hall.size); clear hb; clear hge; refine kl H rfl fun a H => ?_
    refine wl_v _ (r_assign evc) ?_; refine kl H rfl fun a H => ?_
    refine wpList_nil ?_
    refine c_next ?_
    refine wp_seq ?_
    refine wp_region_lit ?_
    refine wl_call _ _ _ (small_any _) (r_call0 cf7) ?_; rintro e w9 ⟨rfl, hb⟩; refine ⟨_, rfl, ?_⟩; replace k0 := Block.ups k0 hb; replace hall := hall.trans (hb.mono hall.size); clear hb; refine kl H rfl fun a H => ?_
    refine wl_v _ (r_assign (H.ev rfl)) ?_; refine kl H rfl fun a H => ?_
    refine wpList_nil ?_
    refine c_next ?_
    refine wp_seq ?_
    refine wp_seq ?_
    refine wp_region_lit ?_
    refine wl_v _ (r_fld (q := 0) fld24_0 (H.ev rfl) rfl) ?_; refine kl H rfl fun a H => ?_
    refine wl_v _ (r_ld Try.underlying22 rfl (H.ev rfl) ((Block.cell k0 0).trans rfl)) ?_; refine kl H rfl fun a H => ?_
    refine wl_v _ (r_len Try.underlying22 (H.ev rfl)) ?_; refine kl H rfl fun a H => ?_
    by_cases hcc2 : ((L.length : Nat) : Int) > 100
    · skip
      refine wl_v _ (r_gt Try.underlying3 (H.ev rfl) evc (dec_t (hcc2))) ?_; refine kl H rfl fun a H => ?_
      refine wl_v _ (r_move (H.ev rfl)) ?_; refine kl H rfl fun a H => ?_
      refine wl_s (kg_no rfl H rfl rfl rfl) ?_; refine kl H rfl fun a H => ?_
      refine wl_s (kg_no rfl H rfl rfl rfl) ?_; refine kl H rfl fun a H => ?_
      refine wl_s (kg_no rfl H rfl rfl rfl) ?_; refine kl H rfl fun a H => ?_
      refine wl_v _ (r_pick_t (H.ev rfl) evc) ?_; refine kl H rfl fun a H => ?_
      refine wl_v _ (r_move (H.ev rfl)) ?_; refine kl H rfl fun a H => ?_
      refine wl_s (kg_no rfl H rfl rfl rfl) ?_; refine kl H rfl fun a H => ?_
      refine wl_s (kg_no rfl H rfl rfl rfl) ?_; refine kl H rfl fun a H => ?_
      refine wl_s (kg_no rfl H rfl rfl rfl) ?_; refine kl H rfl fun a H => ?_
      refine wl_v _ (r_pick_t (H.ev rfl) evc) ?_; refine kl H rfl fun a H => ?_
      refine wpList_nil ?_
      refine c_next ?_
      refine c_cond_t H rfl ?_
      refine wp_seq ?_
      refine wp_region_lit ?_
      refine wl_v _ (r_move (H.ev rfl)) ?_; refine kl H rfl fun a H => ?_
      refine wl_v _ (r_assign (H.ev rfl)) ?_; refine kl H rfl fun a H => ?_
      refine wpList_nil ?_
      refine c_next ?_
      refine wp_ret ?_
      refine r_then ?_
      exact k_ret1 H rfl rfl ⟨rfl, hall⟩
    · skip
      refine wl_v _ (r_gt Try.underlying3 (H.ev rfl) evc (dec_f (hcc2))) ?_; refine kl H rfl fun a H => ?_
      refine wl_v _ (r_move (H.ev rfl)) ?_; refine kl H rfl fun a H => ?_
      refine op_unguard _ _ (kg_yes rfl H rfl rfl rfl) ?_; refine wl_v _ (r_move (H.ev rfl)) ?_; refine kl H rfl fun a H => ?_
      refine op_unguard _ _ (kg_yes rfl H rfl rfl rfl) ?_; refine wl_v _ (r_len Try.underlying25 (H.ev rfl)) ?_; refine kl H rfl fun a H => ?_
      by_cases hcc3 : ((R.length : Nat) : Int) > 50
      · skip
        refine op_unguard _ _ (kg_yes rfl H rfl rfl rfl) ?_; refine wl_v _ (r_gt Try.underlying3 (H.ev rfl) evc (dec_t (hcc3))) ?_; refine kl H rfl fun a H => ?_
        refine wl_v _ (r_pick_f (H.ev rfl) (H.ev rfl)) ?_; refine kl H rfl fun a H => ?_
        refine wl_v _ (r_move (H.ev rfl)) ?_; refine kl H rfl fun a H => ?_
        refine wl_s (kg_no rfl H rfl rfl rfl) ?_; refine kl H rfl fun a H => ?_
        refine wl_s (kg_no rfl H rfl rfl rfl) ?_; refine kl H rfl fun a H => ?_
        refine wl_s (kg_no rfl H rfl rfl rfl) ?_; refine kl H rfl fun a H => ?_
        refine wl_v _ (r_pick_t (H.ev rfl) evc) ?_; refine kl H rfl fun a H => ?_
        refine wpList_nil ?_
        refine c_next ?_
        refine c_cond_t H rfl ?_
        refine wp_seq ?_
        refine wp_region_lit ?_
        refine wl_v _ (r_move (H.ev rfl)) ?_; refine kl H rfl fun a H => ?_
        refine wl_v _ (r_assign (H.ev rfl)) ?_; refine kl H rfl fun a H => ?_
        refine wpList_nil ?_
        refine c_next ?_
        refine wp_ret ?_
        refine r_then ?_
        exact k_ret1 H rfl rfl ⟨rfl, hall⟩
      · skip
        refine op_unguard _ _ (kg_yes rfl H rfl rfl rfl) ?_; refine wl_v _ (r_gt Try.underlying3 (H.ev rfl) evc (dec_f (hcc3))) ?_; refine kl H rfl fun a H => ?_
        refine wl_v _ (r_pick_f (H.ev rfl) (H.ev rfl)) ?_; refine kl H rfl fun a H => ?_
        refine wl_v _ (r_move (H.ev rfl)) ?_; refine kl H rfl fun a H => ?_
        refine op_unguard _ _ (kg_yes rfl H rfl rfl rfl) ?_; refine wl_v _ (r_row (cs := [.slice A L.length c, .int .i64 t]) (H.ev rfl) (block_range k0) (by kernel_rfl) s24 rfl) ?_; refine kl H rfl fun a H => ?_
        refine op_unguard _ _ (kg_yes rfl H rfl rfl rfl) ?_; refine wl_call _ _ _ (right_lit _ t _ L true hrt (Row.up h.out hall) (by omega) hw.out) (r_call1 cf8 (H.ev rfl)) ?_; rintro e w9 ⟨rfl, hb⟩; refine ⟨_, rfl, ?_⟩; replace k0 := Block.ups k0 hb; replace hall := hall.trans (hb.mono hall.size); clear hb; refine kl H rfl fun a H => ?_
        refine op_unguard _ _ (kg_yes rfl H rfl rfl rfl) ?_; refine wl_v _ (r_not (H.ev rfl) rfl) ?_; refine kl H rfl fun a H => ?_
        refine wl_v _ (r_pick_f (H.ev rfl) (H.ev rfl)) ?_; refine kl H rfl fun a H => ?_
        refine wpList_nil ?_
        refine c_next ?_
        refine c_cond_f H rfl ?_
        refine wp_skip ?_
        refine c_next ?_
        refine wp_seq ?_
        refine wp_region_lit ?_
        refine wl_v _ (r_assign evc) ?_; refine kl H rfl fun a H => ?_
        refine wpList_nil ?_
        refine c_next ?_
        refine wp_seq ?_
        refine wp_seq ?_
        refine wp_region_lit ?_
        refine wl_v _ (r_assign evc) ?_; refine kl H rfl fun a H => ?_
        refine wpList_nil ?_
        refine c_next ?_
        refine wp_block ?_
        refine wp_loop (FaA w b0 t A c L Ar cr R) (fun a _ => L.length - (intOf (a.eval (.tmp 7))).toNat) ⟨0, 0, H.pick [1, 2, 5, 6, 7], by omega, rfl, k0, hall⟩ ?_
        clear H hall k0
        rintro a w' ⟨i, lf, H, hi, hlf, k0, hall⟩
        have H0 := H
        have hlfi := ids_len (R := R) hi
        rw [hlf] at hlfi
        replace hlf := Lib.hid hlf
        by_cases hlt : i < L.length
        · skip
          obtain ⟨b, o, hA, hr0⟩ := mrow_at h.out hlt
          subst hA
          have hy : L[i]? = some L[i] := List.getElem?_eq_getElem hlt
          have HY := Lib.hid hy
          have HRG := Lib.hid hr0
          generalize L[i] = y at *
          clear hy hr0
          have H := H0
          refine wp_seq ?_
          refine wp_seq ?_
          refine wp_region_lit ?_
          refine wl_v _ (r_move (H.ev rfl)) ?_; refine kl H rfl fun a H => ?_
          refine wl_v _ (r_fld (q := 0) fld24_0 (H.ev rfl) rfl) ?_; refine kl H rfl fun a H => ?_
          refine wl_v _ (r_ld Try.underlying22 rfl (H.ev rfl) ((Block.cell k0 0).trans rfl)) ?_; refine kl H rfl fun a H => ?_
          refine wl_v _ (r_len Try.underlying22 (H.ev rfl)) ?_; refine kl H rfl fun a H => ?_
          refine wl_v _ (r_lt Try.underlying3 (H.ev rfl) (H.ev rfl) (dec_t (by omega))) ?_; refine kl H rfl fun a H => ?_
          refine wpList_nil ?_
          refine c_next ?_
          refine c_cond_t H rfl ?_
          refine wp_skip ?_
          refine c_next ?_
          refine wp_seq ?_
          refine wp_block ?_
          refine wp_seq ?_
          refine wp_region_lit ?_
          refine wl_v _ (r_assign evc) ?_; refine kl H rfl fun a H => ?_
          refine wpList_nil ?_
          refine c_next ?_
          refine wp_block ?_
          refine wp_loop (FaB w b0 t ((some ⟨b, o, none⟩)) c L Ar cr R i lf y) (fun a _ => R.length - (intOf (a.eval (.tmp 8))).toNat) ⟨0, H.pick [1, 2, 5, 6, 7, 8], by omega, fun j hj => by omega, k0, hall⟩ ?_
          clear H hall k0
          rintro a w' ⟨k, H, hk, hno, k0, hall⟩
          have H1 := H
          by_cases hlk : k < R.length
          · skip
            obtain ⟨br, orr, hAr, _⟩ := irow_at hR.out hlk
            subst hAr
            have hxr : R[k]? = some R[k] := List.getElem?_eq_getElem hlk
            have HXR := Lib.hid hxr
            generalize R[k] = x at *
            clear hxr
            have H := H1
            refine wp_seq ?_
            refine wp_seq ?_
            refine wp_region_lit ?_
            refine wl_v _ (r_move (H.ev rfl)) ?_; refine kl H rfl fun a H => ?_
            refine wl_v _ (r_move (H.ev rfl)) ?_; refine kl H rfl fun a H => ?_
            refine wl_v _ (r_len Try.underlying25 (H.ev rfl)) ?_; refine kl H rfl fun a H => ?_
            refine wl_v _ (r_lt Try.underlying3 (H.ev rfl) (H.ev rfl) (dec_t (by omega))) ?_; refine kl H rfl fun a H => ?_
            refine wpList_nil ?_
            refine c_next ?_
            refine c_cond_t H rfl ?_
            refine wp_skip ?_
            refine c_next ?_
            refine wp_seq ?_
            refine wp_block ?_
            refine wp_seq ?_
            have hall11 := hall
            have hS : BelowOf (BelowTo hall11) _ := Below.drew (Below.refl _ (BelowTo hall11))
            refine region_pi (BelowOf (BelowTo hall11)) [(0, true), (1, true), (2, true), (3, true), (4, true), (5, true), (6, true), (7, true), (8, true), (9, true), (10, true)] (by kernel_rfl) (by kernel_rfl) rfl (by kernel_rfl) hS ?_
            refine pi_f0 _ rfl (fun w' hS' => r_move (H.ev rfl)) ?_; refine kp H rfl fun a H => ?_
            refine pi_f0 _ rfl (fun w' hS' => r_move (H.ev rfl)) ?_; refine kp H rfl fun a H => ?_
            refine pi_f0 _ rfl (fun w' hS' => r_idx (j := k) (q := orr + k) Try.underlying25 s3 (H.ev rfl) (H.ev rfl) (by omega) (by omega)) ?_; refine kp H rfl fun a H => ?_
            refine pi_f0 _ rfl (fun w' hS' => r_ld Try.underlying3 rfl (H.ev rfl) (cell_ups (irow_cell hR.out HXR.out) (hall11.trans (Below.mono hS' hall11.size)))) ?_; refine kp H rfl fun a H => ?_
            refine pi_f0 _ rfl (fun w' hS' => r_fld (q := 0) fld24_0 (H.ev rfl) rfl) ?_; refine kp H rfl fun a H => ?_
            refine pi_f0 _ rfl (fun w' hS' => r_ld Try.underlying22 rfl (H.ev rfl) ((Block.cell (Block.ups k0 hS') 0).trans rfl)) ?_; refine kp H rfl fun a H => ?_
            refine pi_f0 _ rfl (fun w' hS' => r_move (H.ev rfl)) ?_; refine kp H rfl fun a H => ?_
            refine pi_f0 _ rfl (fun w' hS' => r_idx (j := i) (q := o + i * 2) Try.underlying22 s29 (H.ev rfl) (H.ev rfl) (by omega) rfl) ?_; refine kp H rfl fun a H => ?_
            refine pi_f0 _ rfl (fun w' hS' => r_fld (q := o + i * 2) fld29_0 (H.ev rfl) rfl) ?_; refine kp H rfl fun a H => ?_
            refine pi_f0 _ rfl (fun w' hS' => r_ld Try.underlying3 rfl (H.ev rfl) (range_cell (range_ups HRG.out (hall11.trans (Below.mono hS' hall11.size))) 0 rfl)) ?_; refine kp H rfl fun a H => ?_
            by_cases hcc4 : x = y.1
            · skip
              refine pi_f0 _ rfl (fun w' hS' => r_eq Try.underlying3 (H.ev rfl) (H.ev rfl) (dec_t (hcc4))) ?_; refine kp H rfl fun a H => ?_
              refine pi_nil (NoPanic.normal ?_)
              replace k0 := Block.ups k0 hS
              replace hall := hall.trans (Below.mono hS hall.size)
              clear hS
              refine c_next ?_
              refine c_cond_t H rfl ?_
              refine wp_seq ?_
              have hct : R.contains y.1 = true := by have e : x = y.1 := (by omega); have := List.mem_of_getElem? HXR.out; rw [e] at this; simpa using this
              refine wp_region_lit ?_
              refine wl_v _ (r_move (H.ev rfl)) ?_; refine kl H rfl fun a H => ?_
              refine wl_v _ (r_add (q := ((lf + 1 : Nat) : Int)) Try.underlying3 (H.ev rfl) evc (by omega) (by omega)) ?_; refine kl H rfl fun a H => ?_
              refine wl_v _ (r_assign (H.ev rfl)) ?_; refine kl H rfl fun a H => ?_
              refine wpList_nil ?_
              refine c_next ?_
              refine wp_exit ?_
              refine e_pass rfl ?_
              refine e_then ?_
              refine e_then ?_
              refine e_here ?_
              refine n_block ?_
              refine c_next ?_
              refine wp_region_lit ?_
              refine wl_v _ (r_move (H.ev rfl)) ?_; refine kl H rfl fun a H => ?_
              refine wl_v _ (r_add (q := ((i + 1 : Nat) : Int)) Try.underlying3 (H.ev rfl) evc (by omega) (by omega)) ?_; refine kl H rfl fun a H => ?_
              refine wl_v _ (r_assign (H.ev rfl)) ?_; refine kl H rfl fun a H => ?_
              refine wpList_nil ?_
              refine n_then ⟨⟨i + 1, lf + 1, H.pick [1, 2, 5, 6, 7], by omega, by rw [ids_take HY.out hct, List.length_append, hlf.out]; rfl, k0, hall⟩, ?_⟩
              rw [H.ev (j := 7) rfl, H0.ev (j := 7) rfl]
              simp only [intOf]
              omega
            · skip
              refine pi_f0 _ rfl (fun w' hS' => r_eq Try.underlying3 (H.ev rfl) (H.ev rfl) (dec_f (hcc4))) ?_; refine kp H rfl fun a H => ?_
              refine pi_nil (NoPanic.normal ?_)
              replace k0 := Block.ups k0 hS
              replace hall := hall.trans (Below.mono hS hall.size)
              clear hS
              refine c_next ?_
              refine c_cond_f H rfl ?_
              refine wp_skip ?_
              refine n_block ?_
              refine c_next ?_
              refine wp_region_lit ?_
              refine wl_v _ (r_move (H.ev rfl)) ?_; refine kl H rfl fun a H => ?_
              refine wl_v _ (r_add (q := ((k + 1 : Nat) : Int)) Try.underlying3 (H.ev rfl) evc (by omega) (by omega)) ?_; refine kl H rfl fun a H => ?_
              refine wl_v _ (r_assign (H.ev rfl)) ?_; refine kl H rfl fun a H => ?_
              refine wpList_nil ?_
              refine n_then ⟨⟨k + 1, H.pick [1, 2, 5, 6, 7, 8], by omega, noi_next hno HXR.out (by omega), k0, hall⟩, ?_⟩
              rw [H.ev (j := 8) rfl, H1.ev (j := 8) rfl]
              simp only [intOf]
              omega
          · skip
            obtain rfl : k = R.length := by omega
            have hct : R.contains y.1 = false := by have := noi_mem hno; simpa using this
            refine wp_seq ?_
            refine wp_seq ?_
            refine wp_region_lit ?_
            refine wl_v _ (r_move (H.ev rfl)) ?_; refine kl H rfl fun a H => ?_
            refine wl_v _ (r_move (H.ev rfl)) ?_; refine kl H rfl fun a H => ?_
            refine wl_v _ (r_len Try.underlying25 (H.ev rfl)) ?_; refine kl H rfl fun a H => ?_
            refine wl_v _ (r_lt Try.underlying3 (H.ev rfl) (H.ev rfl) (dec_f (by omega))) ?_; refine kl H rfl fun a H => ?_
            refine wpList_nil ?_
            refine c_next ?_
            refine c_cond_f H rfl ?_
            refine wp_exit ?_
            refine e_then ?_
            refine e_then ?_
            refine e_here ?_
            refine n_block ?_
            refine c_next ?_
            refine wp_region_lit ?_
            refine wl_v _ (r_move (H.ev rfl)) ?_; refine kl H rfl fun a H => ?_
            refine wl_v _ (r_add (q := ((i + 1 : Nat) : Int)) Try.underlying3 (H.ev rfl) evc (by omega) (by omega)) ?_; refine kl H rfl fun a H => ?_
            refine wl_v _ (r_assign (H.ev rfl)) ?_; refine kl H rfl fun a H => ?_
            refine wpList_nil ?_
            refine n_then ⟨⟨i + 1, lf, H.pick [1, 2, 5, 6, 7], by omega, by rw [ids_skip HY.out hct, hlf.out], k0, hall⟩, ?_⟩
            rw [H.ev (j := 7) rfl, H0.ev (j := 7) rfl]
            simp only [intOf]
            omega
        · skip
          obtain rfl : i = L.length := by omega
          have hlf2 : (idsF L R).length = lf := by have := hlf.out; rwa [List.take_length] at this
          replace hlf := Lib.hid hlf2
          clear hlf2
          refine wp_seq ?_
          refine wp_seq ?_
          refine wp_region_lit ?_
          refine wl_v _ (r_move (H.ev rfl)) ?_; refine kl H rfl fun a H => ?_
          refine wl_v _ (r_fld (q := 0) fld24_0 (H.ev rfl) rfl) ?_; refine kl H rfl fun a H => ?_
          refine wl_v _ (r_ld Try.underlying22 rfl (H.ev rfl) ((Block.cell k0 0).trans rfl)) ?_; refine kl H rfl fun a H => ?_
          refine wl_v _ (r_len Try.underlying22 (H.ev rfl)) ?_; refine kl H rfl fun a H => ?_
          refine wl_v _ (r_lt Try.underlying3 (H.ev rfl) (H.ev rfl) (dec_f (by omega))) ?_; refine kl H rfl fun a H => ?_
          refine wpList_nil ?_
          refine c_next ?_
          refine c_cond_f H rfl ?_
          refine wp_exit ?_
          refine e_then ?_
          refine e_then ?_
          refine e_here ?_
          refine c_next ?_
          refine wp_seq ?_
          refine wp_region_lit ?_
          refine wl_v _ (r_fld (q := 0) fld24_0 (H.ev rfl) rfl) ?_; refine kl H rfl fun a H => ?_
          refine wl_v _ (r_ld Try.underlying22 rfl (H.ev rfl) ((Block.cell k0 0).trans rfl)) ?_; refine kl H rfl fun a H => ?_
          refine wl_v _ (r_len Try.underlying22 (H.ev rfl)) ?_; refine kl H rfl fun a H => ?_
          refine wl_v _ (r_move (H.ev rfl)) ?_; refine kl H rfl fun a H => ?_
          refine wl_v _ (r_sub (q := ((L.length : Nat) : Int) - ((lf : Nat) : Int)) Try.underlying3 (H.ev rfl) (H.ev rfl) (by omega) (by omega)) ?_; refine kl H rfl fun a H => ?_
          refine wl_v _ (r_assign (H.ev rfl)) ?_; refine kl H rfl fun a H => ?_
          refine wpList_nil ?_
          refine c_next ?_
          refine wp_seq ?_
          refine wp_region_lit ?_
          refine wl_v _ (r_assign evc) ?_; refine kl H rfl fun a H => ?_
          refine wpList_nil ?_
          refine c_next ?_
          refine wp_seq ?_
          refine wp_seq ?_
          refine wp_region_lit ?_
          refine wl_v _ (r_assign evc) ?_; refine kl H rfl fun a H => ?_
          refine wpList_nil ?_
          refine c_next ?_
          refine wp_block ?_
          obtain ⟨D, hDe, hDs⟩ := mark_at k0
          have hD0 := k0.lt
          have hDW := hall.size
          rw [← hDe] at hD0 hDW
          clear hDe
          have hf := FRow.arg h.out hall g0
          have hFI : FairI L R L t [] 0 lf := by have := fair_start (R := R) hrt hw.out ht; rwa [hlf.out] at this
          refine wp_loop (FaC w D b0 L Ar cr R lf) (fun a _ => lf - (intOf (a.eval (.tmp 11))).toNat) ⟨0, L, t, A, c, [], none, 0, H.pick [1, 2, 5, 6, 9, 10, 11], by omega, hFI, k0, hf, World.ownsRow_nil _ _ _ _, dis_nil, hDs, hall⟩ ?_
          clear H hall k0 hf hFI hDs
          rintro a w' ⟨i, M, tm, A3, c3, I, A5, c5, H, hi, hFI, k0, hf, hr, hdis, hDs, hall⟩
          have H0 := H
          replace hFI := Lib.hid hFI
          have hMl := hFI.out.len
          have hIl := hFI.out.il
          have htm := hFI.out.rng
          by_cases hlt : i < lf
          · skip
            obtain ⟨⟨⟨M2, tt⟩, ⟨m1, m2⟩, b⟩, hx⟩ : ∃ q, nextF M tm R = q := ⟨_, rfl⟩
            obtain ⟨hbt, htt, hM2, hRM2, hin, hgo, hreset⟩ := fair_step hFI.out hlt hx
            subst hbt htt
            have hML : 0 < M.length := by omega
            have hRL : 0 < R.length := fair_ready hFI.out hlt
            obtain ⟨bf, of_, hA3, _⟩ := frow_at hf hML
            subst hA3
            obtain ⟨br, orr, hAr, _⟩ := irow_at hR.out hRL
            subst hAr
            have hsub : Hid (∀ y ∈ M2, y ∈ M) := Lib.hid (next_sub hx)
            replace hx := Lib.hid hx
            replace hRM2 := Lib.hid hRM2
            replace hin := Lib.hid hin
            replace hgo := Lib.hid hgo
            replace hreset := Lib.hid hreset
            have H := H0
            refine wp_seq ?_
            refine wp_seq ?_
            refine wp_region_lit ?_
            refine wl_v _ (r_move (H.ev rfl)) ?_; refine kl H rfl fun a H => ?_
            refine wl_v _ (r_move (H.ev rfl)) ?_; refine kl H rfl fun a H => ?_
            refine wl_v _ (r_lt Try.underlying3 (H.ev rfl) (H.ev rfl) (dec_t (by omega))) ?_; refine kl H rfl fun a H => ?_
            refine wpList_nil ?_
            refine c_next ?_
            refine c_cond_t H rfl ?_
            refine wp_skip ?_
            refine c_next ?_
            refine wp_seq ?_
            refine wp_block ?_
            refine wp_seq ?_
            refine wp_region_lit ?_
            refine wl_v _ (r_row (cs := [.slice (some ⟨bf, of_, none⟩) M.length c3, .int .i64 tm]) (H.ev rfl) (block_range k0) (by kernel_rfl) s24 rfl) ?_; refine kl H rfl fun a H => ?_
            refine wl_v _ (r_move (H.ev rfl)) ?_; refine kl H rfl fun a H => ?_
            refine wl_call _ _ _ (next_lit _ tm _ _ M R M2 M2.length tt tt m2 true hx.out rfl hf.1 (IRow.up hR.out hall) (by omega) (by omega) htm (mwf_max hFI.out.wf)) (r_call2 cf9 (H.ev rfl) (H.ev rfl)) ?_; rintro e w9 ⟨⟨A9, c9, rfl, ho9⟩, hb⟩; refine ⟨_, rfl, ?_⟩; have hlt9 := k0.lt; have hqr9 := own_ltI hr (Nat.le_refl _); replace k0 := Block.ups k0 hb; replace hf := FRow.up hf hb; replace hr := own_ups hr hb; replace hDs := le_up hDs hb; replace hall := hall.trans (hb.mono hall.size); clear hb; have hf2 := FRow.own ho9 hlt9; have hdis2 := dis_own hqr9 ho9; clear ho9 hlt9 hqr9; refine kl H rfl fun a H => ?_
            refine wl_v _ (r_move (H.ev rfl)) ?_; refine kl H rfl fun a H => ?_
            refine wl_v _ (r_extract (v := .agg #[.slice A9 M2.length c9, .int .i64 tt]) (H.ev rfl) rfl) ?_; refine kl H rfl fun a H => ?_
            refine wl_v _ (r_extract (v := .agg #[.int .i64 tt, .int .i64 m2]) (H.ev rfl) rfl) ?_; refine kl H rfl fun a H => ?_
            refine wl_v _ (r_extract (v := .bool true) (H.ev rfl) rfl) ?_; refine kl H rfl fun a H => ?_
            refine op_alloc 24 #[.slice none 0 0, .int .i64 0] z24 fun w1 b1 hge hb k1 => ?_; have g1 := Nat.le_trans hall.size hge; have d0_1 : b0 < b1 := Nat.lt_of_lt_of_le k0.lt hge; have hqhf_1 := FRow.lt hf hge; have hqhf2_1 := FRow.lt hf2 hge; have hqr_1 := own_ltI hr hge; replace k0 := Block.ups k0 hb; replace hf := FRow.up hf hb; replace hr := own_ups hr hb; replace hDs := le_up hDs hb; replace hf2 := FRow.up hf2 hb; replace hall := hall.trans (hb.mono hall.size); clear hb; clear hge; refine kl H rfl fun a H => ?_
            refine op_alloc 29 #[.int .i64 0, .int .i64 0] z29 fun w2 b2 hge hb k2 => ?_; have g2 := Nat.le_trans hall.size hge; have d0_2 : b0 < b2 := Nat.lt_of_lt_of_le k0.lt hge; have d1_2 : b1 < b2 := Nat.lt_of_lt_of_le k1.lt hge; have hqhf_2 := FRow.lt hf hge; have hqhf2_2 := FRow.lt hf2 hge; have hqr_2 := own_ltI hr hge; replace k0 := Block.ups k0 hb; replace hf := FRow.up hf hb; replace hr := own_ups hr hb; replace hDs := le_up hDs hb; replace hf2 := FRow.up hf2 hb; replace k1 := Block.ups k1 hb; replace hall := hall.trans (hb.mono hall.size); clear hb; clear hge; refine kl H rfl fun a H => ?_
            refine op_store1 24 (.tmp 12) (.tmp 79) b1 0 24 (.agg #[.slice A9 M2.length c9, .int .i64 tt]) _ (H.ev rfl) (H.ev rfl) k1 s24 (by simp [Value.cells]) (by simp [Value.cells, Value.oneCell']) fun w' hb ho kq => ?_; clear k1; have k1 : Block _ b1 24 #[.slice A9 M2.length c9, .int .i64 tt] := kq; clear kq; replace hf := FRow.far hf hqhf_1 (hb _ (Nat.le_refl _)); replace hf2 := FRow.far hf2 hqhf2_1 (hb _ (Nat.le_refl _)); replace k0 := block_same k0 (ho _ (by omega)); replace hr := own_block hr (fun q hq => ho _ (fun e => by have := hqr_1 q hq; omega)); replace hDs := le_up hDs (hb 0 (Nat.zero_le _)); replace k2 := block_same k2 (ho _ (by omega)); replace hall := hall.trans (hb _ g1); clear hb ho; refine kl0 H fun a H => ?_
            refine op_store1 29 (.tmp 13) (.tmp 80) b2 0 29 (.agg #[.int .i64 tt, .int .i64 m2]) _ (H.ev rfl) (H.ev rfl) k2 s29 (by simp [Value.cells]) (ints_one [tt, m2]) fun w' hb ho kq => ?_; clear k2; have k2 : Block _ b2 29 #[.int .i64 tt, .int .i64 m2] := kq; clear kq; replace hf := FRow.far hf hqhf_2 (hb _ (Nat.le_refl _)); replace hf2 := FRow.far hf2 hqhf2_2 (hb _ (Nat.le_refl _)); replace k0 := block_same k0 (ho _ (by omega)); replace hr := own_block hr (fun q hq => ho _ (fun e => by have := hqr_2 q hq; omega)); replace hDs := le_up hDs (hb 0 (Nat.zero_le _)); replace k1 := block_same k1 (ho _ (by omega)); replace hall := hall.trans (hb _ g2); clear hb ho; refine kl0 H fun a H => ?_
            refine wl_v _ (r_assign (H.ev rfl)) ?_; refine kl H rfl fun a H => ?_
            refine wpList_nil ?_
            refine c_next ?_
            refine wp_seq ?_
            refine wp_seq ?_
            refine wp_region_lit ?_
            refine wl_v _ (r_move (H.ev rfl)) ?_; refine kl H rfl fun a H => ?_
            refine wl_v _ (r_not (H.ev rfl) rfl) ?_; refine kl H rfl fun a H => ?_
            refine wl_v _ (r_move (H.ev rfl)) ?_; refine kl H rfl fun a H => ?_
            refine op_unguard _ _ (kg_yes rfl H rfl rfl rfl) ?_; refine wl_v _ (r_row (cs := [.slice A9 M2.length c9, .int .i64 tt]) (H.ev rfl) (block_range k1) (by kernel_rfl) s24 rfl) ?_; refine kl H rfl fun a H => ?_
            refine op_unguard _ _ (kg_yes rfl H rfl rfl rfl) ?_; refine wl_call _ _ _ (right_lit _ tt _ M2 true hRM2.out hf2.1 (by omega) (fun y hy => hFI.out.wf y (hsub.out y hy))) (r_call1 cf8 (H.ev rfl)) ?_; rintro e w9 ⟨rfl, hb⟩; refine ⟨_, rfl, ?_⟩; replace k0 := Block.ups k0 hb; replace hf := FRow.up hf hb; replace hr := own_ups hr hb; replace hDs := le_up hDs hb; replace hf2 := FRow.up hf2 hb; replace k1 := Block.ups k1 hb; replace k2 := Block.ups k2 hb; replace hall := hall.trans (hb.mono hall.size); clear hb; refine kl H rfl fun a H => ?_
            refine op_unguard _ _ (kg_yes rfl H rfl rfl rfl) ?_; refine wl_v _ (r_not (H.ev rfl) rfl) ?_; refine kl H rfl fun a H => ?_
            refine wl_v _ (r_pick_f (H.ev rfl) (H.ev rfl)) ?_; refine kl H rfl fun a H => ?_
            refine wl_v _ (r_move (H.ev rfl)) ?_; refine kl H rfl fun a H => ?_
            refine op_unguard _ _ (kg_yes rfl H rfl rfl rfl) ?_; refine wl_v _ (r_fld (q := 0) fld24_0 (H.ev rfl) rfl) ?_; refine kl H rfl fun a H => ?_
            refine op_unguard _ _ (kg_yes rfl H rfl rfl rfl) ?_; refine wl_v _ (r_ld Try.underlying22 rfl (H.ev rfl) ((Block.cell k1 0).trans rfl)) ?_; refine kl H rfl fun a H => ?_
            refine op_unguard _ _ (kg_yes rfl H rfl rfl rfl) ?_; refine wl_v _ (r_len Try.underlying22 (H.ev rfl)) ?_; refine kl H rfl fun a H => ?_
            refine op_unguard _ _ (kg_yes rfl H rfl rfl rfl) ?_; refine wl_v _ (r_fld (q := 0) fld24_0 (H.ev rfl) rfl) ?_; refine kl H rfl fun a H => ?_
            refine op_unguard _ _ (kg_yes rfl H rfl rfl rfl) ?_; refine wl_v _ (r_ld Try.underlying22 rfl (H.ev rfl) ((Block.cell k0 0).trans rfl)) ?_; refine kl H rfl fun a H => ?_
            refine op_unguard _ _ (kg_yes rfl H rfl rfl rfl) ?_; refine wl_v _ (r_len Try.underlying22 (H.ev rfl)) ?_; refine kl H rfl fun a H => ?_
            refine op_unguard _ _ (kg_yes rfl H rfl rfl rfl) ?_; refine wl_v _ (r_sub (q := ((M.length : Nat) : Int) - 1) Try.underlying3 (H.ev rfl) evc (by omega) (by omega)) ?_; refine kl H rfl fun a H => ?_
            by_cases hcc5 : ((M2.length : Nat) : Int) ≠ (((M.length : Nat) : Int) - 1)
            · skip
              refine op_unguard _ _ (kg_yes rfl H rfl rfl rfl) ?_; refine wl_v _ (r_ne Try.underlying3 (H.ev rfl) (H.ev rfl) (dec_t (hcc5))) ?_; refine kl H rfl fun a H => ?_
              refine wl_v _ (r_pick_f (H.ev rfl) (H.ev rfl)) ?_; refine kl H rfl fun a H => ?_
              refine wl_v _ (r_move (H.ev rfl)) ?_; refine kl H rfl fun a H => ?_
              refine wl_s (kg_no rfl H rfl rfl rfl) ?_; refine kl H rfl fun a H => ?_
              refine wl_s (kg_no rfl H rfl rfl rfl) ?_; refine kl H rfl fun a H => ?_
              refine wl_s (kg_no rfl H rfl rfl rfl) ?_; refine kl H rfl fun a H => ?_
              refine wl_s (kg_no rfl H rfl rfl rfl) ?_; refine kl H rfl fun a H => ?_
              refine wl_s (kg_no rfl H rfl rfl rfl) ?_; refine kl H rfl fun a H => ?_
              refine wl_v _ (r_pick_t (H.ev rfl) evc) ?_; refine kl H rfl fun a H => ?_
              refine wpList_nil ?_
              refine c_next ?_
              refine c_cond_t H rfl ?_
              refine wp_seq ?_
              refine wp_region_lit ?_
              refine wl_v _ (r_assign evc) ?_; refine kl H rfl fun a H => ?_
              refine wpList_nil ?_
              refine c_next ?_
              refine wp_ret ?_
              refine r_then ?_
              refine r_block ?_
              refine r_then ?_
              refine r_then ?_
              refine r_block ?_
              refine r_then ?_
              exfalso; omega
            · skip
              refine op_unguard _ _ (kg_yes rfl H rfl rfl rfl) ?_; refine wl_v _ (r_ne Try.underlying3 (H.ev rfl) (H.ev rfl) (dec_f (hcc5))) ?_; refine kl H rfl fun a H => ?_
              refine wl_v _ (r_pick_f (H.ev rfl) (H.ev rfl)) ?_; refine kl H rfl fun a H => ?_
              refine wl_v _ (r_move (H.ev rfl)) ?_; refine kl H rfl fun a H => ?_
              refine op_unguard _ _ (kg_yes rfl H rfl rfl rfl) ?_; refine wl_v _ (r_fld (q := 1) fld24_1 (H.ev rfl) rfl) ?_; refine kl H rfl fun a H => ?_
              refine op_unguard _ _ (kg_yes rfl H rfl rfl rfl) ?_; refine wl_v _ (r_ld Try.underlying3 rfl (H.ev rfl) ((Block.cell k1 1).trans rfl)) ?_; refine kl H rfl fun a H => ?_
              refine op_unguard _ _ (kg_yes rfl H rfl rfl rfl) ?_; refine wl_v _ (r_fld (q := 0) fld29_0 (H.ev rfl) rfl) ?_; refine kl H rfl fun a H => ?_
              refine op_unguard _ _ (kg_yes rfl H rfl rfl rfl) ?_; refine wl_v _ (r_ld Try.underlying3 rfl (H.ev rfl) ((Block.cell k2 0).trans rfl)) ?_; refine kl H rfl fun a H => ?_
              refine op_unguard _ _ (kg_yes rfl H rfl rfl rfl) ?_; refine wl_v _ (r_ne Try.underlying3 (H.ev rfl) (H.ev rfl) (dec_f (by omega))) ?_; refine kl H rfl fun a H => ?_
              refine wl_v _ (r_pick_f (H.ev rfl) (H.ev rfl)) ?_; refine kl H rfl fun a H => ?_
              refine wpList_nil ?_
              refine c_next ?_
              refine c_cond_f H rfl ?_
              refine wp_skip ?_
              refine c_next ?_
              refine wp_seq ?_
              refine wp_seq ?_
              refine wp_region_lit ?_
              refine wl_v _ (r_assign evc) ?_; refine kl H rfl fun a H => ?_
              refine wpList_nil ?_
              refine c_next ?_
              refine wp_block ?_
              have hx4 : Cx D b0 b1 b2 tm tt m2 (some ⟨bf, of_, none⟩) M c3 A5 I c5 A9 M2 c9 _ := ⟨k0, k1, k2, hf, hf2, hr, hDs⟩
              clear hf hf2 hr hDs k0 k1 k2
              refine wp_loop (FaD w D b0 b1 b2 tm tt m2 (some ⟨bf, of_, none⟩) M c3 A5 I c5 A9 M2 c9 (.slice (some ⟨br, orr, none⟩) R.length cr) lf (((L.length : Nat) : Int) - ((lf : Nat) : Int)) i) (fun a _ => I.length - (intOf (a.eval (.tmp 15))).toNat) ⟨0, H.pick [1, 2, 5, 6, 9, 10, 11, 12, 13, 15], by omega, fun j hj => by omega, hx4, hall⟩ ?_
              clear H hall hx4
              rintro a w' ⟨k, H, hk, hno, hx4, hall⟩
              have H1 := H
              by_cases hlk : k < I.length
              · skip
                obtain ⟨q, hA5⟩ := own_addrI hx4.2.2.2.2.2.1 hlk
                subst hA5
                have hxi : I[k]? = some I[k] := List.getElem?_eq_getElem hlk
                have HXI := Lib.hid hxi
                generalize I[k] = x at *
                clear hxi
                have H := H1
                refine wp_seq ?_
                refine wp_seq ?_
                refine wp_region_lit ?_
                refine wl_v _ (r_move (H.ev rfl)) ?_; refine kl H rfl fun a H => ?_
                refine wl_v _ (r_move (H.ev rfl)) ?_; refine kl H rfl fun a H => ?_
                refine wl_v _ (r_len Try.underlying25 (H.ev rfl)) ?_; refine kl H rfl fun a H => ?_
                refine wl_v _ (r_lt Try.underlying3 (H.ev rfl) (H.ev rfl) (dec_t (by omega))) ?_; refine kl H rfl fun a H => ?_
                refine wpList_nil ?_
                refine c_next ?_
                refine c_cond_t H rfl ?_
                refine wp_skip ?_
                refine c_next ?_
                refine wp_seq ?_
                refine wp_block ?_
                refine wp_seq ?_
                refine wp_seq ?_
                have hall24 := hall
                have hS : BelowOf (BelowTo hall24) _ := Below.drew (Below.refl _ (BelowTo hall24))
                refine region_pi (BelowOf (BelowTo hall24)) [(0, true), (1, true), (2, true), (3, true), (4, true), (5, true), (6, true)] (by kernel_rfl) (by kernel_rfl) rfl (by kernel_rfl) hS ?_
                refine pi_f0 _ rfl (fun w' hS' => r_move (H.ev rfl)) ?_; refine kp H rfl fun a H => ?_
                refine pi_f0 _ rfl (fun w' hS' => r_move (H.ev rfl)) ?_; refine kp H rfl fun a H => ?_
                refine pi_f0 _ rfl (fun w' hS' => r_idx (j := k) (q := 0 + k) Try.underlying25 s3 (H.ev rfl) (H.ev rfl) (by omega) (by omega)) ?_; refine kp H rfl fun a H => ?_
                refine pi_f0 _ rfl (fun w' hS' => r_ld Try.underlying3 rfl (H.ev rfl) (own_cellI (Cx.up hx4 hS').2.2.2.2.2.1 rfl HXI.out)) ?_; refine kp H rfl fun a H => ?_
                refine pi_f0 _ rfl (fun w' hS' => r_fld (q := 0) fld29_0 (H.ev rfl) rfl) ?_; refine kp H rfl fun a H => ?_
                refine pi_f0 _ rfl (fun w' hS' => r_ld Try.underlying3 rfl (H.ev rfl) ((Block.cell ((Cx.up hx4 hS').2.2.1) 0).trans rfl)) ?_; refine kp H rfl fun a H => ?_
                by_cases hcc6 : x ≠ tt
                · skip
                  refine pi_f0 _ rfl (fun w' hS' => r_ne Try.underlying3 (H.ev rfl) (H.ev rfl) (dec_t (hcc6))) ?_; refine kp H rfl fun a H => ?_
                  refine pi_nil (NoPanic.normal ?_)
                  replace hx4 := Cx.up hx4 hS
                  replace hall := hall.trans (Below.mono hS hall.size)
                  clear hS
                  refine c_next ?_
                  refine c_cond_t H rfl ?_
                  refine wp_exit ?_
                  refine e_then ?_
                  refine e_here ?_
                  refine c_next ?_
                  refine wp_region_lit ?_
                  refine wl_v _ (r_move (H.ev rfl)) ?_; refine kl H rfl fun a H => ?_
                  refine wl_v _ (r_add (q := ((k + 1 : Nat) : Int)) Try.underlying3 (H.ev rfl) evc (by omega) (by omega)) ?_; refine kl H rfl fun a H => ?_
                  refine wl_v _ (r_assign (H.ev rfl)) ?_; refine kl H rfl fun a H => ?_
                  refine wpList_nil ?_
                  refine n_then ⟨⟨k + 1, H.pick [1, 2, 5, 6, 9, 10, 11, 12, 13, 15], by omega, noi_next hno HXI.out (by omega), hx4, hall⟩, ?_⟩
                  rw [H.ev (j := 15) rfl, H1.ev (j := 15) rfl]
                  simp only [intOf]
                  omega
                · skip
                  refine pi_f0 _ rfl (fun w' hS' => r_ne Try.underlying3 (H.ev rfl) (H.ev rfl) (dec_f (hcc6))) ?_; refine kp H rfl fun a H => ?_
                  refine pi_nil (NoPanic.normal ?_)
                  replace hx4 := Cx.up hx4 hS
                  replace hall := hall.trans (Below.mono hS hall.size)
                  clear hS
                  refine c_next ?_
                  refine c_cond_f H rfl ?_
                  refine wp_skip ?_
                  refine c_next ?_
                  refine wp_seq ?_
                  refine wp_seq ?_
                  refine wp_region_lit ?_
                  refine wl_v _ (r_assign evc) ?_; refine kl H rfl fun a H => ?_
                  refine wpList_nil ?_
                  refine c_next ?_
                  refine wp_block ?_
                  have hxt : x = tt := by omega
                  have htI : tt ∈ I := by rw [← hxt]; exact List.mem_of_getElem? HXI.out
                  have hin2 := Lib.hid (hin.out htI)
                  refine wp_loop (FaE w D b0 b1 b2 tm tt m2 (some ⟨bf, of_, none⟩) M c3 (some ⟨q, 0, none⟩) I c5 A9 M2 c9 (.slice (some ⟨br, orr, none⟩) R.length cr) lf (((L.length : Nat) : Int) - ((lf : Nat) : Int)) i k) (fun a _ => M.length - (intOf (a.eval (.tmp 16))).toNat) ⟨0, H.pick [1, 2, 5, 6, 9, 10, 11, 12, 13, 15, 16], by omega, hx4, hall⟩ ?_
                  clear H hall hx4
                  rintro a w' ⟨n, H, hn, hx4, hall⟩
                  have H2 := H
                  by_cases hln : n < M.length
                  · skip
                    have hyn : M[n]? = some M[n] := List.getElem?_eq_getElem hln
                    have HYN := Lib.hid hyn
                    generalize M[n] = y at *
                    clear hyn
                    have H := H2
                    refine wp_seq ?_
                    refine wp_seq ?_
                    refine wp_region_lit ?_
                    refine wl_v _ (r_move (H.ev rfl)) ?_; refine kl H rfl fun a H => ?_
                    refine wl_v _ (r_fld (q := 0) fld24_0 (H.ev rfl) rfl) ?_; refine kl H rfl fun a H => ?_
                    refine wl_v _ (r_ld Try.underlying22 rfl (H.ev rfl) ((Block.cell ((hx4).1) 0).trans rfl)) ?_; refine kl H rfl fun a H => ?_
                    refine wl_v _ (r_len Try.underlying22 (H.ev rfl)) ?_; refine kl H rfl fun a H => ?_
                    refine wl_v _ (r_lt Try.underlying3 (H.ev rfl) (H.ev rfl) (dec_t (by omega))) ?_; refine kl H rfl fun a H => ?_
                    refine wpList_nil ?_
                    refine c_next ?_
                    refine c_cond_t H rfl ?_
                    refine wp_skip ?_
                    refine c_next ?_
                    refine wp_seq ?_
                    refine wp_block ?_
                    refine wp_seq ?_
                    refine wp_region_lit ?_
                    refine wl_v _ (r_assign evc) ?_; refine kl H rfl fun a H => ?_
                    refine wpList_nil ?_
                    refine c_next ?_
                    refine wp_seq ?_
                    refine wp_seq ?_
                    refine wp_region_lit ?_
                    refine wl_v _ (r_assign evc) ?_; refine kl H rfl fun a H => ?_
                    refine wpList_nil ?_
                    refine c_next ?_
                    refine wp_block ?_
                    refine wp_loop (FaF w D b0 b1 b2 tm tt m2 (some ⟨bf, of_, none⟩) M c3 (some ⟨q, 0, none⟩) I c5 A9 M2 c9 (.slice (some ⟨br, orr, none⟩) R.length cr) lf (((L.length : Nat) : Int) - ((lf : Nat) : Int)) i k n y R) (fun a _ => R.length - (intOf (a.eval (.tmp 18))).toNat) ⟨0, false, H.pick [1, 2, 5, 6, 9, 10, 11, 12, 13, 15, 16, 17, 18], by omega, by simp, hx4, hall⟩ ?_
                    clear H hall hx4
                    rintro a w' ⟨j, sb, H, hj, hsb, hx4, hall⟩
                    have H3 := H
                    by_cases hlj : j < R.length
                    · skip
                      have hxr : R[j]? = some R[j] := List.getElem?_eq_getElem hlj
                      have HXR := Lib.hid hxr
                      generalize R[j] = z at *
                      clear hxr
                      have H := H3
                      cases sb
                      · skip
                        refine wp_seq ?_
                        refine wp_seq ?_
                        refine wp_region_lit ?_
                        refine wl_v _ (r_move (H.ev rfl)) ?_; refine kl H rfl fun a H => ?_
                        refine wl_v _ (r_move (H.ev rfl)) ?_; refine kl H rfl fun a H => ?_
                        refine wl_v _ (r_len Try.underlying25 (H.ev rfl)) ?_; refine kl H rfl fun a H => ?_
                        refine wl_v _ (r_lt Try.underlying3 (H.ev rfl) (H.ev rfl) (dec_t (by omega))) ?_; refine kl H rfl fun a H => ?_
                        refine wpList_nil ?_
                        refine c_next ?_
                        refine c_cond_t H rfl ?_
                        refine wp_skip ?_
                        refine c_next ?_
                        refine wp_seq ?_
                        refine wp_block ?_
                        have hall32 := hall
                        have hS : BelowOf (BelowTo hall32) _ := Below.drew (Below.refl _ (BelowTo hall32))
                        refine region_pi (BelowOf (BelowTo hall32)) [(0, true), (1, true), (2, true), (3, true), (4, true), (5, true), (6, true), (7, true), (8, true), (9, true), (10, true), (11, true), (12, true), (13, true), (14, true)] (by kernel_rfl) (by kernel_rfl) rfl (by kernel_rfl) hS ?_
                        refine pi_f0 _ rfl (fun w' hS' => r_move (H.ev rfl)) ?_; refine kp H rfl fun a H => ?_
                        refine pi_f0 _ rfl (fun w' hS' => r_move (H.ev rfl)) ?_; refine kp H rfl fun a H => ?_
                        refine pi_f1 _ rfl rfl rfl (H.ev rfl) (fun w' hS' => r_move (H.ev rfl)) ?_; refine kp H rfl fun a H => ?_
                        refine pi_f1 _ rfl rfl rfl (H.ev rfl) (fun w' hS' => r_move (H.ev rfl)) ?_; refine kp H rfl fun a H => ?_
                        refine pi_f1 _ rfl rfl rfl (H.ev rfl) (fun w' hS' => r_idx (j := j) (q := orr + j) Try.underlying25 s3 (H.ev rfl) (H.ev rfl) (by omega) (by omega)) ?_; refine kp H rfl fun a H => ?_
                        refine pi_f1 _ rfl rfl rfl (H.ev rfl) (fun w' hS' => r_ld Try.underlying3 rfl (H.ev rfl) (cell_ups (irow_cell hR.out HXR.out) (hall32.trans (Below.mono hS' hall32.size)))) ?_; refine kp H rfl fun a H => ?_
                        refine pi_f1 _ rfl rfl rfl (H.ev rfl) (fun w' hS' => r_fld (q := 0) fld24_0 (H.ev rfl) rfl) ?_; refine kp H rfl fun a H => ?_
                        refine pi_f1 _ rfl rfl rfl (H.ev rfl) (fun w' hS' => r_ld Try.underlying22 rfl (H.ev rfl) ((Block.cell ((Cx.up hx4 hS').1) 0).trans rfl)) ?_; refine kp H rfl fun a H => ?_
                        refine pi_f1 _ rfl rfl rfl (H.ev rfl) (fun w' hS' => r_move (H.ev rfl)) ?_; refine kp H rfl fun a H => ?_
                        refine pi_f1 _ rfl rfl rfl (H.ev rfl) (fun w' hS' => r_idx (j := n) (q := of_ + n * 2) Try.underlying22 s29 (H.ev rfl) (H.ev rfl) (by omega) rfl) ?_; refine kp H rfl fun a H => ?_
                        refine pi_f1 _ rfl rfl rfl (H.ev rfl) (fun w' hS' => r_fld (q := of_ + n * 2) fld29_0 (H.ev rfl) rfl) ?_; refine kp H rfl fun a H => ?_
                        refine pi_f1 _ rfl rfl rfl (H.ev rfl) (fun w' hS' => r_ld Try.underlying3 rfl (H.ev rfl) (range_cell (frow_rng (Cx.up hx4 hS').2.2.2.1 HYN.out) 0 rfl)) ?_; refine kp H rfl fun a H => ?_
                        by_cases hcc7 : z = y.1
                        · skip
                          refine pi_f1 _ rfl rfl rfl (H.ev rfl) (fun w' hS' => r_eq Try.underlying3 (H.ev rfl) (H.ev rfl) (dec_t (hcc7))) ?_; refine kp H rfl fun a H => ?_
                          refine pi_f0 _ rfl (fun w' hS' => r_pick_f (H.ev rfl) (H.ev rfl)) ?_; refine kp H rfl fun a H => ?_
                          refine pi_f0 _ rfl (fun w' hS' => r_assign (H.ev rfl)) ?_; refine kp H rfl fun a H => ?_
                          refine pi_nil (NoPanic.normal ?_)
                          replace hx4 := Cx.up hx4 hS
                          replace hall := hall.trans (Below.mono hS hall.size)
                          clear hS
                          refine n_block ?_
                          refine c_next ?_
                          refine wp_region_lit ?_
                          refine wl_v _ (r_move (H.ev rfl)) ?_; refine kl H rfl fun a H => ?_
                          refine wl_v _ (r_add (q := ((j + 1 : Nat) : Int)) Try.underlying3 (H.ev rfl) evc (by omega) (by omega)) ?_; refine kl H rfl fun a H => ?_
                          refine wl_v _ (r_assign (H.ev rfl)) ?_; refine kl H rfl fun a H => ?_
                          refine wpList_nil ?_
                          refine n_then ⟨⟨j + 1, _, H.pick [1, 2, 5, 6, 9, 10, 11, 12, 13, 15, 16, 17, 18], by omega, in_here HXR.out (by omega), hx4, hall⟩, ?_⟩
                          rw [H.ev (j := 18) rfl, H3.ev (j := 18) rfl]
                          simp only [intOf]
                          omega
                        · skip
                          refine pi_f1 _ rfl rfl rfl (H.ev rfl) (fun w' hS' => r_eq Try.underlying3 (H.ev rfl) (H.ev rfl) (dec_f (hcc7))) ?_; refine kp H rfl fun a H => ?_
                          refine pi_f0 _ rfl (fun w' hS' => r_pick_f (H.ev rfl) (H.ev rfl)) ?_; refine kp H rfl fun a H => ?_
                          refine pi_f0 _ rfl (fun w' hS' => r_assign (H.ev rfl)) ?_; refine kp H rfl fun a H => ?_
                          refine pi_nil (NoPanic.normal ?_)
                          replace hx4 := Cx.up hx4 hS
                          replace hall := hall.trans (Below.mono hS hall.size)
                          clear hS
                          refine n_block ?_
                          refine c_next ?_
                          refine wp_region_lit ?_
                          refine wl_v _ (r_move (H.ev rfl)) ?_; refine kl H rfl fun a H => ?_
                          refine wl_v _ (r_add (q := ((j + 1 : Nat) : Int)) Try.underlying3 (H.ev rfl) evc (by omega) (by omega)) ?_; refine kl H rfl fun a H => ?_
                          refine wl_v _ (r_assign (H.ev rfl)) ?_; refine kl H rfl fun a H => ?_
                          refine wpList_nil ?_
                          refine n_then ⟨⟨j + 1, _, H.pick [1, 2, 5, 6, 9, 10, 11, 12, 13, 15, 16, 17, 18], by omega, in_not hsb HXR.out (by omega), hx4, hall⟩, ?_⟩
                          rw [H.ev (j := 18) rfl, H3.ev (j := 18) rfl]
                          simp only [intOf]
                          omega
                      · skip
                        refine wp_seq ?_
                        refine wp_seq ?_
                        refine wp_region_lit ?_
                        refine wl_v _ (r_move (H.ev rfl)) ?_; refine kl H rfl fun a H => ?_
                        refine wl_v _ (r_move (H.ev rfl)) ?_; refine kl H rfl fun a H => ?_
                        refine wl_v _ (r_len Try.underlying25 (H.ev rfl)) ?_; refine kl H rfl fun a H => ?_
                        refine wl_v _ (r_lt Try.underlying3 (H.ev rfl) (H.ev rfl) (dec_t (by omega))) ?_; refine kl H rfl fun a H => ?_
                        refine wpList_nil ?_
                        refine c_next ?_
                        refine c_cond_t H rfl ?_
                        refine wp_skip ?_
                        refine c_next ?_
                        refine wp_seq ?_
                        refine wp_block ?_
                        have hall32 := hall
                        have hS : BelowOf (BelowTo hall32) _ := Below.drew (Below.refl _ (BelowTo hall32))
                        refine region_pi (BelowOf (BelowTo hall32)) [(0, true), (1, true), (2, true), (3, true), (4, true), (5, true), (6, true), (7, true), (8, true), (9, true), (10, true), (11, true), (12, true), (13, true), (14, true)] (by kernel_rfl) (by kernel_rfl) rfl (by kernel_rfl) hS ?_
                        refine pi_f0 _ rfl (fun w' hS' => r_move (H.ev rfl)) ?_; refine kp H rfl fun a H => ?_
                        refine pi_f0 _ rfl (fun w' hS' => r_move (H.ev rfl)) ?_; refine kp H rfl fun a H => ?_
                        refine pi_s1 rfl rfl rfl (H.ev rfl) ?_; refine kp H rfl fun a H => ?_
                        refine pi_s1 rfl rfl rfl (H.ev rfl) ?_; refine kp H rfl fun a H => ?_
                        refine pi_s1 rfl rfl rfl (H.ev rfl) ?_; refine kp H rfl fun a H => ?_
                        refine pi_s1 rfl rfl rfl (H.ev rfl) ?_; refine kp H rfl fun a H => ?_
                        refine pi_s1 rfl rfl rfl (H.ev rfl) ?_; refine kp H rfl fun a H => ?_
                        refine pi_s1 rfl rfl rfl (H.ev rfl) ?_; refine kp H rfl fun a H => ?_
                        refine pi_s1 rfl rfl rfl (H.ev rfl) ?_; refine kp H rfl fun a H => ?_
                        refine pi_s1 rfl rfl rfl (H.ev rfl) ?_; refine kp H rfl fun a H => ?_
                        refine pi_s1 rfl rfl rfl (H.ev rfl) ?_; refine kp H rfl fun a H => ?_
                        refine pi_s1 rfl rfl rfl (H.ev rfl) ?_; refine kp H rfl fun a H => ?_
                        refine pi_s1 rfl rfl rfl (H.ev rfl) ?_; refine kp H rfl fun a H => ?_
                        refine pi_f0 _ rfl (fun w' hS' => r_pick_t (H.ev rfl) evc) ?_; refine kp H rfl fun a H => ?_
                        refine pi_f0 _ rfl (fun w' hS' => r_assign (H.ev rfl)) ?_; refine kp H rfl fun a H => ?_
                        refine pi_nil (NoPanic.normal ?_)
                        replace hx4 := Cx.up hx4 hS
                        replace hall := hall.trans (Below.mono hS hall.size)
                        clear hS
                        refine n_block ?_
                        refine c_next ?_
                        refine wp_region_lit ?_
                        refine wl_v _ (r_move (H.ev rfl)) ?_; refine kl H rfl fun a H => ?_
                        refine wl_v _ (r_add (q := ((j + 1 : Nat) : Int)) Try.underlying3 (H.ev rfl) evc (by omega) (by omega)) ?_; refine kl H rfl fun a H => ?_
                        refine wl_v _ (r_assign (H.ev rfl)) ?_; refine kl H rfl fun a H => ?_
                        refine wpList_nil ?_
                        refine n_then ⟨⟨j + 1, _, H.pick [1, 2, 5, 6, 9, 10, 11, 12, 13, 15, 16, 17, 18], by omega, in_true hsb HXR.out, hx4, hall⟩, ?_⟩
                        rw [H.ev (j := 18) rfl, H3.ev (j := 18) rfl]
                        simp only [intOf]
                        omega
                    · skip
                      obtain rfl : j = R.length := by omega
                      rw [List.take_length] at hsb
                      refine wp_seq ?_
                      refine wp_seq ?_
                      refine wp_region_lit ?_
                      refine wl_v _ (r_move (H.ev rfl)) ?_; refine kl H rfl fun a H => ?_
                      refine wl_v _ (r_move (H.ev rfl)) ?_; refine kl H rfl fun a H => ?_
                      refine wl_v _ (r_len Try.underlying25 (H.ev rfl)) ?_; refine kl H rfl fun a H => ?_
                      refine wl_v _ (r_lt Try.underlying3 (H.ev rfl) (H.ev rfl) (dec_f (by omega))) ?_; refine kl H rfl fun a H => ?_
                      refine wpList_nil ?_
                      refine c_next ?_
                      refine c_cond_f H rfl ?_
                      refine wp_exit ?_
                      refine e_then ?_
                      refine e_then ?_
                      refine e_here ?_
                      refine c_next ?_
                      refine wp_seq ?_
                      refine wp_seq ?_
                      refine wp_region_lit ?_
                      refine wl_v _ (r_assign evc) ?_; refine kl H rfl fun a H => ?_
                      refine wpList_nil ?_
                      refine c_next ?_
                      refine wp_block ?_
                      refine wp_loop (FaG w D b0 b1 b2 tm tt m2 (some ⟨bf, of_, none⟩) M c3 (some ⟨q, 0, none⟩) I c5 A9 M2 c9 (.slice (some ⟨br, orr, none⟩) R.length cr) lf (((L.length : Nat) : Int) - ((lf : Nat) : Int)) i k n y R) (fun a _ => I.length - (intOf (a.eval (.tmp 19))).toNat) ⟨0, sb, H.pick [1, 2, 5, 6, 9, 10, 11, 12, 13, 15, 16, 17, 19], by omega, by simpa using hsb, hx4, hall⟩ ?_
                      clear H hall hx4 hsb
                      rintro a w' ⟨j, sb, H, hj, hsb, hx4, hall⟩
                      have H4 := H
                      by_cases hlj : j < I.length
                      · skip
                        have hxr : I[j]? = some I[j] := List.getElem?_eq_getElem hlj
                        have HXJ := Lib.hid hxr
                        generalize I[j] = z at *
                        clear hxr
                        have H := H4
                        cases sb
                        · skip
                          refine wp_seq ?_
                          refine wp_seq ?_
                          refine wp_region_lit ?_
                          refine wl_v _ (r_move (H.ev rfl)) ?_; refine kl H rfl fun a H => ?_
                          refine wl_v _ (r_move (H.ev rfl)) ?_; refine kl H rfl fun a H => ?_
                          refine wl_v _ (r_len Try.underlying25 (H.ev rfl)) ?_; refine kl H rfl fun a H => ?_
                          refine wl_v _ (r_lt Try.underlying3 (H.ev rfl) (H.ev rfl) (dec_t (by omega))) ?_; refine kl H rfl fun a H => ?_
                          refine wpList_nil ?_
                          refine c_next ?_
                          refine c_cond_t H rfl ?_
                          refine wp_skip ?_
                          refine c_next ?_
                          refine wp_seq ?_
                          refine wp_block ?_
                          have hall36 := hall
                          have hS : BelowOf (BelowTo hall36) _ := Below.drew (Below.refl _ (BelowTo hall36))
                          refine region_pi (BelowOf (BelowTo hall36)) [(0, true), (1, true), (2, true), (3, true), (4, true), (5, true), (6, true), (7, true), (8, true), (9, true), (10, true), (11, true), (12, true), (13, true), (14, true)] (by kernel_rfl) (by kernel_rfl) rfl (by kernel_rfl) hS ?_
                          refine pi_f0 _ rfl (fun w' hS' => r_move (H.ev rfl)) ?_; refine kp H rfl fun a H => ?_
                          refine pi_f0 _ rfl (fun w' hS' => r_move (H.ev rfl)) ?_; refine kp H rfl fun a H => ?_
                          refine pi_s1 rfl rfl rfl (H.ev rfl) ?_; refine kp H rfl fun a H => ?_
                          refine pi_s1 rfl rfl rfl (H.ev rfl) ?_; refine kp H rfl fun a H => ?_
                          refine pi_s1 rfl rfl rfl (H.ev rfl) ?_; refine kp H rfl fun a H => ?_
                          refine pi_s1 rfl rfl rfl (H.ev rfl) ?_; refine kp H rfl fun a H => ?_
                          refine pi_s1 rfl rfl rfl (H.ev rfl) ?_; refine kp H rfl fun a H => ?_
                          refine pi_s1 rfl rfl rfl (H.ev rfl) ?_; refine kp H rfl fun a H => ?_
                          refine pi_s1 rfl rfl rfl (H.ev rfl) ?_; refine kp H rfl fun a H => ?_
                          refine pi_s1 rfl rfl rfl (H.ev rfl) ?_; refine kp H rfl fun a H => ?_
                          refine pi_s1 rfl rfl rfl (H.ev rfl) ?_; refine kp H rfl fun a H => ?_
                          refine pi_s1 rfl rfl rfl (H.ev rfl) ?_; refine kp H rfl fun a H => ?_
                          refine pi_s1 rfl rfl rfl (H.ev rfl) ?_; refine kp H rfl fun a H => ?_
                          refine pi_f0 _ rfl (fun w' hS' => r_pick_f (H.ev rfl) evc) ?_; refine kp H rfl fun a H => ?_
                          refine pi_f0 _ rfl (fun w' hS' => r_assign (H.ev rfl)) ?_; refine kp H rfl fun a H => ?_
                          refine pi_nil (NoPanic.normal ?_)
                          replace hx4 := Cx.up hx4 hS
                          replace hall := hall.trans (Below.mono hS hall.size)
                          clear hS
                          refine n_block ?_
                          refine c_next ?_
                          refine wp_region_lit ?_
                          refine wl_v _ (r_move (H.ev rfl)) ?_; refine kl H rfl fun a H => ?_
                          refine wl_v _ (r_add (q := ((j + 1 : Nat) : Int)) Try.underlying3 (H.ev rfl) evc (by omega) (by omega)) ?_; refine kl H rfl fun a H => ?_
                          refine wl_v _ (r_assign (H.ev rfl)) ?_; refine kl H rfl fun a H => ?_
                          refine wpList_nil ?_
                          refine n_then ⟨⟨j + 1, _, H.pick [1, 2, 5, 6, 9, 10, 11, 12, 13, 15, 16, 17, 19], by omega, out_false hsb HXJ.out, hx4, hall⟩, ?_⟩
                          rw [H.ev (j := 19) rfl, H4.ev (j := 19) rfl]
                          simp only [intOf]
                          omega
                        · skip
                          refine wp_seq ?_
                          refine wp_seq ?_
                          refine wp_region_lit ?_
                          refine wl_v _ (r_move (H.ev rfl)) ?_; refine kl H rfl fun a H => ?_
                          refine wl_v _ (r_move (H.ev rfl)) ?_; refine kl H rfl fun a H => ?_
                          refine wl_v _ (r_len Try.underlying25 (H.ev rfl)) ?_; refine kl H rfl fun a H => ?_
                          refine wl_v _ (r_lt Try.underlying3 (H.ev rfl) (H.ev rfl) (dec_t (by omega))) ?_; refine kl H rfl fun a H => ?_
                          refine wpList_nil ?_
                          refine c_next ?_
                          refine c_cond_t H rfl ?_
                          refine wp_skip ?_
                          refine c_next ?_
                          refine wp_seq ?_
                          refine wp_block ?_
                          have hall36 := hall
                          have hS : BelowOf (BelowTo hall36) _ := Below.drew (Below.refl _ (BelowTo hall36))
                          refine region_pi (BelowOf (BelowTo hall36)) [(0, true), (1, true), (2, true), (3, true), (4, true), (5, true), (6, true), (7, true), (8, true), (9, true), (10, true), (11, true), (12, true), (13, true), (14, true)] (by kernel_rfl) (by kernel_rfl) rfl (by kernel_rfl) hS ?_
                          refine pi_f0 _ rfl (fun w' hS' => r_move (H.ev rfl)) ?_; refine kp H rfl fun a H => ?_
                          refine pi_f0 _ rfl (fun w' hS' => r_move (H.ev rfl)) ?_; refine kp H rfl fun a H => ?_
                          refine pi_f1 _ rfl rfl rfl (H.ev rfl) (fun w' hS' => r_move (H.ev rfl)) ?_; refine kp H rfl fun a H => ?_
                          refine pi_f1 _ rfl rfl rfl (H.ev rfl) (fun w' hS' => r_move (H.ev rfl)) ?_; refine kp H rfl fun a H => ?_
                          refine pi_f1 _ rfl rfl rfl (H.ev rfl) (fun w' hS' => r_idx (j := j) (q := 0 + j) Try.underlying25 s3 (H.ev rfl) (H.ev rfl) (by omega) (by omega)) ?_; refine kp H rfl fun a H => ?_
                          refine pi_f1 _ rfl rfl rfl (H.ev rfl) (fun w' hS' => r_ld Try.underlying3 rfl (H.ev rfl) (own_cellI (Cx.up hx4 hS').2.2.2.2.2.1 rfl HXJ.out)) ?_; refine kp H rfl fun a H => ?_
                          refine pi_f1 _ rfl rfl rfl (H.ev rfl) (fun w' hS' => r_fld (q := 0) fld24_0 (H.ev rfl) rfl) ?_; refine kp H rfl fun a H => ?_
                          refine pi_f1 _ rfl rfl rfl (H.ev rfl) (fun w' hS' => r_ld Try.underlying22 rfl (H.ev rfl) ((Block.cell ((Cx.up hx4 hS').1) 0).trans rfl)) ?_; refine kp H rfl fun a H => ?_
                          refine pi_f1 _ rfl rfl rfl (H.ev rfl) (fun w' hS' => r_move (H.ev rfl)) ?_; refine kp H rfl fun a H => ?_
                          refine pi_f1 _ rfl rfl rfl (H.ev rfl) (fun w' hS' => r_idx (j := n) (q := of_ + n * 2) Try.underlying22 s29 (H.ev rfl) (H.ev rfl) (by omega) rfl) ?_; refine kp H rfl fun a H => ?_
                          refine pi_f1 _ rfl rfl rfl (H.ev rfl) (fun w' hS' => r_fld (q := of_ + n * 2) fld29_0 (H.ev rfl) rfl) ?_; refine kp H rfl fun a H => ?_
                          refine pi_f1 _ rfl rfl rfl (H.ev rfl) (fun w' hS' => r_ld Try.underlying3 rfl (H.ev rfl) (range_cell (frow_rng (Cx.up hx4 hS').2.2.2.1 HYN.out) 0 rfl)) ?_; refine kp H rfl fun a H => ?_
                          by_cases hcc8 : z ≠ y.1
                          · skip
                            refine pi_f1 _ rfl rfl rfl (H.ev rfl) (fun w' hS' => r_ne Try.underlying3 (H.ev rfl) (H.ev rfl) (dec_t (hcc8))) ?_; refine kp H rfl fun a H => ?_
                            refine pi_f0 _ rfl (fun w' hS' => r_pick_t (H.ev rfl) (H.ev rfl)) ?_; refine kp H rfl fun a H => ?_
                            refine pi_f0 _ rfl (fun w' hS' => r_assign (H.ev rfl)) ?_; refine kp H rfl fun a H => ?_
                            refine pi_nil (NoPanic.normal ?_)
                            replace hx4 := Cx.up hx4 hS
                            replace hall := hall.trans (Below.mono hS hall.size)
                            clear hS
                            refine n_block ?_
                            refine c_next ?_
                            refine wp_region_lit ?_
                            refine wl_v _ (r_move (H.ev rfl)) ?_; refine kl H rfl fun a H => ?_
                            refine wl_v _ (r_add (q := ((j + 1 : Nat) : Int)) Try.underlying3 (H.ev rfl) evc (by omega) (by omega)) ?_; refine kl H rfl fun a H => ?_
                            refine wl_v _ (r_assign (H.ev rfl)) ?_; refine kl H rfl fun a H => ?_
                            refine wpList_nil ?_
                            refine n_then ⟨⟨j + 1, _, H.pick [1, 2, 5, 6, 9, 10, 11, 12, 13, 15, 16, 17, 19], by omega, out_true hsb HXJ.out (by omega), hx4, hall⟩, ?_⟩
                            rw [H.ev (j := 19) rfl, H4.ev (j := 19) rfl]
                            simp only [intOf]
                            omega
                          · skip
                            refine pi_f1 _ rfl rfl rfl (H.ev rfl) (fun w' hS' => r_ne Try.underlying3 (H.ev rfl) (H.ev rfl) (dec_f (hcc8))) ?_; refine kp H rfl fun a H => ?_
                            refine pi_f0 _ rfl (fun w' hS' => r_pick_t (H.ev rfl) (H.ev rfl)) ?_; refine kp H rfl fun a H => ?_
                            refine pi_f0 _ rfl (fun w' hS' => r_assign (H.ev rfl)) ?_; refine kp H rfl fun a H => ?_
                            refine pi_nil (NoPanic.normal ?_)
                            replace hx4 := Cx.up hx4 hS
                            replace hall := hall.trans (Below.mono hS hall.size)
                            clear hS
                            refine n_block ?_
                            refine c_next ?_
                            refine wp_region_lit ?_
                            refine wl_v _ (r_move (H.ev rfl)) ?_; refine kl H rfl fun a H => ?_
                            refine wl_v _ (r_add (q := ((j + 1 : Nat) : Int)) Try.underlying3 (H.ev rfl) evc (by omega) (by omega)) ?_; refine kl H rfl fun a H => ?_
                            refine wl_v _ (r_assign (H.ev rfl)) ?_; refine kl H rfl fun a H => ?_
                            refine wpList_nil ?_
                            refine n_then ⟨⟨j + 1, _, H.pick [1, 2, 5, 6, 9, 10, 11, 12, 13, 15, 16, 17, 19], by omega, out_here HXJ.out (by omega), hx4, hall⟩, ?_⟩
                            rw [H.ev (j := 19) rfl, H4.ev (j := 19) rfl]
                            simp only [intOf]
                            omega
                      · skip
                        obtain rfl : j = I.length := by omega
                        rw [List.take_length] at hsb
                        obtain rfl : sb = false := by cases sb with | false => rfl | true => exact absurd (hin2.out y (List.mem_of_getElem? HYN.out) (hsb.1 rfl).1) (hsb.1 rfl).2
                        refine wp_seq ?_
                        refine wp_seq ?_
                        refine wp_region_lit ?_
                        refine wl_v _ (r_move (H.ev rfl)) ?_; refine kl H rfl fun a H => ?_
                        refine wl_v _ (r_move (H.ev rfl)) ?_; refine kl H rfl fun a H => ?_
                        refine wl_v _ (r_len Try.underlying25 (H.ev rfl)) ?_; refine kl H rfl fun a H => ?_
                        refine wl_v _ (r_lt Try.underlying3 (H.ev rfl) (H.ev rfl) (dec_f (by omega))) ?_; refine kl H rfl fun a H => ?_
                        refine wpList_nil ?_
                        refine c_next ?_
                        refine c_cond_f H rfl ?_
                        refine wp_exit ?_
                        refine e_then ?_
                        refine e_then ?_
                        refine e_here ?_
                        refine c_next ?_
                        refine wp_seq ?_
                        refine wp_region_lit ?_
                        refine wl_v _ (r_move (H.ev rfl)) ?_; refine kl H rfl fun a H => ?_
                        refine wpList_nil ?_
                        refine c_next ?_
                        refine c_cond_f H rfl ?_
                        refine wp_skip ?_
                        refine n_block ?_
                        refine c_next ?_
                        refine wp_region_lit ?_
                        refine wl_v _ (r_move (H.ev rfl)) ?_; refine kl H rfl fun a H => ?_
                        refine wl_v _ (r_add (q := ((n + 1 : Nat) : Int)) Try.underlying3 (H.ev rfl) evc (by omega) (by omega)) ?_; refine kl H rfl fun a H => ?_
                        refine wl_v _ (r_assign (H.ev rfl)) ?_; refine kl H rfl fun a H => ?_
                        refine wpList_nil ?_
                        refine n_then ⟨⟨n + 1, H.pick [1, 2, 5, 6, 9, 10, 11, 12, 13, 15, 16], by omega, hx4, hall⟩, ?_⟩
                        rw [H.ev (j := 16) rfl, H2.ev (j := 16) rfl]
                        simp only [intOf]
                        omega
                  · skip
                    obtain rfl : n = M.length := by omega
                    refine wp_seq ?_
                    refine wp_seq ?_
                    refine wp_region_lit ?_
                    refine wl_v _ (r_move (H.ev rfl)) ?_; refine kl H rfl fun a H => ?_
                    refine wl_v _ (r_fld (q := 0) fld24_0 (H.ev rfl) rfl) ?_; refine kl H rfl fun a H => ?_
                    refine wl_v _ (r_ld Try.underlying22 rfl (H.ev rfl) ((Block.cell ((hx4).1) 0).trans rfl)) ?_; refine kl H rfl fun a H => ?_
                    refine wl_v _ (r_len Try.underlying22 (H.ev rfl)) ?_; refine kl H rfl fun a H => ?_
                    refine wl_v _ (r_lt Try.underlying3 (H.ev rfl) (H.ev rfl) (dec_f (by omega))) ?_; refine kl H rfl fun a H => ?_
                    refine wpList_nil ?_
                    refine c_next ?_
                    refine c_cond_f H rfl ?_
                    refine wp_exit ?_
                    refine e_then ?_
                    refine e_then ?_
                    refine e_here ?_
                    refine c_next ?_
                    refine wp_seq ?_
                    refine wp_region_lit ?_
                    refine wl_v _ (r_assign evc) ?_; refine kl H rfl fun a H => ?_
                    refine wpList_nil ?_
                    refine c_next ?_
                    refine wp_exit ?_
                    refine e_pass rfl ?_
                    refine e_then ?_
                    refine e_then ?_
                    refine e_here ?_
                    refine c_next ?_
                    refine wp_seq ?_
                    obtain ⟨k0, k1, k2, hf, hf2, hr, hDs⟩ := hx4
                    clear hr
                    have hr := nil_row (D := D) k0
                    have hdis3 := dis_nil (A := A9) (M := M2) (n := ([] : List Int).length) (c := 0)
                    have hFI2 := Lib.hid (hreset.out htI)
                    clear hf
                    refine wp_region_lit ?_
                    refine wl_v _ (r_move (H.ev rfl)) ?_; refine kl H rfl fun a H => ?_
                    refine wl_v _ (r_fld (q := 0) fld29_0 (H.ev rfl) rfl) ?_; refine kl H rfl fun a H => ?_
                    refine wl_v _ (r_ld Try.underlying3 rfl (H.ev rfl) ((Block.cell k2 0).trans rfl)) ?_; refine kl H rfl fun a H => ?_
                    refine op_litv 25 1 #[(0, .int .i64 tt)] 3 #[.int .i64 tt] (by simp [evc, H.ev (j := 169) rfl]) (fun w => by kernel_rfl) fun w3 b3 hge hb k3 => ?_; have g3 := Nat.le_trans hall.size hge; have d0_3 : b0 < b3 := Nat.lt_of_lt_of_le k0.lt hge; have d1_3 : b1 < b3 := Nat.lt_of_lt_of_le k1.lt hge; have d2_3 : b2 < b3 := Nat.lt_of_lt_of_le k2.lt hge; have hqhf2_3 := FRow.lt hf2 hge; have hqr_3 := own_ltI hr hge; replace k0 := Block.ups k0 hb; replace k1 := Block.ups k1 hb; replace k2 := Block.ups k2 hb; replace hf2 := FRow.up hf2 hb; replace hDs := le_up hDs hb; replace hr := own_ups hr hb; replace hall := hall.trans (hb.mono hall.size); clear hb; clear hge; refine kl H rfl fun a H => ?_
                    have hqr9 := own_ltI hr (Nat.le_refl _); refine op_append 25 3 (.tmp 167) (.tmp 170) D (.int .i64 0) 1 8 _ _ _ (some ⟨b3, 0, none⟩) 1 1 [.int .i64 tt] (H.ev rfl) (H.ev rfl) Try.underlying25 i3 rfl (by omega) hr rfl (Block.holds k3) (one_list tt) (by unfold maxLen; first | omega | (simp only [List.length_nil]; omega)) (by first | omega | (simp only [List.length_nil]; omega)) hDs fun o2 w9 hown2 hg9 hv9 hb2 => ?_; have hr9 := ids_app hown2; have hf3 := FRow.app hf2 hdis3 hg9; have hdis4 := dis_app hdis3 hf2 hv9; replace k0 := Block.grown k0 hg9 (ne_own hr (by omega)); replace k1 := Block.grown k1 hg9 (ne_dif (fun q hq => by cases hq)); replace hall := hall.trans (hb2.mono hDW); replace hDs := le_up hDs hb2; clear hr hf2 hdis3 hown2 hg9 hv9 hb2 k3 k2 hqr9; have hf2 := hf3; have hr := hr9; have hdis3 := hdis4; clear hf3 hr9 hdis4; obtain ⟨A7, c7, rfl⟩ := own_sliceI hr; refine kl H rfl fun a H => ?_
                    refine wl_v _ (r_assign (H.ev rfl)) ?_; refine kl H rfl fun a H => ?_
                    refine wpList_nil ?_
                    refine c_next ?_
                    refine wp_region_lit ?_
                    refine wl_v _ (r_row (cs := [.slice A9 M2.length c9, .int .i64 tt]) (H.ev rfl) (block_range k1) (by kernel_rfl) s24 rfl) ?_; refine kl H rfl fun a H => ?_
                    refine op_store1 24 (.tmp 2) (.tmp 172) b0 0 24 (.agg #[.slice A9 M2.length c9, .int .i64 tt]) _ (H.ev rfl) (H.ev rfl) k0 s24 (by simp [Value.cells]) (by simp [Value.cells, Value.oneCell']) fun w' hb ho kq => ?_; clear k0; have k0 : Block _ b0 24 #[.slice A9 M2.length c9, .int .i64 tt] := kq; clear kq; replace hf2 := FRow.st hf2 (hb 0 (Nat.zero_le _)) ho; replace hr := own_block hr (fun q hq => ho _ (fun e => by have := (hr.lt q hq).1; omega)); replace hDs := le_up hDs (hb 0 (Nat.zero_le _)); replace k1 := block_same k1 (ho _ (by omega)); replace hall := hall.trans (hb _ g0); clear hb ho; refine kl0 H fun a H => ?_
                    refine wpList_nil ?_
                    refine n_block ?_
                    refine c_next ?_
                    refine wp_region_lit ?_
                    refine wl_v _ (r_move (H.ev rfl)) ?_; refine kl H rfl fun a H => ?_
                    refine wl_v _ (r_add (q := ((i + 1 : Nat) : Int)) Try.underlying3 (H.ev rfl) evc (by omega) (by omega)) ?_; refine kl H rfl fun a H => ?_
                    refine wl_v _ (r_assign (H.ev rfl)) ?_; refine kl H rfl fun a H => ?_
                    refine wpList_nil ?_
                    refine n_then ⟨⟨i + 1, M2, tt, _, _, [tt], _, _, H.pick [1, 2, 5, 6, 9, 10, 11], by omega, hFI2.out, k0, hf2, hr, dis_val hdis3, hDs, hall⟩, ?_⟩
                    rw [H.ev (j := 11) rfl, H0.ev (j := 11) rfl]
                    simp only [intOf]
                    omega
              · skip
                obtain rfl : k = I.length := by omega
                have hnI := noi_mem hno
                refine wp_seq ?_
                refine wp_seq ?_
                refine wp_region_lit ?_
                refine wl_v _ (r_move (H.ev rfl)) ?_; refine kl H rfl fun a H => ?_
                refine wl_v _ (r_move (H.ev rfl)) ?_; refine kl H rfl fun a H => ?_
                refine wl_v _ (r_len Try.underlying25 (H.ev rfl)) ?_; refine kl H rfl fun a H => ?_
                refine wl_v _ (r_lt Try.underlying3 (H.ev rfl) (H.ev rfl) (dec_f (by omega))) ?_; refine kl H rfl fun a H => ?_
                refine wpList_nil ?_
                refine c_next ?_
                refine c_cond_f H rfl ?_
                refine wp_exit ?_
                refine e_then ?_
                refine e_then ?_
                refine e_here ?_
                refine c_next ?_
                refine wp_seq ?_
                obtain ⟨k0, k1, k2, hf, hf2, hr, hDs⟩ := hx4
                have hdis3 := hdis2
                have hFI2 := Lib.hid (hgo.out hnI)
                clear hf
                refine wp_region_lit ?_
                refine wl_v _ (r_move (H.ev rfl)) ?_; refine kl H rfl fun a H => ?_
                refine wl_v _ (r_fld (q := 0) fld29_0 (H.ev rfl) rfl) ?_; refine kl H rfl fun a H => ?_
                refine wl_v _ (r_ld Try.underlying3 rfl (H.ev rfl) ((Block.cell k2 0).trans rfl)) ?_; refine kl H rfl fun a H => ?_
                refine op_litv 25 1 #[(0, .int .i64 tt)] 3 #[.int .i64 tt] (by simp [evc, H.ev (j := 169) rfl]) (fun w => by kernel_rfl) fun w4 b4 hge hb k4 => ?_; have g4 := Nat.le_trans hall.size hge; have d0_4 : b0 < b4 := Nat.lt_of_lt_of_le k0.lt hge; have d1_4 : b1 < b4 := Nat.lt_of_lt_of_le k1.lt hge; have d2_4 : b2 < b4 := Nat.lt_of_lt_of_le k2.lt hge; have hqhf2_4 := FRow.lt hf2 hge; have hqr_4 := own_ltI hr hge; replace k0 := Block.ups k0 hb; replace k1 := Block.ups k1 hb; replace k2 := Block.ups k2 hb; replace hf2 := FRow.up hf2 hb; replace hDs := le_up hDs hb; replace hr := own_ups hr hb; replace hall := hall.trans (hb.mono hall.size); clear hb; clear hge; refine kl H rfl fun a H => ?_
                have hqr9 := own_ltI hr (Nat.le_refl _); refine op_append 25 3 (.tmp 167) (.tmp 170) D (.int .i64 0) 1 8 _ _ _ (some ⟨b4, 0, none⟩) 1 1 [.int .i64 tt] (H.ev rfl) (H.ev rfl) Try.underlying25 i3 rfl (by omega) hr rfl (Block.holds k4) (one_list tt) (by unfold maxLen; first | omega | (simp only [List.length_nil]; omega)) (by first | omega | (simp only [List.length_nil]; omega)) hDs fun o2 w9 hown2 hg9 hv9 hb2 => ?_; have hr9 := ids_app hown2; have hf3 := FRow.app hf2 hdis3 hg9; have hdis4 := dis_app hdis3 hf2 hv9; replace k0 := Block.grown k0 hg9 (ne_own hr (by omega)); replace k1 := Block.grown k1 hg9 (ne_dif (fun q hq => by have := hqr_1 q hq; omega)); replace hall := hall.trans (hb2.mono hDW); replace hDs := le_up hDs hb2; clear hr hf2 hdis3 hown2 hg9 hv9 hb2 k4 k2 hqr9; have hf2 := hf3; have hr := hr9; have hdis3 := hdis4; clear hf3 hr9 hdis4; obtain ⟨A7, c7, rfl⟩ := own_sliceI hr; refine kl H rfl fun a H => ?_
                refine wl_v _ (r_assign (H.ev rfl)) ?_; refine kl H rfl fun a H => ?_
                refine wpList_nil ?_
                refine c_next ?_
                refine wp_region_lit ?_
                refine wl_v _ (r_row (cs := [.slice A9 M2.length c9, .int .i64 tt]) (H.ev rfl) (block_range k1) (by kernel_rfl) s24 rfl) ?_; refine kl H rfl fun a H => ?_
                refine op_store1 24 (.tmp 2) (.tmp 172) b0 0 24 (.agg #[.slice A9 M2.length c9, .int .i64 tt]) _ (H.ev rfl) (H.ev rfl) k0 s24 (by simp [Value.cells]) (by simp [Value.cells, Value.oneCell']) fun w' hb ho kq => ?_; clear k0; have k0 : Block _ b0 24 #[.slice A9 M2.length c9, .int .i64 tt] := kq; clear kq; replace hf2 := FRow.st hf2 (hb 0 (Nat.zero_le _)) ho; replace hr := own_block hr (fun q hq => ho _ (fun e => by have := (hr.lt q hq).1; omega)); replace hDs := le_up hDs (hb 0 (Nat.zero_le _)); replace k1 := block_same k1 (ho _ (by omega)); replace hall := hall.trans (hb _ g0); clear hb ho; refine kl0 H fun a H => ?_
                refine wpList_nil ?_
                refine n_block ?_
                refine c_next ?_
                refine wp_region_lit ?_
                refine wl_v _ (r_move (H.ev rfl)) ?_; refine kl H rfl fun a H => ?_
                refine wl_v _ (r_add (q := ((i + 1 : Nat) : Int)) Try.underlying3 (H.ev rfl) evc (by omega) (by omega)) ?_; refine kl H rfl fun a H => ?_
                refine wl_v _ (r_assign (H.ev rfl)) ?_; refine kl H rfl fun a H => ?_
                refine wpList_nil ?_
                refine n_then ⟨⟨i + 1, M2, tt, _, _, (I ++ [tt]), _, _, H.pick [1, 2, 5, 6, 9, 10, 11], by omega, hFI2.out, k0, hf2, hr, dis_val hdis3, hDs, hall⟩, ?_⟩
                rw [H.ev (j := 11) rfl, H0.ev (j := 11) rfl]
                simp only [intOf]
                omega
          · skip
            obtain rfl : lf = i := by omega
            have hfe := fair_end hFI.out
            have hfe1 := Lib.hid hfe.1
            refine wp_seq ?_
            refine wp_seq ?_
            refine wp_region_lit ?_
            refine wl_v _ (r_move (H.ev rfl)) ?_; refine kl H rfl fun a H => ?_
            refine wl_v _ (r_move (H.ev rfl)) ?_; refine kl H rfl fun a H => ?_
            refine wl_v _ (r_lt Try.underlying3 (H.ev rfl) (H.ev rfl) (dec_f (by omega))) ?_; refine kl H rfl fun a H => ?_
            refine wpList_nil ?_
            refine c_next ?_
            refine c_cond_f H rfl ?_
            refine wp_exit ?_
            refine e_then ?_
            refine e_then ?_
            refine e_here ?_
            refine c_next ?_
            refine wp_seq ?_
            refine wp_region_lit ?_
            refine wl_v _ (r_row (cs := [.slice A3 M.length c3, .int .i64 tm]) (H.ev rfl) (block_range k0) (by kernel_rfl) s24 rfl) ?_; refine kl H rfl fun a H => ?_
            refine wl_v _ (r_move (H.ev rfl)) ?_; refine kl H rfl fun a H => ?_
            refine wl_call _ _ _ (next_lit _ tm _ _ M R M M.length tm 0 0 false (next_no hfe1.out) rfl hf.1 (IRow.up hR.out hall) (by omega) (by omega) htm (mwf_max hFI.out.wf)) (r_call2 cf9 (H.ev rfl) (H.ev rfl)) ?_; rintro e w9 ⟨⟨A9, c9, rfl, ho9⟩, hb⟩; refine ⟨_, rfl, ?_⟩; have hlt9 := k0.lt; replace k0 := Block.ups k0 hb; replace hf := FRow.up hf hb; replace hr := own_ups hr hb; replace hDs := le_up hDs hb; replace hall := hall.trans (hb.mono hall.size); clear hb; have hf2 := FRow.own ho9 hlt9; clear ho9 hlt9; refine kl H rfl fun a H => ?_
            refine wl_v _ (r_move (H.ev rfl)) ?_; refine kl H rfl fun a H => ?_
            refine wl_v _ (r_extract (v := .agg #[.slice A9 M.length c9, .int .i64 tm]) (H.ev rfl) rfl) ?_; refine kl H rfl fun a H => ?_
            refine wl_v _ (r_extract (v := .agg #[.int .i64 0, .int .i64 0]) (H.ev rfl) rfl) ?_; refine kl H rfl fun a H => ?_
            refine wl_v _ (r_extract (v := .bool false) (H.ev rfl) rfl) ?_; refine kl H rfl fun a H => ?_
            refine op_alloc 24 #[.slice none 0 0, .int .i64 0] z24 fun w5 b5 hge hb k5 => ?_; have g5 := Nat.le_trans hall.size hge; have d0_5 : b0 < b5 := Nat.lt_of_lt_of_le k0.lt hge; have hqhf_5 := FRow.lt hf hge; have hqhf2_5 := FRow.lt hf2 hge; have hqr_5 := own_ltI hr hge; replace k0 := Block.ups k0 hb; replace hf := FRow.up hf hb; replace hr := own_ups hr hb; replace hDs := le_up hDs hb; replace hf2 := FRow.up hf2 hb; replace hall := hall.trans (hb.mono hall.size); clear hb; clear hge; refine kl H rfl fun a H => ?_
            refine op_alloc 29 #[.int .i64 0, .int .i64 0] z29 fun w6 b6 hge hb k6 => ?_; have g6 := Nat.le_trans hall.size hge; have d0_6 : b0 < b6 := Nat.lt_of_lt_of_le k0.lt hge; have d5_6 : b5 < b6 := Nat.lt_of_lt_of_le k5.lt hge; have hqhf_6 := FRow.lt hf hge; have hqhf2_6 := FRow.lt hf2 hge; have hqr_6 := own_ltI hr hge; replace k0 := Block.ups k0 hb; replace hf := FRow.up hf hb; replace hr := own_ups hr hb; replace hDs := le_up hDs hb; replace hf2 := FRow.up hf2 hb; replace k5 := Block.ups k5 hb; replace hall := hall.trans (hb.mono hall.size); clear hb; clear hge; refine kl H rfl fun a H => ?_
            refine op_store1 24 (.tmp 20) (.tmp 177) b5 0 24 (.agg #[.slice A9 M.length c9, .int .i64 tm]) _ (H.ev rfl) (H.ev rfl) k5 s24 (by simp [Value.cells]) (by simp [Value.cells, Value.oneCell']) fun w' hb ho kq => ?_; clear k5; have k5 : Block _ b5 24 #[.slice A9 M.length c9, .int .i64 tm] := kq; clear kq; replace hf := FRow.far hf hqhf_5 (hb _ (Nat.le_refl _)); replace hf2 := FRow.far hf2 hqhf2_5 (hb _ (Nat.le_refl _)); replace k0 := block_same k0 (ho _ (by omega)); replace hr := own_block hr (fun q hq => ho _ (fun e => by have := hqr_5 q hq; omega)); replace hDs := le_up hDs (hb 0 (Nat.zero_le _)); replace k6 := block_same k6 (ho _ (by omega)); replace hall := hall.trans (hb _ g5); clear hb ho; refine kl0 H fun a H => ?_
            refine op_store1 29 (.tmp 21) (.tmp 178) b6 0 29 (.agg #[.int .i64 0, .int .i64 0]) _ (H.ev rfl) (H.ev rfl) k6 s29 (by simp [Value.cells]) (ints_one [0, 0]) fun w' hb ho kq => ?_; clear k6; have k6 : Block _ b6 29 #[.int .i64 0, .int .i64 0] := kq; clear kq; replace hf := FRow.far hf hqhf_6 (hb _ (Nat.le_refl _)); replace hf2 := FRow.far hf2 hqhf2_6 (hb _ (Nat.le_refl _)); replace k0 := block_same k0 (ho _ (by omega)); replace hr := own_block hr (fun q hq => ho _ (fun e => by have := hqr_6 q hq; omega)); replace hDs := le_up hDs (hb 0 (Nat.zero_le _)); replace k5 := block_same k5 (ho _ (by omega)); replace hall := hall.trans (hb _ g6); clear hb ho; refine kl0 H fun a H => ?_
            refine wl_v _ (r_assign (H.ev rfl)) ?_; refine kl H rfl fun a H => ?_
            refine wpList_nil ?_
            refine c_next ?_
            refine wp_seq ?_
            refine wp_region_lit ?_
            refine wl_v _ (r_move (H.ev rfl)) ?_; refine kl H rfl fun a H => ?_
            refine wl_v _ (r_move (H.ev rfl)) ?_; refine kl H rfl fun a H => ?_
            refine op_unguard _ _ (kg_yes rfl H rfl rfl rfl) ?_; refine wl_v _ (r_move (H.ev rfl)) ?_; refine kl H rfl fun a H => ?_
            refine op_unguard _ _ (kg_yes rfl H rfl rfl rfl) ?_; refine wl_v _ (r_not (H.ev rfl) rfl) ?_; refine kl H rfl fun a H => ?_
            refine wl_v _ (r_pick_t (H.ev rfl) (H.ev rfl)) ?_; refine kl H rfl fun a H => ?_
            refine wl_v _ (r_move (H.ev rfl)) ?_; refine kl H rfl fun a H => ?_
            refine op_unguard _ _ (kg_yes rfl H rfl rfl rfl) ?_; refine wl_v _ (r_fld (q := 0) fld24_0 (H.ev rfl) rfl) ?_; refine kl H rfl fun a H => ?_
            refine op_unguard _ _ (kg_yes rfl H rfl rfl rfl) ?_; refine wl_v _ (r_ld Try.underlying22 rfl (H.ev rfl) ((Block.cell k0 0).trans rfl)) ?_; refine kl H rfl fun a H => ?_
            refine op_unguard _ _ (kg_yes rfl H rfl rfl rfl) ?_; refine wl_v _ (r_len Try.underlying22 (H.ev rfl)) ?_; refine kl H rfl fun a H => ?_
            refine op_unguard _ _ (kg_yes rfl H rfl rfl rfl) ?_; refine wl_v _ (r_move (H.ev rfl)) ?_; refine kl H rfl fun a H => ?_
            by_cases hcc9 : ((M.length : Nat) : Int) = (((L.length : Nat) : Int) - ((lf : Nat) : Int))
            · skip
              refine op_unguard _ _ (kg_yes rfl H rfl rfl rfl) ?_; refine wl_v _ (r_eq Try.underlying3 (H.ev rfl) (H.ev rfl) (dec_t (hcc9))) ?_; refine kl H rfl fun a H => ?_
              refine wl_v _ (r_pick_t (H.ev rfl) (H.ev rfl)) ?_; refine kl H rfl fun a H => ?_
              refine wl_v _ (r_assign (H.ev rfl)) ?_; refine kl H rfl fun a H => ?_
              refine wpList_nil ?_
              refine c_next ?_
              refine wp_ret ?_
              exact k_ret1 H rfl rfl ⟨rfl, hall⟩
            · skip
              refine op_unguard _ _ (kg_yes rfl H rfl rfl rfl) ?_; refine wl_v _ (r_eq Try.underlying3 (H.ev rfl) (H.ev rfl) (dec_f (hcc9))) ?_; refine kl H rfl fun a H => ?_
              refine wl_v _ (r_pick_t (H.ev rfl) (H.ev rfl)) ?_; refine kl H rfl fun a H => ?_
              refine wl_v _ (r_assign (H.ev rfl)) ?_; refine kl H rfl fun a H => ?_
              refine wpList_nil ?_
              refine c_next ?_
              refine wp_ret ?_
              exfalso; omega
theorem fair_all (w : World) (m0 : Int) (A0 : Option Addr) (n0 c0 : Nat) (L0 : List Int) (A1 : Option Addr) (n1 c1 : Nat) (L1 : List Int) (hm0 : (Lit.int .i64 m0).wf = true) (hn0 : L0.length = n0 * 2) (hw0 : WF L0) (hnc0 : n0 ≤ c0) (hcm0 : c0 ≤ maxLen) (hh0 : Holds w A0 (L0.map (Value.int .i64))) (hz0 : A0 = none → c0 = 0) (hb : n0 ≤ 9223372036854775807) (hn1 : L1.length = n1 * 1) (hnc1 : n1 ≤ c1) (hcm1 : c1 ≤ maxLen) (hh1 : Holds w A1 (L1.map (Value.int .i64))) (hz1 : A1 = none → c1 = 0) (hb1 : n1 ≤ 9223372036854775807) :
    Calls Try.prog 3 #[.agg #[.slice A0 n0 c0, .int .i64 m0], .slice A1 n1 c1] w fun e w' => e = .returned (.bool true) ∧ Below w.heap.size w w' := by
  obtain ⟨L, h, rfl, hw⟩ := mrow_in hn0 hw0 hnc0 hcm0 hh0 hz0
  obtain rfl : L1.length = n1 := by omega
  exact fair_walk w m0 _ _ L L1 h ⟨A1, c1, rfl, hnc1, hcm1, hz1, hh1⟩ hb hb1 hw (wf_int hm0)
theorem fanoutFair_it1 : intTy Try.prog 1 3 = true := by kernel_rfl
theorem fanoutFair_c1 : Try.prog.cellsOf 3 = 1 := by kernel_rfl
set_option maxRecDepth 100000 in
theorem fanoutFair_lifted (os : Os) (started : os.Started) (H : Type) (enc : TypeId × Value → H) :
    ReturnsInHanded {} Try.checked os 3 .any (Rows.fanoutFairSpec.pre6 enc Try.prog Try.f3 Rows.fanoutFairRow.domain false) (Rows.fanoutFairSpec.post enc Try.prog Try.f3 false true false false) := by
  refine returnsInHanded_of_change (C := Try.checked) own started (by kernel_rfl) Try.func3
    (ChangeSpec.witness6 (enc := enc) (C := Try.checked) false ⟨#[], #[.agg #[.slice none 0 0, .int .i64 0], .slice none 0 0], []⟩ 8 (by kernel_rfl) (by kernel_rfl) (by kernel_rfl) (by kernel_rfl)) ?_
  intro W base args ds gs before hval0 hW hcnd _
  have hval : ∀ (j : Nat) t v, Try.f3.params[j]? = some t → args[j]? = some v → Value.okWide Try.prog W .any base t v := hval0
  have hW' := hW
  obtain ⟨p, q, hA0, hV, rfl, hfz, hnd⟩ := hW
  have hA : DataW.TrodAll enc Try.prog W 0 (fun _ => true) true Try.f3.params.toList args.toList ds p := hA0
  rw [Try.params3] at hA hval
  obtain ⟨v0, vs0, d0, ds0, p0, q0, hargs, rfl, rfl, h0, r0⟩ := trodAll_cons hA
  obtain ⟨v1, vs1, d1, ds1, p1, q1, rfl, rfl, rfl, h1, r1⟩ := trodAll_cons r0
  obtain ⟨rfl, rfl, rfl⟩ := trodAll_nil r1
  obtain rfl : args = #[v0, v1] := by cases args; simp_all
  obtain ⟨rfl, rfl⟩ := trodVars_none hV
  have k0 := h0
  have lt0 : ∀ x ∈ p0, x.block < W.heap.size := by obtain ⟨m, hm⟩ := k0; exact DataW.trod_lt m _ _ _ hm
  have k1 := h1
  have lt1 : ∀ x ∈ p1, x.block < W.heap.size := by obtain ⟨m, hm⟩ := k1; exact DataW.trod_lt m _ _ _ hm
  obtain ⟨m0, A0, n0, c0, L0, rfl, hm0, hn0, hw0, hnc0, hcm0, hh0, hz0⟩ := open_si 2 2 Try.underlying24 rfl rfl Try.underlying3 co3 rfl rfl co22 co24 Try.underlying22 it29 co29 (by omega) (hval 0 24 v0 rfl rfl) h0
  have hb0 : n0 ≤ 9223372036854775807 := by unfold maxLen at hcm0; omega
  obtain ⟨A1, n1, c1, L1, rfl, hn1, hw1, hnc1, hcm1, hh1, hz1⟩ := open_slice_ints 1 1 Try.underlying25 fanoutFair_it1 fanoutFair_c1 (by omega) (hval 1 25 v1 rfl rfl) h1
  have hb1 : n1 ≤ 9223372036854775807 := by unfold maxLen at hcm1; omega
  clear hA0 hval0
  refine (fair_all W m0 A0 n0 c0 L0 A1 n1 c1 L1 hm0 hn0 hw0 hnc0 hcm0 hh0 hz0 hb0 hn1 hnc1 hcm1 hh1 hz1 hb1).mono fun e W' ⟨he, bel⟩ => ?_
  subst he
  exact ⟨_, rfl, _, _, _, [], _, [], hW', trodAll_mk1 (shut_bool Try.underlying4 _), (trodAll_cons_mk (Below.trod laidOut (by kernel_rfl) (of_decide_eq_true (by kernel_rfl)) k0 bel lt0) (trodAll_cons_mk (Below.trod laidOut (by kernel_rfl) (of_decide_eq_true (by kernel_rfl)) k1 bel lt1) trodAll_mk0)), rfl, bel.frame _, fun h => by cases h⟩

theorem fanoutFair_holds : Rows.FanoutFairSaid :=
  OpenClaim.holds_of_wide 3 Try.f3 rfl rfl rfl rfl rfl rfl rfl ⟨rfl, rfl, rfl, rfl, rfl⟩ rfl rfl rfl rfl rfl (by kernel_rfl) Try.func3 (by kernel_rfl)
    (of_decide_eq_true (by kernel_rfl)) (by unfold Func.isWrapper; first | (rw [if_pos (by decide +kernel)]; kernel_rfl) | (rw [if_neg (by decide +kernel)]; exact ⟨rfl, rfl⟩))
    (fun os started H enc _ => fanoutFair_lifted os started H enc)
#print axioms fanoutFair_holds
end Go.Proofs.Ytpegfbdepgmbjaa
