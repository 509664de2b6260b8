/- The document's ghost: Had whole, Fine, Look. -/
import Derived.Test.YtbpepkpjjfhmpaaD1
import Derived.Test.YtbpepkpjjfhmpaaPt
namespace Go.Proofs.Ytbpepkpjjfhmpaa
open Go.RowKit Go.Maps
set_option linter.unusedVariables false
set_option linter.unusedSimpArgs false

theorem RRow.far {w w' : World} {r : Nat} {v : Value} {V : List Nt} (h : RRow w r v V) (ho : ∀ g', g' ≠ r → w'.heap[g']? = w.heap[g']?) (hsz : w.heap.size ≤ w'.heap.size) : RRow w' r v V := by
  obtain ⟨A, c, rfl, hh, hl, hn⟩ := h
  refine ⟨A, c, rfl, fun j hj => ?_, hl, fun b o e => ⟨(hn b o e).1, Nat.lt_of_lt_of_le (hn b o e).2 hsz⟩⟩
  obtain ⟨b, o, e, hc⟩ := hh j hj
  refine ⟨b, o, e, ?_⟩
  rw [← hc]
  exact World.cell?_of_block (a := ⟨b, o + j, none⟩) (ho b (by have := (hn b o e).1; omega))
theorem RAt.put {w w' : World} {r m : Nat} {S : RS} {vals : List Value} {v : Value} {V : List Nt} (hvl : vals.length = 17) (hrl : S.rows.length = 17) (hm : m ≤ 16)
    (hrows : ∀ (u : Nat) (v : Value) (V : List Nt), vals[u]? = some v → S.rows[u]? = some V → RRow w r v V) (hv : RRow w r v V)
    (ho : ∀ g', g' ≠ r → w'.heap[g']? = w.heap[g']?) (hsz : w.heap.size ≤ w'.heap.size) (kr : Block w' r 57 (setL (vals ++ [Value.bool S.bad]).toArray m [v])) : RAt w' r ⟨S.rows.set m V, S.bad⟩ := by
  refine ⟨vals.set m v, by simpa using hvl, by simpa using hrl, ?_, fun u v' V' h1 h2 => ?_⟩
  · have : setL (vals ++ [Value.bool S.bad]).toArray m [v] = (vals.set m v ++ [Value.bool S.bad]).toArray := by
      simp only [setL, List.setIfInBounds_toArray]
      rw [List.set_append_left _ _ (by omega)]
    rwa [this] at kr
  · by_cases e : u = m
    · subst e
      rw [List.getElem?_set_self (by omega)] at h1
      simp only at h2
      rw [List.getElem?_set_self (by omega)] at h2
      injection h1 with h1
      injection h2 with h2
      subst h1 h2
      exact hv.far ho hsz
    · rw [List.getElem?_set_ne (fun e' => e e'.symm)] at h1
      simp only at h2
      rw [List.getElem?_set_ne (fun e' => e e'.symm)] at h2
      exact (hrows u v' V' h1 h2).far ho hsz
theorem RAt.setBad {w w' : World} {r : Nat} {S : RS} {vals : List Value} (hvl : vals.length = 17) (hrl : S.rows.length = 17)
    (hrows : ∀ (u : Nat) (v : Value) (V : List Nt), vals[u]? = some v → S.rows[u]? = some V → RRow w r v V)
    (ho : ∀ g', g' ≠ r → w'.heap[g']? = w.heap[g']?) (hsz : w.heap.size ≤ w'.heap.size) (kr : Block w' r 57 (setL (vals ++ [Value.bool S.bad]).toArray 17 [.bool true])) : RAt w' r ⟨S.rows, true⟩ := by
  refine ⟨vals, hvl, hrl, ?_, fun u v' V' h1 h2 => (hrows u v' V' h1 h2).far ho hsz⟩
  have : setL (vals ++ [Value.bool S.bad]).toArray 17 [.bool true] = (vals ++ [Value.bool true]).toArray := by
    simp only [setL, List.setIfInBounds_toArray]
    rw [List.set_append_right _ _ (by omega), hvl]
    rfl
  rwa [this] at kr
def rhadF (S : RS) (x : Nt) : Bool := decide (1 ≤ x.1 ∧ x.1 ≤ 16) && decide (x ∈ rowN S x.1.toNat)
theorem rhad_at (w : World) (r : Nat) (S : RS) (x : Nt) (h : RAt w r S) :
    Calls Try.prog 16 #[.pointer (some ⟨r, 0, none⟩), ntv x] w fun e w' => e = .returned (.bool (rhadF S x)) ∧ Below w.heap.size w w' := by
  obtain ⟨u, x1, x2, x3⟩ := x
  by_cases hu : 1 ≤ u ∧ u ≤ 16
  · obtain ⟨m, rfl⟩ : ∃ m : Nat, u = m := ⟨u.toNat, by omega⟩
    obtain ⟨A, c, hc, hh, hl⟩ := h.row (u := m) (by omega)
    have := rhad_known w r m (by omega) (by omega) x1 x2 x3 (rowN S m) A c (World.block_lt_of_cell? w _ hc) hc hl hh
    have e : rhadF S ((m : Int), x1, x2, x3) = decide (((m : Int), x1, x2, x3) ∈ rowN S m) := by
      unfold rhadF
      simp only [Int.toNat_natCast]
      rw [decide_eq_true hu]
      simp
    rw [e]
    exact this
  · have e : rhadF S (u, x1, x2, x3) = false := by
      unfold rhadF
      rw [decide_eq_false hu]
      rfl
    have hkn : decide (1 ≤ u ∧ u ≤ 16) = false := by simpa using hu
    have hall := Below.refl w.heap.size w
    rw [e]
    simp only [ntv]
    clear h e
    go_enter Try.func16, Try.ntmps16
    go_wp2_with (first
      | ((with_reducible refine op_box 35 (.tmp 1) #[.int .i64 u, .int .i64 x1, .int .i64 x2, .int .i64 x3] ?_ ?_); rfl; intro w1 b3 hge hb k3; have d0 := k3.cell 0; replace hall := hall.trans (hb.mono hall.size); clear hb hge)
      | (go_at_call 27; refine (rknown_any _ _).mono ?_; rintro e w' ⟨rfl, rfl⟩; rw [hkn]))
    go_ret
    exact ⟨rfl, hall⟩
section
variable {P : Program} {d : Option Tmp} {tt : TypeId} {ps : String} {af : Array Edge} {a : Act} {w : World} {K : Act → World → Prop} {Q : Exit → Act → World → Prop}
theorem wpo_append (t e : TypeId) (s x : Operand) (base : Nat) (z : Value) (size bytes : Nat) (v : Value) (n : Nat) (xs : List Value) (A : Option Addr) (m c : Nat) (news : List Value)
    (hs : a.eval s = v) (hx : a.eval x = .slice A m c)
    (ht : P.underlying t = some (.slice e)) (hi : (P.info? e).map (fun i => (i.zero, i.size, i.bytes)) = some (some z, size, bytes))
    (hzs : z.cells.size = size) (hsz : 0 < size)
    (hown : w.ownsRow base e size v n xs) (hl : news.length = m * size) (hr : Holds w A news) (h1 : ∀ u ∈ news, u.oneCell' = true)
    (h63 : n + m ≤ maxLen) (hbytes : (n + m) * bytes ≤ 140737488355328) (hbase : base ≤ w.heap.size)
    (h : ∀ v' w', w'.ownsRow base e size v' (n + m) (xs ++ news) → w.grownBy w' v.ownBlock → (v'.ownBlock = v.ownBlock ∨ v'.ownBlock = some w.heap.size) → Below base w w' → K (a.put d v') w') :
    Oper.wp P ⟨d, .call { callee := .builtin .append, args := #[s, x], argTypes := #[t, t] }, tt, ps, af, none⟩ a w K Q := by
  obtain ⟨v', w', hrun, h2, h3, h4⟩ := run_append_holds (P := P) w base t tt e z size bytes ht hi hzs hsz v n xs hown A m c news hl hr h1 h63 hbytes hbase
  unfold Oper.wp execOp
  simp only [resolve, invoke, builtin, Sem.run_bind, Sem.run_pure, Result.andThen_ok, List.map_toArray, List.map_cons, List.map_nil, hs, hx, hrun]
  exact h v' w' h2 h3 h4 ((Below.refl base w).grown h3 hbase fun k hk => (hown.lt k hk).1)
theorem wpo_store1 (ty : TypeId) (x y : Operand) (g off : Nat) (t : TypeId) (v : Value) (old : Array Value) (hx : a.eval x = .pointer (some ⟨g, off, none⟩)) (hy : a.eval y = v)
    (hg : Block w g t old) (hi : (P.info? ty).map (·.size) = some v.cells.size) (hold : off + v.cells.size ≤ old.size) (h1 : v.cells.all (·.oneCell') = true)
    (h : ∀ w', (∀ B, B ≤ g → Below B w w') → (∀ g', g' ≠ g → w'.heap[g']? = w.heap[g']?) → Block w' g t (setL old off v.cells.toList) → K (a.put d undef) w') :
    Oper.wp P ⟨d, .store ty x y, tt, ps, af, none⟩ a w K Q := by
  have ht : w.there g off v.cells.size := fun j hj => ⟨by rw [hg.cell, Array.getElem?_eq_getElem (by omega)]; rfl, hg.frozen _⟩
  have hrun : (storeVar ty ⟨g, off, none⟩ v).run P w = .ok () (w.setCells g off v.cells.toList) := run_storeVar_mid w g off ty v.cells ht hi h1
  unfold Oper.wp execOp
  simp only [hx, hy, Instr.storeAt, Instr.sureAddr, Sem.run_bind, Sem.run_pure, Result.andThen_ok, hrun]
  exact h _ (fun B hB => below_setCells hB _ _ _ (Below.refl _ _)) (fun g' hg' => other_setCells hg' _ _ _) (Block.setCells _ _ _ _ hg)
end
theorem own_empty {w : World} {g base : Nat} (h : Block w g 35 #[]) (hb : base ≤ g) : w.ownsRow base 35 4 (.slice (some ⟨g, 0, none⟩) 0 0) 0 [] :=
  ⟨rfl, .inr ⟨g, 0, #[], rfl, hb, h, Nat.le_refl _, by simp [maxLen], rfl, rfl⟩⟩

def rokF (S : RS) (x : Nt) : Bool := decide (x = (0, 0, 0, 0)) || rhadF S x
def rfineF (S : RS) (V : List Nt) : Bool := V.all (rokF S) && !S.bad
def RF (W : World) (S : RS) (V : List Nt) (i : Value) (w : World) : Prop :=
  ∃ k : Nat, k ≤ V.length ∧ i = .int .i64 k ∧ (∀ j, j < k → ∀ x, V[j]? = some x → rokF S x = true) ∧ Below W.heap.size W w
theorem all_next {V : List Nt} {v : Nt} {k : Nat} {S : RS} (h : ∀ j, j < k → ∀ x, V[j]? = some x → rokF S x = true) (hk : V[k]? = some v) (hv : rokF S v = true) : ∀ j, j < k + 1 → ∀ x, V[j]? = some x → rokF S x = true := by
  intro j hj x hx
  by_cases e : j = k
  · subst e; rw [hk] at hx; injection hx with hx; rw [← hx]; exact hv
  · exact h j (by omega) x hx
set_option maxHeartbeats 2000000 in
set_option maxRecDepth 100000 in
theorem rfine_at (w : World) (r : Nat) (S : RS) (V : List Nt) (A : Option Addr) (n c : Nat) (hnV : n = V.length) (hn : V.length ≤ 9223372036854775807) (hh : Holds w A (IV (nflat V))) (h : RAt w r S) :
    Calls Try.prog 18 #[.pointer (some ⟨r, 0, none⟩), .slice A n c] w fun e w' => e = .returned (.bool (rfineF S V)) ∧ Below w.heap.size w w' := by
  subst hnV
  have hall := Below.refl w.heap.size w
  have hg28 := g28
  go_enter Try.func18, Try.ntmps18
  go_upto_region 0 with (fail)
  refine wp_region_lit ?_
  refine wl_v ?_ ?_ ?_; rotate_left; (focus (go_simp; (try with_reducible rfl); done)); try simp only [Act.put, List.setIfInBounds_toArray, List.set_cons_zero, List.set_cons_succ]
  go_upto_region 1 with (fail)
  refine wp_region_lit ?_
  refine wl_v ?_ ?_ ?_; rotate_left; (focus (go_simp; (try with_reducible rfl); done)); try simp only [Act.put, List.setIfInBounds_toArray, List.set_cons_zero, List.set_cons_succ]
  go_wp2_with fail
  go_loopw [5] (RF w S V) (fun i _ => V.length - (intOf i).toNat)
  case atStart => exact ⟨0, by omega, rfl, fun j hj => by omega, hall⟩
  case round =>
    clear hall
    obtain ⟨k, hk, rfl, hno, hall⟩ := hrel
    have HNO := Lib.hid hno
    clear hno
    by_cases hlt : k < V.length
    · skip
      have hix : (k : Int) < (V.length : Int) := by omega
      obtain ⟨bq, oq, rfl, _⟩ := hh 0 (by simp [IV, nflat_len]; omega)
      have hrg := Lib.hid (range_ups (nflat_range hh rfl hlt) hall)
      have hyes : V[k]? = some V[k] := List.getElem?_eq_getElem hlt
      generalize V[k] = v at *
      obtain ⟨v0, v1, v2, v3⟩ := v
      have HY := Lib.hid hyes
      clear hyes
      obtain ⟨z, hz⟩ : ∃ z, decide (v0 = 0 ∧ v1 = 0 ∧ v2 = 0 ∧ v3 = 0) = z := ⟨_, rfl⟩
      have heq : ∀ w, (Op.equalIn 10000 35 (.agg #[.int .i64 v0, .int .i64 v1, .int .i64 v2, .int .i64 v3]) (.agg #[.int .i64 0, .int .i64 0, .int .i64 0, .int .i64 0])).run Try.prog w = .ok z w := fun w => by rw [eqN, hz]
      obtain ⟨hd, hhd⟩ : ∃ hd, rhadF S (v0, v1, v2, v3) = hd := ⟨_, rfl⟩
      have HH := Lib.hid hhd
      have HZ := Lib.hid hz
      have hok : rokF S (v0, v1, v2, v3) = (z || hd) := by unfold rokF; rw [← hz, ← hhd]; simp
      have HOK := Lib.hid hok
      clear hz hhd hok
      go_upto_region 2 with (fail)
      refine wp_region_lit ?_
      refine wl_v ?_ ?_ ?_; rotate_left; (focus (go_simp; (try with_reducible rfl); done)); try simp only [Act.put, List.setIfInBounds_toArray, List.set_cons_zero, List.set_cons_succ]
      refine wl_v ?_ ?_ ?_; rotate_left; (focus (go_simp; (try with_reducible rfl); done)); try simp only [Act.put, List.setIfInBounds_toArray, List.set_cons_zero, List.set_cons_succ]
      refine wl_v ?_ ?_ ?_; rotate_left; (focus (go_simp; (try with_reducible rfl); done)); try simp only [Act.put, List.setIfInBounds_toArray, List.set_cons_zero, List.set_cons_succ]
      refine wl_v (.bool true) (by go_simp <;> omega) ?_; try simp only [Act.put, List.setIfInBounds_toArray, List.set_cons_zero, List.set_cons_succ]
      cases z
      · skip
        cases hd
        · skip
          go_upto_region 4 with (fail)
          refine wp_region_lit ?_
          refine wl_v ?_ ?_ ?_; rotate_left; (focus (go_simp; (try with_reducible rfl); done)); try simp only [Act.put, List.setIfInBounds_toArray, List.set_cons_zero, List.set_cons_succ]
          refine wl_v ?_ ?_ ?_; rotate_left; (focus (go_simp; (try with_reducible rfl); done)); try simp only [Act.put, List.setIfInBounds_toArray, List.set_cons_zero, List.set_cons_succ]
          refine wl_v ?_ ?_ ?_; rotate_left; (focus (go_simp; (try with_reducible rfl); done)); try simp only [Act.put, List.setIfInBounds_toArray, List.set_cons_zero, List.set_cons_succ]
          refine op_loadM 35 _ bq (oq + k * 4) _ #[.int .i64 v0, .int .i64 v1, .int .i64 v2, .int .i64 v3] rfl (by rfl) hrg.out (by kernel_rfl) info28s ?_; try simp only [Act.put, List.setIfInBounds_toArray, List.set_cons_zero, List.set_cons_succ]
          refine wl_v (.agg #[.int .i64 0, .int .i64 0, .int .i64 0, .int .i64 0]) (by kernel_rfl) ?_; try simp only [Act.put, List.setIfInBounds_toArray, List.set_cons_zero, List.set_cons_succ]
          refine wl_v ?_ ?_ ?_; rotate_left; (focus (go_simp; (try with_reducible rfl); done)); try simp only [Act.put, List.setIfInBounds_toArray, List.set_cons_zero, List.set_cons_succ]
          refine wl_v ?_ ?_ ?_; rotate_left; (focus (go_simp; (try with_reducible rfl); done)); try simp only [Act.put, List.setIfInBounds_toArray, List.set_cons_zero, List.set_cons_succ]
          refine op_unguard _ _ rfl ?_; refine wl_v ?_ ?_ ?_; rotate_left; (focus (go_simp; (try with_reducible rfl); done)); try simp only [Act.put, List.setIfInBounds_toArray, List.set_cons_zero, List.set_cons_succ]
          refine op_unguard _ _ rfl ?_; refine wl_v ?_ ?_ ?_; rotate_left; (focus (go_simp; (try with_reducible rfl); done)); try simp only [Act.put, List.setIfInBounds_toArray, List.set_cons_zero, List.set_cons_succ]
          refine op_unguard _ _ rfl ?_; refine wl_v ?_ ?_ ?_; rotate_left; (focus (go_simp; (try with_reducible rfl); done)); try simp only [Act.put, List.setIfInBounds_toArray, List.set_cons_zero, List.set_cons_succ]
          refine op_unguard _ _ rfl ?_; refine wl_v ?_ ?_ ?_; rotate_left; (focus (go_simp; (try with_reducible rfl); done)); try simp only [Act.put, List.setIfInBounds_toArray, List.set_cons_zero, List.set_cons_succ]
          refine op_unguard _ _ rfl ?_; refine op_loadM 35 _ bq (oq + k * 4) _ #[.int .i64 v0, .int .i64 v1, .int .i64 v2, .int .i64 v3] rfl (by rfl) hrg.out (by kernel_rfl) info28s ?_; try simp only [Act.put, List.setIfInBounds_toArray, List.set_cons_zero, List.set_cons_succ]
          refine op_unguard _ _ rfl ?_; refine wl_call _ _ _ (rhad_at _ r S (v0, v1, v2, v3) (h.ups hall)) (by simp only [ntv]; go_simp) ?_; rintro e w9 ⟨rfl, hb⟩; refine ⟨_, rfl, ?_⟩; rw [HH.out]; replace hall := hall.trans (hb.mono hall.size); clear hb; try simp only [Act.put, List.setIfInBounds_toArray, List.set_cons_zero, List.set_cons_succ]
          refine op_unguard _ _ rfl ?_; refine wl_v ?_ ?_ ?_; rotate_left; (focus (go_simp; (try with_reducible rfl); done)); try simp only [Act.put, List.setIfInBounds_toArray, List.set_cons_zero, List.set_cons_succ]
          refine wl_v ?_ ?_ ?_; rotate_left; (focus (go_simp; (try with_reducible rfl); done)); try simp only [Act.put, List.setIfInBounds_toArray, List.set_cons_zero, List.set_cons_succ]
          go_upto_region 5 with (fail)
          refine wp_region_lit ?_
          refine wl_v ?_ ?_ ?_; rotate_left; (focus (go_simp; (try with_reducible rfl); done)); try simp only [Act.put, List.setIfInBounds_toArray, List.set_cons_zero, List.set_cons_succ]
          go_wp2_with fail
          go_ret
          refine ⟨?_, hall⟩
          have : V.all (rokF S) = false := by
            rw [List.all_eq_false]
            exact ⟨_, List.mem_of_getElem? HY.out, by rw [HOK.out]; simp⟩
          unfold rfineF
          rw [this]; rfl
        · skip
          go_upto_region 4 with (fail)
          refine wp_region_lit ?_
          refine wl_v ?_ ?_ ?_; rotate_left; (focus (go_simp; (try with_reducible rfl); done)); try simp only [Act.put, List.setIfInBounds_toArray, List.set_cons_zero, List.set_cons_succ]
          refine wl_v ?_ ?_ ?_; rotate_left; (focus (go_simp; (try with_reducible rfl); done)); try simp only [Act.put, List.setIfInBounds_toArray, List.set_cons_zero, List.set_cons_succ]
          refine wl_v ?_ ?_ ?_; rotate_left; (focus (go_simp; (try with_reducible rfl); done)); try simp only [Act.put, List.setIfInBounds_toArray, List.set_cons_zero, List.set_cons_succ]
          refine op_loadM 35 _ bq (oq + k * 4) _ #[.int .i64 v0, .int .i64 v1, .int .i64 v2, .int .i64 v3] rfl (by rfl) hrg.out (by kernel_rfl) info28s ?_; try simp only [Act.put, List.setIfInBounds_toArray, List.set_cons_zero, List.set_cons_succ]
          refine wl_v (.agg #[.int .i64 0, .int .i64 0, .int .i64 0, .int .i64 0]) (by kernel_rfl) ?_; try simp only [Act.put, List.setIfInBounds_toArray, List.set_cons_zero, List.set_cons_succ]
          refine wl_v ?_ ?_ ?_; rotate_left; (focus (go_simp; (try with_reducible rfl); done)); try simp only [Act.put, List.setIfInBounds_toArray, List.set_cons_zero, List.set_cons_succ]
          refine wl_v ?_ ?_ ?_; rotate_left; (focus (go_simp; (try with_reducible rfl); done)); try simp only [Act.put, List.setIfInBounds_toArray, List.set_cons_zero, List.set_cons_succ]
          refine op_unguard _ _ rfl ?_; refine wl_v ?_ ?_ ?_; rotate_left; (focus (go_simp; (try with_reducible rfl); done)); try simp only [Act.put, List.setIfInBounds_toArray, List.set_cons_zero, List.set_cons_succ]
          refine op_unguard _ _ rfl ?_; refine wl_v ?_ ?_ ?_; rotate_left; (focus (go_simp; (try with_reducible rfl); done)); try simp only [Act.put, List.setIfInBounds_toArray, List.set_cons_zero, List.set_cons_succ]
          refine op_unguard _ _ rfl ?_; refine wl_v ?_ ?_ ?_; rotate_left; (focus (go_simp; (try with_reducible rfl); done)); try simp only [Act.put, List.setIfInBounds_toArray, List.set_cons_zero, List.set_cons_succ]
          refine op_unguard _ _ rfl ?_; refine wl_v ?_ ?_ ?_; rotate_left; (focus (go_simp; (try with_reducible rfl); done)); try simp only [Act.put, List.setIfInBounds_toArray, List.set_cons_zero, List.set_cons_succ]
          refine op_unguard _ _ rfl ?_; refine op_loadM 35 _ bq (oq + k * 4) _ #[.int .i64 v0, .int .i64 v1, .int .i64 v2, .int .i64 v3] rfl (by rfl) hrg.out (by kernel_rfl) info28s ?_; try simp only [Act.put, List.setIfInBounds_toArray, List.set_cons_zero, List.set_cons_succ]
          refine op_unguard _ _ rfl ?_; refine wl_call _ _ _ (rhad_at _ r S (v0, v1, v2, v3) (h.ups hall)) (by simp only [ntv]; go_simp) ?_; rintro e w9 ⟨rfl, hb⟩; refine ⟨_, rfl, ?_⟩; rw [HH.out]; replace hall := hall.trans (hb.mono hall.size); clear hb; try simp only [Act.put, List.setIfInBounds_toArray, List.set_cons_zero, List.set_cons_succ]
          refine op_unguard _ _ rfl ?_; refine wl_v ?_ ?_ ?_; rotate_left; (focus (go_simp; (try with_reducible rfl); done)); try simp only [Act.put, List.setIfInBounds_toArray, List.set_cons_zero, List.set_cons_succ]
          refine wl_v ?_ ?_ ?_; rotate_left; (focus (go_simp; (try with_reducible rfl); done)); try simp only [Act.put, List.setIfInBounds_toArray, List.set_cons_zero, List.set_cons_succ]
          go_upto_region 3 with (fail)
          refine wp_region_lit ?_
          refine wl_v ?_ ?_ ?_; rotate_left; (focus (go_simp; (try with_reducible rfl); done)); try simp only [Act.put, List.setIfInBounds_toArray, List.set_cons_zero, List.set_cons_succ]
          refine wl_v (.int .i64 ((k : Int) + 1)) (by go_simp <;> exact IntWalk.i64_in _ (by omega)) ?_; try simp only [Act.put, List.setIfInBounds_toArray, List.set_cons_zero, List.set_cons_succ]
          refine wl_v ?_ ?_ ?_; rotate_left; (focus (go_simp; (try with_reducible rfl); done)); try simp only [Act.put, List.setIfInBounds_toArray, List.set_cons_zero, List.set_cons_succ]
          go_wp2_with fail
          refine ⟨?_, ?_⟩
          · first
            | (exact ⟨k + 1, by omega, by go_num, all_next HNO.out HY.out (by rw [HOK.out]; rfl), hall⟩)
            | ((repeat apply Exists.intro); refine ⟨?_, ?_⟩; rotate_left; (focus (first | exact rfl | (repeat (first | exact rfl | refine ⟨rfl, ?_⟩)))); (exact ⟨k + 1, by omega, by go_num, all_next HNO.out HY.out (by rw [HOK.out]; rfl), hall⟩))
          · simp [intOf]; omega
      · skip
        go_upto_region 4 with (fail)
        refine wp_region_lit ?_
        refine wl_v ?_ ?_ ?_; rotate_left; (focus (go_simp; (try with_reducible rfl); done)); try simp only [Act.put, List.setIfInBounds_toArray, List.set_cons_zero, List.set_cons_succ]
        refine wl_v ?_ ?_ ?_; rotate_left; (focus (go_simp; (try with_reducible rfl); done)); try simp only [Act.put, List.setIfInBounds_toArray, List.set_cons_zero, List.set_cons_succ]
        refine wl_v ?_ ?_ ?_; rotate_left; (focus (go_simp; (try with_reducible rfl); done)); try simp only [Act.put, List.setIfInBounds_toArray, List.set_cons_zero, List.set_cons_succ]
        refine op_loadM 35 _ bq (oq + k * 4) _ #[.int .i64 v0, .int .i64 v1, .int .i64 v2, .int .i64 v3] rfl (by rfl) hrg.out (by kernel_rfl) info28s ?_; try simp only [Act.put, List.setIfInBounds_toArray, List.set_cons_zero, List.set_cons_succ]
        refine wl_v (.agg #[.int .i64 0, .int .i64 0, .int .i64 0, .int .i64 0]) (by kernel_rfl) ?_; try simp only [Act.put, List.setIfInBounds_toArray, List.set_cons_zero, List.set_cons_succ]
        refine wl_v ?_ ?_ ?_; rotate_left; (focus (go_simp; (try with_reducible rfl); done)); try simp only [Act.put, List.setIfInBounds_toArray, List.set_cons_zero, List.set_cons_succ]
        refine wl_v ?_ ?_ ?_; rotate_left; (focus (go_simp; (try with_reducible rfl); done)); try simp only [Act.put, List.setIfInBounds_toArray, List.set_cons_zero, List.set_cons_succ]
        refine wl_s rfl ?_; try simp only [Act.put, List.setIfInBounds_toArray, List.set_cons_zero, List.set_cons_succ]
        refine wl_s rfl ?_; try simp only [Act.put, List.setIfInBounds_toArray, List.set_cons_zero, List.set_cons_succ]
        refine wl_s rfl ?_; try simp only [Act.put, List.setIfInBounds_toArray, List.set_cons_zero, List.set_cons_succ]
        refine wl_s rfl ?_; try simp only [Act.put, List.setIfInBounds_toArray, List.set_cons_zero, List.set_cons_succ]
        refine wl_s rfl ?_; try simp only [Act.put, List.setIfInBounds_toArray, List.set_cons_zero, List.set_cons_succ]
        refine wl_s rfl ?_; try simp only [Act.put, List.setIfInBounds_toArray, List.set_cons_zero, List.set_cons_succ]
        refine wl_s rfl ?_; try simp only [Act.put, List.setIfInBounds_toArray, List.set_cons_zero, List.set_cons_succ]
        refine wl_v ?_ ?_ ?_; rotate_left; (focus (go_simp; (try with_reducible rfl); done)); try simp only [Act.put, List.setIfInBounds_toArray, List.set_cons_zero, List.set_cons_succ]
        go_upto_region 3 with (fail)
        refine wp_region_lit ?_
        refine wl_v ?_ ?_ ?_; rotate_left; (focus (go_simp; (try with_reducible rfl); done)); try simp only [Act.put, List.setIfInBounds_toArray, List.set_cons_zero, List.set_cons_succ]
        refine wl_v (.int .i64 ((k : Int) + 1)) (by go_simp <;> exact IntWalk.i64_in _ (by omega)) ?_; try simp only [Act.put, List.setIfInBounds_toArray, List.set_cons_zero, List.set_cons_succ]
        refine wl_v ?_ ?_ ?_; rotate_left; (focus (go_simp; (try with_reducible rfl); done)); try simp only [Act.put, List.setIfInBounds_toArray, List.set_cons_zero, List.set_cons_succ]
        go_wp2_with fail
        refine ⟨?_, ?_⟩
        · first
          | (exact ⟨k + 1, by omega, by go_num, all_next HNO.out HY.out (by rw [HOK.out]; rfl), hall⟩)
          | ((repeat apply Exists.intro); refine ⟨?_, ?_⟩; rotate_left; (focus (first | exact rfl | (repeat (first | exact rfl | refine ⟨rfl, ?_⟩)))); (exact ⟨k + 1, by omega, by go_num, all_next HNO.out HY.out (by rw [HOK.out]; rfl), hall⟩))
        · simp [intOf]; omega
    · obtain rfl : k = V.length := by omega
      go_upto_region 2 with (fail)
      refine wp_region_lit ?_
      refine wl_v ?_ ?_ ?_; rotate_left; (focus (go_simp; (try with_reducible rfl); done)); try simp only [Act.put, List.setIfInBounds_toArray, List.set_cons_zero, List.set_cons_succ]
      refine wl_v ?_ ?_ ?_; rotate_left; (focus (go_simp; (try with_reducible rfl); done)); try simp only [Act.put, List.setIfInBounds_toArray, List.set_cons_zero, List.set_cons_succ]
      refine wl_v ?_ ?_ ?_; rotate_left; (focus (go_simp; (try with_reducible rfl); done)); try simp only [Act.put, List.setIfInBounds_toArray, List.set_cons_zero, List.set_cons_succ]
      refine wl_v (.bool false) (by go_simp <;> omega) ?_; try simp only [Act.put, List.setIfInBounds_toArray, List.set_cons_zero, List.set_cons_succ]
      have c17 := (h.ups hall).badCell
      obtain ⟨bd, hbd⟩ : ∃ bd, S.bad = bd := ⟨_, rfl⟩
      rw [hbd] at c17
      have HBD := Lib.hid hbd
      clear hbd
      go_upto_region 6 with (fail)
      refine wp_region_lit ?_
      refine wl_v ?_ ?_ ?_; rotate_left; (focus (go_simp; (try with_reducible rfl); done)); try simp only [Act.put, List.setIfInBounds_toArray, List.set_cons_zero, List.set_cons_succ]
      refine wl_v ?_ ?_ ?_; rotate_left; (focus (go_simp; (try with_reducible rfl); done)); try simp only [Act.put, List.setIfInBounds_toArray, List.set_cons_zero, List.set_cons_succ]
      refine wl_v ?_ ?_ ?_; rotate_left; (focus (go_simp; (try with_reducible rfl); done)); try simp only [Act.put, List.setIfInBounds_toArray, List.set_cons_zero, List.set_cons_succ]
      refine wl_v ?_ ?_ ?_; rotate_left; (focus (go_simp; (try with_reducible rfl); done)); try simp only [Act.put, List.setIfInBounds_toArray, List.set_cons_zero, List.set_cons_succ]
      refine wl_v ?_ ?_ ?_; rotate_left; (focus (go_simp; (try with_reducible rfl); done)); try simp only [Act.put, List.setIfInBounds_toArray, List.set_cons_zero, List.set_cons_succ]
      refine wl_v ?_ ?_ ?_; rotate_left; (focus (go_simp; (try with_reducible rfl); done)); try simp only [Act.put, List.setIfInBounds_toArray, List.set_cons_zero, List.set_cons_succ]
      go_wp2_with fail
      go_ret
      refine ⟨?_, hall⟩
      have : V.all (rokF S) = true := by
        rw [List.all_eq_true]
        intro x hx
        obtain ⟨j, hj, e⟩ := List.getElem_of_mem hx
        exact HNO.out j hj x (by rw [List.getElem?_eq_getElem hj, e])
      unfold rfineF
      rw [this, HBD.out]; rfl

end Go.Proofs.Ytbpepkpjjfhmpaa