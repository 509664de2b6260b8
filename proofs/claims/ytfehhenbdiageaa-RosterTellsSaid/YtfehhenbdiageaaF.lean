/- Roster: slices.Insert of one timer. -/
import Derived.Test.YtfehhenbdiageaaE
import Derived.Lib.Overlaps
namespace Go.Proofs.Ytfehhenbdiageaa
open Go.RowKit
set_option linter.unusedVariables false
set_option linter.unusedSimpArgs false

/-- append of zeros that needs a new row -/
theorem run_append_zeros {P : Program} (w : World) (t tn ty e : TypeId) (z : Value) (size bytes : Nat) (kn : IntKind) (ht : P.underlying t = some (.slice e)) (htn : P.underlying tn = some (.int kn)) (hi : (P.info? e).map (fun i => (i.zero, i.size, i.bytes)) = some (some z, size, bytes)) (hzs : z.cells.size = size)
    (g sLen sCap n : Nat) (olds : List Value) (hl : olds.length = sLen * size) (hr : Holds w (some ⟨g, 0, none⟩) olds) (hp : 0 < size) (h0 : 0 < n) (hg : sCap < sLen + n) (hm : sLen + n ≤ maxLen) (hbytes : (sLen + n) * bytes ≤ 140737488355328) :
    ∃ c2 cur2 w', (Builtin.append_ #[t, tn] ty #[.slice (some ⟨g, 0, none⟩) sLen sCap, .int .i64 (n : Nat)]).run P w = .ok (.slice (some ⟨w.heap.size, 0, none⟩) (sLen + n) c2) w' ∧
      Block w' w.heap.size e cur2 ∧ sLen + n ≤ c2 ∧ c2 ≤ maxLen ∧ cur2.size = c2 * size ∧ cur2.toList.take (sLen * size) = olds ∧ Below w.heap.size w w' := by
  cases hq : P.info? e with
  | none => simp [hq] at hi
  | some i =>
    obtain ⟨hz, rfl, rfl⟩ : i.zero = some z ∧ i.size = size ∧ i.bytes = bytes := by simpa [hq] using hi
    have h63 : ((sLen + n : Nat) : Int) ≤ 9223372036854775807 := by unfold maxLen at hm; omega
    have hn1 : ¬ (sLen + n ≤ sCap) := by omega
    have hw : IntKind.i64.wrap (n : Int) = n := by rw [IntKind.wrap_i64]; omega
    have h63' : ¬ (9223372036854775807 < (sLen : Int) + (n : Int)) := by omega
    have h48 := growslice_fits (need := sLen + n) (old := sCap) (bytes := i.bytes) (by omega) hbytes
    have h48' : ¬ (281474976710656 < Builtin.nextslicecap (sLen + n) sCap * i.bytes) := by omega
    have h48i : ¬ (281474976710656 < (n : Int) * (i.bytes : Int)) := by
      rw [← Int.natCast_mul]
      have : n * i.bytes ≤ (sLen + n) * i.bytes := Nat.mul_le_mul_right _ (by omega)
      omega
    have hneg : ¬ ((n : Int) < 0) := by omega
    have hns : ¬ (n * i.size = 0) := Nat.mul_ne_zero (by omega) (by omega)
    have hfo := run_firstCells_some (P := P) w.drew i.size sLen ⟨g, 0, none⟩ sLen sCap olds hl (fun j u hu => by
      obtain ⟨b, o, he, hc⟩ := hr j (List.getElem?_eq_some_iff.1 hu).1
      injection he with he
      injection he with e1 e2
      subst e1 e2
      rw [add_flat]
      exact hc.trans hu)
    refine ⟨grownCap w (sLen + n) sCap e, olds.toArray ++ Builtin.zeroCells z.cells n ++ Builtin.zeroCells z.cells (grownCap w (sLen + n) sCap e - (sLen + n)), w.drew.alloc (.cells (olds.toArray ++ Builtin.zeroCells z.cells n ++ Builtin.zeroCells z.cells (grownCap w (sLen + n) sCap e - (sLen + n))) e), ?_, heap_alloc_new w.drew _, grownCap_ge _ _ _ _, grownCap_le_maxLen _ _ _ _ hm, ?_, ?_, (Below.refl _ w).drew.alloc (Nat.le_refl _) _⟩
    · simp [Builtin.append_, run_underlying ht, run_underlying htn, sizeOf, typeInfo, zeroValue, hq, hz, asInt, asIntOf, hw, hn1, hneg, hns, h63', h48', h48i, Question.forced, hfo, newRow, grownCap]
    · have := grownCap_ge w (sLen + n) sCap e
      simp only [Array.size_append, List.size_toArray, size_zeroCells, hzs, hl, ← Nat.add_mul]
      congr 1
      omega
    · simp only [Array.toList_append, List.append_assoc]
      rw [← hl]
      exact List.take_left
/-- a call of a function of the model's own with two arguments -/
theorem run_ext2 {P : Program} {w w' : World} {a : Act} {f : FuncId} {x y : Operand} {ats : Array TypeId} {d : Option Tmp} {tt : TypeId} {ps : String} {af : Array Edge} {gd : Option (Nat × Bool)} {v : Value} (vx vy : Value) (hx : a.eval x = vx) (hy : a.eval y = vy) (hr : (callFunc f #[vx, vy]).run P w = .ok (.value v) w') :
    (execOp a.eval ⟨d, .call { callee := .value (.func f), args := #[x, y], argTypes := ats }, tt, ps, af, gd⟩).run P w = .ok (.value v) w' := by
  have he : a.eval (.func f) = .func (.func f) #[] #[] := rfl
  unfold execOp
  simp [resolve, invoke, Sem.run_bind, Sem.run_pure, Result.andThen_ok, hx, hy, he, Deferred.ofValue, hr]
theorem block_x {w : World} {bx : Nat} {x : Tm} (hx : Block w bx 37 #[.int .i64 x.1, .int .i64 x.2.1, .int .i64 x.2.2]) : Holds w (some ⟨bx, 0, none⟩) (FV encT [x]) := by
  intro j hj
  refine ⟨bx, 0, rfl, ?_⟩
  rw [Nat.zero_add, Block.cell hx]
  simp [FV, IV, flat]
theorem spl_mid {cur : Array Value} {o t : Nat} {vs : List Value} (h : o + vs.length ≤ t) (ht : t ≤ cur.size) : (spl cur o vs).toList.take t = (cur.toList.take t).take o ++ vs ++ (cur.toList.take t).drop (o + vs.length) := by
  have hl : (cur.toList.take o ++ vs).length = o + vs.length := by simp; omega
  simp only [spl]
  rw [List.take_append, hl, List.take_of_length_le (by omega), List.take_take, Nat.min_eq_left (by omega), List.drop_take]
theorem ins_new {L : List Tm} {i n : Nat} {x : Tm} (hL : L.length = n) (hi : i < n) : (L.take i ++ x :: L.drop i).length = n + 1 := by simp; omega
section
variable {cur : Array Value} {c n i : Nat} {L : List Tm} {x : Tm}
theorem ins_size (hcs : cur.size = c * 3) (hi : i < n) (hL : L.length = n) (hc : n + 1 ≤ c) : (spl (spl cur (0 + i * 3) (FV encT [x])) (0 + (i + 1) * 3) (FV encT (L.drop i))).size = c * 3 := by
  have h1 : (FV encT [x]).length = 3 := rfl
  have h2 : (FV encT (L.drop i)).length = (n - i) * 3 := by rw [FV_len encT_len, List.length_drop, hL]
  rw [spl_size (by rw [spl_size (by omega)]; omega), spl_size (by omega), hcs]
theorem ins_end3 (hcs : cur.size = c * 3) (htk : cur.toList.take (i * 3) = FV encT (L.take i)) (hi : i < n) (hL : L.length = n) (hc : n + 1 ≤ c) :
    (spl (spl cur (0 + i * 3) (FV encT [x])) (0 + (i + 1) * 3) (FV encT (L.drop i))).toList.take ((n + 1) * 3) = FV encT (L.take i ++ x :: L.drop i) := by
  have h1 : (FV encT [x]).length = 3 := rfl
  have h2 : (FV encT (L.drop i)).length = (n - i) * 3 := by rw [FV_len encT_len, List.length_drop, hL]
  rw [spl_upto (by omega) (by rw [spl_size (by omega)]; omega), spl_upto (by omega) (by omega), Nat.zero_add, htk, List.append_assoc, ← FV_append, ← FV_append]
  rfl
theorem ins_size2 (hcs : cur.size = c * 3) (hi : i < n) (hL : L.length = n) (hc : n + 1 ≤ c) : (spl (spl cur (0 + (i + 1) * 3) (FV encT (L.drop i))) (0 + i * 3) (FV encT [x])).size = c * 3 := by
  have h1 : (FV encT [x]).length = 3 := rfl
  have h2 : (FV encT (L.drop i)).length = (n - i) * 3 := by rw [FV_len encT_len, List.length_drop, hL]
  rw [spl_size (by rw [spl_size (by omega)]; omega), spl_size (by omega), hcs]
theorem ins_end2 (hcs : cur.size = c * 3) (htk : cur.toList.take (n * 3) = FV encT L) (hi : i < n) (hL : L.length = n) (hc : n + 1 ≤ c) :
    (spl (spl cur (0 + (i + 1) * 3) (FV encT (L.drop i))) (0 + i * 3) (FV encT [x])).toList.take ((n + 1) * 3) = FV encT (L.take i ++ x :: L.drop i) := by
  have h1 : (FV encT [x]).length = 3 := rfl
  have h2 : (FV encT (L.drop i)).length = (n - i) * 3 := by rw [FV_len encT_len, List.length_drop, hL]
  have ha : (spl cur (0 + (i + 1) * 3) (FV encT (L.drop i))).toList.take ((n + 1) * 3) = cur.toList.take ((i + 1) * 3) ++ FV encT (L.drop i) := by
    rw [spl_upto (by omega) (by omega), Nat.zero_add]
  have hb : (spl cur (0 + (i + 1) * 3) (FV encT (L.drop i))).size = c * 3 := by rw [spl_size (by omega), hcs]
  have hcl : (cur.toList.take ((i + 1) * 3)).length = (i + 1) * 3 := by simp; omega
  rw [spl_mid (by omega) (by rw [hb]; omega), ha, h1, List.take_append_of_le_length (by omega), List.take_take, Nat.min_eq_left (by omega), take_le htk (by omega), Nat.zero_add, ← FV_take encT_len, show i * 3 + 3 = (i + 1) * 3 by omega]
  rw [List.drop_append_of_le_length (by omega), List.drop_eq_nil_of_le (by omega), List.nil_append, List.append_assoc, ← FV_append, ← FV_append]
  rfl
end
set_option maxHeartbeats 2000000 in
set_option maxRecDepth 100000 in
theorem ins_last (w : World) (base : Nat) (v : Value) (L : List Tm) (x : Tm) (bx : Nat) (hown : TOwn w base v L) (hbase : base ≤ w.heap.size) (hx : Block w bx 37 #[.int .i64 x.1, .int .i64 x.2.1, .int .i64 x.2.2]) (hn : L.length ≤ 100000) :
    Calls Try.prog 34 #[v, .int .i64 L.length, .slice (some ⟨bx, 0, none⟩) 1 1] w fun e w' => (∃ v', e = .returned v' ∧ TOwn w' base v' (L ++ [x])) ∧ Below base w w' := by
  have hxs := block_x hx
  clear hx
  obtain ⟨A, c, rfl, hh, hnc, hcm⟩ := own_slice hown
  obtain ⟨i, hL⟩ : ∃ i, L.length = i := ⟨_, rfl⟩
  have HL := Lib.hid hL
  have hn2 : i ≤ 100000 := by omega
  rw [hL] at hnc
  rw [hL]
  clear hn hL hh
  go_enter Try.func34, Try.ntmps34
  go_upto_region 0 with (fail)
  refine wp_region_lit ?_
  refine wl_v ?_ ?_ ?_; rotate_left; (focus (go_simp; (try with_reducible rfl); done)); try simp only [Act.put, List.setIfInBounds_toArray, List.set_cons_zero, List.set_cons_succ]
  go_upto_region 1 with (fail)
  refine wp_region_lit ?_
  refine wl_v ?_ ?_ ?_; rotate_left; (focus (go_simp; (try with_reducible rfl); done)); try simp only [Act.put, List.setIfInBounds_toArray, List.set_cons_zero, List.set_cons_succ]
  refine wl_v ?_ ?_ ?_; rotate_left; (focus (go_simp; (try with_reducible rfl); done)); try simp only [Act.put, List.setIfInBounds_toArray, List.set_cons_zero, List.set_cons_succ]
  refine wl_v _ (run_op_slice Try.underlying22 (.slice A i c) (some (.int .i64 (i : Nat))) none none rfl rfl rfl rfl (slice_any i i Try.underlying22 s37 _ _ (.inr rfl) (.inl ⟨rfl, rfl⟩) (by omega) (by omega) rfl rfl rfl)) ?_; try simp only [Act.put, List.setIfInBounds_toArray, List.set_cons_zero, List.set_cons_succ]
  go_upto_region 2 with (fail)
  refine wp_region_lit ?_
  refine wl_v ?_ ?_ ?_; rotate_left; (focus (go_simp; (try with_reducible rfl); done)); try simp only [Act.put, List.setIfInBounds_toArray, List.set_cons_zero, List.set_cons_succ]
  refine wl_v ?_ ?_ ?_; rotate_left; (focus (go_simp; (try with_reducible rfl); done)); try simp only [Act.put, List.setIfInBounds_toArray, List.set_cons_zero, List.set_cons_succ]
  refine wl_v ?_ ?_ ?_; rotate_left; (focus (go_simp; (try with_reducible rfl); done)); try simp only [Act.put, List.setIfInBounds_toArray, List.set_cons_zero, List.set_cons_succ]
  go_upto_region 3 with (fail)
  refine wp_region_lit ?_
  refine wl_v ?_ ?_ ?_; rotate_left; (focus (go_simp; (try with_reducible rfl); done)); try simp only [Act.put, List.setIfInBounds_toArray, List.set_cons_zero, List.set_cons_succ]
  refine wl_v (.bool false) (by go_simp <;> omega) ?_; try simp only [Act.put, List.setIfInBounds_toArray, List.set_cons_zero, List.set_cons_succ]
  go_upto_region 5 with (fail)
  refine wp_region_lit ?_
  refine wl_v ?_ ?_ ?_; rotate_left; (focus (go_simp; (try with_reducible rfl); done)); try simp only [Act.put, List.setIfInBounds_toArray, List.set_cons_zero, List.set_cons_succ]
  refine wl_v ?_ ?_ ?_; rotate_left; (focus (go_simp; (try with_reducible rfl); done)); try simp only [Act.put, List.setIfInBounds_toArray, List.set_cons_zero, List.set_cons_succ]
  refine wl_v ?_ ?_ ?_; rotate_left; (focus (go_simp; (try with_reducible rfl); done)); try simp only [Act.put, List.setIfInBounds_toArray, List.set_cons_zero, List.set_cons_succ]
  go_upto_region 6 with (fail)
  refine wp_region_lit ?_
  refine wl_v ?_ ?_ ?_; rotate_left; (focus (go_simp; (try with_reducible rfl); done)); try simp only [Act.put, List.setIfInBounds_toArray, List.set_cons_zero, List.set_cons_succ]
  refine wl_v ?_ ?_ ?_; rotate_left; (focus (go_simp; (try with_reducible rfl); done)); try simp only [Act.put, List.setIfInBounds_toArray, List.set_cons_zero, List.set_cons_succ]
  refine wl_v (.bool true) (by go_simp <;> omega) ?_; try simp only [Act.put, List.setIfInBounds_toArray, List.set_cons_zero, List.set_cons_succ]
  go_upto_region 7 with (fail)
  refine wp_region_lit ?_
  refine wl_v ?_ ?_ ?_; rotate_left; (focus (go_simp; (try with_reducible rfl); done)); try simp only [Act.put, List.setIfInBounds_toArray, List.set_cons_zero, List.set_cons_succ]
  refine wl_v ?_ ?_ ?_; rotate_left; (focus (go_simp; (try with_reducible rfl); done)); try simp only [Act.put, List.setIfInBounds_toArray, List.set_cons_zero, List.set_cons_succ]
  refine op_append 22 37 (.tmp 23) (.tmp 24) base (.agg #[.int .i64 0, .int .i64 0, .int .i64 0]) 3 24 _ L.length (FV encT L) (some ⟨bx, 0, none⟩) 1 1 (FV encT [x]) (by rw [HL.out]; rfl) rfl Try.underlying22 i37 rfl (by omega) hown (by rw [FV_len encT_len]; rfl) hxs (FV_one _ _) (by rw [HL.out]; unfold maxLen; omega) (by rw [HL.out]; omega) hbase fun v' w2 hown2 _ _ hb2 => ?_; clear hown hxs; try simp only [Act.put, List.setIfInBounds_toArray, List.set_cons_zero, List.set_cons_succ]
  refine wl_v ?_ ?_ ?_; rotate_left; (focus (go_simp; (try with_reducible rfl); done)); try simp only [Act.put, List.setIfInBounds_toArray, List.set_cons_zero, List.set_cons_succ]
  go_wp2_with fail
  go_ret
  refine ⟨⟨_, rfl, ?_⟩, hb2⟩
  rw [← FV_append] at hown2
  unfold TOwn
  rw [List.length_append]
  exact hown2
set_option maxHeartbeats 2000000 in
set_option maxRecDepth 100000 in
theorem ins_grow (w : World) (base : Nat) (g c n : Nat) (cur : Array Value) (L : List Tm) (i : Nat) (x : Tm) (bx : Nat) (hL : L.length = n) (hg : Block w g 37 cur) (hcs : cur.size = c * 3) (htk : cur.toList.take (n * 3) = FV encT L) (hnc : n ≤ c) (hbase : base ≤ w.heap.size)
    (hi : i < n) (hx : Block w bx 37 #[.int .i64 x.1, .int .i64 x.2.1, .int .i64 x.2.2]) (hn : n ≤ 100000) (hroom : c < n + 1) :
    Calls Try.prog 34 #[.slice (some ⟨g, 0, none⟩) n c, .int .i64 i, .slice (some ⟨bx, 0, none⟩) 1 1] w fun e w' => (∃ v', e = .returned v' ∧ TOwn w' base v' (L.take i ++ x :: L.drop i)) ∧ Below base w w' := by
  have hxs := block_x hx
  have hall0 : Holds w (some ⟨g, 0, none⟩) (FV encT L) := by
    intro j hj
    refine ⟨g, 0, rfl, ?_⟩
    rw [Nat.zero_add, Block.cell hg, ← htk, List.getElem?_take, if_pos (by rw [FV_len encT_len, hL] at hj; exact hj)]
    simp
  have hold : Holds w (some ⟨g, 0, none⟩) (FV encT (L.take i)) := hall0.take_fv encT_len i
  have hsrc : Holds w (some ⟨g, 0 + i * 3, none⟩) (FV encT (L.drop i)) := by
    rw [FV_drop encT_len, ← slAt_some (c := c) (by omega)]
    exact slAt_holds (n := n) (by rw [FV_len encT_len, hL]) hnc hall0 i
  obtain ⟨q, hq⟩ : ∃ q, q = n + 1 - i := ⟨_, rfl⟩
  obtain ⟨c2, cur2, w2, hrun, hg2, hc2, hcm2, hs2, ht2, hb2⟩ := run_append_zeros (P := Try.prog) w 22 3 22 37 (.agg #[.int .i64 0, .int .i64 0, .int .i64 0]) 3 24 .i64 Try.underlying22 Try.underlying3 i37 rfl g i c q (FV encT (L.take i)) (by rw [FV_len encT_len, List.length_take, hL]; omega) hold (by omega) (by omega) (by omega) (by unfold maxLen; omega) (by omega)
  rw [show i + q = n + 1 by omega] at hrun hc2
  have HQ : Hid ((q : Int) = (n : Int) + 1 - i) := Lib.hid (by omega)
  have HMIN : Hid (Nat.min 1 q = 1) := Lib.hid (Nat.min_eq_left (by omega) : min 1 q = 1)
  have HS2 := Lib.hid hs2
  have HT2 := Lib.hid ht2
  have HL := Lib.hid hL
  have HNEW := Lib.hid (ins_new (x := x) hL hi)
  have hiq : i + q ≤ n + 1 := by omega
  have hqi : n + 1 ≤ i + q := by omega
  have hcopy : ∀ W, Block W w.heap.size 37 (spl cur2 (0 + i * 3) (FV encT [x])) → ∀ k1 k2, Holds W (some ⟨g, 0 + i * 3, none⟩) (FV encT (L.drop i)) →
      (Builtin.copy_ #[22, 22] 3 #[.slice (some ⟨w.heap.size, 0 + (i + 1) * 3, none⟩) (n - i) k1, .slice (some ⟨g, 0 + i * 3, none⟩) (n - i) k2]).run Try.prog W = .ok (goInt (Nat.min (n - i) (n - i))) (W.setRow w.heap.size (spl (spl cur2 (0 + i * 3) (FV encT [x])) (0 + (i + 1) * 3) (FV encT (L.drop i)))) := by
    intro W hW k1 k2 hs
    refine run_copy_in _ _ _ _ 37 3 Try.underlying22 s37 (by omega) _ _ _ _ _ hW _ _ _ _ ?_ hs (FV_one _ _) ?_
    · rw [FV_len encT_len, List.length_drop, hL, show Nat.min (n - i) (n - i) = n - i from Nat.min_self _]
    · rw [spl_size (by rw [hs2]; show 0 + i * 3 + 3 ≤ _; omega), hs2, FV_len encT_len, List.length_drop, hL]; omega
  replace hrun := hrun
  clear hq hs2 ht2 hL htk hcs hall0 hold hx
  obtain ⟨A, hA⟩ : ∃ A : Option Addr, A = some ⟨g, 0, none⟩ := ⟨_, rfl⟩
  go_enter Try.func34, Try.ntmps34
  go_upto_region 0 with (fail)
  refine wp_region_lit ?_
  refine wl_v ?_ ?_ ?_; rotate_left; (focus (go_simp; (try with_reducible rfl); done)); try simp only [Act.put, List.setIfInBounds_toArray, List.set_cons_zero, List.set_cons_succ]
  go_upto_region 1 with (fail)
  refine wp_region_lit ?_
  refine wl_v ?_ ?_ ?_; rotate_left; (focus (go_simp; (try with_reducible rfl); done)); try simp only [Act.put, List.setIfInBounds_toArray, List.set_cons_zero, List.set_cons_succ]
  refine wl_v ?_ ?_ ?_; rotate_left; (focus (go_simp; (try with_reducible rfl); done)); try simp only [Act.put, List.setIfInBounds_toArray, List.set_cons_zero, List.set_cons_succ]
  refine wl_v _ (run_op_slice Try.underlying22 (.slice (some ⟨g, 0, none⟩) n c) (some (.int .i64 (i : Nat))) none none rfl rfl rfl rfl (slice_any i n Try.underlying22 s37 _ _ (.inr rfl) (.inl ⟨rfl, rfl⟩) (by omega) (by omega) rfl rfl rfl)) ?_; try simp only [Act.put, List.setIfInBounds_toArray, List.set_cons_zero, List.set_cons_succ]
  go_upto_region 2 with (fail)
  refine wp_region_lit ?_
  refine wl_v ?_ ?_ ?_; rotate_left; (focus (go_simp; (try with_reducible rfl); done)); try simp only [Act.put, List.setIfInBounds_toArray, List.set_cons_zero, List.set_cons_succ]
  refine wl_v ?_ ?_ ?_; rotate_left; (focus (go_simp; (try with_reducible rfl); done)); try simp only [Act.put, List.setIfInBounds_toArray, List.set_cons_zero, List.set_cons_succ]
  refine wl_v ?_ ?_ ?_; rotate_left; (focus (go_simp; (try with_reducible rfl); done)); try simp only [Act.put, List.setIfInBounds_toArray, List.set_cons_zero, List.set_cons_succ]
  go_upto_region 3 with (fail)
  refine wp_region_lit ?_
  refine wl_v ?_ ?_ ?_; rotate_left; (focus (go_simp; (try with_reducible rfl); done)); try simp only [Act.put, List.setIfInBounds_toArray, List.set_cons_zero, List.set_cons_succ]
  refine wl_v (.bool false) (by go_simp <;> omega) ?_; try simp only [Act.put, List.setIfInBounds_toArray, List.set_cons_zero, List.set_cons_succ]
  go_upto_region 5 with (fail)
  refine wp_region_lit ?_
  refine wl_v ?_ ?_ ?_; rotate_left; (focus (go_simp; (try with_reducible rfl); done)); try simp only [Act.put, List.setIfInBounds_toArray, List.set_cons_zero, List.set_cons_succ]
  refine wl_v ?_ ?_ ?_; rotate_left; (focus (go_simp; (try with_reducible rfl); done)); try simp only [Act.put, List.setIfInBounds_toArray, List.set_cons_zero, List.set_cons_succ]
  refine wl_v ?_ ?_ ?_; rotate_left; (focus (go_simp; (try with_reducible rfl); done)); try simp only [Act.put, List.setIfInBounds_toArray, List.set_cons_zero, List.set_cons_succ]
  go_upto_region 6 with (fail)
  refine wp_region_lit ?_
  refine wl_v ?_ ?_ ?_; rotate_left; (focus (go_simp; (try with_reducible rfl); done)); try simp only [Act.put, List.setIfInBounds_toArray, List.set_cons_zero, List.set_cons_succ]
  refine wl_v ?_ ?_ ?_; rotate_left; (focus (go_simp; (try with_reducible rfl); done)); try simp only [Act.put, List.setIfInBounds_toArray, List.set_cons_zero, List.set_cons_succ]
  refine wl_v (.bool false) (by go_simp <;> omega) ?_; try simp only [Act.put, List.setIfInBounds_toArray, List.set_cons_zero, List.set_cons_succ]
  go_upto_region 8 with (fail)
  refine wp_region_lit ?_
  refine wl_v ?_ ?_ ?_; rotate_left; (focus (go_simp; (try with_reducible rfl); done)); try simp only [Act.put, List.setIfInBounds_toArray, List.set_cons_zero, List.set_cons_succ]
  refine wl_v ?_ ?_ ?_; rotate_left; (focus (go_simp; (try with_reducible rfl); done)); try simp only [Act.put, List.setIfInBounds_toArray, List.set_cons_zero, List.set_cons_succ]
  refine wl_v (.int .i64 ((n : Int) + 1)) (by go_simp <;> exact IntWalk.i64_in _ (by omega)) ?_; try simp only [Act.put, List.setIfInBounds_toArray, List.set_cons_zero, List.set_cons_succ]
  refine wl_v ?_ ?_ ?_; rotate_left; (focus (go_simp; (try with_reducible rfl); done)); try simp only [Act.put, List.setIfInBounds_toArray, List.set_cons_zero, List.set_cons_succ]
  refine wl_v ?_ ?_ ?_; rotate_left; (focus (go_simp; (try with_reducible rfl); done)); try simp only [Act.put, List.setIfInBounds_toArray, List.set_cons_zero, List.set_cons_succ]
  refine wl_v (.bool true) (by go_simp <;> omega) ?_; try simp only [Act.put, List.setIfInBounds_toArray, List.set_cons_zero, List.set_cons_succ]
  go_upto_region 9 with (fail)
  refine wp_region_lit ?_
  refine wl_v ?_ ?_ ?_; rotate_left; (focus (go_simp; (try with_reducible rfl); done)); try simp only [Act.put, List.setIfInBounds_toArray, List.set_cons_zero, List.set_cons_succ]
  refine wl_v ?_ ?_ ?_; rotate_left; (focus (go_simp; (try with_reducible rfl); done)); try simp only [Act.put, List.setIfInBounds_toArray, List.set_cons_zero, List.set_cons_succ]
  refine wl_v (.slice (some ⟨g, 0, none⟩) i c) (run_op_slice Try.underlying22 (.slice (some ⟨g, 0, none⟩) n c) none (some (.int .i64 (i : Nat))) none rfl rfl rfl rfl (slice_any 0 i Try.underlying22 s37 _ _ (.inl ⟨rfl, rfl⟩) (.inr rfl) (by omega) (by omega) (by simp [slAt, add_flat]) (by omega) (by omega))) ?_; try simp only [Act.put, List.setIfInBounds_toArray, List.set_cons_zero, List.set_cons_succ]
  refine wl_v ?_ ?_ ?_; rotate_left; (focus (go_simp; (try with_reducible rfl); done)); try simp only [Act.put, List.setIfInBounds_toArray, List.set_cons_zero, List.set_cons_succ]
  refine wl_v ?_ ?_ ?_; rotate_left; (focus (go_simp; (try with_reducible rfl); done)); try simp only [Act.put, List.setIfInBounds_toArray, List.set_cons_zero, List.set_cons_succ]
  refine wl_v (.int .i64 ((n : Int) + 1)) (by go_simp <;> exact IntWalk.i64_in _ (by omega)) ?_; try simp only [Act.put, List.setIfInBounds_toArray, List.set_cons_zero, List.set_cons_succ]
  refine wl_v ?_ ?_ ?_; rotate_left; (focus (go_simp; (try with_reducible rfl); done)); try simp only [Act.put, List.setIfInBounds_toArray, List.set_cons_zero, List.set_cons_succ]
  refine wl_v (.int .i64 (q : Nat)) (by rw [HQ.out]; go_simp <;> exact IntWalk.i64_in _ (by omega)) ?_; try simp only [Act.put, List.setIfInBounds_toArray, List.set_cons_zero, List.set_cons_succ]
  refine wl_w (.slice (some ⟨w.heap.size, 0, none⟩) (n + 1) c2) w2 (run_b2 (.slice (some ⟨g, 0, none⟩) i c) (.int .i64 (q : Nat)) rfl rfl (b_append hrun)) ?_; try simp only [Act.put, List.setIfInBounds_toArray, List.set_cons_zero, List.set_cons_succ]
  refine wl_v ?_ ?_ ?_; rotate_left; (focus (go_simp; (try with_reducible rfl); done)); try simp only [Act.put, List.setIfInBounds_toArray, List.set_cons_zero, List.set_cons_succ]
  go_upto_region 10 with (fail)
  refine wp_region_lit ?_
  refine wl_v ?_ ?_ ?_; rotate_left; (focus (go_simp; (try with_reducible rfl); done)); try simp only [Act.put, List.setIfInBounds_toArray, List.set_cons_zero, List.set_cons_succ]
  refine wl_v ?_ ?_ ?_; rotate_left; (focus (go_simp; (try with_reducible rfl); done)); try simp only [Act.put, List.setIfInBounds_toArray, List.set_cons_zero, List.set_cons_succ]
  refine wl_v (.slice (some ⟨w.heap.size, 0 + i * 3, none⟩) q (c2 - i)) (run_op_slice Try.underlying22 (.slice (some ⟨w.heap.size, 0, none⟩) (n + 1) c2) (some (.int .i64 (i : Nat))) none none rfl rfl rfl rfl (slice_any i (n + 1) Try.underlying22 s37 _ _ (.inr rfl) (.inl ⟨rfl, rfl⟩) (by omega) (by omega) (slAt_some (by omega)) (by omega) rfl)) ?_; try simp only [Act.put, List.setIfInBounds_toArray, List.set_cons_zero, List.set_cons_succ]
  refine wl_v ?_ ?_ ?_; rotate_left; (focus (go_simp; (try with_reducible rfl); done)); try simp only [Act.put, List.setIfInBounds_toArray, List.set_cons_zero, List.set_cons_succ]
  refine wl_row (goInt (Nat.min 1 q)) w.heap.size 37 _ _ hg2 (run_b2 (.slice (some ⟨w.heap.size, 0 + i * 3, none⟩) q (c2 - i)) (.slice (some ⟨bx, 0, none⟩) 1 1) rfl rfl (b_copy (run_copy_in _ _ _ _ 37 3 Try.underlying22 s37 (by omega) _ _ _ _ _ hg2 _ 1 1 (FV encT [x]) (by rw [FV_len encT_len, HMIN.out]; rfl) (hxs.up hb2) (FV_one _ _) (by rw [FV_len encT_len]; simp only [List.length_cons, List.length_nil]; have := HS2.out; omega)))) fun w3 hg3 hb3 ho3 => ?_; have hb23 := hb2.trans (hb3 _ (Nat.le_refl _)); clear hb3 ho3 hb2 hg2; try simp only [Act.put, List.setIfInBounds_toArray, List.set_cons_zero, List.set_cons_succ]
  go_upto_region 11 with (fail)
  have hS : AnyW _ := AnyW.any w3.drew
  refine region_pi (AnyW) [(0, true), (1, true), (2, true), (3, true), (4, true), (5, true), (6, true), (7, true), (8, false)] (by kernel_rfl) (by kernel_rfl) rfl (by kernel_rfl) hS ?_
  have hgd : Block w3.drew w.heap.size 37 _ := hg3
  have hsd : Holds w3.drew (some ⟨g, 0 + i * 3, none⟩) (FV encT (L.drop i)) := hsrc.up hb23.drew
  have hall := hb23.drew
  clear hg3 hsrc hb23
  refine pi_f0 ?_ rfl ?_ ?_; rotate_left; (focus (intro w' hS'; go_simp; (try with_reducible rfl); done)); try simp only [Act.put, List.setIfInBounds_toArray, List.set_cons_zero, List.set_cons_succ]
  refine pi_f0 ?_ rfl ?_ ?_; rotate_left; (focus (intro w' hS'; go_simp; (try with_reducible rfl); done)); try simp only [Act.put, List.setIfInBounds_toArray, List.set_cons_zero, List.set_cons_succ]
  refine pi_f0 ?_ rfl ?_ ?_; rotate_left; (focus (intro w' hS'; go_simp; (try with_reducible rfl); done)); try simp only [Act.put, List.setIfInBounds_toArray, List.set_cons_zero, List.set_cons_succ]
  refine pi_f0 (.int .i64 ((i : Int) + 1)) rfl (by intro w' hS'; go_simp <;> exact IntWalk.i64_in _ (by omega)) ?_; try simp only [Act.put, List.setIfInBounds_toArray, List.set_cons_zero, List.set_cons_succ]
  refine pi_f0 (.slice (some ⟨w.heap.size, 0 + (i + 1) * 3, none⟩) (n - i) (c2 - (i + 1))) rfl (fun w' _ => run_op_slice Try.underlying22 (.slice (some ⟨w.heap.size, 0, none⟩) (n + 1) c2) (some (.int .i64 (i + 1 : Nat))) none none rfl rfl rfl rfl (slice_any (i + 1) (n + 1) Try.underlying22 s37 _ _ (.inr rfl) (.inl ⟨rfl, rfl⟩) (by omega) (by omega) (slAt_some (by omega)) (by omega) rfl)) ?_; try simp only [Act.put, List.setIfInBounds_toArray, List.set_cons_zero, List.set_cons_succ]
  refine pi_f0 ?_ rfl ?_ ?_; rotate_left; (focus (intro w' hS'; go_simp; (try with_reducible rfl); done)); try simp only [Act.put, List.setIfInBounds_toArray, List.set_cons_zero, List.set_cons_succ]
  refine pi_f0 ?_ rfl ?_ ?_; rotate_left; (focus (intro w' hS'; go_simp; (try with_reducible rfl); done)); try simp only [Act.put, List.setIfInBounds_toArray, List.set_cons_zero, List.set_cons_succ]
  refine pi_f0 (.slice (some ⟨g, 0 + i * 3, none⟩) (n - i) (c - i)) rfl (fun w' _ => run_op_slice Try.underlying22 (.slice (some ⟨g, 0, none⟩) n c) (some (.int .i64 (i : Nat))) none none rfl rfl rfl rfl (slice_any i n Try.underlying22 s37 _ _ (.inr rfl) (.inl ⟨rfl, rfl⟩) (by omega) (by omega) (slAt_some (by omega)) (by omega) rfl)) ?_; try simp only [Act.put, List.setIfInBounds_toArray, List.set_cons_zero, List.set_cons_succ]
  refine pi_a0 rfl (fun K hK => ?_); refine wpo_row (goInt (Nat.min (n - i) (n - i))) w.heap.size 37 _ _ hgd (run_b2 (.slice (some ⟨w.heap.size, 0 + (i + 1) * 3, none⟩) (n - i) (c2 - (i + 1))) (.slice (some ⟨g, 0 + i * 3, none⟩) (n - i) (c - i)) rfl rfl (b_copy (hcopy _ hgd _ _ hsd))) fun w5 hg5 hb5 _ => ?_; replace hall := hall.trans (hb5 _ (Nat.le_refl _)); clear hb5 hgd hsd; have hS := AnyW.any w5; refine hK _ _ ⟨?_, ?_⟩; exact hS; clear hK; clear K; try simp only [Act.put, List.setIfInBounds_toArray, List.set_cons_zero, List.set_cons_succ]
  refine pi_nil (NoPanic.normal ?_)
  go_upto_region 12 with (fail)
  refine wp_region_lit ?_
  refine wl_v ?_ ?_ ?_; rotate_left; (focus (go_simp; (try with_reducible rfl); done)); try simp only [Act.put, List.setIfInBounds_toArray, List.set_cons_zero, List.set_cons_succ]
  refine wl_v ?_ ?_ ?_; rotate_left; (focus (go_simp; (try with_reducible rfl); done)); try simp only [Act.put, List.setIfInBounds_toArray, List.set_cons_zero, List.set_cons_succ]
  go_wp2_with fail
  go_ret
  refine ⟨⟨_, rfl, ?_, .inr ⟨w.heap.size, c2, _, ?_, hbase, hg5, ?_, hcm2, ?_, ?_⟩⟩, hall.mono hbase⟩
  · rw [FV_len encT_len]
  · rw [HNEW.out]; rfl
  · rw [HNEW.out]; omega
  · exact ins_size HS2.out hi HL.out (by omega)
  · rw [HNEW.out]
    exact ins_end3 HS2.out HT2.out hi HL.out (by omega)
set_option maxHeartbeats 2000000 in
set_option maxRecDepth 100000 in
theorem ins_room (w : World) (base : Nat) (g c n : Nat) (cur : Array Value) (L : List Tm) (i : Nat) (x : Tm) (bx : Nat) (hL : L.length = n) (hbg : base ≤ g) (hg : Block w g 37 cur) (hcs : cur.size = c * 3) (hcm : c ≤ maxLen) (htk : cur.toList.take (n * 3) = FV encT L) (hbase : base ≤ w.heap.size)
    (hi : i < n) (hx : Block w bx 37 #[.int .i64 x.1, .int .i64 x.2.1, .int .i64 x.2.2]) (hne : bx ≠ g) (hn : n ≤ 100000) (hnc : n + 1 ≤ c) :
    Calls Try.prog 34 #[.slice (some ⟨g, 0, none⟩) n c, .int .i64 i, .slice (some ⟨bx, 0, none⟩) 1 1] w fun e w' => (∃ v', e = .returned v' ∧ TOwn w' base v' (L.take i ++ x :: L.drop i)) ∧ Below base w w' := by
  have hall0 : Holds w (some ⟨g, 0, none⟩) (FV encT L) := by
    intro j hj
    refine ⟨g, 0, rfl, ?_⟩
    rw [Nat.zero_add, Block.cell hg, ← htk, List.getElem?_take, if_pos (by rw [FV_len encT_len, hL] at hj; exact hj)]
    simp
  have hsrc : Holds w (some ⟨g, 0 + i * 3, none⟩) (FV encT (L.drop i)) := by
    rw [FV_drop encT_len, ← slAt_some (c := c) (by omega)]
    exact slAt_holds (n := n) (by rw [FV_len encT_len, hL]) (by omega) hall0 i
  have HL := Lib.hid hL
  have HC := Lib.hid htk
  have HCS := Lib.hid hcs
  have HNEW := Lib.hid (ins_new (x := x) hL hi)
  have hl2 : (FV encT (L.drop i)).length = (n - i) * 3 := by rw [FV_len encT_len, List.length_drop, hL]
  have hcopy : ∀ W, Block W g 37 cur → ∀ k1 k2, Holds W (some ⟨g, 0 + i * 3, none⟩) (FV encT (L.drop i)) →
      (Builtin.copy_ #[22, 22] 3 #[.slice (some ⟨g, 0 + (i + 1) * 3, none⟩) (n - i) k1, .slice (some ⟨g, 0 + i * 3, none⟩) (n + 1 - i) k2]).run Try.prog W = .ok (goInt (Nat.min (n + 1 - i) (n - i))) (W.setRow g (spl cur (0 + (i + 1) * 3) (FV encT (L.drop i)))) := by
    intro W hW k1 k2 hs
    refine run_copy_in _ _ _ _ 37 3 Try.underlying22 s37 (by omega) _ _ _ _ _ hW _ _ _ _ ?_ hs (FV_one _ _) ?_
    · rw [hl2, show Nat.min (n + 1 - i) (n - i) = n - i from Nat.min_eq_right (by omega)]
    · rw [hl2, hcs]; omega
  have hcopy2 : ∀ W, Block W g 37 (spl cur (0 + (i + 1) * 3) (FV encT (L.drop i))) → ∀ k1 k2, Holds W (some ⟨bx, 0, none⟩) (FV encT [x]) →
      (Builtin.copy_ #[22, 22] 3 #[.slice (some ⟨g, 0 + i * 3, none⟩) (n + 1 - i) k1, .slice (some ⟨bx, 0, none⟩) 1 k2]).run Try.prog W = .ok (goInt (Nat.min 1 (n + 1 - i))) (W.setRow g (spl (spl cur (0 + (i + 1) * 3) (FV encT (L.drop i))) (0 + i * 3) (FV encT [x]))) := by
    intro W hW k1 k2 hs
    refine run_copy_in _ _ _ _ 37 3 Try.underlying22 s37 (by omega) _ _ _ _ _ hW _ _ _ _ ?_ hs (FV_one _ _) ?_
    · rw [show Nat.min 1 (n + 1 - i) = 1 from Nat.min_eq_left (by omega)]; rfl
    · rw [spl_size (by rw [hl2, hcs]; omega), hcs]; show 0 + i * 3 + 3 ≤ _; omega
  have hov : ∀ lb cb, (callFunc 47 #[.slice (some ⟨bx, 0, none⟩) 1 1, .slice (some ⟨g, 0 + (i + 1) * 3, none⟩) lb cb]).run Try.prog w = .ok (.value (.bool false)) w := fun lb cb => by
    rw [run_callFunc_extern Try.func47 (by kernel_rfl) (by kernel_rfl) (by kernel_rfl) (e := Extern.SlicesOverlaps.overlaps #[22, 22] #[4]) (by kernel_rfl),
      Lib.run_overlaps_apart w 22 4 37 Try.underlying22 3 (fun w => by kernel_rfl) ⟨bx, 0, none⟩ ⟨g, 0 + (i + 1) * 3, none⟩ 1 1 lb cb hne 37 37 3 cur.size (by simp [World.shape?, show w.heap[bx]? = _ from hx]) (by simp [World.shape?, show w.heap[g]? = _ from hg]) (by rw [hcs]; omega) (hx.frozen _) (hx.frozen _)]
    rfl
  clear hL htk hcs hall0 hl2
  go_enter Try.func34, Try.ntmps34
  go_upto_region 0 with (fail)
  refine wp_region_lit ?_
  refine wl_v ?_ ?_ ?_; rotate_left; (focus (go_simp; (try with_reducible rfl); done)); try simp only [Act.put, List.setIfInBounds_toArray, List.set_cons_zero, List.set_cons_succ]
  go_upto_region 1 with (fail)
  refine wp_region_lit ?_
  refine wl_v ?_ ?_ ?_; rotate_left; (focus (go_simp; (try with_reducible rfl); done)); try simp only [Act.put, List.setIfInBounds_toArray, List.set_cons_zero, List.set_cons_succ]
  refine wl_v ?_ ?_ ?_; rotate_left; (focus (go_simp; (try with_reducible rfl); done)); try simp only [Act.put, List.setIfInBounds_toArray, List.set_cons_zero, List.set_cons_succ]
  refine wl_v _ (run_op_slice Try.underlying22 (.slice (some ⟨g, 0, none⟩) n c) (some (.int .i64 (i : Nat))) none none rfl rfl rfl rfl (slice_any i n Try.underlying22 s37 _ _ (.inr rfl) (.inl ⟨rfl, rfl⟩) (by omega) (by omega) rfl rfl rfl)) ?_; try simp only [Act.put, List.setIfInBounds_toArray, List.set_cons_zero, List.set_cons_succ]
  go_upto_region 2 with (fail)
  refine wp_region_lit ?_
  refine wl_v ?_ ?_ ?_; rotate_left; (focus (go_simp; (try with_reducible rfl); done)); try simp only [Act.put, List.setIfInBounds_toArray, List.set_cons_zero, List.set_cons_succ]
  refine wl_v ?_ ?_ ?_; rotate_left; (focus (go_simp; (try with_reducible rfl); done)); try simp only [Act.put, List.setIfInBounds_toArray, List.set_cons_zero, List.set_cons_succ]
  refine wl_v ?_ ?_ ?_; rotate_left; (focus (go_simp; (try with_reducible rfl); done)); try simp only [Act.put, List.setIfInBounds_toArray, List.set_cons_zero, List.set_cons_succ]
  go_upto_region 3 with (fail)
  refine wp_region_lit ?_
  refine wl_v ?_ ?_ ?_; rotate_left; (focus (go_simp; (try with_reducible rfl); done)); try simp only [Act.put, List.setIfInBounds_toArray, List.set_cons_zero, List.set_cons_succ]
  refine wl_v (.bool false) (by go_simp <;> omega) ?_; try simp only [Act.put, List.setIfInBounds_toArray, List.set_cons_zero, List.set_cons_succ]
  go_upto_region 5 with (fail)
  refine wp_region_lit ?_
  refine wl_v ?_ ?_ ?_; rotate_left; (focus (go_simp; (try with_reducible rfl); done)); try simp only [Act.put, List.setIfInBounds_toArray, List.set_cons_zero, List.set_cons_succ]
  refine wl_v ?_ ?_ ?_; rotate_left; (focus (go_simp; (try with_reducible rfl); done)); try simp only [Act.put, List.setIfInBounds_toArray, List.set_cons_zero, List.set_cons_succ]
  refine wl_v ?_ ?_ ?_; rotate_left; (focus (go_simp; (try with_reducible rfl); done)); try simp only [Act.put, List.setIfInBounds_toArray, List.set_cons_zero, List.set_cons_succ]
  go_upto_region 6 with (fail)
  refine wp_region_lit ?_
  refine wl_v ?_ ?_ ?_; rotate_left; (focus (go_simp; (try with_reducible rfl); done)); try simp only [Act.put, List.setIfInBounds_toArray, List.set_cons_zero, List.set_cons_succ]
  refine wl_v ?_ ?_ ?_; rotate_left; (focus (go_simp; (try with_reducible rfl); done)); try simp only [Act.put, List.setIfInBounds_toArray, List.set_cons_zero, List.set_cons_succ]
  refine wl_v (.bool false) (by go_simp <;> omega) ?_; try simp only [Act.put, List.setIfInBounds_toArray, List.set_cons_zero, List.set_cons_succ]
  go_upto_region 8 with (fail)
  refine wp_region_lit ?_
  refine wl_v ?_ ?_ ?_; rotate_left; (focus (go_simp; (try with_reducible rfl); done)); try simp only [Act.put, List.setIfInBounds_toArray, List.set_cons_zero, List.set_cons_succ]
  refine wl_v ?_ ?_ ?_; rotate_left; (focus (go_simp; (try with_reducible rfl); done)); try simp only [Act.put, List.setIfInBounds_toArray, List.set_cons_zero, List.set_cons_succ]
  refine wl_v (.int .i64 ((n : Int) + 1)) (by go_simp <;> exact IntWalk.i64_in _ (by omega)) ?_; try simp only [Act.put, List.setIfInBounds_toArray, List.set_cons_zero, List.set_cons_succ]
  refine wl_v ?_ ?_ ?_; rotate_left; (focus (go_simp; (try with_reducible rfl); done)); try simp only [Act.put, List.setIfInBounds_toArray, List.set_cons_zero, List.set_cons_succ]
  refine wl_v ?_ ?_ ?_; rotate_left; (focus (go_simp; (try with_reducible rfl); done)); try simp only [Act.put, List.setIfInBounds_toArray, List.set_cons_zero, List.set_cons_succ]
  refine wl_v (.bool false) (by go_simp <;> omega) ?_; try simp only [Act.put, List.setIfInBounds_toArray, List.set_cons_zero, List.set_cons_succ]
  go_upto_region 13 with (fail)
  refine wp_region_lit ?_
  refine wl_v ?_ ?_ ?_; rotate_left; (focus (go_simp; (try with_reducible rfl); done)); try simp only [Act.put, List.setIfInBounds_toArray, List.set_cons_zero, List.set_cons_succ]
  refine wl_v ?_ ?_ ?_; rotate_left; (focus (go_simp; (try with_reducible rfl); done)); try simp only [Act.put, List.setIfInBounds_toArray, List.set_cons_zero, List.set_cons_succ]
  refine wl_v ?_ ?_ ?_; rotate_left; (focus (go_simp; (try with_reducible rfl); done)); try simp only [Act.put, List.setIfInBounds_toArray, List.set_cons_zero, List.set_cons_succ]
  refine wl_v (.int .i64 ((n : Int) + 1)) (by go_simp <;> exact IntWalk.i64_in _ (by omega)) ?_; try simp only [Act.put, List.setIfInBounds_toArray, List.set_cons_zero, List.set_cons_succ]
  refine wl_v (.slice (some ⟨g, 0, none⟩) (n + 1) c) (run_op_slice Try.underlying22 (.slice (some ⟨g, 0, none⟩) n c) none (some (.int .i64 (n + 1 : Nat))) none rfl rfl rfl rfl (slice_any 0 (n + 1) Try.underlying22 s37 _ _ (.inl ⟨rfl, rfl⟩) (.inr rfl) (by omega) (by omega) (by simp [slAt, add_flat]) (by omega) (by omega))) ?_; try simp only [Act.put, List.setIfInBounds_toArray, List.set_cons_zero, List.set_cons_succ]
  refine wl_v ?_ ?_ ?_; rotate_left; (focus (go_simp; (try with_reducible rfl); done)); try simp only [Act.put, List.setIfInBounds_toArray, List.set_cons_zero, List.set_cons_succ]
  go_upto_region 14 with (fail)
  refine wp_region_lit ?_
  refine wl_v ?_ ?_ ?_; rotate_left; (focus (go_simp; (try with_reducible rfl); done)); try simp only [Act.put, List.setIfInBounds_toArray, List.set_cons_zero, List.set_cons_succ]
  refine wl_v ?_ ?_ ?_; rotate_left; (focus (go_simp; (try with_reducible rfl); done)); try simp only [Act.put, List.setIfInBounds_toArray, List.set_cons_zero, List.set_cons_succ]
  refine wl_v ?_ ?_ ?_; rotate_left; (focus (go_simp; (try with_reducible rfl); done)); try simp only [Act.put, List.setIfInBounds_toArray, List.set_cons_zero, List.set_cons_succ]
  refine wl_v ?_ ?_ ?_; rotate_left; (focus (go_simp; (try with_reducible rfl); done)); try simp only [Act.put, List.setIfInBounds_toArray, List.set_cons_zero, List.set_cons_succ]
  refine wl_v (.int .i64 ((i : Int) + 1)) (by go_simp <;> exact IntWalk.i64_in _ (by omega)) ?_; try simp only [Act.put, List.setIfInBounds_toArray, List.set_cons_zero, List.set_cons_succ]
  refine wl_v (.slice (some ⟨g, 0 + (i + 1) * 3, none⟩) (n - i) (c - (i + 1))) (run_op_slice Try.underlying22 (.slice (some ⟨g, 0, none⟩) (n + 1) c) (some (.int .i64 (i + 1 : Nat))) none none rfl rfl rfl rfl (slice_any (i + 1) (n + 1) Try.underlying22 s37 _ _ (.inr rfl) (.inl ⟨rfl, rfl⟩) (by omega) (by omega) (slAt_some (by omega)) (by omega) rfl)) ?_; try simp only [Act.put, List.setIfInBounds_toArray, List.set_cons_zero, List.set_cons_succ]
  refine wl_v (.bool false) (run_ext2 _ _ rfl rfl (hov _ _)) ?_; try simp only [Act.put, List.setIfInBounds_toArray, List.set_cons_zero, List.set_cons_succ]
  refine wl_v ?_ ?_ ?_; rotate_left; (focus (go_simp; (try with_reducible rfl); done)); try simp only [Act.put, List.setIfInBounds_toArray, List.set_cons_zero, List.set_cons_succ]
  go_upto_region 15 with (fail)
  have hS : AnyW _ := AnyW.any w.drew
  refine region_pi (AnyW) [(0, true), (1, true), (2, true), (3, true), (4, true), (5, true), (6, true), (7, true), (8, false)] (by kernel_rfl) (by kernel_rfl) rfl (by kernel_rfl) hS ?_
  have hgd : Block w.drew g 37 cur := hg
  have hsd : Holds w.drew (some ⟨g, 0 + i * 3, none⟩) (FV encT (L.drop i)) := hsrc
  have hxd : Block w.drew bx 37 #[.int .i64 x.1, .int .i64 x.2.1, .int .i64 x.2.2] := hx
  have hall := (Below.refl base w).drew
  clear hg hsrc hx
  refine pi_f0 ?_ rfl ?_ ?_; rotate_left; (focus (intro w' hS'; go_simp; (try with_reducible rfl); done)); try simp only [Act.put, List.setIfInBounds_toArray, List.set_cons_zero, List.set_cons_succ]
  refine pi_f0 ?_ rfl ?_ ?_; rotate_left; (focus (intro w' hS'; go_simp; (try with_reducible rfl); done)); try simp only [Act.put, List.setIfInBounds_toArray, List.set_cons_zero, List.set_cons_succ]
  refine pi_f0 ?_ rfl ?_ ?_; rotate_left; (focus (intro w' hS'; go_simp; (try with_reducible rfl); done)); try simp only [Act.put, List.setIfInBounds_toArray, List.set_cons_zero, List.set_cons_succ]
  refine pi_f0 (.int .i64 ((i : Int) + 1)) rfl (by intro w' hS'; go_simp <;> exact IntWalk.i64_in _ (by omega)) ?_; try simp only [Act.put, List.setIfInBounds_toArray, List.set_cons_zero, List.set_cons_succ]
  refine pi_f0 (.slice (some ⟨g, 0 + (i + 1) * 3, none⟩) (n - i) (c - (i + 1))) rfl (fun w' _ => run_op_slice Try.underlying22 (.slice (some ⟨g, 0, none⟩) (n + 1) c) (some (.int .i64 (i + 1 : Nat))) none none rfl rfl rfl rfl (slice_any (i + 1) (n + 1) Try.underlying22 s37 _ _ (.inr rfl) (.inl ⟨rfl, rfl⟩) (by omega) (by omega) (slAt_some (by omega)) (by omega) rfl)) ?_; try simp only [Act.put, List.setIfInBounds_toArray, List.set_cons_zero, List.set_cons_succ]
  refine pi_f0 ?_ rfl ?_ ?_; rotate_left; (focus (intro w' hS'; go_simp; (try with_reducible rfl); done)); try simp only [Act.put, List.setIfInBounds_toArray, List.set_cons_zero, List.set_cons_succ]
  refine pi_f0 ?_ rfl ?_ ?_; rotate_left; (focus (intro w' hS'; go_simp; (try with_reducible rfl); done)); try simp only [Act.put, List.setIfInBounds_toArray, List.set_cons_zero, List.set_cons_succ]
  refine pi_f0 (.slice (some ⟨g, 0 + i * 3, none⟩) (n + 1 - i) (c - i)) rfl (fun w' _ => run_op_slice Try.underlying22 (.slice (some ⟨g, 0, none⟩) (n + 1) c) (some (.int .i64 (i : Nat))) none none rfl rfl rfl rfl (slice_any i (n + 1) Try.underlying22 s37 _ _ (.inr rfl) (.inl ⟨rfl, rfl⟩) (by omega) (by omega) (slAt_some (by omega)) (by omega) rfl)) ?_; try simp only [Act.put, List.setIfInBounds_toArray, List.set_cons_zero, List.set_cons_succ]
  refine pi_a0 rfl (fun K hK => ?_); refine wpo_row (goInt (Nat.min (n + 1 - i) (n - i))) g 37 _ _ hgd (run_b2 (.slice (some ⟨g, 0 + (i + 1) * 3, none⟩) (n - i) (c - (i + 1))) (.slice (some ⟨g, 0 + i * 3, none⟩) (n + 1 - i) (c - i)) rfl rfl (b_copy (hcopy _ hgd _ _ hsd))) fun w5 hg5 hb5 ho5 => ?_; have hx5 : Holds w5 (some ⟨bx, 0, none⟩) (FV encT [x]) := block_x ((ho5 bx hne).trans hxd); replace hall := hall.trans (hb5 _ hbg); clear hb5 hgd hsd ho5; have hS := AnyW.any w5; refine hK _ _ ⟨?_, ?_⟩; exact hS; clear hK; clear K; try simp only [Act.put, List.setIfInBounds_toArray, List.set_cons_zero, List.set_cons_succ]
  refine pi_nil (NoPanic.normal ?_)
  go_upto_region 16 with (fail)
  refine wp_region_lit ?_
  refine wl_v ?_ ?_ ?_; rotate_left; (focus (go_simp; (try with_reducible rfl); done)); try simp only [Act.put, List.setIfInBounds_toArray, List.set_cons_zero, List.set_cons_succ]
  refine wl_v ?_ ?_ ?_; rotate_left; (focus (go_simp; (try with_reducible rfl); done)); try simp only [Act.put, List.setIfInBounds_toArray, List.set_cons_zero, List.set_cons_succ]
  refine wl_v (.slice (some ⟨g, 0 + i * 3, none⟩) (n + 1 - i) (c - i)) (run_op_slice Try.underlying22 (.slice (some ⟨g, 0, none⟩) (n + 1) c) (some (.int .i64 (i : Nat))) none none rfl rfl rfl rfl (slice_any i (n + 1) Try.underlying22 s37 _ _ (.inr rfl) (.inl ⟨rfl, rfl⟩) (by omega) (by omega) (slAt_some (by omega)) (by omega) rfl)) ?_; try simp only [Act.put, List.setIfInBounds_toArray, List.set_cons_zero, List.set_cons_succ]
  refine wl_v ?_ ?_ ?_; rotate_left; (focus (go_simp; (try with_reducible rfl); done)); try simp only [Act.put, List.setIfInBounds_toArray, List.set_cons_zero, List.set_cons_succ]
  refine wl_row (goInt (Nat.min 1 (n + 1 - i))) g 37 _ _ hg5 (run_b2 (.slice (some ⟨g, 0 + i * 3, none⟩) (n + 1 - i) (c - i)) (.slice (some ⟨bx, 0, none⟩) 1 1) rfl rfl (b_copy (hcopy2 _ hg5 _ _ hx5))) fun w6 hg6 hb6 _ => ?_; replace hall := hall.trans (hb6 _ hbg); clear hb6 hg5 hx5; try simp only [Act.put, List.setIfInBounds_toArray, List.set_cons_zero, List.set_cons_succ]
  go_upto_region 17 with (fail)
  refine wp_region_lit ?_
  refine wl_v ?_ ?_ ?_; rotate_left; (focus (go_simp; (try with_reducible rfl); done)); try simp only [Act.put, List.setIfInBounds_toArray, List.set_cons_zero, List.set_cons_succ]
  refine wl_v ?_ ?_ ?_; rotate_left; (focus (go_simp; (try with_reducible rfl); done)); try simp only [Act.put, List.setIfInBounds_toArray, List.set_cons_zero, List.set_cons_succ]
  go_wp2_with fail
  go_ret
  refine ⟨⟨_, rfl, ?_, .inr ⟨g, c, _, ?_, hbg, hg6, ?_, hcm, ?_, ?_⟩⟩, hall⟩
  · rw [FV_len encT_len]
  · rw [HNEW.out]; rfl
  · rw [HNEW.out]; omega
  · exact ins_size2 HCS.out hi HL.out (by omega)
  · rw [HNEW.out]
    exact ins_end2 HCS.out HC.out hi HL.out (by omega)
end Go.Proofs.Ytfehhenbdiageaa
