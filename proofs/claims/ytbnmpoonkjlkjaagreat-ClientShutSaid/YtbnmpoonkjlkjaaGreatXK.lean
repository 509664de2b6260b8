/- Client: part K of the proof. -/
import Derived.Test.YtbnmpoonkjlkjaaGreatXJ
namespace Go.Proofs.YtbnmpoonkjlkjaaGreat
open Go.RowKit
set_option linter.unusedVariables false
set_option linter.unusedSimpArgs false
section
theorem beat_os (c : Cl) : (beatC c).os = c.os := by unfold beatC; split <;> rfl
theorem beat_len (c : Cl) : (beatO c).length ≤ 1 := by
 unfold beatO
 split
 · simp
 ·
  unfold sgnF rawF
  split
  · split <;> simp
  · simp
theorem say_len (c : Cl) : (sayO c).length ≤ 1 := by
 unfold sayO
 split
 · simp
 ·
  split
  · simp
  ·
   unfold sgnF rawF
   split
   · split <;> simp
   · simp
theorem tick_rest {c : Cl} (h : ¬ c.state = 3 ∧ (c.now < c.ask ∨ (¬ c.state = 1 ∧ ¬ c.state = 2))) : tick1C c = c ∧ tick1O c = [] := by
 unfold tick1C tick1O
 rw [if_neg h.1, if_neg h.1]
 by_cases h1 : c.now < c.ask
 ·
  rw [if_pos h1, if_pos h1]
  exact ⟨rfl, rfl⟩
 ·
  rw [if_neg h1, if_neg h1, if_neg (by omega), if_neg (by omega), if_neg (by omega)]
  exact ⟨rfl, rfl⟩
theorem beat_same (c : Cl) : (beatC c).items = c.items ∧ (beatC c).os = c.os ∧ (beatC c).vw = c.vw := by unfold beatC; split <;> exact ⟨rfl, rfl, rfl⟩
theorem say_same (c : Cl) : (sayC c).items = c.items ∧ (sayC c).os = c.os ∧ (sayC c).vw = c.vw := by
 unfold sayC
 split
 · exact ⟨rfl, rfl, rfl⟩
 · split <;> exact ⟨rfl, rfl, rfl⟩
theorem tick_same (c : Cl) : (tickC c).items = c.items ∧ (tickC c).os = c.os ∧ (tickC c).vw = c.vw := by
 unfold tickC
 split
 · exact ⟨rfl, rfl, rfl⟩
 ·
  unfold tick1C
  split
  ·
   obtain ⟨a1, a2, a3⟩ := say_same (beatC (timeC c))
   obtain ⟨b1, b2, b3⟩ := beat_same (timeC c)
   exact ⟨a1.trans b1, a2.trans b2, a3.trans b3⟩
  ·
   split
   · exact ⟨rfl, rfl, rfl⟩
   · split <;> exact ⟨rfl, rfl, rfl⟩
theorem own_types {w : World} {B B' n n' : Nat} {v x : Value} {xs ys : List Value} (h : w.ownsRow B 30 1 v n xs) (h2 : w.ownsRow B' 5 1 x n' ys) {q : Nat} (hq : x.ownBlock = some q) : v.ownBlock ≠ some q := fun e => by
 obtain ⟨_, ⟨e1, _⟩ | ⟨g, cap, cur, e1, _, hg, _⟩⟩ := h
 · rw [e1] at e; cases e
 ·
  obtain ⟨_, ⟨e2, _⟩ | ⟨g2, cap2, cur2, e2, _, hg2, _⟩⟩ := h2
  · rw [e2] at hq; cases hq
  ·
   rw [e1] at e
   rw [e2] at hq
   simp only [Value.ownBlock, Option.some.injEq] at e hq
   subst e hq
   rw [hg] at hg2
   injection hg2 with hg2
   injection hg2 with _ h3
   cases h3
section
variable {ops : Array Oper} {rest : List Oper} {d : Option Tmp} {tt : TypeId} {ps : String} {af : Array Edge} {gd : Option (Nat × Bool)} {a : Act} {w : World} {Q : Exit → Act → World → Prop} {K : Act → World → Prop} {x y z : Operand}
theorem op_app_outs {w1 w2 : World} {B b : Nat} {v1 v2 : Value} {L1 L2 : List (List B8)} {s : Operand} (h1 : Outs w1 B v1 L1) (hon : Only b none w1 w2) (hb : b < B) (h2 : Outs w2 w1.heap.size v2 L2) (hl : L1.length + L2.length ≤ 2) (hB : B ≤ w1.heap.size)
  (hs : a.eval s = v1) (hx : a.eval x = v2) (h : ∀ v' w', Outs w' B v' (L1 ++ L2) → Below B w2 w' → wpList Tryz.prog ops Q rest (a.put d v') w') :
  wpList Tryz.prog ops Q (⟨d, .call { callee := .builtin .append, args := #[s, x], argTypes := #[29, 29] }, tt, ps, af, none⟩ :: rest) a w2 := by
 obtain ⟨vs1, l1, o1, e1, d1⟩ := h1
 obtain ⟨vs2, l2, o2, e2, d2⟩ := h2
 have hy1 : ∀ (i : Nat) u, vs1[i]? = some u → ∃ y, L1[i]? = some y := fun i u hu => ⟨_, List.getElem?_eq_getElem (by have := (List.getElem?_eq_some_iff.1 hu).1; omega)⟩
 have hy2 : ∀ (i : Nat) u, vs2[i]? = some u → ∃ y, L2[i]? = some y := fun i u hu => ⟨_, List.getElem?_eq_getElem (by have := (List.getElem?_eq_some_iff.1 hu).1; omega)⟩
 have hkeep : ∀ q, B ≤ q → q < w1.heap.size → w2.heap[q]? = w1.heap[q]? := fun q hq hl => hon.block q hl (by omega) (by simp)
 have o1' := own_block o1 (fun q hq => hkeep q (World.ownsRow.lt o1 q hq).1 (World.ownsRow.lt o1 q hq).2)
 have e1' : ∀ (i : Nat) u y, vs1[i]? = some u → L1[i]? = some y → BOwn w2 B u y := fun i u y hu hy => own_block (e1 i u y hu hy) (fun q hq => hkeep q (World.ownsRow.lt (e1 i u y hu hy) q hq).1 (World.ownsRow.lt (e1 i u y hu hy) q hq).2)
 obtain ⟨A, c, hv2, hh, _, _⟩ := own_slice o2
 subst hv2
 have hone : ∀ u ∈ vs2, u.oneCell' = true := fun u hu => by
  obtain ⟨i, hi, he⟩ := List.getElem_of_mem hu
  have hu' : vs2[i]? = some u := by rw [← he]; exact List.getElem?_eq_getElem hi
  obtain ⟨y, hy⟩ := hy2 i u hu'
  obtain ⟨A', c', e'⟩ := own_sliceB (e2 i u y hu' hy)
  rw [e']
  rfl
 refine op_append 29 30 s x B (.slice none 0 0) 1 24 v1 L1.length vs1 A L2.length c vs2 hs hx U29 i30 rfl (by omega) o1' (by omega) hh hone (by unfold maxLen; omega) (by omega) (Nat.le_trans hB hon.size) fun v' w' hown hg hv hb2 => ?_
 refine h v' w' ⟨vs1 ++ vs2, by simp only [List.length_append]; omega, by rw [List.length_append]; exact hown, fun i u y hu hy => ?_, fun i j u t hu ht hij q hq => ?_⟩ hb2
 ·
  by_cases hi : i < vs1.length
  ·
   rw [List.getElem?_append_left hi] at hu
   rw [List.getElem?_append_left (by omega)] at hy
   have h3 := e1' i u y hu hy
   exact own_block h3 (fun q hq => hg.block q (World.ownsRow.lt h3 q hq).2 (fun e => own_types o1' h3 hq e.symm))
  ·
   rw [List.getElem?_append_right (by omega)] at hu
   rw [List.getElem?_append_right (by omega), ← l1] at hy
   have h3 := e2 _ u y hu hy
   refine own_baseB (own_block h3 (fun q hq => hg.block q (World.ownsRow.lt h3 q hq).2 (fun e => own_types o1' h3 hq e.symm))) hB
 ·
  by_cases hi : i < vs1.length
  ·
   rw [List.getElem?_append_left hi] at hu
   by_cases hj : j < vs1.length
   ·
    rw [List.getElem?_append_left hj] at ht
    exact d1 i j u t hu ht hij q hq
   ·
    rw [List.getElem?_append_right (by omega)] at ht
    obtain ⟨y, hy⟩ := hy1 i u hu
    obtain ⟨y2, hy'⟩ := hy2 _ t ht
    intro e
    have h3 := World.ownsRow.lt (e1 i u y hu hy) q hq
    have h4 := World.ownsRow.lt (e2 _ t y2 ht hy') q e
    omega
  ·
   rw [List.getElem?_append_right (by omega)] at hu
   by_cases hj : j < vs1.length
   ·
    rw [List.getElem?_append_left hj] at ht
    obtain ⟨y, hy⟩ := hy1 j t ht
    obtain ⟨y2, hy'⟩ := hy2 _ u hu
    intro e
    have h3 := World.ownsRow.lt (e1 j t y ht hy) q e
    have h4 := World.ownsRow.lt (e2 _ u y2 hu hy') q hq
    omega
   ·
    rw [List.getElem?_append_right (by omega)] at ht
    exact d2 _ _ u t hu ht (by omega) q hq
theorem r_look_none {m : Option Nat} {vw : Int → Option Nt} {u : Int} (h : MapAt w m vw) (hu : (Lit.int .i64 u).wf = true) (hv : vw u = none) (hx : a.eval x = .map m) (hy : a.eval y = .int .i64 u) :
  (execOp a.eval ⟨d, .lookup 74 x y true, tt, ps, af, gd⟩).run Tryz.prog w = .ok (.value (.tuple #[.agg (cN note0), .bool false])) w := by
 have := r_look (d := d) (tt := tt) (ps := ps) (af := af) (gd := gd) h hu hx hy
 rwa [hv] at this
theorem r_look_some {m : Option Nat} {vw : Int → Option Nt} {u : Int} {n : Nt} (h : MapAt w m vw) (hu : (Lit.int .i64 u).wf = true) (hv : vw u = some n) (hx : a.eval x = .map m) (hy : a.eval y = .int .i64 u) :
  (execOp a.eval ⟨d, .lookup 74 x y true, tt, ps, af, gd⟩).run Tryz.prog w = .ok (.value (.tuple #[.agg (cN n), .bool true])) w := by
 have := r_look (d := d) (tt := tt) (ps := ps) (af := af) (gd := gd) h hu hx hy
 rwa [hv] at this
theorem op_mkmap (h : ∀ w' bm, w.heap.size ≤ bm → Below w.heap.size w w' → VMap w' bm (fun _ => none) → wpList Tryz.prog ops Q rest (a.put d (.map (some bm))) w') : wpList Tryz.prog ops Q (⟨d, .makeMap 74 none, tt, ps, af, none⟩ :: rest) a w :=
 wpList_plain rfl fun _ hK => by
  unfold Oper.wp execOp
  simp only [Option.map_none, run_makeMap, Sem.run_bind, Sem.run_pure, Result.andThen_ok]
  exact hK _ _ (h _ w.heap.size (Nat.le_refl _) ((Below.refl _ _).alloc (Nat.le_refl _) _) (VMap.made w))
theorem wpo_k {P : Program} {op : Op} (w' : World) (hv : (execOp a.eval ⟨d, op, tt, ps, af, gd⟩).run P w = .ok .skip w') (h : K (a.put d undef) w') : Oper.wp P ⟨d, op, tt, ps, af, gd⟩ a w K Q := by
 unfold Oper.wp
 rw [hv]
 exact h
theorem r_mapup {w' : World} {q : Nat} {u : Int} {n : Nt} (hrun : (Instr.mapUpdate 74 (.map (some q)) (.int .i64 u) (.agg (cN n))).run Tryz.prog w = .ok () w') (hx : a.eval x = .map (some q)) (hy : a.eval y = .int .i64 u) (hz : a.eval z = .agg (cN n)) :
  (execOp a.eval ⟨d, .mapUpdate 74 x y z, tt, ps, af, gd⟩).run Tryz.prog w = .ok .skip w' := by
 unfold execOp
 simp only [hx, hy, hz, hrun, Sem.run_bind, Sem.run_pure, Result.andThen_ok]
end
theorem Row.offmap {α : Type} {enc : α → List Int} {w w' : World} {v : Value} {L : List α} {q : Nat} {vw : Int → Option Nt} (h : Row enc w v L) (hm : MapAt w (some q) vw) (hg : w.grownBy w' (some q)) : Row enc w' v L := by
 obtain ⟨A, c, rfl, h1, h2, h3, hh⟩ := h
 refine ⟨A, c, rfl, h1, h2, h3, fun j hj => ?_⟩
 obtain ⟨g, o, e, hc⟩ := hh j hj
 refine ⟨g, o, e, ?_⟩
 have hs := hc.trans (List.getElem?_eq_getElem hj)
 have hlt := World.block_lt_of_cell? w _ hs
 have hne : g ≠ q := fun e2 => by
  subst e2
  have := VMap.no_cell (show VMap w g vw from hm) (o + j)
  rw [this] at hs
  cases hs
 rw [← hc]
 unfold World.cell?
 rw [hg.block g hlt (by simpa using hne)]
theorem Only.grownm {b : Nat} {m : Option Nat} {W w w' : World} {q : Nat} (h : Only b m W w) (hg : w.grownBy w' (some q)) (hq : m = some q ∨ W.heap.size ≤ q) : Only b m W w' :=
 ⟨hg.os.trans h.os, hg.tape.trans h.tape, hg.output.trans h.output, Nat.le_trans h.size hg.size, fun k hk hb hn => (hg.block k (Nat.lt_of_lt_of_le hk h.size) (fun e => by
  rcases hq with hq | hq
  · exact hn (by rw [hq]; exact e)
  · injection e with e; omega)).trans (h.block k hk hb hn)⟩
set_option maxRecDepth 100000 in
set_option maxHeartbeats 4000000 in
theorem tickB_any [Lim] (w : World) (b : Nat) (m : Option Nat) (c : Cl) (vi vo : Value) (hc : ClOk c) (k : Block w b 76 (clA c vi vo m)) (hro : ORow w vo c.os) (hfo : Fresh (Lim.lim b) vo) : Calls Tryz.prog 15 #[.pointer (some ⟨b, 0, none⟩)] w fun e w' => (∃ v, e = .returned v ∧ Outs w' w.heap.size v (tickO c)) ∧ Block w' b 76 (clA (tickC c) vi vo m) ∧ Only b none w w' := by
 have hc1 := hc.ck
 have hc2 := hc.key
 have hcn := hc.now
 have hcs := hc.seq
 have hcb := hc.beats
 have hco := hc.nonce
 have hall := Only.refl b none w
 have hbW := k.lt
 refine K_enter 60 Tryz.func15 rfl rfl fun a H => ?_
 replace H := H.pick [0]
 refine zC (zD ?_)
 refine kR 1 H rfl fun a H => ?_
 refine zA (zB (zC (zC (zD ?_))))
 refine kR 3 H rfl fun a H => ?_
 refine kV H (r_ld U3 rfl (H.ev rfl) ((show _ = some (Value.int .i64 (c.state)) from cl_state (c := c) hc1 hc2 k))) rfl fun a H => ?_
 by_cases hcc0 : (c.state) = 0
 ·
  refine kV H (r_eq U3 (H.ev rfl) evc (dec_t (hcc0))) rfl fun a H => ?_
  refine zA (zB (zH H rfl (zC (zD ?_))))
  refine kR 1 H rfl fun a H => ?_
  refine zA (zB (zF (zJ ?_)))
  exact k_ret1 H rfl rfl ⟨⟨_, rfl, by rw [tickO, if_pos (by omega)]; exact outs_nil⟩, by rw [tickC, if_pos (by omega)]; exact k, hall⟩
 ·
  refine kV H (r_eq U3 (H.ev rfl) evc (dec_f (hcc0))) rfl fun a H => ?_
  refine zA (zB (zG H rfl (zE (zB (zC (zD ?_))))))
  refine kR 4 H rfl fun a H => ?_
  refine kV H (r_ld U3 rfl (H.ev rfl) ((show _ = some (Value.int .i64 (c.now)) from cl_now (c := c) hc1 hc2 k))) rfl fun a H => ?_
  refine kV H (r_add (q := (c.now) + 1) U3 (H.ev rfl) evc (by omega) (by omega)) rfl fun a H => ?_
  refine kV H (r_min (q := (if 1099511627776 < ((c.now) + 1) then 1099511627776 else ((c.now) + 1))) (H.ev rfl) evc rfl) rfl fun a H => ?_
  refine kR 2 H rfl fun a H => ?_
  refine op_store1 3 (.tmp 17) (.tmp 15) b 2 76 (.int .i64 (if 1099511627776 < ((c.now) + 1) then 1099511627776 else ((c.now) + 1))) _ (H.ev rfl) (H.ev rfl) k s3 (by rw [clA_size (c := c) hc1 hc2]; show 2 + 1 ≤ 48; omega) (by simp [Value.cells, Value.oneCell']) fun w' hb ho kq => ?_; clear k; rw [st_now (c := c) hc1 hc2] at kq; have k : Block _ b 76 (clA { c with now := (if 1099511627776 < ((c.now) + 1) then 1099511627776 else ((c.now) + 1)) } vi vo m) := kq; replace hro := Row.store hro (fx hfo) ho; replace hall := hall.store (hb b (Nat.le_refl _)) ho; clear hb ho kq; refine kl0 H fun a H => ?_
  refine zA (zB (zC ?_))
  obtain ⟨c1, he⟩ : ∃ c1, timeC c = c1 := ⟨_, rfl⟩
  have hok1 : ClOk c1 := by rw [← he]; exact time_ok hc
  have k1 : Block _ b 76 (clA (timeC c) vi vo m) := k
  rw [he] at k1
  clear k
  have k := k1
  clear k1
  have hos1 : c1.os = c.os := by rw [← he]; rfl
  have HE := Lib.hid he
  clear he hc1 hc2 hcn hcs hcb hco
  have hc1 := hok1.ck
  have hc2 := hok1.key
  have hall4 := hall
  have hS : BelowOf (OnlyTo hall4) _ := Below.drew (Below.refl _ (OnlyTo hall4))
  refine region_tree (BelowOf (OnlyTo hall4)) 10 (.fl 0 (.fl 1 (.fl 2 (.fl 3 (.fl 4 (.fl 5 (.fl 6 (.fl 7 (.fl 8 (.fl 9 .done)))))))))) (by kernel_rfl) (by kernel_rfl) rfl (by kernel_rfl) hS ?_
  refine kQ 3 H rfl fun a H => ?_
  refine kF H rfl rfl (fun w' hS' => r_ld U3 rfl (H.ev rfl) ((show _ = some (Value.int .i64 (c1.now)) from cl_now (c := c1) hc1 hc2 (Block.ups k hS')))) rfl fun a H => ?_
  refine kQ 3 H rfl fun a H => ?_
  refine kF H rfl rfl (fun w' hS' => r_ld U3 rfl (H.ev rfl) ((show _ = some (Value.int .i64 (c1.ask)) from cl_ask (c := c1) hc1 hc2 (Block.ups k hS')))) rfl fun a H => ?_
  by_cases hcc1 : (c1.now) ≥ (c1.ask)
  ·
   refine kF H rfl rfl (fun w' hS' => r_ge U3 (H.ev rfl) (H.ev rfl) (dec_t (hcc1))) rfl fun a H => ?_
   refine kQ 1 H rfl fun a H => ?_
   refine pt_done (NoPanic.normal ?_)
   replace k := Block.ups k hS
   replace hro := Row.up hro hS
   replace hall := hall.trans (Below.mono hS hall.size)
   clear hS
   refine zB (zC ?_)
   refine wp_block ?_
   refine zC (zD ?_)
   refine kR 3 H rfl fun a H => ?_
   refine kV H (r_ld U3 rfl (H.ev rfl) ((show _ = some (Value.int .i64 (c1.state)) from cl_state (c := c1) hc1 hc2 k))) rfl fun a H => ?_
   by_cases hcc2 : (c1.state) = 1
   ·
    refine kV H (r_eq U3 (H.ev rfl) evc (dec_t (hcc2))) rfl fun a H => ?_
    refine kR 4 H rfl fun a H => ?_
    refine zA (zB (zH H rfl (zC (zD ?_))))
    refine kR 1 H rfl fun a H => ?_
    refine wl_call _ _ _ (greetB_any _ b m c1 vi vo hok1 k) (r_call1 cf44 (H.ev rfl)) ?_; rintro e w9 ⟨⟨v, rfl, hou⟩, k2, hon⟩; refine ⟨_, rfl, ?_⟩; clear k; have k := k2; clear k2; replace hou := Outs.base hou hall.size; replace hall := Only.thin hall hon; refine kl H rfl fun a H => ?_
    refine kR 1 H rfl fun a H => ?_
    refine zA (zB (zF (r_block (zJ ?_))))
    exact k_ret1 H rfl rfl ⟨⟨_, rfl, by rw [tickO, if_neg (show ¬ c.state = 0 by omega), HE.out, tick1O, if_neg (by omega), if_neg (by omega), if_pos (by omega)]; exact hou⟩, by rw [tickC, if_neg (show ¬ c.state = 0 by omega), HE.out, tick1C, if_neg (by omega), if_neg (by omega), if_pos (by omega)]; exact k, hall⟩
   ·
    refine kV H (r_eq U3 (H.ev rfl) evc (dec_f (hcc2))) rfl fun a H => ?_
    refine kR 4 H rfl fun a H => ?_
    refine zA (zB (zG H rfl (zC (zD ?_))))
    refine kR 3 H rfl fun a H => ?_
    refine kV H (r_ld U3 rfl (H.ev rfl) ((show _ = some (Value.int .i64 (c1.state)) from cl_state (c := c1) hc1 hc2 k))) rfl fun a H => ?_
    by_cases hcc3 : (c1.state) = 2
    ·
     refine kV H (r_eq U3 (H.ev rfl) evc (dec_t (hcc3))) rfl fun a H => ?_
     refine kR 4 H rfl fun a H => ?_
     refine zA (zB (zH H rfl (zC (zD ?_))))
     refine kR 1 H rfl fun a H => ?_
     refine wl_call _ _ _ (joinB_any _ b m c1 vi vo hok1 k) (r_call1 cf45 (H.ev rfl)) ?_; rintro e w9 ⟨⟨v, rfl, hou⟩, k2, hon⟩; refine ⟨_, rfl, ?_⟩; clear k; have k := k2; clear k2; replace hou := Outs.base hou hall.size; replace hall := Only.thin hall hon; refine kl H rfl fun a H => ?_
     refine kR 1 H rfl fun a H => ?_
     refine zA (zB (zF (r_block (zJ ?_))))
     exact k_ret1 H rfl rfl ⟨⟨_, rfl, by rw [tickO, if_neg (show ¬ c.state = 0 by omega), HE.out, tick1O, if_neg (by omega), if_neg (by omega), if_neg (by omega), if_pos (by omega)]; exact hou⟩, by rw [tickC, if_neg (show ¬ c.state = 0 by omega), HE.out, tick1C, if_neg (by omega), if_neg (by omega), if_pos (by omega)]; exact k, hall⟩
    ·
     refine kV H (r_eq U3 (H.ev rfl) evc (dec_f (hcc3))) rfl fun a H => ?_
     refine kR 4 H rfl fun a H => ?_
     refine zA (zB (zG H rfl (zC (zD ?_))))
     refine kR 3 H rfl fun a H => ?_
     refine kV H (r_ld U3 rfl (H.ev rfl) ((show _ = some (Value.int .i64 (c1.state)) from cl_state (c := c1) hc1 hc2 k))) rfl fun a H => ?_
     by_cases hcc4 : (c1.state) = 3
     ·
      refine kV H (r_eq U3 (H.ev rfl) evc (dec_t (hcc4))) rfl fun a H => ?_
      refine kR 1 H rfl fun a H => ?_
      refine zA (zB (zH H rfl (zC (zD ?_))))
      refine kR 1 H rfl fun a H => ?_
      refine wl_call _ _ _ (beatB_any _ b m c1 vi vo hok1 k) (r_call1 cf46 (H.ev rfl)) ?_; rintro e w1 ⟨⟨v1, rfl, hou1⟩, k2, hon1⟩; refine ⟨_, rfl, ?_⟩; clear k; have k := k2; clear k2; replace hou1 := Outs.base hou1 hall.size; replace hro := Row.gone hro (fx hfo) hon1; replace hall := Only.thin hall hon1; refine kl H rfl fun a H => ?_
      refine kR 1 H rfl fun a H => ?_
      refine wl_call _ _ _ (sayB_any _ b m (beatC c1) vi vo (beat_ok hok1) k (by rw [beat_os, hos1]; exact hro) hfo) (r_call1 cf47 (H.ev rfl)) ?_; rintro e w2 ⟨⟨v2, rfl, hou2⟩, k2, hon2⟩; refine ⟨_, rfl, ?_⟩; clear k; have k := k2; clear k2; have hall1 := hall; replace hall := Only.thin hall hon2; refine kl H rfl fun a H => ?_
      refine op_app_outs hou1 hon2 hbW hou2 (Nat.add_le_add (beat_len c1) (say_len (beatC c1))) hall1.size (H.ev rfl) (H.ev rfl) fun v3 w3 hou3 hb3 => ?_; replace k := Block.up k hb3 hbW; replace hall := hall.trans hb3; refine kl H rfl fun a H => ?_
      refine kR 1 H rfl fun a H => ?_
      refine zA (zB (zF (r_block (zJ ?_))))
      exact k_ret1 H rfl rfl ⟨⟨_, rfl, by rw [tickO, if_neg (show ¬ c.state = 0 by omega), HE.out, tick1O, if_pos (by omega)]; exact hou3⟩, by rw [tickC, if_neg (show ¬ c.state = 0 by omega), HE.out, tick1C, if_pos (by omega)]; exact k, hall⟩
     ·
      refine kV H (r_eq U3 (H.ev rfl) evc (dec_f (hcc4))) rfl fun a H => ?_
      refine kR 1 H rfl fun a H => ?_
      refine zA (zB (zG H rfl (zE (n_block (zB (zC (zD ?_)))))))
      refine kR 1 H rfl fun a H => ?_
      refine zA (zB (zF ?_))
      have ht := tick_rest (c := c1) (by omega)
      exact k_ret1 H rfl rfl ⟨⟨_, rfl, by rw [tickO, if_neg (show ¬ c.state = 0 by omega), HE.out, ht.2]; exact outs_nil⟩, by rw [tickC, if_neg (show ¬ c.state = 0 by omega), HE.out, ht.1]; exact k, hall⟩
  ·
   refine kF H rfl rfl (fun w' hS' => r_ge U3 (H.ev rfl) (H.ev rfl) (dec_f (hcc1))) rfl fun a H => ?_
   refine kQ 1 H rfl fun a H => ?_
   refine pt_done (NoPanic.normal ?_)
   replace k := Block.ups k hS
   replace hro := Row.up hro hS
   replace hall := hall.trans (Below.mono hS hall.size)
   clear hS
   refine zB (zC ?_)
   refine wp_block ?_
   refine zC (zD ?_)
   refine kR 3 H rfl fun a H => ?_
   refine kV H (r_ld U3 rfl (H.ev rfl) ((show _ = some (Value.int .i64 (c1.state)) from cl_state (c := c1) hc1 hc2 k))) rfl fun a H => ?_
   by_cases hcc5 : (c1.state) = 1
   ·
    refine kV H (r_eq U3 (H.ev rfl) evc (dec_t (hcc5))) rfl fun a H => ?_
    refine kR 4 H rfl fun a H => ?_
    refine zA (zB (zG H rfl (zC (zD ?_))))
    refine kR 3 H rfl fun a H => ?_
    refine kV H (r_ld U3 rfl (H.ev rfl) ((show _ = some (Value.int .i64 (c1.state)) from cl_state (c := c1) hc1 hc2 k))) rfl fun a H => ?_
    by_cases hcc6 : (c1.state) = 2
    ·
     refine kV H (r_eq U3 (H.ev rfl) evc (dec_t (hcc6))) rfl fun a H => ?_
     refine kR 4 H rfl fun a H => ?_
     refine zA (zB (zG H rfl (zC (zD ?_))))
     refine kR 3 H rfl fun a H => ?_
     refine kV H (r_ld U3 rfl (H.ev rfl) ((show _ = some (Value.int .i64 (c1.state)) from cl_state (c := c1) hc1 hc2 k))) rfl fun a H => ?_
     by_cases hcc7 : (c1.state) = 3
     ·
      refine kV H (r_eq U3 (H.ev rfl) evc (dec_t (hcc7))) rfl fun a H => ?_
      refine kR 1 H rfl fun a H => ?_
      refine zA (zB (zH H rfl (zC (zD ?_))))
      refine kR 1 H rfl fun a H => ?_
      refine wl_call _ _ _ (beatB_any _ b m c1 vi vo hok1 k) (r_call1 cf46 (H.ev rfl)) ?_; rintro e w1 ⟨⟨v1, rfl, hou1⟩, k2, hon1⟩; refine ⟨_, rfl, ?_⟩; clear k; have k := k2; clear k2; replace hou1 := Outs.base hou1 hall.size; replace hro := Row.gone hro (fx hfo) hon1; replace hall := Only.thin hall hon1; refine kl H rfl fun a H => ?_
      refine kR 1 H rfl fun a H => ?_
      refine wl_call _ _ _ (sayB_any _ b m (beatC c1) vi vo (beat_ok hok1) k (by rw [beat_os, hos1]; exact hro) hfo) (r_call1 cf47 (H.ev rfl)) ?_; rintro e w2 ⟨⟨v2, rfl, hou2⟩, k2, hon2⟩; refine ⟨_, rfl, ?_⟩; clear k; have k := k2; clear k2; have hall1 := hall; replace hall := Only.thin hall hon2; refine kl H rfl fun a H => ?_
      refine op_app_outs hou1 hon2 hbW hou2 (Nat.add_le_add (beat_len c1) (say_len (beatC c1))) hall1.size (H.ev rfl) (H.ev rfl) fun v3 w3 hou3 hb3 => ?_; replace k := Block.up k hb3 hbW; replace hall := hall.trans hb3; refine kl H rfl fun a H => ?_
      refine kR 1 H rfl fun a H => ?_
      refine zA (zB (zF (r_block (zJ ?_))))
      exact k_ret1 H rfl rfl ⟨⟨_, rfl, by rw [tickO, if_neg (show ¬ c.state = 0 by omega), HE.out, tick1O, if_pos (by omega)]; exact hou3⟩, by rw [tickC, if_neg (show ¬ c.state = 0 by omega), HE.out, tick1C, if_pos (by omega)]; exact k, hall⟩
     ·
      refine kV H (r_eq U3 (H.ev rfl) evc (dec_f (hcc7))) rfl fun a H => ?_
      refine kR 1 H rfl fun a H => ?_
      refine zA (zB (zG H rfl (zE (n_block (zB (zC (zD ?_)))))))
      refine kR 1 H rfl fun a H => ?_
      refine zA (zB (zF ?_))
      have ht := tick_rest (c := c1) (by omega)
      exact k_ret1 H rfl rfl ⟨⟨_, rfl, by rw [tickO, if_neg (show ¬ c.state = 0 by omega), HE.out, ht.2]; exact outs_nil⟩, by rw [tickC, if_neg (show ¬ c.state = 0 by omega), HE.out, ht.1]; exact k, hall⟩
    ·
     refine kV H (r_eq U3 (H.ev rfl) evc (dec_f (hcc6))) rfl fun a H => ?_
     refine kR 4 H rfl fun a H => ?_
     refine zA (zB (zG H rfl (zC (zD ?_))))
     refine kR 3 H rfl fun a H => ?_
     refine kV H (r_ld U3 rfl (H.ev rfl) ((show _ = some (Value.int .i64 (c1.state)) from cl_state (c := c1) hc1 hc2 k))) rfl fun a H => ?_
     by_cases hcc8 : (c1.state) = 3
     ·
      refine kV H (r_eq U3 (H.ev rfl) evc (dec_t (hcc8))) rfl fun a H => ?_
      refine kR 1 H rfl fun a H => ?_
      refine zA (zB (zH H rfl (zC (zD ?_))))
      refine kR 1 H rfl fun a H => ?_
      refine wl_call _ _ _ (beatB_any _ b m c1 vi vo hok1 k) (r_call1 cf46 (H.ev rfl)) ?_; rintro e w1 ⟨⟨v1, rfl, hou1⟩, k2, hon1⟩; refine ⟨_, rfl, ?_⟩; clear k; have k := k2; clear k2; replace hou1 := Outs.base hou1 hall.size; replace hro := Row.gone hro (fx hfo) hon1; replace hall := Only.thin hall hon1; refine kl H rfl fun a H => ?_
      refine kR 1 H rfl fun a H => ?_
      refine wl_call _ _ _ (sayB_any _ b m (beatC c1) vi vo (beat_ok hok1) k (by rw [beat_os, hos1]; exact hro) hfo) (r_call1 cf47 (H.ev rfl)) ?_; rintro e w2 ⟨⟨v2, rfl, hou2⟩, k2, hon2⟩; refine ⟨_, rfl, ?_⟩; clear k; have k := k2; clear k2; have hall1 := hall; replace hall := Only.thin hall hon2; refine kl H rfl fun a H => ?_
      refine op_app_outs hou1 hon2 hbW hou2 (Nat.add_le_add (beat_len c1) (say_len (beatC c1))) hall1.size (H.ev rfl) (H.ev rfl) fun v3 w3 hou3 hb3 => ?_; replace k := Block.up k hb3 hbW; replace hall := hall.trans hb3; refine kl H rfl fun a H => ?_
      refine kR 1 H rfl fun a H => ?_
      refine zA (zB (zF (r_block (zJ ?_))))
      exact k_ret1 H rfl rfl ⟨⟨_, rfl, by rw [tickO, if_neg (show ¬ c.state = 0 by omega), HE.out, tick1O, if_pos (by omega)]; exact hou3⟩, by rw [tickC, if_neg (show ¬ c.state = 0 by omega), HE.out, tick1C, if_pos (by omega)]; exact k, hall⟩
     ·
      refine kV H (r_eq U3 (H.ev rfl) evc (dec_f (hcc8))) rfl fun a H => ?_
      refine kR 1 H rfl fun a H => ?_
      refine zA (zB (zG H rfl (zE (n_block (zB (zC (zD ?_)))))))
      refine kR 1 H rfl fun a H => ?_
      refine zA (zB (zF ?_))
      have ht := tick_rest (c := c1) (by omega)
      exact k_ret1 H rfl rfl ⟨⟨_, rfl, by rw [tickO, if_neg (show ¬ c.state = 0 by omega), HE.out, ht.2]; exact outs_nil⟩, by rw [tickC, if_neg (show ¬ c.state = 0 by omega), HE.out, ht.1]; exact k, hall⟩
   ·
    refine kV H (r_eq U3 (H.ev rfl) evc (dec_f (hcc5))) rfl fun a H => ?_
    refine kR 4 H rfl fun a H => ?_
    refine zA (zB (zG H rfl (zC (zD ?_))))
    refine kR 3 H rfl fun a H => ?_
    refine kV H (r_ld U3 rfl (H.ev rfl) ((show _ = some (Value.int .i64 (c1.state)) from cl_state (c := c1) hc1 hc2 k))) rfl fun a H => ?_
    by_cases hcc9 : (c1.state) = 2
    ·
     refine kV H (r_eq U3 (H.ev rfl) evc (dec_t (hcc9))) rfl fun a H => ?_
     refine kR 4 H rfl fun a H => ?_
     refine zA (zB (zG H rfl (zC (zD ?_))))
     refine kR 3 H rfl fun a H => ?_
     refine kV H (r_ld U3 rfl (H.ev rfl) ((show _ = some (Value.int .i64 (c1.state)) from cl_state (c := c1) hc1 hc2 k))) rfl fun a H => ?_
     by_cases hcc10 : (c1.state) = 3
     ·
      refine kV H (r_eq U3 (H.ev rfl) evc (dec_t (hcc10))) rfl fun a H => ?_
      refine kR 1 H rfl fun a H => ?_
      refine zA (zB (zH H rfl (zC (zD ?_))))
      refine kR 1 H rfl fun a H => ?_
      refine wl_call _ _ _ (beatB_any _ b m c1 vi vo hok1 k) (r_call1 cf46 (H.ev rfl)) ?_; rintro e w1 ⟨⟨v1, rfl, hou1⟩, k2, hon1⟩; refine ⟨_, rfl, ?_⟩; clear k; have k := k2; clear k2; replace hou1 := Outs.base hou1 hall.size; replace hro := Row.gone hro (fx hfo) hon1; replace hall := Only.thin hall hon1; refine kl H rfl fun a H => ?_
      refine kR 1 H rfl fun a H => ?_
      refine wl_call _ _ _ (sayB_any _ b m (beatC c1) vi vo (beat_ok hok1) k (by rw [beat_os, hos1]; exact hro) hfo) (r_call1 cf47 (H.ev rfl)) ?_; rintro e w2 ⟨⟨v2, rfl, hou2⟩, k2, hon2⟩; refine ⟨_, rfl, ?_⟩; clear k; have k := k2; clear k2; have hall1 := hall; replace hall := Only.thin hall hon2; refine kl H rfl fun a H => ?_
      refine op_app_outs hou1 hon2 hbW hou2 (Nat.add_le_add (beat_len c1) (say_len (beatC c1))) hall1.size (H.ev rfl) (H.ev rfl) fun v3 w3 hou3 hb3 => ?_; replace k := Block.up k hb3 hbW; replace hall := hall.trans hb3; refine kl H rfl fun a H => ?_
      refine kR 1 H rfl fun a H => ?_
      refine zA (zB (zF (r_block (zJ ?_))))
      exact k_ret1 H rfl rfl ⟨⟨_, rfl, by rw [tickO, if_neg (show ¬ c.state = 0 by omega), HE.out, tick1O, if_pos (by omega)]; exact hou3⟩, by rw [tickC, if_neg (show ¬ c.state = 0 by omega), HE.out, tick1C, if_pos (by omega)]; exact k, hall⟩
     ·
      refine kV H (r_eq U3 (H.ev rfl) evc (dec_f (hcc10))) rfl fun a H => ?_
      refine kR 1 H rfl fun a H => ?_
      refine zA (zB (zG H rfl (zE (n_block (zB (zC (zD ?_)))))))
      refine kR 1 H rfl fun a H => ?_
      refine zA (zB (zF ?_))
      have ht := tick_rest (c := c1) (by omega)
      exact k_ret1 H rfl rfl ⟨⟨_, rfl, by rw [tickO, if_neg (show ¬ c.state = 0 by omega), HE.out, ht.2]; exact outs_nil⟩, by rw [tickC, if_neg (show ¬ c.state = 0 by omega), HE.out, ht.1]; exact k, hall⟩
    ·
     refine kV H (r_eq U3 (H.ev rfl) evc (dec_f (hcc9))) rfl fun a H => ?_
     refine kR 4 H rfl fun a H => ?_
     refine zA (zB (zG H rfl (zC (zD ?_))))
     refine kR 3 H rfl fun a H => ?_
     refine kV H (r_ld U3 rfl (H.ev rfl) ((show _ = some (Value.int .i64 (c1.state)) from cl_state (c := c1) hc1 hc2 k))) rfl fun a H => ?_
     by_cases hcc11 : (c1.state) = 3
     ·
      refine kV H (r_eq U3 (H.ev rfl) evc (dec_t (hcc11))) rfl fun a H => ?_
      refine kR 1 H rfl fun a H => ?_
      refine zA (zB (zH H rfl (zC (zD ?_))))
      refine kR 1 H rfl fun a H => ?_
      refine wl_call _ _ _ (beatB_any _ b m c1 vi vo hok1 k) (r_call1 cf46 (H.ev rfl)) ?_; rintro e w1 ⟨⟨v1, rfl, hou1⟩, k2, hon1⟩; refine ⟨_, rfl, ?_⟩; clear k; have k := k2; clear k2; replace hou1 := Outs.base hou1 hall.size; replace hro := Row.gone hro (fx hfo) hon1; replace hall := Only.thin hall hon1; refine kl H rfl fun a H => ?_
      refine kR 1 H rfl fun a H => ?_
      refine wl_call _ _ _ (sayB_any _ b m (beatC c1) vi vo (beat_ok hok1) k (by rw [beat_os, hos1]; exact hro) hfo) (r_call1 cf47 (H.ev rfl)) ?_; rintro e w2 ⟨⟨v2, rfl, hou2⟩, k2, hon2⟩; refine ⟨_, rfl, ?_⟩; clear k; have k := k2; clear k2; have hall1 := hall; replace hall := Only.thin hall hon2; refine kl H rfl fun a H => ?_
      refine op_app_outs hou1 hon2 hbW hou2 (Nat.add_le_add (beat_len c1) (say_len (beatC c1))) hall1.size (H.ev rfl) (H.ev rfl) fun v3 w3 hou3 hb3 => ?_; replace k := Block.up k hb3 hbW; replace hall := hall.trans hb3; refine kl H rfl fun a H => ?_
      refine kR 1 H rfl fun a H => ?_
      refine zA (zB (zF (r_block (zJ ?_))))
      exact k_ret1 H rfl rfl ⟨⟨_, rfl, by rw [tickO, if_neg (show ¬ c.state = 0 by omega), HE.out, tick1O, if_pos (by omega)]; exact hou3⟩, by rw [tickC, if_neg (show ¬ c.state = 0 by omega), HE.out, tick1C, if_pos (by omega)]; exact k, hall⟩
     ·
      refine kV H (r_eq U3 (H.ev rfl) evc (dec_f (hcc11))) rfl fun a H => ?_
      refine kR 1 H rfl fun a H => ?_
      refine zA (zB (zG H rfl (zE (n_block (zB (zC (zD ?_)))))))
      refine kR 1 H rfl fun a H => ?_
      refine zA (zB (zF ?_))
      have ht := tick_rest (c := c1) (by omega)
      exact k_ret1 H rfl rfl ⟨⟨_, rfl, by rw [tickO, if_neg (show ¬ c.state = 0 by omega), HE.out, ht.2]; exact outs_nil⟩, by rw [tickC, if_neg (show ¬ c.state = 0 by omega), HE.out, ht.1]; exact k, hall⟩
theorem tick_any [Lim] (w : World) (b : Nat) (m : Option Nat) (c : Cl) (h : ClAt w b m c) : Calls Tryz.prog 15 #[.pointer (some ⟨b, 0, none⟩)] w fun e w' => (∃ v, e = .returned v ∧ Outs w' w.heap.size v (tickO c)) ∧ ClAt w' b m (tickC c) ∧ Only b m w w' := by
 obtain ⟨hc, ⟨vi, vo, k, ⟨hri, hfi⟩, hro, hfo⟩, hmp, hmb⟩ := h
 exact (tickB_any w b m c vi vo hc k hro hfo).mono fun e w' ⟨h1, h2, h3⟩ => ⟨h1, clat_next (tick_ok hc) h2 hri hfi hro hfo hmp hmb h3 (tick_same c).1 (tick_same c).2.1 (tick_same c).2.2, h3.weak⟩
set_option maxRecDepth 100000 in
set_option maxHeartbeats 4000000 in
theorem believe_any [Lim] (w : World) (b : Nat) (m : Option Nat) (c : Cl) (h : ClAt w b m c) (n : Nt) (hn : okN n) : Calls Tryz.prog 89 #[.pointer (some ⟨b, 0, none⟩), .agg (cN n)] w fun e w' => e = .returned (.tuple #[]) ∧ (∃ m', ClAt w' b m' (belC c n) ∧ MNext w m m') ∧ Only b m w w' := by
 obtain ⟨hc, ⟨vi, vo, k, ⟨hri, hfi⟩, hro, hfo⟩, hmp, hmb⟩ := h
 have hc1 := hc.ck
 have hc2 := hc.key
 have hcn := hc.now
 have hcs := hc.seq
 have hcb := hc.beats
 have hco := hc.nonce
 have hall := Only.refl b m w
 have hwf : (Lit.int .i64 n.1).wf = true := wf_i64 (by have := hn.1; have := hn.2.1; omega)
 refine K_enter 53 Tryz.func89 rfl rfl fun a H => ?_
 replace H := H.pick [0, 1]
 refine zC (zD ?_)
 refine op_box 49 _ #[.int .i64 n.1, .int .i64 n.2.1, .int .i64 n.2.2.1, .int .i64 n.2.2.2] (H.ev rfl) fun w0 b0 hge hb k0 => ?_; have g0 := Nat.le_trans hall.size hge; have db0 : b < b0 := Nat.lt_of_lt_of_le k.lt hge; replace k := Block.ups k hb; replace hri := Row.up hri hb; replace hro := Row.up hro hb; replace hmp := MapAt.ups hmp hb; replace hall := hall.tr hb; clear hb; clear hge; refine kl H rfl fun a H => ?_
 refine zA (zB (zC ?_))
 obtain hv | ⟨y, hv⟩ : c.vw n.1 = none ∨ ∃ y, c.vw n.1 = some y := by
  cases e : c.vw n.1 with
  | none => exact .inl rfl
  | some y => exact .inr ⟨y, rfl⟩
 ·
  have hall1 := hall
  have hS : BelowOf (OnlyTo hall1) _ := Below.drew (Below.refl _ (OnlyTo hall1))
  refine region_tree (BelowOf (OnlyTo hall1)) 13 (.fl 0 (.fl 1 (.fl 2 (.fl 3 (.fl 4 (.fl 5 (.fl 6 (.fl 7 (.fl 8 (.fl 9 (.one 10 (.one 11 (.fl 12 .done))))))))))))) (by kernel_rfl) (by kernel_rfl) rfl (by kernel_rfl) hS ?_
  refine kQ 3 H rfl fun a H => ?_
  refine kF H rfl rfl (fun w' hS' => r_ld U74 rfl (H.ev rfl) ((show _ = some (Value.map m) from cl_views (c := c) hc1 hc2 (Block.ups k hS')))) rfl fun a H => ?_
  refine kQ 1 H rfl fun a H => ?_
  refine kF H rfl rfl (fun w' hS' => r_ld U3 rfl (H.ev rfl) ((Block.cell (Block.ups k0 hS') 0).trans rfl)) rfl fun a H => ?_
  refine kF (v := .tuple #[.agg (cN note0), .bool false]) H rfl rfl (fun w' hS' => r_look_none (MapAt.ups hmp hS') hwf hv (H.ev rfl) (H.ev rfl)) rfl fun a H => ?_
  refine kQ 3 H rfl fun a H => ?_
  refine pt_one (fun K hK => ?_)
  refine st_a0 rfl ?_; refine wpo_alloc 49 (cN note0) z49 fun w1 b1 hge hb k1 => ?_; have gz1 := Nat.le_trans (Below.size hS) hge; replace hS := Below.trans hS (Below.mono hb (Below.size hS)); clear hb hge; refine hK _ _ ⟨(fun _ => hS), ?_⟩; clear hK; clear K; refine kt H rfl fun a H => ?_
  refine pt_one (fun K hK => ?_)
  refine st_a0 rfl ?_; refine wpo_store 49 (.tmp 4) (.tmp 14) b1 49 (cN note0) _ (H.ev rfl) (H.ev rfl) k1 s49 rfl (by simp [Value.oneCell']) fun w' hb ho kq => ?_; clear k1; have k1 := kq; replace hS := Below.trans hS (hb _ gz1); clear hb ho kq; refine hK _ _ ⟨(fun _ => hS), ?_⟩; clear hK; clear K; skip
  refine kQ 1 H rfl fun a H => ?_
  refine pt_done (NoPanic.normal ?_)
  replace k := Block.ups k hS
  replace hri := Row.up hri hS
  replace hro := Row.up hro hS
  replace hmp := MapAt.ups hmp hS
  replace k0 := Block.ups k0 hS
  replace hall := hall.trans (Below.mono hS hall.size)
  clear hS
  refine zB (zC (zC (zD ?_)))
  refine kR 1 H rfl fun a H => ?_
  refine kV H (r_ld U3 rfl (H.ev rfl) ((Block.cell k0 0).trans rfl)) rfl fun a H => ?_
  by_cases hcc0 : n.1 = 0
  ·
   refine kV H (r_eq U3 (H.ev rfl) evc (dec_t (hcc0))) rfl fun a H => ?_
   refine kR 18 H rfl fun a H => ?_
   refine zA (zB (zH H rfl (zF (zJ ?_))))
   have hbe : belF c.vw n = c.vw := by
    by_cases h0 : n.1 = 0
    · exact if_pos h0
    ·
     unfold belF
     rw [if_neg h0, hv]
     exact if_pos (by omega)
   exact k_ret0 H rfl ⟨rfl, ⟨m, by rw [belC, hbe]; exact ⟨hc, ⟨_, _, k, ⟨hri, hfi⟩, hro, hfo⟩, hmp, hmb⟩, .inl rfl⟩, hall⟩
  ·
   refine kV H (r_eq U3 (H.ev rfl) evc (dec_f (hcc0))) rfl fun a H => ?_
   refine kR 2 H rfl fun a H => ?_
   refine kW H rfl (r_not (H.ev rfl) rfl) rfl fun a H => ?_
   refine kR 2 H rfl fun a H => ?_
   refine kW H rfl (r_ld U3 rfl (H.ev rfl) ((Block.cell k0 1).trans rfl)) rfl fun a H => ?_
   by_cases hcc1 : n.2.1 < 1
   ·
    refine kW H rfl (r_lt U3 (H.ev rfl) evc (dec_t (hcc1))) rfl fun a H => ?_
    refine kR 11 H rfl fun a H => ?_
    refine zA (zB (zH H rfl (zF (zJ ?_))))
    have hbe : belF c.vw n = c.vw := by
     by_cases h0 : n.1 = 0
     · exact if_pos h0
     ·
      unfold belF
      rw [if_neg h0, hv]
      exact if_pos (by omega)
    exact k_ret0 H rfl ⟨rfl, ⟨m, by rw [belC, hbe]; exact ⟨hc, ⟨_, _, k, ⟨hri, hfi⟩, hro, hfo⟩, hmp, hmb⟩, .inl rfl⟩, hall⟩
   ·
    refine kW H rfl (r_lt U3 (H.ev rfl) evc (dec_f (hcc1))) rfl fun a H => ?_
    refine kR 11 H rfl fun a H => ?_
    refine zA (zB (zG H rfl (zE (zB (zC (zC ?_))))))
    have hbe : belF c.vw n = updV c.vw n := by
     unfold belF
     rw [if_neg (by omega), hv]
     exact if_neg (by omega)
    have hn1 : 1 ≤ n.1 := by have := hn.1; omega
    have hn2 := hn.2.1
    cases m with
    | none =>
     refine zD ?_
     refine kR 3 H rfl fun a H => ?_
     refine kV H (r_ld U74 rfl (H.ev rfl) ((show _ = some (Value.map none) from cl_views (c := c) hc1 hc2 k))) rfl fun a H => ?_
     refine kV (v := .bool true) H (r_eqmapnil (H.ev rfl) rfl) rfl fun a H => ?_
     refine zA (zB (zH H rfl (zD ?_)))
     refine kR 1 H rfl fun a H => ?_
     refine op_mkmap fun w2 q0 hge hb hvm => ?_; have hqb : b < q0 := Nat.lt_of_lt_of_le k.lt hge; have g2 := Nat.le_trans hall.size hge; have hmv : c.vw = fun _ => none := funext hmp; clear hmp; have hmb2 : ∀ q, some q0 = some q → b < q := fun q e => (by injection e with e; omega); replace k := Block.ups k hb; replace hri := Row.up hri hb; replace hro := Row.up hro hb; replace k0 := Block.ups k0 hb; clear k1; replace hall := hall.tr hb; clear hb hge; refine kl H rfl fun a H => ?_
     refine kR 2 H rfl fun a H => ?_
     refine op_store1 74 (.tmp 45) (.tmp 43) b 46 76 (.map (some q0)) _ (H.ev rfl) (H.ev rfl) k s74 (by rw [clA_size hc1 hc2]; show 46 + 1 ≤ 48; omega) (by simp [Value.cells, Value.oneCell']) fun w' hb ho kq => ?_; clear k; rw [st_views hc1 hc2] at kq; have k := kq; replace hri := Row.store hri (fx hfi) ho; replace hro := Row.store hro (fx hfo) ho; replace k0 := block_same k0 (ho _ (by omega)); have hmp := MapAt.store (m := some q0) hvm hmb2 (hb b (Nat.le_refl _)) ho; rw [← hmv] at hmp; clear hvm hmb; have hmb := hmb2; clear hmb2; replace hall := hall.store (hb b (Nat.le_refl _)) ho; clear hb ho kq; have hq0 : (none : Option Nat) = some q0 ∨ w.heap.size ≤ q0 := .inr g2; refine kl0 H fun a H => ?_
     refine zA (zB ?_)
     have hall5 := hall
     have hS : BelowOf (OnlyTo hall5) _ := Below.drew (Below.refl _ (OnlyTo hall5))
     refine region_tree (BelowOf (OnlyTo hall5)) 7 (.fl 0 (.fl 1 (.fl 2 (.fl 3 (.fl 4 (.fl 5 (.fl 6 (.one 7 .done)))))))) (by kernel_rfl) (by kernel_rfl) rfl (by kernel_rfl) hS ?_
     refine kQ 3 H rfl fun a H => ?_
     refine kF H rfl rfl (fun w' hS' => r_ld U74 rfl (H.ev rfl) ((show _ = some (Value.map (some q0)) from cl_views (c := c) hc1 hc2 (Block.ups k hS')))) rfl fun a H => ?_
     refine kQ 1 H rfl fun a H => ?_
     refine kF H rfl rfl (fun w' hS' => r_ld U3 rfl (H.ev rfl) ((Block.cell (Block.ups k0 hS') 0).trans rfl)) rfl fun a H => ?_
     refine kF (v := .agg (cN n)) H rfl rfl (fun w' hS' => run_load_row b0 49 _ _ (H.ev rfl) (Block.ups k0 hS') U49 rfl s49) rfl fun a H => ?_
     refine pt_one (fun K hK => ?_)
     replace k := Block.ups k hS
     replace hri := Row.up hri hS
     replace hro := Row.up hro hS
     replace k0 := Block.ups k0 hS
     replace hmp := MapAt.ups hmp hS
     replace hall := hall.trans (Below.mono hS hall.size)
     refine st_a0 rfl ?_; obtain ⟨w4, hrun, hvm2, hg2⟩ := VMap.put hmp n hn1 hn2; refine wpo_k w4 (r_mapup hrun (H.ev rfl) (H.ev rfl) (H.ev rfl)) ?_; have hqn := hmb q0 rfl; replace k := Block.grown k hg2 (by simp; omega); replace hri := Row.offmap hri hmp hg2; replace hro := Row.offmap hro hmp hg2; clear hmp; have hmp : MapAt _ (some q0) (updV c.vw n) := hvm2; replace hall := Only.grownm hall hg2 hq0; refine hK _ _ ⟨(fun h => absurd rfl h), ?_⟩; clear hK; clear K; clear hS; skip
     refine pt_done (NoPanic.normal ?_)
     have hok := bel_ok hc.vw hn
     exact k_end0 H rfl ⟨rfl, ⟨some q0, ⟨{ hc with vw := hok }, ⟨_, _, k, ⟨hri, hfi⟩, hro, hfo⟩, by rw [belC, hbe]; exact hmp, hmb⟩, .inr (.inr ⟨_, rfl, g2⟩)⟩, hall⟩
    | some q0 =>
     refine zD ?_
     refine kR 3 H rfl fun a H => ?_
     refine kV H (r_ld U74 rfl (H.ev rfl) ((show _ = some (Value.map (some q0)) from cl_views (c := c) hc1 hc2 k))) rfl fun a H => ?_
     refine kV (v := .bool false) H (r_eqmapnil (H.ev rfl) rfl) rfl fun a H => ?_
     refine zA (zB (zG H rfl (zE (zB ?_))))
     have hq0 : some q0 = some q0 ∨ w.heap.size ≤ q0 := .inl rfl
     have hall5 := hall
     have hS : BelowOf (OnlyTo hall5) _ := Below.drew (Below.refl _ (OnlyTo hall5))
     refine region_tree (BelowOf (OnlyTo hall5)) 7 (.fl 0 (.fl 1 (.fl 2 (.fl 3 (.fl 4 (.fl 5 (.fl 6 (.one 7 .done)))))))) (by kernel_rfl) (by kernel_rfl) rfl (by kernel_rfl) hS ?_
     refine kQ 3 H rfl fun a H => ?_
     refine kF H rfl rfl (fun w' hS' => r_ld U74 rfl (H.ev rfl) ((show _ = some (Value.map (some q0)) from cl_views (c := c) hc1 hc2 (Block.ups k hS')))) rfl fun a H => ?_
     refine kQ 1 H rfl fun a H => ?_
     refine kF H rfl rfl (fun w' hS' => r_ld U3 rfl (H.ev rfl) ((Block.cell (Block.ups k0 hS') 0).trans rfl)) rfl fun a H => ?_
     refine kF (v := .agg (cN n)) H rfl rfl (fun w' hS' => run_load_row b0 49 _ _ (H.ev rfl) (Block.ups k0 hS') U49 rfl s49) rfl fun a H => ?_
     refine pt_one (fun K hK => ?_)
     replace k := Block.ups k hS
     replace hri := Row.up hri hS
     replace hro := Row.up hro hS
     replace hmp := MapAt.ups hmp hS
     replace k0 := Block.ups k0 hS
     replace hall := hall.trans (Below.mono hS hall.size)
     refine st_a0 rfl ?_; obtain ⟨w4, hrun, hvm2, hg2⟩ := VMap.put hmp n hn1 hn2; refine wpo_k w4 (r_mapup hrun (H.ev rfl) (H.ev rfl) (H.ev rfl)) ?_; have hqn := hmb q0 rfl; replace k := Block.grown k hg2 (by simp; omega); replace hri := Row.offmap hri hmp hg2; replace hro := Row.offmap hro hmp hg2; clear hmp; have hmp : MapAt _ (some q0) (updV c.vw n) := hvm2; replace hall := Only.grownm hall hg2 hq0; refine hK _ _ ⟨(fun h => absurd rfl h), ?_⟩; clear hK; clear K; clear hS; skip
     refine pt_done (NoPanic.normal ?_)
     have hok := bel_ok hc.vw hn
     exact k_end0 H rfl ⟨rfl, ⟨some q0, ⟨{ hc with vw := hok }, ⟨_, _, k, ⟨hri, hfi⟩, hro, hfo⟩, by rw [belC, hbe]; exact hmp, hmb⟩, .inl rfl⟩, hall⟩
 ·
  have hall1 := hall
  have hS : BelowOf (OnlyTo hall1) _ := Below.drew (Below.refl _ (OnlyTo hall1))
  refine region_tree (BelowOf (OnlyTo hall1)) 13 (.fl 0 (.fl 1 (.fl 2 (.fl 3 (.fl 4 (.fl 5 (.fl 6 (.fl 7 (.fl 8 (.fl 9 (.one 10 (.one 11 (.fl 12 .done))))))))))))) (by kernel_rfl) (by kernel_rfl) rfl (by kernel_rfl) hS ?_
  refine kQ 3 H rfl fun a H => ?_
  refine kF H rfl rfl (fun w' hS' => r_ld U74 rfl (H.ev rfl) ((show _ = some (Value.map m) from cl_views (c := c) hc1 hc2 (Block.ups k hS')))) rfl fun a H => ?_
  refine kQ 1 H rfl fun a H => ?_
  refine kF H rfl rfl (fun w' hS' => r_ld U3 rfl (H.ev rfl) ((Block.cell (Block.ups k0 hS') 0).trans rfl)) rfl fun a H => ?_
  refine kF (v := .tuple #[.agg (cN y), .bool true]) H rfl rfl (fun w' hS' => r_look_some (MapAt.ups hmp hS') hwf hv (H.ev rfl) (H.ev rfl)) rfl fun a H => ?_
  refine kQ 3 H rfl fun a H => ?_
  refine pt_one (fun K hK => ?_)
  refine st_a0 rfl ?_; refine wpo_alloc 49 (cN note0) z49 fun w1 b1 hge hb k1 => ?_; have gz1 := Nat.le_trans (Below.size hS) hge; replace hS := Below.trans hS (Below.mono hb (Below.size hS)); clear hb hge; refine hK _ _ ⟨(fun _ => hS), ?_⟩; clear hK; clear K; refine kt H rfl fun a H => ?_
  refine pt_one (fun K hK => ?_)
  refine st_a0 rfl ?_; refine wpo_store 49 (.tmp 4) (.tmp 14) b1 49 (cN y) _ (H.ev rfl) (H.ev rfl) k1 s49 rfl (by simp [Value.oneCell']) fun w' hb ho kq => ?_; clear k1; have k1 := kq; replace hS := Below.trans hS (hb _ gz1); clear hb ho kq; refine hK _ _ ⟨(fun _ => hS), ?_⟩; clear hK; clear K; skip
  refine kQ 1 H rfl fun a H => ?_
  refine pt_done (NoPanic.normal ?_)
  replace k := Block.ups k hS
  replace hri := Row.up hri hS
  replace hro := Row.up hro hS
  replace hmp := MapAt.ups hmp hS
  replace k0 := Block.ups k0 hS
  replace hall := hall.trans (Below.mono hS hall.size)
  clear hS
  refine zB (zC (zC ?_))
  by_cases hnw : newerF y n = true
  ·
   refine zD ?_
   refine kR 1 H rfl fun a H => ?_
   refine kV H (r_ld U3 rfl (H.ev rfl) ((Block.cell k0 0).trans rfl)) rfl fun a H => ?_
   by_cases hcc2 : n.1 = 0
   ·
    refine kV H (r_eq U3 (H.ev rfl) evc (dec_t (hcc2))) rfl fun a H => ?_
    refine kR 18 H rfl fun a H => ?_
    refine zA (zB (zH H rfl (zF (zJ ?_))))
    have hbe : belF c.vw n = c.vw := by
     by_cases h0 : n.1 = 0
     · exact if_pos h0
     ·
      unfold belF
      rw [if_neg h0, hv]
      exact if_neg (by first | exact hnw | omega)
    exact k_ret0 H rfl ⟨rfl, ⟨m, by rw [belC, hbe]; exact ⟨hc, ⟨_, _, k, ⟨hri, hfi⟩, hro, hfo⟩, hmp, hmb⟩, .inl rfl⟩, hall⟩
   ·
    refine kV H (r_eq U3 (H.ev rfl) evc (dec_f (hcc2))) rfl fun a H => ?_
    refine kR 2 H rfl fun a H => ?_
    refine kW H rfl (r_not (H.ev rfl) rfl) rfl fun a H => ?_
    refine kR 9 H rfl fun a H => ?_
    refine kG H rfl ?_; refine kV (v := .agg (cN y)) H (run_load_row b1 49 _ _ (H.ev rfl) k1 U49 rfl s49) rfl fun a H => ?_
    refine kG H rfl ?_; refine kV (v := .agg (cN n)) H (run_load_row b0 49 _ _ (H.ev rfl) k0 U49 rfl s49) rfl fun a H => ?_
    refine kG H rfl ?_; refine wl_call _ _ _ (newer_any _ y n) (r_call2 cf120 (H.ev rfl) (H.ev rfl)) ?_; rintro e w9 ⟨rfl, hb⟩; refine ⟨_, rfl, ?_⟩; rw [hnw]; replace k := Block.ups k hb; replace hri := Row.up hri hb; replace hro := Row.up hro hb; replace hmp := MapAt.ups hmp hb; replace k0 := Block.ups k0 hb; replace k1 := Block.ups k1 hb; replace hall := hall.tr hb; clear hb; refine kl H rfl fun a H => ?_
    refine kW H rfl (r_not (H.ev rfl) rfl) rfl fun a H => ?_
    refine kR 2 H rfl fun a H => ?_
    refine zA (zB (zG H rfl (zE (zB (zC (zC ?_))))))
    have hbe : belF c.vw n = updV c.vw n := by
     unfold belF
     rw [if_neg (by omega), hv]
     exact if_pos hnw
    have hn1 : 1 ≤ n.1 := by have := hn.1; omega
    have hn2 := hn.2.1
    cases m with
    | none =>
     refine zD ?_
     refine kR 3 H rfl fun a H => ?_
     refine kV H (r_ld U74 rfl (H.ev rfl) ((show _ = some (Value.map none) from cl_views (c := c) hc1 hc2 k))) rfl fun a H => ?_
     refine kV (v := .bool true) H (r_eqmapnil (H.ev rfl) rfl) rfl fun a H => ?_
     refine zA (zB (zH H rfl (zD ?_)))
     refine kR 1 H rfl fun a H => ?_
     refine op_mkmap fun w2 q0 hge hb hvm => ?_; have hqb : b < q0 := Nat.lt_of_lt_of_le k.lt hge; have g2 := Nat.le_trans hall.size hge; have hmv : c.vw = fun _ => none := funext hmp; clear hmp; have hmb2 : ∀ q, some q0 = some q → b < q := fun q e => (by injection e with e; omega); replace k := Block.ups k hb; replace hri := Row.up hri hb; replace hro := Row.up hro hb; replace k0 := Block.ups k0 hb; clear k1; replace hall := hall.tr hb; clear hb hge; refine kl H rfl fun a H => ?_
     refine kR 2 H rfl fun a H => ?_
     refine op_store1 74 (.tmp 45) (.tmp 43) b 46 76 (.map (some q0)) _ (H.ev rfl) (H.ev rfl) k s74 (by rw [clA_size hc1 hc2]; show 46 + 1 ≤ 48; omega) (by simp [Value.cells, Value.oneCell']) fun w' hb ho kq => ?_; clear k; rw [st_views hc1 hc2] at kq; have k := kq; replace hri := Row.store hri (fx hfi) ho; replace hro := Row.store hro (fx hfo) ho; replace k0 := block_same k0 (ho _ (by omega)); have hmp := MapAt.store (m := some q0) hvm hmb2 (hb b (Nat.le_refl _)) ho; rw [← hmv] at hmp; clear hvm hmb; have hmb := hmb2; clear hmb2; replace hall := hall.store (hb b (Nat.le_refl _)) ho; clear hb ho kq; have hq0 : (none : Option Nat) = some q0 ∨ w.heap.size ≤ q0 := .inr g2; refine kl0 H fun a H => ?_
     refine zA (zB ?_)
     have hall5 := hall
     have hS : BelowOf (OnlyTo hall5) _ := Below.drew (Below.refl _ (OnlyTo hall5))
     refine region_tree (BelowOf (OnlyTo hall5)) 7 (.fl 0 (.fl 1 (.fl 2 (.fl 3 (.fl 4 (.fl 5 (.fl 6 (.one 7 .done)))))))) (by kernel_rfl) (by kernel_rfl) rfl (by kernel_rfl) hS ?_
     refine kQ 3 H rfl fun a H => ?_
     refine kF H rfl rfl (fun w' hS' => r_ld U74 rfl (H.ev rfl) ((show _ = some (Value.map (some q0)) from cl_views (c := c) hc1 hc2 (Block.ups k hS')))) rfl fun a H => ?_
     refine kQ 1 H rfl fun a H => ?_
     refine kF H rfl rfl (fun w' hS' => r_ld U3 rfl (H.ev rfl) ((Block.cell (Block.ups k0 hS') 0).trans rfl)) rfl fun a H => ?_
     refine kF (v := .agg (cN n)) H rfl rfl (fun w' hS' => run_load_row b0 49 _ _ (H.ev rfl) (Block.ups k0 hS') U49 rfl s49) rfl fun a H => ?_
     refine pt_one (fun K hK => ?_)
     replace k := Block.ups k hS
     replace hri := Row.up hri hS
     replace hro := Row.up hro hS
     replace k0 := Block.ups k0 hS
     replace hmp := MapAt.ups hmp hS
     replace hall := hall.trans (Below.mono hS hall.size)
     refine st_a0 rfl ?_; obtain ⟨w4, hrun, hvm2, hg2⟩ := VMap.put hmp n hn1 hn2; refine wpo_k w4 (r_mapup hrun (H.ev rfl) (H.ev rfl) (H.ev rfl)) ?_; have hqn := hmb q0 rfl; replace k := Block.grown k hg2 (by simp; omega); replace hri := Row.offmap hri hmp hg2; replace hro := Row.offmap hro hmp hg2; clear hmp; have hmp : MapAt _ (some q0) (updV c.vw n) := hvm2; replace hall := Only.grownm hall hg2 hq0; refine hK _ _ ⟨(fun h => absurd rfl h), ?_⟩; clear hK; clear K; clear hS; skip
     refine pt_done (NoPanic.normal ?_)
     have hok := bel_ok hc.vw hn
     exact k_end0 H rfl ⟨rfl, ⟨some q0, ⟨{ hc with vw := hok }, ⟨_, _, k, ⟨hri, hfi⟩, hro, hfo⟩, by rw [belC, hbe]; exact hmp, hmb⟩, .inr (.inr ⟨_, rfl, g2⟩)⟩, hall⟩
    | some q0 =>
     refine zD ?_
     refine kR 3 H rfl fun a H => ?_
     refine kV H (r_ld U74 rfl (H.ev rfl) ((show _ = some (Value.map (some q0)) from cl_views (c := c) hc1 hc2 k))) rfl fun a H => ?_
     refine kV (v := .bool false) H (r_eqmapnil (H.ev rfl) rfl) rfl fun a H => ?_
     refine zA (zB (zG H rfl (zE (zB ?_))))
     have hq0 : some q0 = some q0 ∨ w.heap.size ≤ q0 := .inl rfl
     have hall5 := hall
     have hS : BelowOf (OnlyTo hall5) _ := Below.drew (Below.refl _ (OnlyTo hall5))
     refine region_tree (BelowOf (OnlyTo hall5)) 7 (.fl 0 (.fl 1 (.fl 2 (.fl 3 (.fl 4 (.fl 5 (.fl 6 (.one 7 .done)))))))) (by kernel_rfl) (by kernel_rfl) rfl (by kernel_rfl) hS ?_
     refine kQ 3 H rfl fun a H => ?_
     refine kF H rfl rfl (fun w' hS' => r_ld U74 rfl (H.ev rfl) ((show _ = some (Value.map (some q0)) from cl_views (c := c) hc1 hc2 (Block.ups k hS')))) rfl fun a H => ?_
     refine kQ 1 H rfl fun a H => ?_
     refine kF H rfl rfl (fun w' hS' => r_ld U3 rfl (H.ev rfl) ((Block.cell (Block.ups k0 hS') 0).trans rfl)) rfl fun a H => ?_
     refine kF (v := .agg (cN n)) H rfl rfl (fun w' hS' => run_load_row b0 49 _ _ (H.ev rfl) (Block.ups k0 hS') U49 rfl s49) rfl fun a H => ?_
     refine pt_one (fun K hK => ?_)
     replace k := Block.ups k hS
     replace hri := Row.up hri hS
     replace hro := Row.up hro hS
     replace hmp := MapAt.ups hmp hS
     replace k0 := Block.ups k0 hS
     replace hall := hall.trans (Below.mono hS hall.size)
     refine st_a0 rfl ?_; obtain ⟨w4, hrun, hvm2, hg2⟩ := VMap.put hmp n hn1 hn2; refine wpo_k w4 (r_mapup hrun (H.ev rfl) (H.ev rfl) (H.ev rfl)) ?_; have hqn := hmb q0 rfl; replace k := Block.grown k hg2 (by simp; omega); replace hri := Row.offmap hri hmp hg2; replace hro := Row.offmap hro hmp hg2; clear hmp; have hmp : MapAt _ (some q0) (updV c.vw n) := hvm2; replace hall := Only.grownm hall hg2 hq0; refine hK _ _ ⟨(fun h => absurd rfl h), ?_⟩; clear hK; clear K; clear hS; skip
     refine pt_done (NoPanic.normal ?_)
     have hok := bel_ok hc.vw hn
     exact k_end0 H rfl ⟨rfl, ⟨some q0, ⟨{ hc with vw := hok }, ⟨_, _, k, ⟨hri, hfi⟩, hro, hfo⟩, by rw [belC, hbe]; exact hmp, hmb⟩, .inl rfl⟩, hall⟩
  ·
   refine zD ?_
   refine kR 1 H rfl fun a H => ?_
   refine kV H (r_ld U3 rfl (H.ev rfl) ((Block.cell k0 0).trans rfl)) rfl fun a H => ?_
   by_cases hcc3 : n.1 = 0
   ·
    refine kV H (r_eq U3 (H.ev rfl) evc (dec_t (hcc3))) rfl fun a H => ?_
    refine kR 18 H rfl fun a H => ?_
    refine zA (zB (zH H rfl (zF (zJ ?_))))
    have hbe : belF c.vw n = c.vw := by
     by_cases h0 : n.1 = 0
     · exact if_pos h0
     ·
      unfold belF
      rw [if_neg h0, hv]
      exact if_neg (by first | exact hnw | omega)
    exact k_ret0 H rfl ⟨rfl, ⟨m, by rw [belC, hbe]; exact ⟨hc, ⟨_, _, k, ⟨hri, hfi⟩, hro, hfo⟩, hmp, hmb⟩, .inl rfl⟩, hall⟩
   ·
    refine kV H (r_eq U3 (H.ev rfl) evc (dec_f (hcc3))) rfl fun a H => ?_
    refine kR 2 H rfl fun a H => ?_
    refine kW H rfl (r_not (H.ev rfl) rfl) rfl fun a H => ?_
    refine kR 9 H rfl fun a H => ?_
    refine kG H rfl ?_; refine kV (v := .agg (cN y)) H (run_load_row b1 49 _ _ (H.ev rfl) k1 U49 rfl s49) rfl fun a H => ?_
    refine kG H rfl ?_; refine kV (v := .agg (cN n)) H (run_load_row b0 49 _ _ (H.ev rfl) k0 U49 rfl s49) rfl fun a H => ?_
    refine kG H rfl ?_; refine wl_call _ _ _ (newer_any _ y n) (r_call2 cf120 (H.ev rfl) (H.ev rfl)) ?_; rintro e w9 ⟨rfl, hb⟩; refine ⟨_, rfl, ?_⟩; rw [show newerF y n = false by simpa using hnw]; replace k := Block.ups k hb; replace hri := Row.up hri hb; replace hro := Row.up hro hb; replace hmp := MapAt.ups hmp hb; replace k0 := Block.ups k0 hb; replace k1 := Block.ups k1 hb; replace hall := hall.tr hb; clear hb; refine kl H rfl fun a H => ?_
    refine kW H rfl (r_not (H.ev rfl) rfl) rfl fun a H => ?_
    refine kR 2 H rfl fun a H => ?_
    refine zA (zB (zH H rfl (zF (zJ ?_))))
    have hbe : belF c.vw n = c.vw := by
     by_cases h0 : n.1 = 0
     · exact if_pos h0
     ·
      unfold belF
      rw [if_neg h0, hv]
      exact if_neg (by first | exact hnw | omega)
    exact k_ret0 H rfl ⟨rfl, ⟨m, by rw [belC, hbe]; exact ⟨hc, ⟨_, _, k, ⟨hri, hfi⟩, hro, hfo⟩, hmp, hmb⟩, .inl rfl⟩, hall⟩
end
theorem ClAt.up [Lim] {w w' : World} {b : Nat} {m : Option Nat} {c : Cl} (h : ClAt w b m c) (hb : Below w.heap.size w w') : ClAt w' b m c := by
 obtain ⟨hc, ⟨vi, vo, k, ⟨hri, hfi⟩, hro, hfo⟩, hmp, hmb⟩ := h
 exact ⟨hc, ⟨vi, vo, k.ups hb, ⟨hri.up hb, hfi⟩, hro.up hb, hfo⟩, hmp.ups hb, hmb⟩
theorem ClAt.lt [Lim] {w : World} {b : Nat} {m : Option Nat} {c : Cl} (h : ClAt w b m c) : b < w.heap.size := by
 obtain ⟨hc, ⟨vi, vo, k, _⟩, _⟩ := h
 exact k.lt
theorem Row.step {α : Type} {enc : α → List Int} {w w1 w2 : World} {v : Value} {L : List α} {g : Nat} (h : Row enc w v L) (hg : w.heap.size ≤ g) (h1 : Below w.heap.size w w1) (h2 : Below g w1 w2) : Row enc w2 v L := h.up (h1.trans (h2.mono hg))
theorem Row.onlym {α : Type} {enc : α → List Int} {w w' : World} {v : Value} {L : List α} {b : Nat} {m : Option Nat} {vw : Int → Option Nt} (h : Row enc w v L) (hf : Fresh (b + 1) v) (hm : MapAt w m vw) (ho : Only b m w w') : Row enc w' v L := by
 obtain ⟨A, c, rfl, h1, h2, h3, hh⟩ := h
 refine ⟨A, c, rfl, h1, h2, h3, fun j hj => ?_⟩
 obtain ⟨g, o, e, hc⟩ := hh j hj
 refine ⟨g, o, e, ?_⟩
 have hs := hc.trans (List.getElem?_eq_getElem hj)
 have hlt := World.block_lt_of_cell? w _ hs
 have hq := hf A _ c rfl g o e
 have hne : some g ≠ m := fun e2 => by
  subst e2
  have := VMap.no_cell (show VMap w g vw from hm) (o + j)
  rw [this] at hs
  cases hs
 rw [← hc]
 unfold World.cell?
 rw [ho.block g hlt (by omega) hne]
theorem Block.onlym {w w' : World} {g b : Nat} {t : TypeId} {C : Array Value} {m : Option Nat} {vw : Int → Option Nt} (h : Block w g t C) (hne : g ≠ b) (hm : MapAt w m vw) (ho : Only b m w w') : Block w' g t C :=
 (ho.block g h.lt hne (fun e => by
  subst e
  obtain ⟨_, _, ⟨es, cl, hb, _⟩, _⟩ := (show VMap w g vw from hm)
  have h2 : w.heap[g]? = some (.cells C t (0, 0)) := h
  rw [hb] at h2
  cases h2)).trans h
theorem own_on {c : Cl} {p : Pkt} (h : ownF c p = true) : c.state = 3 := by
 unfold ownF at h
 rw [Bool.and_eq_true] at h
 exact (of_decide_eq_true h.1).1
/-- behind the first i notes -/
def toldAt (c : Cl) (p : Pkt) (i : Nat) : Cl := { c with next := (takeF c.next c.items (itP p)).1.1, items := (takeF c.next c.items (itP p)).1.2, vw := ((takeF c.next c.items (itP p)).2.take i).foldl belF c.vw }
theorem toldAt_zero {c : Cl} {p : Pkt} {T : (Int × List It) × List Nt} (h : takeF c.next c.items (itP p) = T) : toldAt c p 0 = { c with next := T.1.1, items := T.1.2 } := by subst h; rfl
theorem toldAt_end {c : Cl} {p : Pkt} {T : (Int × List It) × List Nt} (h : takeF c.next c.items (itP p) = T) : toldAt c p T.2.length = toldC c p := by
 subst h
 unfold toldAt toldC
 rw [List.take_length]
theorem toldAt_next {c : Cl} {p : Pkt} {T : (Int × List It) × List Nt} {i : Nat} {n : Nt} (h : takeF c.next c.items (itP p) = T) (hn : T.2[i]? = some n) : belC (toldAt c p i) n = toldAt c p (i + 1) := by
 subst h
 obtain ⟨hi, rfl⟩ := List.getElem?_eq_some_iff.1 hn
 unfold toldAt belC
 rw [List.take_succ_eq_append_getElem hi, List.foldl_append]
 rfl
theorem toldAt_ok {c : Cl} {p : Pkt} {i : Nat} (h : ClOk c) (hs : c.state = 3) (hr : rightF p = true) (hk : p.fld 0 = 8) : ClOk (toldAt c p i) := by
 have hR := right_take (x := itP p) (h.on hs).2
 have ht := take_from (n := c.next) (L := c.items) (x := itP p) h.notes (note_ok hr hk).1
 exact { h with
  on := fun _ => ⟨(h.on hs).1, hR⟩
  next := ⟨by have := hR.1; show 0 ≤ (takeF c.next c.items (itP p)).1.1; omega, hR.2.1⟩
  items := right_len hR
  notes := ht.1
  vw := bels_ok _ _ h.vw (fun n hn => ht.2 n (List.mem_of_mem_take hn)) }
theorem ack_in (n : Int) (L : List It) : 0 ≤ (ackF n L).1 ∧ (ackF n L).1 ≤ 1073741823 ∧ 0 ≤ (ackF n L).2 ∧ (ackF n L).2 ≤ 127 := by
 unfold ackF
 split
 ·
  rename_i h
  have hR : RightL n L := of_decide_eq_true h
  have h2 := ack_lt hR L.length 7 (Nat.le_refl _) (fun j y _ hy => by have := hR.2.2.2 y (List.mem_of_getElem? hy); omega)
  rw [List.take_length] at h2
  have h3 := hR.1
  have h4 := hR.2.1
  have h5 : (2 : Nat) ^ 7 = 128 := by decide
  simp only
  omega
 · simp
theorem ackP_ok {a s : Int} (h : 0 ≤ a ∧ a ≤ 1073741823 ∧ 0 ≤ s ∧ s ≤ 127) : (ackP a s).ok := lit12_ok rfl rfl rfl fun x hx => by
 simp only [List.mem_cons, List.not_mem_nil, or_false] at hx
 omega
theorem signedC_any [Lim] (w : World) (b : Nat) (m : Option Nat) (c : Cl) (p : Pkt) (h : ClAt w b m c) (hp : p.ok) : Calls Tryz.prog 83 #[.pointer (some ⟨b, 0, none⟩), .agg (pv p)] w fun e w' => (∃ v, e = .returned v ∧ Outs w' w.heap.size v (sgnF c p)) ∧ Below w.heap.size w w' := by
 obtain ⟨hc, ⟨vi, vo, k, _⟩, _⟩ := h
 exact signedB_any w b m c p vi vo hc k hp
theorem take_len {n : Int} {L : List It} {x : It} (h : L.length ≤ 7) : (takeF n L x).2.length ≤ 8 := by
 by_cases hs : ShutP n L x
 ·
  rw [take_shut hs]
  simp
 ·
  rw [take_go hs]
  have h1 := (pop_len (insI L x) n).1
  have h2 := ins_len L x
  omega
def Nf1 [Lim] (W : World) (b b1 : Nat) (m : Option Nat) (c : Cl) (p : Pkt) (T : (Int × List It) × List Nt) (As An : Option Addr) (cs cn : Nat) (a : Act) (w : World) : Prop :=
 ∃ (i : Nat) (mi : Option Nat), Kn a 61 [(0, .pointer (some ⟨b, 0, none⟩)), (5, .pointer (some ⟨b1, 0, none⟩)), (41, .slice An T.2.length cn), (42, .int .i64 (T.2.length : Nat)), (43, .int .i64 (i : Nat))] ∧ i ≤ T.2.length ∧ ClAt w b mi (toldAt c p i) ∧ IRow w (.slice As T.1.2.length cs) T.1.2 ∧ NRow w (.slice An T.2.length cn) T.2 ∧ Block w b1 70 #[.int .i64 T.1.1, .slice As T.1.2.length cs] ∧ MNext W m mi ∧ Only b m W w
set_option maxRecDepth 100000 in
set_option maxHeartbeats 4000000 in
theorem notified_any [Lim] (w : World) (b : Nat) (m : Option Nat) (c : Cl) (h : ClAt w b m c)(p : Pkt) (hp : p.ok) (hr : rightF p = true) (hk : p.fld 0 = 8) (hX : Lim.lim b ≤ w.heap.size) : Calls Tryz.prog 55 #[.pointer (some ⟨b, 0, none⟩), .agg (pv p)] w fun e w' => (∃ v, e = .returned v ∧ Outs w' w.heap.size v (notO c p)) ∧ (∃ m', ClAt w' b m' (notC c p) ∧ MNext w m m') ∧ Only b m w w' := by
 obtain ⟨hc, ⟨vi, vo, k, ⟨hri, hfi⟩, hro, hfo⟩, hmp, hmb⟩ := h
 have hc1 := hc.ck
 have hc2 := hc.key
 have hcn := hc.now
 have hcs := hc.seq
 have hcb := hc.beats
 have hco := hc.nonce
 have hall := Only.refl b m w
 have hno := note_ok hr hk
 refine K_enter 61 Tryz.func55 rfl rfl fun a H => ?_
 replace H := H.pick [0, 1]
 refine zC (zD ?_)
 refine op_box 36 (.tmp 1) (pv p) (H.ev rfl) fun w0 b0 hge hb k0 => ?_; have g0 := Nat.le_trans hall.size hge; replace k := Block.ups k hb; replace hri := Row.up hri hb; replace hro := Row.up hro hb; replace hmp := MapAt.ups hmp hb; replace hall := hall.tr hb; clear hb; clear hge; refine kl H rfl fun a H => ?_
 refine kR 1 H rfl fun a H => ?_
 refine zA (zB (zC (zC ?_)))
 by_cases hown : ownF c p = true
 ·
  refine zD ?_
  refine kR 1 H rfl fun a H => ?_
  refine kV H (run_load_row b0 36 _ _ (H.ev rfl) k0 U36 rfl (s36p hp)) rfl fun a H => ?_
  refine wl_call _ _ _ (own_any _ b m c p vi vo hc k hp) (r_call2 cf87 (H.ev rfl) (H.ev rfl)) ?_; rintro e w9 ⟨rfl, hb⟩; refine ⟨_, rfl, ?_⟩; rw [hown]; replace k := Block.ups k hb; replace hri := Row.up hri hb; replace hro := Row.up hro hb; replace hmp := MapAt.ups hmp hb; replace k0 := Block.ups k0 hb; replace hall := hall.tr hb; clear hb; refine kl H rfl fun a H => ?_
  refine kV H (r_not (H.ev rfl) rfl) rfl fun a H => ?_
  refine zA (zB (zG H rfl (zE (zB (zC ?_)))))
  have hall3 := hall
  have hS : BelowOf (OnlyTo hall3) _ := Below.drew (Below.refl _ (OnlyTo hall3))
  refine region_tree (BelowOf (OnlyTo hall3)) 24 (.fl 0 (.fl 1 (.fl 2 (.fl 3 (.fl 4 (.fl 5 (.fl 6 (.fl 7 (.fl 8 (.fl 9 (.fl 10 (.fl 11 (.fl 12 (.fl 13 (.fl 14 (.fl 15 (.fl 16 (.two 17 (.fl 18 (.fl 19 (.fl 20 (.one 21 (.one 22 (.fl 23 .done)))))) 21 (.one 17 (.fl 18 (.fl 19 (.fl 20 (.one 22 (.fl 23 .done)))))))))))))))))))))))) (by kernel_rfl) (by kernel_rfl) rfl (by kernel_rfl) hS ?_
  refine kQ 3 H rfl fun a H => ?_
  refine kF H rfl rfl (fun w' hS' => r_fld (q := 22 + 21) fld72_6 (H.ev rfl) rfl) rfl fun a H => ?_
  refine kF H rfl rfl (fun w' hS' => r_row (cs := [.int .i64 (c.next), vi]) (H.ev rfl) ((cl_told (c := c) hc1 hc2 (Block.ups k hS') : World.rangeAt _ b 43 [Value.int .i64 (c.next), vi])) (by kernel_rfl) s70 rfl) rfl fun a H => ?_
  refine kQ 1 H rfl fun a H => ?_
  refine kF H rfl rfl (fun w' hS' => r_ld U3 rfl (H.ev rfl) (pv_cell (Block.ups k0 hS') (fld_at hp (j := 2) (by omega)))) rfl fun a H => ?_
  refine kQ 1 H rfl fun a H => ?_
  refine kF H rfl rfl (fun w' hS' => r_ld U3 rfl (H.ev rfl) (pv_cell (Block.ups k0 hS') (fld_at hp (j := 3) (by omega)))) rfl fun a H => ?_
  refine kQ 1 H rfl fun a H => ?_
  refine kF H rfl rfl (fun w' hS' => r_ld U3 rfl (H.ev rfl) (pv_cell (Block.ups k0 hS') (fld_at hp (j := 7) (by omega)))) rfl fun a H => ?_
  refine kQ 1 H rfl fun a H => ?_
  refine kF H rfl rfl (fun w' hS' => r_ld U3 rfl (H.ev rfl) (pv_cell (Block.ups k0 hS') (fld_at hp (j := 5) (by omega)))) rfl fun a H => ?_
  refine kQ 1 H rfl fun a H => ?_
  refine kF H rfl rfl (fun w' hS' => r_ld U3 rfl (H.ev rfl) (pv_cell (Block.ups k0 hS') (fld_at hp (j := 6) (by omega)))) rfl fun a H => ?_
  refine kF H rfl rfl (fun w' hS' => r_build #[(0, .int .i64 (p.fld 3)), (1, .int .i64 (p.fld 7)), (2, .int .i64 (p.fld 5)), (3, .int .i64 (p.fld 6))] (.agg #[.int .i64 (p.fld 3), .int .i64 (p.fld 7), .int .i64 (p.fld 5), .int .i64 (p.fld 6)]) (by simp [evc, H.ev (j := 24) rfl, H.ev (j := 26) rfl, H.ev (j := 28) rfl, H.ev (j := 30) rfl]) (fun w => by kernel_rfl)) rfl fun a H => ?_
  refine kF H rfl rfl (fun w' hS' => r_build #[(0, .int .i64 (p.fld 2)), (1, .agg #[.int .i64 (p.fld 3), .int .i64 (p.fld 7), .int .i64 (p.fld 5), .int .i64 (p.fld 6)])] (.agg #[.int .i64 (p.fld 2), .int .i64 (p.fld 3), .int .i64 (p.fld 7), .int .i64 (p.fld 5), .int .i64 (p.fld 6)]) (by simp [evc, H.ev (j := 22) rfl, H.ev (j := 31) rfl]) (fun w => by kernel_rfl)) rfl fun a H => ?_
  refine pt_two (fun K hK => ?_) (fun K hK => ?_)
  ·
   refine st_a0 rfl ?_; refine wpo_call _ _ _ (take_any _ c.next vi c.items (itP p) (Row.up hri hS) (by have := hc.items; omega) (by have := hno.2; omega) (by have := hno.2; omega)) (r_call2 cf88 (H.ev rfl) (H.ev rfl)) ?_; rintro e w9 ⟨⟨s0, o0, rfl, ⟨hrs, hfs⟩, ⟨hrn, hfn⟩⟩, hb⟩; refine ⟨_, rfl, ?_⟩; have hbs := Nat.le_trans (Nat.le_trans hX (show w.heap.size ≤ (OnlyTo hall3).heap.size from hall3.size)) (Below.size hS); replace hfs := Fresh.base hfs hbs; replace hfn := Fresh.base hfn hbs; replace hS := Below.trans hS (Below.mono hb (Below.size hS)); clear hb hbs; have hTl := take_len (n := c.next) (x := itP p) hc.items; obtain ⟨T, hT⟩ : ∃ T, takeF c.next c.items (itP p) = T := ⟨_, rfl⟩; rw [hT] at hrs hrn hTl; rw [hT]; have HT := Lib.hid hT; clear hT; obtain ⟨As, cs, hs0⟩ := row_shape hrs; subst hs0; obtain ⟨An, cn, ho0⟩ := row_shape hrn; subst ho0; refine hK _ _ ⟨(fun _ => hS), ?_⟩; clear hK; clear K; refine kt H rfl fun a H => ?_
   refine kQ 3 H rfl fun a H => ?_
   refine pt_one (fun K hK => ?_)
   refine st_a0 rfl ?_; refine wpo_alloc 70 #[.int .i64 0, .slice none 0 0] z70 fun w1 b1 hge hb k1 => ?_; have db1 : b < b1 := Nat.lt_of_lt_of_le (Nat.lt_of_lt_of_le (show b < (OnlyTo hall3).heap.size from k.lt) (Below.size hS)) hge; have gz1 := Nat.le_trans (Below.size hS) hge; have hga := hge; have hba := hb; replace hS := Below.trans hS (Below.mono hb (Below.size hS)); clear hb hge; refine hK _ _ ⟨(fun _ => hS), ?_⟩; clear hK; clear K; refine kt H rfl fun a H => ?_
   refine pt_one (fun K hK => ?_)
   refine st_a0 rfl ?_; refine wpo_store 70 (.tmp 5) (.tmp 34) b1 70 #[.int .i64 T.1.1, .slice As T.1.2.length cs] _ (H.ev rfl) (H.ev rfl) k1 s70 rfl (by simp [Value.oneCell']) fun w' hb ho kq => ?_; clear k1; have k1 := kq; replace hrs := Row.step hrs hga hba (hb _ (Nat.le_refl _)); replace hrn := Row.step hrn hga hba (hb _ (Nat.le_refl _)); clear hga hba; replace hS := Below.trans hS (hb _ gz1); clear hb ho kq; refine hK _ _ ⟨(fun _ => hS), ?_⟩; clear hK; clear K; skip
   refine kQ 1 H rfl fun a H => ?_
   refine pt_done (NoPanic.normal ?_)
   replace k := Block.ups k hS
   replace hri := Row.up hri hS
   replace hro := Row.up hro hS
   replace hmp := MapAt.ups hmp hS
   replace k0 := Block.ups k0 hS
   replace hall := hall.trans (Below.mono hS hall.size)
   clear hS
   refine zB (zC ?_)
   clear hri hfi k0
   refine zD ?_
   refine kR 1 H rfl fun a H => ?_
   refine kV H (r_row (cs := [.int .i64 T.1.1, .slice As T.1.2.length cs]) (H.ev rfl) (block_range k1) (by kernel_rfl) s70 rfl) rfl fun a H => ?_
   refine kR 2 H rfl fun a H => ?_
   refine kV H (r_fld (q := 22 + 21) fld72_6 (H.ev rfl) rfl) rfl fun a H => ?_
   refine op_store_mid 70 (.tmp 40) (.tmp 37) b 43 76 #[.int .i64 T.1.1, .slice As T.1.2.length cs] _ (H.ev rfl) (H.ev rfl) k s70 (by rw [clA_size (c := c) hc1 hc2]; show 43 + 2 ≤ 48; omega) (by simp [Value.oneCell']) fun w' hb ho kq => ?_; clear k; rw [st_told (c := c) hc1 hc2] at kq; have k : Block _ b 76 (clA { c with next := T.1.1 } (.slice As T.1.2.length cs) vo m) := kq; replace hro := Row.store hro (fx hfo) ho; replace hmp := MapAt.store hmp hmb (hb b (Nat.le_refl _)) ho; replace k1 := block_same k1 (ho _ (by omega)); replace hrs := Row.store hrs (fx hfs) ho; replace hrn := Row.store hrn (fx hfn) ho; replace hall := hall.store (hb b (Nat.le_refl _)) ho; clear hb ho kq; refine kl0 H fun a H => ?_
   refine zA (zB (zC (zC (zD ?_))))
   refine kR 1 H rfl fun a H => ?_
   refine kV H (r_len U53 (H.ev rfl)) rfl fun a H => ?_
   refine kR 1 H rfl fun a H => ?_
   refine zA (zB ?_)
   refine wp_block ?_
   have hto := fun i => toldAt_ok (i := i) hc (own_on hown) hr hk
   have hcl : ClAt _ b m (toldAt c p 0) := ⟨hto 0, ⟨_, _, by rw [toldAt_zero HT.out]; exact k, ⟨by rw [toldAt_zero HT.out]; exact hrs, hfs⟩, by rw [toldAt_zero HT.out]; exact hro, hfo⟩, by rw [toldAt_zero HT.out]; exact hmp, hmb⟩
   refine wp_loop (Nf1 w b b1 m c p T As An cs cn) (fun a _ => T.2.length - (intOf (a.eval (.tmp 43))).toNat) ⟨0, m, H.pick [0, 5, 41, 42, 43], by omega, hcl, hrs, hrn, k1, .inl rfl, hall⟩ ?_
   clear H hall k k1 hrs hrn hro hmp hcl
   rintro a w' ⟨i, mi, H, hi, hcl, hrs, hrn, k1, hmn, hall⟩
   have H0 := H
   by_cases hlt : i < T.2.length
   ·
    obtain ⟨bn, on, hA, hrg⟩ := flat_some encN_len (row_holds hrn) (by omega) hlt
    subst hA
    obtain ⟨n, hn0⟩ : ∃ n, T.2[i] = n := ⟨_, rfl⟩
    rw [hn0] at hrg
    have hni : T.2[i]? = some n := by rw [← hn0]; exact List.getElem?_eq_getElem hlt
    clear hn0
    have hokn : okN n := (take_from (n := c.next) hc.notes hno.1).2 n (by rw [HT.out]; exact List.mem_of_getElem? hni)
    have HNI := Lib.hid hni
    clear hni
    refine zC (zD ?_)
    refine kV H (r_lt U3 (H.ev rfl) (H.ev rfl) (dec_t (by omega))) rfl fun a H => ?_
    refine zA (zB (zC (zH H rfl (zE (zB (zC ?_))))))
    refine wp_block ?_
    refine zC (zD ?_)
    refine kV H (r_idx (j := i) (q := on + i * 4) U53 s49 (H.ev rfl) (H.ev rfl) (by omega) rfl) rfl fun a H => ?_
    refine kV H (r_row (cs := [.int .i64 n.1, .int .i64 n.2.1, .int .i64 n.2.2.1, .int .i64 n.2.2.2]) (H.ev rfl) (hrg) (by kernel_rfl) s49 rfl) rfl fun a H => ?_
    refine op_new 49 8 (.tmp 46) #[.int .i64 n.1, .int .i64 n.2.1, .int .i64 n.2.2.1, .int .i64 n.2.2.2] _ z49 s49 rfl (ints_one [n.1, n.2.1, n.2.2.1, n.2.2.2]) (fun p => (H.put 8 p rfl).ev rfl) (fun p => (H.put 8 p rfl).ev rfl) fun w2 b2 hge hb k2 => ?_; have g2 := Nat.le_trans hall.size hge; have d1_2 : b1 < b2 := Nat.lt_of_lt_of_le k1.lt hge; replace hcl := ClAt.up hcl hb; replace hrs := Row.up hrs hb; replace hrn := Row.up hrn hb; replace k1 := Block.ups k1 hb; replace hall := hall.tr hb; clear hb; clear hge; refine kl H rfl fun a H => ?_
    refine zA (zB (zD ?_))
    refine kR 1 H rfl fun a H => ?_
    refine kV H (r_row (cs := [.int .i64 n.1, .int .i64 n.2.1, .int .i64 n.2.2.1, .int .i64 n.2.2.2]) (H.ev rfl) (block_range k2) (by kernel_rfl) s49 rfl) rfl fun a H => ?_
    refine wl_call _ _ _ (believe_any _ b mi (toldAt c p i) hcl n hokn) (r_call2 cf89 (H.ev rfl) (H.ev rfl)) ?_; rintro e w9 ⟨rfl, ⟨m2, hcl2, hmn2⟩, hon⟩; refine ⟨_, rfl, ?_⟩; replace hrs := Row.onlym hrs (fx hfs) hcl.mp hon; replace hrn := Row.onlym hrn (fx hfn) hcl.mp hon; replace k1 := Block.onlym k1 (by omega) hcl.mp hon; clear k2; have hall2 := Only.comp hall hmn hon; replace hmn := MNext.trans hmn hall.size hmn2; clear hall hon hcl hmn2; have hall := hall2; clear hall2; rw [toldAt_next HT.out HNI.out] at hcl2; refine kl H rfl fun a H => ?_
    refine zA (n_block (zB (zD ?_)))
    refine kV H (r_add (q := ((i + 1 : Nat) : Int)) U3 (H.ev rfl) evc (by omega) (by omega)) rfl fun a H => ?_
    refine kR 1 H rfl fun a H => ?_
    refine zA ?_
    refine zI ⟨⟨i + 1, m2, H.pick [0, 5, 41, 42, 43], by omega, hcl2, hrs, hrn, k1, hmn, hall⟩, ?_⟩
    rw [H.ev (j := 43) rfl, H0.ev (j := 43) rfl]
    simp only [intOf]
    omega
   ·
    obtain rfl : i = T.2.length := by omega
    clear hrn
    rw [toldAt_end HT.out] at hcl
    refine zC (zD ?_)
    refine kV H (r_lt U3 (H.ev rfl) (H.ev rfl) (dec_f (by omega))) rfl fun a H => ?_
    refine zA (zB (zC (zG H rfl (wp_exit (e_then (e_then ?_))))))
    refine e_here ?_
    refine zB (zC ?_)
    have hcok := told_ok hc (own_on hown) hr hk
    have hc7 : T.1.2.length ≤ 7 := by have := hcok.items; rwa [show (toldC c p).items = T.1.2 by rw [← HT.out]; rfl] at this
    have hack := ack_in T.1.1 T.1.2
    refine zD ?_
    refine kV H (r_row (cs := [.int .i64 T.1.1, .slice As T.1.2.length cs]) (H.ev rfl) (block_range k1) (by kernel_rfl) s70 rfl) rfl fun a H => ?_
    refine wl_call _ _ _ (ack_any _ T.1.1 _ T.1.2 hrs (by have := hc7; omega)) (r_call1 cf90 (H.ev rfl)) ?_; rintro e w9 ⟨rfl, hb⟩; refine ⟨_, rfl, ?_⟩; replace hcl := ClAt.up hcl hb; replace hrs := Row.up hrs hb; replace k1 := Block.ups k1 hb; replace hall := hall.tr hb; clear hb; refine kl H rfl fun a H => ?_
    refine kR 5 H rfl fun a H => ?_
    refine zA (zB (zC (zD ?_)))
    refine kR 3 H rfl fun a H => ?_
    refine kV (v := .agg (pv (ackP (ackF T.1.1 T.1.2).1 (ackF T.1.1 T.1.2).2))) H (r_build #[(0, .int .i64 9), (8, .int .i64 (ackF T.1.1 T.1.2).1), (9, .int .i64 (ackF T.1.1 T.1.2).2)] (.agg (pv (ackP (ackF T.1.1 T.1.2).1 (ackF T.1.1 T.1.2).2))) (by simp [evc, H.ev (j := 57) rfl, H.ev (j := 58) rfl]) (fun w => by kernel_rfl)) rfl fun a H => ?_
    refine wl_call _ _ _ (signedC_any _ b mi (toldC c p) (ackP (ackF T.1.1 T.1.2).1 (ackF T.1.1 T.1.2).2) hcl (ackP_ok hack)) (r_call2 cf83 (H.ev rfl) (H.ev rfl)) ?_; rintro e w9 ⟨⟨v, rfl, hou⟩, hb⟩; refine ⟨_, rfl, ?_⟩; replace hou := Outs.base hou hall.size; replace hcl := ClAt.up hcl hb; replace hrs := Row.up hrs hb; replace k1 := Block.ups k1 hb; replace hall := hall.tr hb; clear hb; refine kl H rfl fun a H => ?_
    refine kR 1 H rfl fun a H => ?_
    refine zA (zB (zF ?_))
    exact k_ret1 H rfl rfl ⟨⟨_, rfl, by rw [notO, if_pos hown, show (toldC c p).next = T.1.1 by rw [← HT.out]; rfl, show (toldC c p).items = T.1.2 by rw [← HT.out]; rfl]; exact hou⟩, ⟨mi, by rw [notC, if_pos hown]; exact hcl, hmn⟩, hall⟩
  ·
   refine st_a0 rfl ?_; refine wpo_alloc 70 #[.int .i64 0, .slice none 0 0] z70 fun w1 b1 hge hb k1 => ?_; have db1 : b < b1 := Nat.lt_of_lt_of_le (Nat.lt_of_lt_of_le (show b < (OnlyTo hall3).heap.size from k.lt) (Below.size hS)) hge; have gz1 := Nat.le_trans (Below.size hS) hge; have hga := hge; have hba := hb; replace hS := Below.trans hS (Below.mono hb (Below.size hS)); clear hb hge; refine hK _ _ ⟨(fun _ => hS), ?_⟩; clear hK; clear K; refine kt H rfl fun a H => ?_
   refine pt_one (fun K hK => ?_)
   refine st_a0 rfl ?_; refine wpo_call _ _ _ (take_any _ c.next vi c.items (itP p) (Row.up hri hS) (by have := hc.items; omega) (by have := hno.2; omega) (by have := hno.2; omega)) (r_call2 cf88 (H.ev rfl) (H.ev rfl)) ?_; rintro e w9 ⟨⟨s0, o0, rfl, ⟨hrs, hfs⟩, ⟨hrn, hfn⟩⟩, hb⟩; refine ⟨_, rfl, ?_⟩; have hft : Fresh (b1 + 1) s0 := Fresh.base hfs (Nat.succ_le_of_lt k1.lt); have hfu : Fresh (b1 + 1) o0 := Fresh.base hfn (Nat.succ_le_of_lt k1.lt); replace k1 := Block.ups k1 hb; have hbs := Nat.le_trans (Nat.le_trans hX (show w.heap.size ≤ (OnlyTo hall3).heap.size from hall3.size)) (Below.size hS); replace hfs := Fresh.base hfs hbs; replace hfn := Fresh.base hfn hbs; replace hS := Below.trans hS (Below.mono hb (Below.size hS)); clear hb hbs; have hTl := take_len (n := c.next) (x := itP p) hc.items; obtain ⟨T, hT⟩ : ∃ T, takeF c.next c.items (itP p) = T := ⟨_, rfl⟩; rw [hT] at hrs hrn hTl; rw [hT]; have HT := Lib.hid hT; clear hT; obtain ⟨As, cs, hs0⟩ := row_shape hrs; subst hs0; obtain ⟨An, cn, ho0⟩ := row_shape hrn; subst ho0; refine hK _ _ ⟨(fun _ => hS), ?_⟩; clear hK; clear K; refine kt H rfl fun a H => ?_
   refine kQ 3 H rfl fun a H => ?_
   refine pt_one (fun K hK => ?_)
   refine st_a0 rfl ?_; refine wpo_store 70 (.tmp 5) (.tmp 34) b1 70 #[.int .i64 T.1.1, .slice As T.1.2.length cs] _ (H.ev rfl) (H.ev rfl) k1 s70 rfl (by simp [Value.oneCell']) fun w' hb ho kq => ?_; clear k1; have k1 := kq; replace hrs := Row.store hrs hft ho; replace hrn := Row.store hrn hfu ho; clear hft hfu; replace hS := Below.trans hS (hb _ gz1); clear hb ho kq; refine hK _ _ ⟨(fun _ => hS), ?_⟩; clear hK; clear K; skip
   refine kQ 1 H rfl fun a H => ?_
   refine pt_done (NoPanic.normal ?_)
   replace k := Block.ups k hS
   replace hri := Row.up hri hS
   replace hro := Row.up hro hS
   replace hmp := MapAt.ups hmp hS
   replace k0 := Block.ups k0 hS
   replace hall := hall.trans (Below.mono hS hall.size)
   clear hS
   refine zB (zC ?_)
   clear hri hfi k0
   refine zD ?_
   refine kR 1 H rfl fun a H => ?_
   refine kV H (r_row (cs := [.int .i64 T.1.1, .slice As T.1.2.length cs]) (H.ev rfl) (block_range k1) (by kernel_rfl) s70 rfl) rfl fun a H => ?_
   refine kR 2 H rfl fun a H => ?_
   refine kV H (r_fld (q := 22 + 21) fld72_6 (H.ev rfl) rfl) rfl fun a H => ?_
   refine op_store_mid 70 (.tmp 40) (.tmp 37) b 43 76 #[.int .i64 T.1.1, .slice As T.1.2.length cs] _ (H.ev rfl) (H.ev rfl) k s70 (by rw [clA_size (c := c) hc1 hc2]; show 43 + 2 ≤ 48; omega) (by simp [Value.oneCell']) fun w' hb ho kq => ?_; clear k; rw [st_told (c := c) hc1 hc2] at kq; have k : Block _ b 76 (clA { c with next := T.1.1 } (.slice As T.1.2.length cs) vo m) := kq; replace hro := Row.store hro (fx hfo) ho; replace hmp := MapAt.store hmp hmb (hb b (Nat.le_refl _)) ho; replace k1 := block_same k1 (ho _ (by omega)); replace hrs := Row.store hrs (fx hfs) ho; replace hrn := Row.store hrn (fx hfn) ho; replace hall := hall.store (hb b (Nat.le_refl _)) ho; clear hb ho kq; refine kl0 H fun a H => ?_
   refine zA (zB (zC (zC (zD ?_))))
   refine kR 1 H rfl fun a H => ?_
   refine kV H (r_len U53 (H.ev rfl)) rfl fun a H => ?_
   refine kR 1 H rfl fun a H => ?_
   refine zA (zB ?_)
   refine wp_block ?_
   have hto := fun i => toldAt_ok (i := i) hc (own_on hown) hr hk
   have hcl : ClAt _ b m (toldAt c p 0) := ⟨hto 0, ⟨_, _, by rw [toldAt_zero HT.out]; exact k, ⟨by rw [toldAt_zero HT.out]; exact hrs, hfs⟩, by rw [toldAt_zero HT.out]; exact hro, hfo⟩, by rw [toldAt_zero HT.out]; exact hmp, hmb⟩
   refine wp_loop (Nf1 w b b1 m c p T As An cs cn) (fun a _ => T.2.length - (intOf (a.eval (.tmp 43))).toNat) ⟨0, m, H.pick [0, 5, 41, 42, 43], by omega, hcl, hrs, hrn, k1, .inl rfl, hall⟩ ?_
   clear H hall k k1 hrs hrn hro hmp hcl
   rintro a w' ⟨i, mi, H, hi, hcl, hrs, hrn, k1, hmn, hall⟩
   have H0 := H
   by_cases hlt : i < T.2.length
   ·
    obtain ⟨bn, on, hA, hrg⟩ := flat_some encN_len (row_holds hrn) (by omega) hlt
    subst hA
    obtain ⟨n, hn0⟩ : ∃ n, T.2[i] = n := ⟨_, rfl⟩
    rw [hn0] at hrg
    have hni : T.2[i]? = some n := by rw [← hn0]; exact List.getElem?_eq_getElem hlt
    clear hn0
    have hokn : okN n := (take_from (n := c.next) hc.notes hno.1).2 n (by rw [HT.out]; exact List.mem_of_getElem? hni)
    have HNI := Lib.hid hni
    clear hni
    refine zC (zD ?_)
    refine kV H (r_lt U3 (H.ev rfl) (H.ev rfl) (dec_t (by omega))) rfl fun a H => ?_
    refine zA (zB (zC (zH H rfl (zE (zB (zC ?_))))))
    refine wp_block ?_
    refine zC (zD ?_)
    refine kV H (r_idx (j := i) (q := on + i * 4) U53 s49 (H.ev rfl) (H.ev rfl) (by omega) rfl) rfl fun a H => ?_
    refine kV H (r_row (cs := [.int .i64 n.1, .int .i64 n.2.1, .int .i64 n.2.2.1, .int .i64 n.2.2.2]) (H.ev rfl) (hrg) (by kernel_rfl) s49 rfl) rfl fun a H => ?_
    refine op_new 49 8 (.tmp 46) #[.int .i64 n.1, .int .i64 n.2.1, .int .i64 n.2.2.1, .int .i64 n.2.2.2] _ z49 s49 rfl (ints_one [n.1, n.2.1, n.2.2.1, n.2.2.2]) (fun p => (H.put 8 p rfl).ev rfl) (fun p => (H.put 8 p rfl).ev rfl) fun w2 b2 hge hb k2 => ?_; have g2 := Nat.le_trans hall.size hge; have d1_2 : b1 < b2 := Nat.lt_of_lt_of_le k1.lt hge; replace hcl := ClAt.up hcl hb; replace hrs := Row.up hrs hb; replace hrn := Row.up hrn hb; replace k1 := Block.ups k1 hb; replace hall := hall.tr hb; clear hb; clear hge; refine kl H rfl fun a H => ?_
    refine zA (zB (zD ?_))
    refine kR 1 H rfl fun a H => ?_
    refine kV H (r_row (cs := [.int .i64 n.1, .int .i64 n.2.1, .int .i64 n.2.2.1, .int .i64 n.2.2.2]) (H.ev rfl) (block_range k2) (by kernel_rfl) s49 rfl) rfl fun a H => ?_
    refine wl_call _ _ _ (believe_any _ b mi (toldAt c p i) hcl n hokn) (r_call2 cf89 (H.ev rfl) (H.ev rfl)) ?_; rintro e w9 ⟨rfl, ⟨m2, hcl2, hmn2⟩, hon⟩; refine ⟨_, rfl, ?_⟩; replace hrs := Row.onlym hrs (fx hfs) hcl.mp hon; replace hrn := Row.onlym hrn (fx hfn) hcl.mp hon; replace k1 := Block.onlym k1 (by omega) hcl.mp hon; clear k2; have hall2 := Only.comp hall hmn hon; replace hmn := MNext.trans hmn hall.size hmn2; clear hall hon hcl hmn2; have hall := hall2; clear hall2; rw [toldAt_next HT.out HNI.out] at hcl2; refine kl H rfl fun a H => ?_
    refine zA (n_block (zB (zD ?_)))
    refine kV H (r_add (q := ((i + 1 : Nat) : Int)) U3 (H.ev rfl) evc (by omega) (by omega)) rfl fun a H => ?_
    refine kR 1 H rfl fun a H => ?_
    refine zA ?_
    refine zI ⟨⟨i + 1, m2, H.pick [0, 5, 41, 42, 43], by omega, hcl2, hrs, hrn, k1, hmn, hall⟩, ?_⟩
    rw [H.ev (j := 43) rfl, H0.ev (j := 43) rfl]
    simp only [intOf]
    omega
   ·
    obtain rfl : i = T.2.length := by omega
    clear hrn
    rw [toldAt_end HT.out] at hcl
    refine zC (zD ?_)
    refine kV H (r_lt U3 (H.ev rfl) (H.ev rfl) (dec_f (by omega))) rfl fun a H => ?_
    refine zA (zB (zC (zG H rfl (wp_exit (e_then (e_then ?_))))))
    refine e_here ?_
    refine zB (zC ?_)
    have hcok := told_ok hc (own_on hown) hr hk
    have hc7 : T.1.2.length ≤ 7 := by have := hcok.items; rwa [show (toldC c p).items = T.1.2 by rw [← HT.out]; rfl] at this
    have hack := ack_in T.1.1 T.1.2
    refine zD ?_
    refine kV H (r_row (cs := [.int .i64 T.1.1, .slice As T.1.2.length cs]) (H.ev rfl) (block_range k1) (by kernel_rfl) s70 rfl) rfl fun a H => ?_
    refine wl_call _ _ _ (ack_any _ T.1.1 _ T.1.2 hrs (by have := hc7; omega)) (r_call1 cf90 (H.ev rfl)) ?_; rintro e w9 ⟨rfl, hb⟩; refine ⟨_, rfl, ?_⟩; replace hcl := ClAt.up hcl hb; replace hrs := Row.up hrs hb; replace k1 := Block.ups k1 hb; replace hall := hall.tr hb; clear hb; refine kl H rfl fun a H => ?_
    refine kR 5 H rfl fun a H => ?_
    refine zA (zB (zC (zD ?_)))
    refine kR 3 H rfl fun a H => ?_
    refine kV (v := .agg (pv (ackP (ackF T.1.1 T.1.2).1 (ackF T.1.1 T.1.2).2))) H (r_build #[(0, .int .i64 9), (8, .int .i64 (ackF T.1.1 T.1.2).1), (9, .int .i64 (ackF T.1.1 T.1.2).2)] (.agg (pv (ackP (ackF T.1.1 T.1.2).1 (ackF T.1.1 T.1.2).2))) (by simp [evc, H.ev (j := 57) rfl, H.ev (j := 58) rfl]) (fun w => by kernel_rfl)) rfl fun a H => ?_
    refine wl_call _ _ _ (signedC_any _ b mi (toldC c p) (ackP (ackF T.1.1 T.1.2).1 (ackF T.1.1 T.1.2).2) hcl (ackP_ok hack)) (r_call2 cf83 (H.ev rfl) (H.ev rfl)) ?_; rintro e w9 ⟨⟨v, rfl, hou⟩, hb⟩; refine ⟨_, rfl, ?_⟩; replace hou := Outs.base hou hall.size; replace hcl := ClAt.up hcl hb; replace hrs := Row.up hrs hb; replace k1 := Block.ups k1 hb; replace hall := hall.tr hb; clear hb; refine kl H rfl fun a H => ?_
    refine kR 1 H rfl fun a H => ?_
    refine zA (zB (zF ?_))
    exact k_ret1 H rfl rfl ⟨⟨_, rfl, by rw [notO, if_pos hown, show (toldC c p).next = T.1.1 by rw [← HT.out]; rfl, show (toldC c p).items = T.1.2 by rw [← HT.out]; rfl]; exact hou⟩, ⟨mi, by rw [notC, if_pos hown]; exact hcl, hmn⟩, hall⟩
 ·
  refine zD ?_
  refine kR 1 H rfl fun a H => ?_
  refine kV H (run_load_row b0 36 _ _ (H.ev rfl) k0 U36 rfl (s36p hp)) rfl fun a H => ?_
  refine wl_call _ _ _ (own_any _ b m c p vi vo hc k hp) (r_call2 cf87 (H.ev rfl) (H.ev rfl)) ?_; rintro e w9 ⟨rfl, hb⟩; refine ⟨_, rfl, ?_⟩; rw [show ownF c p = false by simpa using hown]; replace k := Block.ups k hb; replace hri := Row.up hri hb; replace hro := Row.up hro hb; replace hmp := MapAt.ups hmp hb; replace k0 := Block.ups k0 hb; replace hall := hall.tr hb; clear hb; refine kl H rfl fun a H => ?_
  refine kV H (r_not (H.ev rfl) rfl) rfl fun a H => ?_
  refine zA (zB (zH H rfl (zC (zD ?_))))
  refine kR 1 H rfl fun a H => ?_
  refine zA (zB (zF (zJ ?_)))
  exact k_ret1 H rfl rfl ⟨⟨_, rfl, by rw [notO, if_neg hown]; exact outs_nil⟩, ⟨m, by rw [notC, if_neg hown]; exact ⟨hc, ⟨_, _, k, ⟨hri, hfi⟩, hro, hfo⟩, hmp, hmb⟩, .inl rfl⟩, hall⟩
section
open Go.Maps
theorem Row.tl {w : World} {b o n c : Nat} {L l : List Nt} {x : Nt} (h : L = x :: l) (hn : L.length = l.length + 1) (hr : ORow w (.slice (some ⟨b, o, none⟩) n c) L) : ORow w (.slice (slAt (some ⟨b, o, none⟩) c 1 4) l.length (c - 1)) l := by
 obtain ⟨A, c', e⟩ := row_shape hr
 injection e with e1 e2 e3
 subst e2 e3
 have := Row.drop encN_len hr (j := 1) (by omega)
 subst h
 simpa using this
theorem Fresh.tl {B b o n n' c : Nat} (h : Fresh B (.slice (some ⟨b, o, none⟩) n c)) : Fresh B (.slice (slAt (some ⟨b, o, none⟩) c 1 4) n' (c - 1)) := fun A k k2 e b' o' ea => by
 injection e with e1
 subst e1
 have := slAt_blk ea
 subst this
 exact h _ _ _ rfl b' o rfl
theorem repC_yes {c : Cl} {p : Pkt} {o : Nt} {l : List Nt} (h : c.os = o :: l) (hn : ownF c p = true ∧ p.fld 2 = c.seq + 1) : repC c p = repC1 c p o l := by
 unfold repC
 split
 ·
  rename_i e
  rw [h] at e
  cases e
 ·
  rename_i e
  rw [h] at e
  injection e with e1 e2
  subst e1 e2
  exact if_pos hn
theorem repC_nil {c : Cl} {p : Pkt} (h : c.os = []) : repC c p = c := by
 unfold repC
 split
 · rfl
 ·
  rename_i e
  rw [h] at e
  cases e
theorem repC_no {c : Cl} {p : Pkt} (h : ¬ ownF c p = true ∨ p.fld 2 ≠ c.seq + 1) : repC c p = c := by
 unfold repC
 split
 · rfl
 · exact if_neg (fun e => by rcases h with h | h; exact h e.1; exact h e.2)
theorem decP_ok (bs : List B8) : (decP bs).ok := by
 unfold decP
 split
 · exact decX_ok bs
 · exact pk0_ok
theorem MNext.lift {w w1 : World} {m m' : Option Nat} (h : MNext w1 m m') (hs : w.heap.size ≤ w1.heap.size) : MNext w m m' := by
 rcases h with h | h | ⟨q, h, hq⟩
 · exact .inl h
 · exact .inr (.inl h)
 · exact .inr (.inr ⟨q, h, by omega⟩)
/-- a client's method for a kind -/
def fnF (b : Nat) (k : Int) : Value := if k = 2 then .func (.func 52) #[.pointer (some ⟨b, 0, none⟩)] #[] else if k = 4 then .func (.func 53) #[.pointer (some ⟨b, 0, none⟩)] #[] else if k = 12 then .func (.func 54) #[.pointer (some ⟨b, 0, none⟩)] #[] else if k = 8 then .func (.func 55) #[.pointer (some ⟨b, 0, none⟩)] #[] else if k = 11 then .func (.func 56) #[.pointer (some ⟨b, 0, none⟩)] #[] else .nilFunc
theorem fn_none {b : Nat} {k : Int} (h2 : k ≠ 2) (h4 : k ≠ 4) (h12 : k ≠ 12) (h8 : k ≠ 8) (h11 : k ≠ 11) : fnF b k = .nilFunc := by
 unfold fnF
 rw [if_neg h2, if_neg h4, if_neg h12, if_neg h8, if_neg h11]
/-- block q is a map from ints to functions -/
def FMap (w : World) (q n : Nat) (f : Int → Option Value) : Prop := ∃ D : DataW Value, IsMap D ∧ w.ownsMap Tryz.prog 3 RV q n D ∧ ∀ x : Int, (Lit.int .i64 x).wf = true → D.atKey (.int .i64 x) .nil = (match f x with | none => .nil | some v => .held v)
theorem FMap.put {w : World} {q n : Nat} {f : Int → Option Value} (h : FMap w q n f) (x : Int) (v : Value) (hx : (Lit.int .i64 x).wf = true) (hn : n < 100) :
  ∃ w', (Instr.mapUpdate 81 (.map (some q)) (.int .i64 x) v).run Tryz.prog w = .ok () w' ∧ FMap w' q (n + 1) (fun u => if u = x then some v else f u) ∧ w.grownBy w' (some q) := by
 obtain ⟨D, hD, ho, hat⟩ := h
 have hkey := keyOf_int_mk U3 hx
 obtain ⟨w', hrun, ho', hg⟩ := ho.update (d := .held v) (ps := []) intKeyed U81 (by unfold maxLen; omega) hkey rfl
 refine ⟨w', hrun, ⟨_, hD.put _ _, ho', fun u hu => ?_⟩, hg⟩
 by_cases e : u = x
 ·
  subst e
  rw [atKey_put_same hD (intKeyed.key hkey)]
  simp
 ·
  have hne : Lit.int .i64 u ≠ Lit.int .i64 x := fun e2 => e (by injection e2)
  rw [atKey_put_other hne, hat u hu]
  simp [e]
theorem FMap.made (w : World) : FMap (w.alloc (.map #[] 0)) w.heap.size 0 (fun _ => none) := ⟨.map [], isMap_empty, World.ownsMap_made _ _ _ _, fun x _ => by simp [DataW.atKey]⟩
theorem zero80 (w : World) : (zeroValue 80).run Tryz.prog w = .ok .nilFunc w := by kernel_rfl
theorem FMap.look {w : World} {q n : Nat} {f : Int → Option Value} (h : FMap w q n f) (x : Int) (hx : (Lit.int .i64 x).wf = true) : (Instr.lookup 81 (.map (some q)) (.int .i64 x) false).run Tryz.prog w = .ok ((f x).getD .nilFunc) w := by
 obtain ⟨D, _, ⟨es, clock, hb, F, _, hD⟩, hat⟩ := h
 have h1 := hat x hx
 rw [hD] at h1
 rcases Maps.fit_look false intKeyed U81 (zero80 w) hb F (keyOf_int_mk U3 hx) with ⟨hrun, _, hz⟩ | ⟨e0, y, _, _, hrun, hRv, hz, _⟩
 ·
  rw [hz] at h1
  cases hv : f x with
  | none => rw [hrun]; rfl
  | some y => rw [hv] at h1; cases h1
 ·
  rw [hz] at h1
  have e1 : y = (.held e0.val, []) := (Option.some.inj hRv).symm
  subst e1
  cases hv : f x with
  | none => rw [hv] at h1; cases h1
  | some y =>
   rw [hv] at h1
   have h6 : e0.val = y := DataW.held.inj h1
   rw [hrun, h6]
   rfl
section
variable {ops : Array Oper} {rest : List Oper} {d : Option Tmp} {tt : TypeId} {ps : String} {af : Array Edge} {gd : Option (Nat × Bool)} {a : Act} {w : World} {Q : Exit → Act → World → Prop} {x y z : Operand}
theorem op_mkfm (h : ∀ w' q, w.heap.size ≤ q → Below w.heap.size w w' → FMap w' q 0 (fun _ => none) → wpList Tryz.prog ops Q rest (a.put d (.map (some q))) w') : wpList Tryz.prog ops Q (⟨d, .makeMap 81 none, tt, ps, af, none⟩ :: rest) a w :=
 wpList_plain rfl fun _ hK => by
  unfold Oper.wp execOp
  simp only [Option.map_none, run_makeMap, Sem.run_bind, Sem.run_pure, Result.andThen_ok]
  exact hK _ _ (h _ w.heap.size (Nat.le_refl _) ((Below.refl _ _).alloc (Nat.le_refl _) _) (FMap.made w))
theorem wl_k {P : Program} {op : Op} (w' : World) (hv : (execOp a.eval ⟨d, op, tt, ps, af, none⟩).run P w = .ok .skip w') (h : wpList P ops Q rest (a.put d undef) w') : wpList P ops Q (⟨d, op, tt, ps, af, none⟩ :: rest) a w :=
 wpList_plain rfl fun _ hK => by
  unfold Oper.wp
  rw [hv]
  exact hK _ _ h
theorem r_insert {w' : World} {q : Nat} {u : Int} {v : Value} (hrun : (Instr.mapUpdate 81 (.map (some q)) (.int .i64 u) v).run Tryz.prog w = .ok () w') (hx : a.eval x = .map (some q)) (hy : a.eval y = .int .i64 u) (hz : a.eval z = v) :
  (execOp a.eval ⟨d, .insert 81 x y z, tt, ps, af, gd⟩).run Tryz.prog w = .ok .skip w' := by
 unfold execOp
 simp only [hx, hy, hz, hrun, Sem.run_bind, Sem.run_pure, Result.andThen_ok]
theorem r_mkfnb {P : Program} {fn : Fn} {v : Value} (hx : a.eval x = v) : (execOp a.eval ⟨d, .makeFunc fn #[x] #[], tt, ps, af, gd⟩).run P w = .ok (.value (.func fn #[v] #[])) w := by
 subst hx
 have hmf : ∀ fn first cap w, (Instr.makeFunc fn first cap).run P w = .ok (.func fn first cap) w := fun _ _ _ _ => rfl
 unfold execOp
 simp [hmf, Sem.run_bind, Sem.run_pure, Result.andThen_ok]
theorem r_callm {P : Program} {f : FuncId} {u v : Value} (hf : entF P f) {g : Operand} {ats : Array TypeId} (hg : a.eval g = .func (.func f) #[u] #[]) (hx : a.eval x = v) :
  (execOp a.eval ⟨d, .call { callee := .value g, args := #[x], argTypes := ats }, tt, ps, af, gd⟩).run P w = .ok (.enter f #[u, v]) w := by
 unfold execOp
 simp [resolve, invoke, hx, hg, Deferred.ofValue, hf _ w]
theorem r_lookf {q b : Nat} {u : Int} {fv : Value} (h : FMap w q 5 (fun u => if u = 11 then some (.func (.func 56) #[.pointer (some ⟨b, 0, none⟩)] #[]) else if u = 8 then some (.func (.func 55) #[.pointer (some ⟨b, 0, none⟩)] #[]) else if u = 12 then some (.func (.func 54) #[.pointer (some ⟨b, 0, none⟩)] #[]) else if u = 4 then some (.func (.func 53) #[.pointer (some ⟨b, 0, none⟩)] #[]) else if u = 2 then some (.func (.func 52) #[.pointer (some ⟨b, 0, none⟩)] #[]) else none))
  (hu : (Lit.int .i64 u).wf = true) (hx : a.eval x = .map (some q)) (hy : a.eval y = .int .i64 u) (hfv : fnF b u = fv) :
  (execOp a.eval ⟨d, .lookup 81 x y false, tt, ps, af, gd⟩).run Tryz.prog w = .ok (.value fv) w := by
 have h1 := h.look u hu
 have h2 : (if u = 11 then some (Value.func (.func 56) #[.pointer (some ⟨b, 0, none⟩)] #[]) else if u = 8 then some (.func (.func 55) #[.pointer (some ⟨b, 0, none⟩)] #[]) else if u = 12 then some (.func (.func 54) #[.pointer (some ⟨b, 0, none⟩)] #[]) else if u = 4 then some (.func (.func 53) #[.pointer (some ⟨b, 0, none⟩)] #[]) else if u = 2 then some (.func (.func 52) #[.pointer (some ⟨b, 0, none⟩)] #[]) else none).getD .nilFunc = fv := by
  rw [← hfv]
  unfold fnF
  by_cases h2 : u = 2
  · subst h2; rfl
  by_cases h4 : u = 4
  · subst h4; rfl
  by_cases h12 : u = 12
  · subst h12; rfl
  by_cases h8 : u = 8
  · subst h8; rfl
  by_cases h11 : u = 11
  · subst h11; rfl
  simp [*]
 rw [h2] at h1
 unfold execOp
 simp only [hx, hy, h1, Sem.run_bind, Sem.run_pure, Result.andThen_ok]
theorem eqf_nil (w : World) (d : Nat) {f : Fn} (u : Array Value) : (Op.equalIn (d + 1) 80 (.func f u #[]) .nilFunc).run Tryz.prog w = .ok false w := by
 simp [Op.equalIn, run_underlying U80]
theorem eqf_nil0 (w : World) (d : Nat) : (Op.equalIn (d + 1) 80 .nilFunc .nilFunc).run Tryz.prog w = .ok true w := by
 simp [Op.equalIn, run_underlying U80]
theorem r_fnnil {f : Nat} {u : Value} {t2 : TypeId} (hx : a.eval x = .func (.func f) #[u] #[]) : (execOp a.eval ⟨d, .binOp .eql 80 x (.const .nilFunc) t2, tt, ps, af, gd⟩).run Tryz.prog w = .ok (.value (.bool false)) w := by
 have e : a.eval (.const .nilFunc) = .nilFunc := rfl
 unfold execOp
 simp only [hx, e]
 have h0 : (Op.equalIn (9999 + 1) 80 (.func (.func f) #[u] #[]) .nilFunc).run Tryz.prog w = .ok false w := eqf_nil w 9999 _
 have h1 : (binOp .eql 80 (.func (.func f) #[u] #[]) .nilFunc).run Tryz.prog w = .ok (.bool false) w := by
  simp only [binOp]
  simp [Op.equal, Op.maxDepth, h0]
 go_simp
theorem r_fnnil0 {t2 : TypeId} (hx : a.eval x = .nilFunc) : (execOp a.eval ⟨d, .binOp .eql 80 x (.const .nilFunc) t2, tt, ps, af, gd⟩).run Tryz.prog w = .ok (.value (.bool true)) w := by
 have e : a.eval (.const .nilFunc) = .nilFunc := rfl
 unfold execOp
 simp only [hx, e]
 have h0 : (Op.equalIn (9999 + 1) 80 .nilFunc .nilFunc).run Tryz.prog w = .ok true w := eqf_nil0 w 9999
 have h1 : (binOp .eql 80 .nilFunc .nilFunc).run Tryz.prog w = .ok (.bool true) w := by
  simp only [binOp]
  simp [Op.equal, Op.maxDepth, h0]
 go_simp
end
theorem ClAt.offm [Lim] {w w' : World} {b q n k : Nat} {m : Option Nat} {c : Cl} {f : Int → Option Value} (h : ClAt w b m c) (hf : FMap w q k f) (hg : w.grownBy w' (some q)) (hb : b < q) (hm : ∀ p, m = some p → p < n) (hn : n ≤ q) : ClAt w' b m c := by
 obtain ⟨hc, ⟨vi, vo, k, ⟨hri, hfi⟩, hro, hfo⟩, hmp, hmb⟩ := h
 obtain ⟨_, _, ⟨es, cl, hq, _⟩, _⟩ := hf
 have key : ∀ (g o : Nat) (v : Value), w.cell? ⟨g, o, none⟩ = some v → w'.cell? ⟨g, o, none⟩ = some v := fun g o v hs => by
  have hlt := World.block_lt_of_cell? w _ hs
  have hne : g ≠ q := fun e2 => by
   subst e2
   unfold World.cell? at hs
   rw [hq] at hs
   cases hs
  rw [← hs]
  unfold World.cell?
  rw [hg.block g hlt (by simpa using hne)]
 have row : ∀ {α : Type} {enc : α → List Int} {v : Value} {L : List α}, Row enc w v L → Row enc w' v L := fun h => by
  obtain ⟨A, c, e, h1, h2, h3, hh⟩ := h
  refine ⟨A, c, e, h1, h2, h3, fun j hj => ?_⟩
  obtain ⟨g, o, e, hc⟩ := hh j hj
  refine ⟨g, o, e, ?_⟩
  rw [List.getElem?_eq_getElem hj] at hc ⊢
  exact key g (o + j) _ hc
 exact ⟨hc, ⟨vi, vo, k.grown hg (by simp; omega), ⟨row hri, hfi⟩, row hro, hfo⟩, hmp.kept hg (by
  cases m with
  | none => exact .inl rfl
  | some p => have := hm p rfl; exact .inr (by simp; omega)), hmb⟩
set_option maxRecDepth 100000 in
set_option maxHeartbeats 4000000 in
theorem replied_any [Lim] (w : World) (b : Nat) (m : Option Nat) (c : Cl) (h : ClAt w b m c)(p : Pkt) (hp : p.ok) (hr : rightF p = true) (hk : p.fld 0 = 11) : Calls Tryz.prog 56 #[.pointer (some ⟨b, 0, none⟩), .agg (pv p)] w fun e w' => (∃ v, e = .returned v ∧ Outs w' w.heap.size v []) ∧ ClAt w' b m (repC c p) ∧ Only b m w w' := by
 obtain ⟨hc, ⟨vi, vo, k, ⟨hri, hfi⟩, hro, hfo⟩, hmp, hmb⟩ := h
 have hc1 := hc.ck
 have hc2 := hc.key
 have hcn := hc.now
 have hcs := hc.seq
 have hcb := hc.beats
 have hco := hc.nonce
 have hall := Only.refl b m w
 obtain ⟨Ao, co, hvo⟩ := row_shape hro
 subst hvo
 refine K_enter 81 Tryz.func56 rfl rfl fun a H => ?_
 replace H := H.pick [0, 1]
 refine zC (zD ?_)
 refine op_box 36 (.tmp 1) (pv p) (H.ev rfl) fun w0 b0 hge hb k0 => ?_; have g0 := Nat.le_trans hall.size hge; have db0 : b < b0 := Nat.lt_of_lt_of_le k.lt hge; replace k := Block.ups k hb; replace hri := Row.up hri hb; replace hro := Row.up hro hb; replace hmp := MapAt.ups hmp hb; replace hall := hall.tr hb; clear hb; clear hge; refine kl H rfl fun a H => ?_
 refine kR 1 H rfl fun a H => ?_
 refine zA (zB (zC (zD ?_)))
 refine kR 4 H rfl fun a H => ?_
 refine zA (zB (zC (zC ?_)))
 by_cases hown : ownF c p = true
 ·
  by_cases hL : c.os.length = 0
  ·
   have hall2 := hall
   have hS : BelowOf (OnlyTo hall2) _ := Below.drew (Below.refl _ (OnlyTo hall2))
   refine region_tree (BelowOf (OnlyTo hall2)) 22 (.fl 0 (.fl 1 (.one 2 (.fl 3 (.fl 4 (.fl 5 (.fl 6 (.fl 7 (.fl 8 (.fl 9 (.fl 10 (.fl 11 (.fl 12 (.fl 13 (.fl 14 (.fl 15 (.fl 16 (.fl 17 (.fl 18 (.fl 19 (.fl 20 (.fl 21 .done)))))))))))))))))))))) (by kernel_rfl) (by kernel_rfl) rfl (by kernel_rfl) hS ?_
   refine kQ 1 H rfl fun a H => ?_
   refine kF H rfl rfl (fun w' hS' => run_load_row b0 36 _ _ (H.ev rfl) (Block.ups k0 hS') U36 rfl (s36p hp)) rfl fun a H => ?_
   refine pt_one (fun K hK => ?_)
   refine st_a0 rfl ?_; refine wpo_call _ _ _ (own_any _ b m c p vi _ hc (Block.ups k hS) hp) (r_call2 cf87 (H.ev rfl) (H.ev rfl)) ?_; rintro e w9 ⟨rfl, hb⟩; refine ⟨_, rfl, ?_⟩; rw [hown]; replace hS := Below.trans hS (Below.mono hb (Below.size hS)); clear hb; refine hK _ _ ⟨(fun _ => hS), ?_⟩; clear hK; clear K; refine kt H rfl fun a H => ?_
   refine kF H rfl rfl (fun w' hS' => r_not (H.ev rfl) rfl) rfl fun a H => ?_
   refine kQ 4 H rfl fun a H => ?_
   refine kF H rfl rfl (fun w' hS' => r_ld U73 rfl (H.ev rfl) ((show _ = some (.slice Ao c.os.length co : Value) from cl_os (c := c) hc1 hc2 (Block.ups k hS')))) rfl fun a H => ?_
   refine kF H rfl rfl (fun w' hS' => r_len U73 (H.ev rfl)) rfl fun a H => ?_
   refine kF H rfl rfl (fun w' hS' => r_eq U3 (H.ev rfl) evc (dec_t (by omega))) rfl fun a H => ?_
   refine kQ 11 H rfl fun a H => ?_
   refine pt_done (NoPanic.normal ?_)
   replace k := Block.ups k hS
   replace hri := Row.up hri hS
   replace hro := Row.up hro hS
   replace hmp := MapAt.ups hmp hS
   replace k0 := Block.ups k0 hS
   replace hall := hall.trans (Below.mono hS hall.size)
   clear hS
   refine zB (zH H rfl (zC (zD ?_)))
   refine kR 1 H rfl fun a H => ?_
   refine zA (zB (zF (zJ ?_)))
   have e : repC c p = c := repC_nil (List.eq_nil_of_length_eq_zero hL)
   rw [e]
   exact k_ret1 H rfl rfl ⟨⟨_, rfl, outs_nil⟩, ⟨hc, ⟨_, _, k, ⟨hri, hfi⟩, hro, hfo⟩, hmp, hmb⟩, hall⟩
  ·
   obtain ⟨o, l, hos⟩ : ∃ o l, c.os = o :: l := by
    cases he : c.os with
    | nil => exact absurd (by rw [he]; rfl) hL
    | cons o l => exact ⟨o, l, rfl⟩
   have HOS := Lib.hid hos
   have hll : c.os.length = l.length + 1 := by rw [hos]; rfl
   clear hos
   have hall2 := hall
   have hS : BelowOf (OnlyTo hall2) _ := Below.drew (Below.refl _ (OnlyTo hall2))
   refine region_tree (BelowOf (OnlyTo hall2)) 22 (.fl 0 (.fl 1 (.one 2 (.fl 3 (.fl 4 (.fl 5 (.fl 6 (.fl 7 (.fl 8 (.fl 9 (.fl 10 (.fl 11 (.fl 12 (.fl 13 (.fl 14 (.fl 15 (.fl 16 (.fl 17 (.fl 18 (.fl 19 (.fl 20 (.fl 21 .done)))))))))))))))))))))) (by kernel_rfl) (by kernel_rfl) rfl (by kernel_rfl) hS ?_
   refine kQ 1 H rfl fun a H => ?_
   refine kF H rfl rfl (fun w' hS' => run_load_row b0 36 _ _ (H.ev rfl) (Block.ups k0 hS') U36 rfl (s36p hp)) rfl fun a H => ?_
   refine pt_one (fun K hK => ?_)
   refine st_a0 rfl ?_; refine wpo_call _ _ _ (own_any _ b m c p vi _ hc (Block.ups k hS) hp) (r_call2 cf87 (H.ev rfl) (H.ev rfl)) ?_; rintro e w9 ⟨rfl, hb⟩; refine ⟨_, rfl, ?_⟩; rw [hown]; replace hS := Below.trans hS (Below.mono hb (Below.size hS)); clear hb; refine hK _ _ ⟨(fun _ => hS), ?_⟩; clear hK; clear K; refine kt H rfl fun a H => ?_
   refine kF H rfl rfl (fun w' hS' => r_not (H.ev rfl) rfl) rfl fun a H => ?_
   refine kQ 4 H rfl fun a H => ?_
   refine kF H rfl rfl (fun w' hS' => r_ld U73 rfl (H.ev rfl) ((show _ = some (.slice Ao c.os.length co : Value) from cl_os (c := c) hc1 hc2 (Block.ups k hS')))) rfl fun a H => ?_
   refine kF H rfl rfl (fun w' hS' => r_len U73 (H.ev rfl)) rfl fun a H => ?_
   refine kF H rfl rfl (fun w' hS' => r_eq U3 (H.ev rfl) evc (dec_f (by omega))) rfl fun a H => ?_
   refine kQ 3 H rfl fun a H => ?_
   refine kF H rfl rfl (fun w' hS' => r_ld U3 rfl (H.ev rfl) (pv_cell (Block.ups k0 hS') (fld_at hp (j := 2) (by omega)))) rfl fun a H => ?_
   refine kQ 2 H rfl fun a H => ?_
   refine kF H rfl rfl (fun w' hS' => r_fld (q := 22 + 18) fld72_3 (H.ev rfl) rfl) rfl fun a H => ?_
   refine kF H rfl rfl (fun w' hS' => r_ld U3 rfl (H.ev rfl) ((show _ = some (Value.int .i64 (c.seq)) from cl_seq (c := c) hc1 hc2 (Block.ups k hS')))) rfl fun a H => ?_
   refine kF H rfl rfl (fun w' hS' => r_add (q := (c.seq) + 1) U3 (H.ev rfl) evc (by omega) (by omega)) rfl fun a H => ?_
   by_cases hcc0 : (p.fld 2) ≠ ((c.seq) + 1)
   ·
    refine kF H rfl rfl (fun w' hS' => r_ne U3 (H.ev rfl) (H.ev rfl) (dec_t (hcc0))) rfl fun a H => ?_
    refine kQ 1 H rfl fun a H => ?_
    refine pt_done (NoPanic.normal ?_)
    replace k := Block.ups k hS
    replace hri := Row.up hri hS
    replace hro := Row.up hro hS
    replace hmp := MapAt.ups hmp hS
    replace k0 := Block.ups k0 hS
    replace hall := hall.trans (Below.mono hS hall.size)
    clear hS
    refine zB (zH H rfl (zC (zD ?_)))
    refine kR 1 H rfl fun a H => ?_
    refine zA (zB (zF (zJ ?_)))
    have e : repC c p = c := repC_no (.inr (by omega))
    rw [e]
    exact k_ret1 H rfl rfl ⟨⟨_, rfl, outs_nil⟩, ⟨hc, ⟨_, _, k, ⟨hri, hfi⟩, hro, hfo⟩, hmp, hmb⟩, hall⟩
   ·
    refine kF H rfl rfl (fun w' hS' => r_ne U3 (H.ev rfl) (H.ev rfl) (dec_f (hcc0))) rfl fun a H => ?_
    refine kQ 1 H rfl fun a H => ?_
    refine pt_done (NoPanic.normal ?_)
    replace k := Block.ups k hS
    replace hri := Row.up hri hS
    replace hro := Row.up hro hS
    replace hmp := MapAt.ups hmp hS
    replace k0 := Block.ups k0 hS
    replace hall := hall.trans (Below.mono hS hall.size)
    clear hS
    refine zB (zG H rfl (zE (zB (zC ?_))))
    obtain ⟨bo, oo, hA, hrg⟩ := flat_some encN_len (row_holds hro) (by omega) (j := 0) (by omega)
    subst hA
    have hbo := (fx hfo) _ _ _ rfl bo oo rfl
    have hsl := hro.slice_le
    rw [show c.os[0] = o by simp [HOS.out]] at hrg
    refine zD ?_
    refine kR 3 H rfl fun a H => ?_
    refine kV H (r_ld U73 rfl (H.ev rfl) ((show _ = some (.slice (some ⟨bo, oo, none⟩) c.os.length co : Value) from cl_os (c := c) hc1 hc2 k))) rfl fun a H => ?_
    refine kV (v := .pointer (some ⟨bo, oo + 0 * 4, none⟩)) H (r_idx (j := 0) (q := oo + 0 * 4) U73 s32 (H.ev rfl) evc (by omega) rfl) rfl fun a H => ?_
    refine kV H (r_fld (q := oo + 0 * 4) fld32_0 (H.ev rfl) rfl) rfl fun a H => ?_
    refine kV H (r_ld U3 rfl (H.ev rfl) (range_cell hrg 0 rfl)) rfl fun a H => ?_
    by_cases hcc1 : o.1 = 10
    ·
     refine kV H (r_eq U3 (H.ev rfl) evc (dec_t (hcc1))) rfl fun a H => ?_
     refine kR 1 H rfl fun a H => ?_
     refine zA (zB (zC (zD ?_)))
     refine kR 4 H rfl fun a H => ?_
     refine kV H (r_ld U73 rfl (H.ev rfl) ((show _ = some (.slice (some ⟨bo, oo, none⟩) c.os.length co : Value) from cl_os (c := c) hc1 hc2 k))) rfl fun a H => ?_
     refine kV (v := .slice (slAt (some ⟨bo, oo, none⟩) co 1 4) l.length (co - 1)) H (run_op_slice U73 (.slice (some ⟨bo, oo, none⟩) c.os.length co) (some (.int .i64 (1 : Nat))) none none (H.ev rfl) rfl rfl rfl (slice_any 1 c.os.length U73 s32 _ _ (.inr rfl) (.inl ⟨rfl, rfl⟩) (by omega) (by omega) rfl (by omega) rfl)) rfl fun a H => ?_
     refine kR 2 H rfl fun a H => ?_
     refine op_store1 73 (.tmp 47) (.tmp 45) b 45 76 (.slice (slAt (some ⟨bo, oo, none⟩) co 1 4) l.length (co - 1)) _ (H.ev rfl) (H.ev rfl) k s73 (by rw [clA_size (c := c) hc1 hc2]; show 45 + 1 ≤ 48; omega) (by simp [Value.cells, Value.oneCell']) fun w' hb ho kq => ?_; clear k; rw [st_os (c := c) hc1 hc2] at kq; have k : Block _ b 76 (clA c vi (.slice (slAt (some ⟨bo, oo, none⟩) co 1 4) l.length (co - 1)) m) := kq; replace hri := Row.store hri (fx hfi) ho; have hro2 : ORow _ (.slice (slAt (some ⟨bo, oo, none⟩) co 1 4) l.length (co - 1)) l := (Row.tl HOS.out hll hro).store (Fresh.tl (fx hfo)) ho; clear hro; have hro := hro2; clear hro2; have hfo2 : Fresh (Lim.lim b) (.slice (slAt (some ⟨bo, oo, none⟩) co 1 4) l.length (co - 1)) := Fresh.tl hfo; clear hfo; have hfo := hfo2; clear hfo2; replace hmp := MapAt.store hmp hmb (hb b (Nat.le_refl _)) ho; replace k0 := block_same k0 (ho _ (by omega)); replace hall := hall.store (hb b (Nat.le_refl _)) ho; clear hb ho kq; refine kl0 H fun a H => ?_
     refine zA (zB (zC ?_))
     clear hrg
     have hall6 := hall
     have hS : GrownC b (OnlyTo hall6) _ := grownC_drew _ _
     refine region_tree (GrownC b (OnlyTo hall6)) 20 (.fl 0 (.fl 1 (.fl 2 (.fl 3 (.fl 4 (.fl 5 (.fl 6 (.fl 7 (.fl 8 (.fl 9 (.fl 10 (.fl 11 (.fl 12 (.one 13 (.fl 14 (.fl 15 (.one 16 (.fl 17 (.fl 18 (.one 19 .done)))))))))))))))))))) (by kernel_rfl) (by kernel_rfl) rfl (by kernel_rfl) hS ?_
     have hnz := cl_now (c := c) hc1 hc2 k
     have k0z := k0
     replace k := Block.ups k (Below.drew (Below.refl _ _))
     replace hri := Row.up hri (Below.drew (Below.refl _ _))
     replace hro := Row.up hro (Below.drew (Below.refl _ _))
     replace hmp := MapAt.ups hmp (Below.drew (Below.refl _ _))
     replace k0 := Block.ups k0 (Below.drew (Below.refl _ _))
     replace hall := hall.trans (Below.drew (Below.refl _ _))
     refine kQ 4 H rfl fun a H => ?_
     refine kF H rfl rfl (fun w' hS' => r_ld U3 rfl (H.ev rfl) (pv_cell (Block.grown k0z hS'.1 (by simp; omega)) (fld_at hp (j := 2) (by omega)))) rfl fun a H => ?_
     refine kQ 3 H rfl fun a H => ?_
     refine kF H rfl rfl (fun w' hS' => r_ld U3 rfl (H.ev rfl) (((hS'.2.trans hnz : _ = some (Value.int .i64 (c.now)))))) rfl fun a H => ?_
     refine kQ 1 H rfl fun a H => ?_
     refine kF H rfl rfl (fun w' hS' => r_ld U3 rfl (H.ev rfl) (pv_cell (Block.grown k0z hS'.1 (by simp; omega)) (fld_at hp (j := 4) (by omega)))) rfl fun a H => ?_
     refine kQ 1 H rfl fun a H => ?_
     refine kF H rfl rfl (fun w' hS' => r_fld (q := 22 + 18) fld72_3 (H.ev rfl) rfl) rfl fun a H => ?_
     refine pt_one (fun K hK => ?_)
     refine st_a0 rfl ?_; have hno := cl_now (c := c) hc1 hc2 k; refine wpo_store1 3 (.tmp 60) (.tmp 52) b 40 76 (.int .i64 (p.fld 2)) _ (H.ev rfl) (H.ev rfl) k s3 (by rw [clA_size (c := c) hc1 hc2]; show 40 + 1 ≤ 48; omega) (by simp [Value.cells, Value.oneCell']) fun w' hb ho kq => ?_; clear k; rw [st_seq (c := c) hc1 hc2] at kq; have k : Block _ b 76 (clA { c with seq := (p.fld 2) } vi (.slice (slAt (some ⟨bo, oo, none⟩) co 1 4) l.length (co - 1)) m) := kq; replace hri := Row.store hri (fx hfi) ho; replace hro := Row.store hro (fx hfo) ho; replace hmp := MapAt.store hmp hmb (hb b (Nat.le_refl _)) ho; replace k0 := block_same k0 (ho _ (by omega)); replace hall := hall.store (hb b (Nat.le_refl _)) ho; replace hS := GrownC.store hS (hb b (Nat.le_refl _)) ho ((cl_now (c := { c with seq := (p.fld 2) }) hc1 hc2 k).trans hno.symm); clear hno; clear hb ho kq; refine hK _ _ ⟨(fun _ => hS), ?_⟩; clear hK; clear K; skip
     refine kQ 1 H rfl fun a H => ?_
     refine kF H rfl rfl (fun w' hS' => r_fld (q := 22 + 20) fld72_5 (H.ev rfl) rfl) rfl fun a H => ?_
     refine pt_one (fun K hK => ?_)
     refine st_a0 rfl ?_; have hno := cl_now (c := { c with seq := (p.fld 2) }) hc1 hc2 k; refine wpo_store1 3 (.tmp 62) (.tmp 56) b 42 76 (.int .i64 (c.now)) _ (H.ev rfl) (H.ev rfl) k s3 (by rw [clA_size (c := { c with seq := (p.fld 2) }) hc1 hc2]; show 42 + 1 ≤ 48; omega) (by simp [Value.cells, Value.oneCell']) fun w' hb ho kq => ?_; clear k; rw [st_say (c := { c with seq := (p.fld 2) }) hc1 hc2] at kq; have k : Block _ b 76 (clA { c with seq := (p.fld 2), say := (c.now) } vi (.slice (slAt (some ⟨bo, oo, none⟩) co 1 4) l.length (co - 1)) m) := kq; replace hri := Row.store hri (fx hfi) ho; replace hro := Row.store hro (fx hfo) ho; replace hmp := MapAt.store hmp hmb (hb b (Nat.le_refl _)) ho; replace k0 := block_same k0 (ho _ (by omega)); replace hall := hall.store (hb b (Nat.le_refl _)) ho; replace hS := GrownC.store hS (hb b (Nat.le_refl _)) ho ((cl_now (c := { c with seq := (p.fld 2), say := (c.now) }) hc1 hc2 k).trans hno.symm); clear hno; clear hb ho kq; refine hK _ _ ⟨(fun _ => hS), ?_⟩; clear hK; clear K; skip
     refine kQ 2 H rfl fun a H => ?_
     refine pt_one (fun K hK => ?_)
     refine st_a0 rfl ?_; have hno := cl_now (c := { c with seq := (p.fld 2), say := (c.now) }) hc1 hc2 k; refine wpo_store1 46 (.tmp 64) (.tmp 58) b 47 76 (.int .i64 (p.fld 4)) _ (H.ev rfl) (H.ev rfl) k s46 (by rw [clA_size (c := { c with seq := (p.fld 2), say := (c.now) }) hc1 hc2]; show 47 + 1 ≤ 48; omega) (by simp [Value.cells, Value.oneCell']) fun w' hb ho kq => ?_; clear k; rw [st_code (c := { c with seq := (p.fld 2), say := (c.now) }) hc1 hc2] at kq; have k : Block _ b 76 (clA { c with seq := (p.fld 2), say := (c.now), code := (p.fld 4) } vi (.slice (slAt (some ⟨bo, oo, none⟩) co 1 4) l.length (co - 1)) m) := kq; replace hri := Row.store hri (fx hfi) ho; replace hro := Row.store hro (fx hfo) ho; replace hmp := MapAt.store hmp hmb (hb b (Nat.le_refl _)) ho; replace k0 := block_same k0 (ho _ (by omega)); replace hall := hall.store (hb b (Nat.le_refl _)) ho; replace hS := GrownC.store hS (hb b (Nat.le_refl _)) ho ((cl_now (c := { c with seq := (p.fld 2), say := (c.now), code := (p.fld 4) }) hc1 hc2 k).trans hno.symm); clear hno; clear hb ho kq; refine hK _ _ ⟨(fun _ => hS), ?_⟩; clear hK; clear K; skip
     refine pt_done (NoPanic.normal ?_)
     clear hS hnz k0z
     refine zB (zC (zC (zD ?_)))
     refine kR 1 H rfl fun a H => ?_
     refine zA (zB (zH H rfl ?_))
     have hall8 := hall
     have hS : BelowOf (OnlyTo hall8) _ := Below.drew (Below.refl _ (OnlyTo hall8))
     refine region_tree (BelowOf (OnlyTo hall8)) 15 (.fl 0 (.fl 1 (.fl 2 (.fl 3 (.fl 4 (.fl 5 (.fl 6 (.fl 7 (.fl 8 (.fl 9 (.fl 10 (.fl 11 (.fl 12 (.fl 13 (.fl 14 (.one 15 .done)))))))))))))))) (by kernel_rfl) (by kernel_rfl) rfl (by kernel_rfl) hS ?_
     refine kQ 4 H rfl fun a H => ?_
     refine kF H rfl rfl (fun w' hS' => r_ld U3 rfl (H.ev rfl) ((show _ = some (Value.int .i64 (c.user)) from cl_user (c := { c with seq := (p.fld 2), say := (c.now), code := (p.fld 4) }) hc1 hc2 (Block.ups k hS')))) rfl fun a H => ?_
     refine kQ 3 H rfl fun a H => ?_
     refine kF H rfl rfl (fun w' hS' => r_ld U74 rfl (H.ev rfl) ((show _ = some (Value.map m) from cl_views (c := { c with seq := (p.fld 2), say := (c.now), code := (p.fld 4) }) hc1 hc2 (Block.ups k hS')))) rfl fun a H => ?_
     refine kQ 3 H rfl fun a H => ?_
     refine kF H rfl rfl (fun w' hS' => r_ld U46 rfl (H.ev rfl) ((show _ = some (Value.int .i64 ((p.fld 4))) from cl_code (c := { c with seq := (p.fld 2), say := (c.now), code := (p.fld 4) }) hc1 hc2 (Block.ups k hS')))) rfl fun a H => ?_
     refine kF (v := .agg (clA { clZ c.user with vw := c.vw, code := p.fld 4 } (.slice none 0 0) (.slice none 0 0) m)) H rfl rfl (fun w' hS' => r_build #[(0, .int .i64 (c.user)), (9, .map m), (10, .int .i64 (p.fld 4))] (.agg (clA { clZ c.user with vw := c.vw, code := p.fld 4 } (.slice none 0 0) (.slice none 0 0) m)) (by simp [H.ev (j := 70) rfl, H.ev (j := 74) rfl, H.ev (j := 78) rfl]) (fun w => by kernel_rfl)) rfl fun a H => ?_
     refine kQ 1 H rfl fun a H => ?_
     refine pt_one (fun K hK => ?_)
     replace k := Block.ups k hS
     replace hri := Row.up hri hS
     replace hro := Row.up hro hS
     replace hmp := MapAt.ups hmp hS
     replace k0 := Block.ups k0 hS
     replace hall := hall.trans (Below.mono hS hall.size)
     refine st_a0 rfl ?_; refine wpo_store 76 (.tmp 80) (.tmp 79) b 76 (clA { clZ c.user with vw := c.vw, code := p.fld 4 } (.slice none 0 0) (.slice none 0 0) m) _ (H.ev rfl) (H.ev rfl) k (s76c rfl rfl) (by rw [clA_size (c := { c with seq := (p.fld 2), say := (c.now), code := (p.fld 4) }) hc1 hc2, clA_size (c := { clZ c.user with vw := c.vw, code := p.fld 4 }) rfl rfl]) (clA_one rfl rfl) fun w' hb ho kq => ?_; clear k; have k := kq; replace hri := Row.store hri (fx hfi) ho; replace hro := Row.store hro (fx hfo) ho; replace hmp := MapAt.store hmp hmb (hb b (Nat.le_refl _)) ho; replace k0 := block_same k0 (ho _ (by omega)); replace hall := hall.store (hb b (Nat.le_refl _)) ho; clear hb ho kq; refine hK _ _ ⟨(fun h => absurd rfl h), ?_⟩; clear hK; clear K; clear hS; skip
     refine pt_done (NoPanic.normal ?_)
     refine zB (zC (zD ?_))
     refine kR 1 H rfl fun a H => ?_
     refine zA (zB (zF ?_))
     have e : repC c p = repC1 c p o l := repC_yes HOS.out ⟨hown, by omega⟩
     have hok := rep_ok hc hr hk
     rw [e, repC1, if_pos (by omega)] at hok
     rw [e, repC1, if_pos (by omega)]
     exact k_ret1 H rfl rfl ⟨⟨_, rfl, outs_nil⟩, ⟨hok, ⟨_, _, k, ⟨Row.nil, nil_fresh⟩, Row.nil, nil_fresh⟩, hmp, hmb⟩, hall⟩
    ·
     refine kV H (r_eq U3 (H.ev rfl) evc (dec_f (hcc1))) rfl fun a H => ?_
     refine kR 1 H rfl fun a H => ?_
     refine zA (zB (zC (zD ?_)))
     refine kR 4 H rfl fun a H => ?_
     refine kV H (r_ld U73 rfl (H.ev rfl) ((show _ = some (.slice (some ⟨bo, oo, none⟩) c.os.length co : Value) from cl_os (c := c) hc1 hc2 k))) rfl fun a H => ?_
     refine kV (v := .slice (slAt (some ⟨bo, oo, none⟩) co 1 4) l.length (co - 1)) H (run_op_slice U73 (.slice (some ⟨bo, oo, none⟩) c.os.length co) (some (.int .i64 (1 : Nat))) none none (H.ev rfl) rfl rfl rfl (slice_any 1 c.os.length U73 s32 _ _ (.inr rfl) (.inl ⟨rfl, rfl⟩) (by omega) (by omega) rfl (by omega) rfl)) rfl fun a H => ?_
     refine kR 2 H rfl fun a H => ?_
     refine op_store1 73 (.tmp 47) (.tmp 45) b 45 76 (.slice (slAt (some ⟨bo, oo, none⟩) co 1 4) l.length (co - 1)) _ (H.ev rfl) (H.ev rfl) k s73 (by rw [clA_size (c := c) hc1 hc2]; show 45 + 1 ≤ 48; omega) (by simp [Value.cells, Value.oneCell']) fun w' hb ho kq => ?_; clear k; rw [st_os (c := c) hc1 hc2] at kq; have k : Block _ b 76 (clA c vi (.slice (slAt (some ⟨bo, oo, none⟩) co 1 4) l.length (co - 1)) m) := kq; replace hri := Row.store hri (fx hfi) ho; have hro2 : ORow _ (.slice (slAt (some ⟨bo, oo, none⟩) co 1 4) l.length (co - 1)) l := (Row.tl HOS.out hll hro).store (Fresh.tl (fx hfo)) ho; clear hro; have hro := hro2; clear hro2; have hfo2 : Fresh (Lim.lim b) (.slice (slAt (some ⟨bo, oo, none⟩) co 1 4) l.length (co - 1)) := Fresh.tl hfo; clear hfo; have hfo := hfo2; clear hfo2; replace hmp := MapAt.store hmp hmb (hb b (Nat.le_refl _)) ho; replace k0 := block_same k0 (ho _ (by omega)); replace hall := hall.store (hb b (Nat.le_refl _)) ho; clear hb ho kq; refine kl0 H fun a H => ?_
     refine zA (zB (zC ?_))
     clear hrg
     have hall6 := hall
     have hS : GrownC b (OnlyTo hall6) _ := grownC_drew _ _
     refine region_tree (GrownC b (OnlyTo hall6)) 20 (.fl 0 (.fl 1 (.fl 2 (.fl 3 (.fl 4 (.fl 5 (.fl 6 (.fl 7 (.fl 8 (.fl 9 (.fl 10 (.fl 11 (.fl 12 (.one 13 (.fl 14 (.fl 15 (.one 16 (.fl 17 (.fl 18 (.one 19 .done)))))))))))))))))))) (by kernel_rfl) (by kernel_rfl) rfl (by kernel_rfl) hS ?_
     have hnz := cl_now (c := c) hc1 hc2 k
     have k0z := k0
     replace k := Block.ups k (Below.drew (Below.refl _ _))
     replace hri := Row.up hri (Below.drew (Below.refl _ _))
     replace hro := Row.up hro (Below.drew (Below.refl _ _))
     replace hmp := MapAt.ups hmp (Below.drew (Below.refl _ _))
     replace k0 := Block.ups k0 (Below.drew (Below.refl _ _))
     replace hall := hall.trans (Below.drew (Below.refl _ _))
     refine kQ 4 H rfl fun a H => ?_
     refine kF H rfl rfl (fun w' hS' => r_ld U3 rfl (H.ev rfl) (pv_cell (Block.grown k0z hS'.1 (by simp; omega)) (fld_at hp (j := 2) (by omega)))) rfl fun a H => ?_
     refine kQ 3 H rfl fun a H => ?_
     refine kF H rfl rfl (fun w' hS' => r_ld U3 rfl (H.ev rfl) (((hS'.2.trans hnz : _ = some (Value.int .i64 (c.now)))))) rfl fun a H => ?_
     refine kQ 1 H rfl fun a H => ?_
     refine kF H rfl rfl (fun w' hS' => r_ld U3 rfl (H.ev rfl) (pv_cell (Block.grown k0z hS'.1 (by simp; omega)) (fld_at hp (j := 4) (by omega)))) rfl fun a H => ?_
     refine kQ 1 H rfl fun a H => ?_
     refine kF H rfl rfl (fun w' hS' => r_fld (q := 22 + 18) fld72_3 (H.ev rfl) rfl) rfl fun a H => ?_
     refine pt_one (fun K hK => ?_)
     refine st_a0 rfl ?_; have hno := cl_now (c := c) hc1 hc2 k; refine wpo_store1 3 (.tmp 60) (.tmp 52) b 40 76 (.int .i64 (p.fld 2)) _ (H.ev rfl) (H.ev rfl) k s3 (by rw [clA_size (c := c) hc1 hc2]; show 40 + 1 ≤ 48; omega) (by simp [Value.cells, Value.oneCell']) fun w' hb ho kq => ?_; clear k; rw [st_seq (c := c) hc1 hc2] at kq; have k : Block _ b 76 (clA { c with seq := (p.fld 2) } vi (.slice (slAt (some ⟨bo, oo, none⟩) co 1 4) l.length (co - 1)) m) := kq; replace hri := Row.store hri (fx hfi) ho; replace hro := Row.store hro (fx hfo) ho; replace hmp := MapAt.store hmp hmb (hb b (Nat.le_refl _)) ho; replace k0 := block_same k0 (ho _ (by omega)); replace hall := hall.store (hb b (Nat.le_refl _)) ho; replace hS := GrownC.store hS (hb b (Nat.le_refl _)) ho ((cl_now (c := { c with seq := (p.fld 2) }) hc1 hc2 k).trans hno.symm); clear hno; clear hb ho kq; refine hK _ _ ⟨(fun _ => hS), ?_⟩; clear hK; clear K; skip
     refine kQ 1 H rfl fun a H => ?_
     refine kF H rfl rfl (fun w' hS' => r_fld (q := 22 + 20) fld72_5 (H.ev rfl) rfl) rfl fun a H => ?_
     refine pt_one (fun K hK => ?_)
     refine st_a0 rfl ?_; have hno := cl_now (c := { c with seq := (p.fld 2) }) hc1 hc2 k; refine wpo_store1 3 (.tmp 62) (.tmp 56) b 42 76 (.int .i64 (c.now)) _ (H.ev rfl) (H.ev rfl) k s3 (by rw [clA_size (c := { c with seq := (p.fld 2) }) hc1 hc2]; show 42 + 1 ≤ 48; omega) (by simp [Value.cells, Value.oneCell']) fun w' hb ho kq => ?_; clear k; rw [st_say (c := { c with seq := (p.fld 2) }) hc1 hc2] at kq; have k : Block _ b 76 (clA { c with seq := (p.fld 2), say := (c.now) } vi (.slice (slAt (some ⟨bo, oo, none⟩) co 1 4) l.length (co - 1)) m) := kq; replace hri := Row.store hri (fx hfi) ho; replace hro := Row.store hro (fx hfo) ho; replace hmp := MapAt.store hmp hmb (hb b (Nat.le_refl _)) ho; replace k0 := block_same k0 (ho _ (by omega)); replace hall := hall.store (hb b (Nat.le_refl _)) ho; replace hS := GrownC.store hS (hb b (Nat.le_refl _)) ho ((cl_now (c := { c with seq := (p.fld 2), say := (c.now) }) hc1 hc2 k).trans hno.symm); clear hno; clear hb ho kq; refine hK _ _ ⟨(fun _ => hS), ?_⟩; clear hK; clear K; skip
     refine kQ 2 H rfl fun a H => ?_
     refine pt_one (fun K hK => ?_)
     refine st_a0 rfl ?_; have hno := cl_now (c := { c with seq := (p.fld 2), say := (c.now) }) hc1 hc2 k; refine wpo_store1 46 (.tmp 64) (.tmp 58) b 47 76 (.int .i64 (p.fld 4)) _ (H.ev rfl) (H.ev rfl) k s46 (by rw [clA_size (c := { c with seq := (p.fld 2), say := (c.now) }) hc1 hc2]; show 47 + 1 ≤ 48; omega) (by simp [Value.cells, Value.oneCell']) fun w' hb ho kq => ?_; clear k; rw [st_code (c := { c with seq := (p.fld 2), say := (c.now) }) hc1 hc2] at kq; have k : Block _ b 76 (clA { c with seq := (p.fld 2), say := (c.now), code := (p.fld 4) } vi (.slice (slAt (some ⟨bo, oo, none⟩) co 1 4) l.length (co - 1)) m) := kq; replace hri := Row.store hri (fx hfi) ho; replace hro := Row.store hro (fx hfo) ho; replace hmp := MapAt.store hmp hmb (hb b (Nat.le_refl _)) ho; replace k0 := block_same k0 (ho _ (by omega)); replace hall := hall.store (hb b (Nat.le_refl _)) ho; replace hS := GrownC.store hS (hb b (Nat.le_refl _)) ho ((cl_now (c := { c with seq := (p.fld 2), say := (c.now), code := (p.fld 4) }) hc1 hc2 k).trans hno.symm); clear hno; clear hb ho kq; refine hK _ _ ⟨(fun _ => hS), ?_⟩; clear hK; clear K; skip
     refine pt_done (NoPanic.normal ?_)
     clear hS hnz k0z
     refine zB (zC (zC (zD ?_)))
     refine kR 1 H rfl fun a H => ?_
     refine zA (zB (zG H rfl (zE (zB (zC (zD ?_))))))
     refine kR 1 H rfl fun a H => ?_
     refine zA (zB (zF ?_))
     have e : repC c p = repC1 c p o l := repC_yes HOS.out ⟨hown, by omega⟩
     have hok := rep_ok hc hr hk
     rw [e, repC1, if_neg (by omega)] at hok
     rw [e, repC1, if_neg (by omega)]
     exact k_ret1 H rfl rfl ⟨⟨_, rfl, outs_nil⟩, ⟨hok, ⟨_, _, k, ⟨hri, hfi⟩, hro, hfo⟩, hmp, hmb⟩, hall⟩
 ·
  have hall2 := hall
  have hS : BelowOf (OnlyTo hall2) _ := Below.drew (Below.refl _ (OnlyTo hall2))
  refine region_tree (BelowOf (OnlyTo hall2)) 22 (.fl 0 (.fl 1 (.one 2 (.fl 3 (.fl 4 (.fl 5 (.fl 6 (.fl 7 (.fl 8 (.fl 9 (.fl 10 (.fl 11 (.fl 12 (.fl 13 (.fl 14 (.fl 15 (.fl 16 (.fl 17 (.fl 18 (.fl 19 (.fl 20 (.fl 21 .done)))))))))))))))))))))) (by kernel_rfl) (by kernel_rfl) rfl (by kernel_rfl) hS ?_
  refine kQ 1 H rfl fun a H => ?_
  refine kF H rfl rfl (fun w' hS' => run_load_row b0 36 _ _ (H.ev rfl) (Block.ups k0 hS') U36 rfl (s36p hp)) rfl fun a H => ?_
  refine pt_one (fun K hK => ?_)
  refine st_a0 rfl ?_; refine wpo_call _ _ _ (own_any _ b m c p vi _ hc (Block.ups k hS) hp) (r_call2 cf87 (H.ev rfl) (H.ev rfl)) ?_; rintro e w9 ⟨rfl, hb⟩; refine ⟨_, rfl, ?_⟩; rw [show ownF c p = false by simpa using hown]; replace hS := Below.trans hS (Below.mono hb (Below.size hS)); clear hb; refine hK _ _ ⟨(fun _ => hS), ?_⟩; clear hK; clear K; refine kt H rfl fun a H => ?_
  refine kF H rfl rfl (fun w' hS' => r_not (H.ev rfl) rfl) rfl fun a H => ?_
  refine kQ 18 H rfl fun a H => ?_
  refine pt_done (NoPanic.normal ?_)
  replace k := Block.ups k hS
  replace hri := Row.up hri hS
  replace hro := Row.up hro hS
  replace hmp := MapAt.ups hmp hS
  replace k0 := Block.ups k0 hS
  replace hall := hall.trans (Below.mono hS hall.size)
  clear hS
  refine zB (zH H rfl (zC (zD ?_)))
  refine kR 1 H rfl fun a H => ?_
  refine zA (zB (zF (zJ ?_)))
  have e : repC c p = c := repC_no (.inl hown)
  rw [e]
  exact k_ret1 H rfl rfl ⟨⟨_, rfl, outs_nil⟩, ⟨hc, ⟨_, _, k, ⟨hri, hfi⟩, hro, hfo⟩, hmp, hmb⟩, hall⟩
set_option maxRecDepth 100000 in
set_option maxHeartbeats 4000000 in
theorem step_any [Lim] (w : World) (b : Nat) (m : Option Nat) (c : Cl) (h : ClAt w b m c) (vb : Value) (bs : List B8) (hbs : BRow w vb bs) (hbn : bs.length ≤ 1000000) (hX : Lim.lim b ≤ w.heap.size) : Calls Tryz.prog 23 #[.pointer (some ⟨b, 0, none⟩), vb] w fun e w' => (∃ v, e = .returned v ∧ Outs w' w.heap.size v (stepO c bs)) ∧ (∃ m', ClAt w' b m' (stepC c bs) ∧ MNext w m m') ∧ Only b m w w' := by
 have hcl := h
 have hmW : ∀ q, m = some q → q < w.heap.size := fun q e => h.mp.lt e
 have hall := Only.refl b m w
 refine K_enter 35 Tryz.func23 rfl rfl fun a H => ?_
 replace H := H.pick [0, 1]
 refine zC (zD ?_)
 refine kR 1 H rfl fun a H => ?_
 refine zA (zB (zC (zD ?_)))
 refine kR 1 H rfl fun a H => ?_
 refine wl_call _ _ _ (dec_any _ vb bs hbs hbn) (r_call1 cf37 (H.ev rfl)) ?_; rintro e w9 ⟨rfl, hb⟩; refine ⟨_, rfl, ?_⟩; clear hbs; replace hcl := ClAt.up hcl hb; replace hall := hall.tr hb; clear hb; have hpo : (decP bs).ok := decP_ok bs; obtain ⟨p, hp0⟩ : ∃ p, decP bs = p := ⟨_, rfl⟩; rw [hp0] at hpo; rw [hp0]; have HP := Lib.hid hp0; clear hp0; refine kl H rfl fun a H => ?_
 refine kR 3 H rfl fun a H => ?_
 refine op_new 36 5 (.tmp 11) (pv p) _ z36 (s36p hpo) (by rw [pv_size pk0_ok, pv_size hpo]) (pv_one _) (fun p => (H.put 5 p rfl).ev rfl) (fun p => (H.put 5 p rfl).ev rfl) fun w0 b0 hge hb k0 => ?_; have g0 := Nat.le_trans hall.size hge; replace hcl := ClAt.up hcl hb; replace hall := hall.tr hb; clear hb; clear hge; refine kl H rfl fun a H => ?_
 refine kR 1 H rfl fun a H => ?_
 refine zA (zB (zC (zC ?_)))
 by_cases hde : decE bs = 0
 ·
  obtain ⟨hr, -⟩ := dec_right hde
  rw [HP.out] at hr
  refine zD ?_
  refine kR 1 H rfl fun a H => ?_
  refine kV H (r_ne U46 (H.ev rfl) evc (dec_f (by omega))) rfl fun a H => ?_
  refine zA (zB (zG H rfl (zE (zB (zC ?_)))))
  have hk0 := k0.lt
  have hkw : (Lit.int .i64 (p.fld 0)).wf = true := wf_i64 (fld_in hpo 0)
  obtain ⟨fv, hfv⟩ : ∃ fv, fnF b (p.fld 0) = fv := ⟨_, rfl⟩
  have hqn : ∀ q, m = some q → q < w.heap.size := hmW
  refine zD ?_
  refine op_mkfm fun w1 q0 hge hb hfm => ?_; have gq := Nat.le_trans hall.size hge; have hqb := Nat.lt_of_lt_of_le hcl.lt hge; have h0q := Nat.lt_of_lt_of_le k0.lt hge; replace hcl := ClAt.up hcl hb; replace k0 := Block.ups k0 hb; replace hall := hall.tr hb; clear hb hge; refine kl H rfl fun a H => ?_
  refine kR 1 H rfl fun a H => ?_
  refine kV (v := .func (.func 52) #[.pointer (some ⟨b, 0, none⟩)] #[]) H (r_mkfnb (H.ev rfl)) rfl fun a H => ?_
  obtain ⟨wn, hrun, hfm2, hg2⟩ := FMap.put hfm 2 (.func (.func 52) #[.pointer (some ⟨b, 0, none⟩)] #[]) (by decide) (by omega); refine wl_k wn (r_insert hrun (H.ev rfl) evc (H.ev rfl)) ?_; replace hcl := ClAt.offm hcl hfm hg2 hqb hqn gq; clear hfm; have hfm := hfm2; clear hfm2; replace k0 := Block.grown k0 hg2 (by simp; omega); replace hall := Only.grownm hall hg2 (.inr gq); clear hg2 hrun; refine kl0 H fun a H => ?_
  refine kR 1 H rfl fun a H => ?_
  refine kV (v := .func (.func 53) #[.pointer (some ⟨b, 0, none⟩)] #[]) H (r_mkfnb (H.ev rfl)) rfl fun a H => ?_
  obtain ⟨wn, hrun, hfm2, hg2⟩ := FMap.put hfm 4 (.func (.func 53) #[.pointer (some ⟨b, 0, none⟩)] #[]) (by decide) (by omega); refine wl_k wn (r_insert hrun (H.ev rfl) evc (H.ev rfl)) ?_; replace hcl := ClAt.offm hcl hfm hg2 hqb hqn gq; clear hfm; have hfm := hfm2; clear hfm2; replace k0 := Block.grown k0 hg2 (by simp; omega); replace hall := Only.grownm hall hg2 (.inr gq); clear hg2 hrun; refine kl0 H fun a H => ?_
  refine kR 1 H rfl fun a H => ?_
  refine kV (v := .func (.func 54) #[.pointer (some ⟨b, 0, none⟩)] #[]) H (r_mkfnb (H.ev rfl)) rfl fun a H => ?_
  obtain ⟨wn, hrun, hfm2, hg2⟩ := FMap.put hfm 12 (.func (.func 54) #[.pointer (some ⟨b, 0, none⟩)] #[]) (by decide) (by omega); refine wl_k wn (r_insert hrun (H.ev rfl) evc (H.ev rfl)) ?_; replace hcl := ClAt.offm hcl hfm hg2 hqb hqn gq; clear hfm; have hfm := hfm2; clear hfm2; replace k0 := Block.grown k0 hg2 (by simp; omega); replace hall := Only.grownm hall hg2 (.inr gq); clear hg2 hrun; refine kl0 H fun a H => ?_
  refine kR 1 H rfl fun a H => ?_
  refine kV (v := .func (.func 55) #[.pointer (some ⟨b, 0, none⟩)] #[]) H (r_mkfnb (H.ev rfl)) rfl fun a H => ?_
  obtain ⟨wn, hrun, hfm2, hg2⟩ := FMap.put hfm 8 (.func (.func 55) #[.pointer (some ⟨b, 0, none⟩)] #[]) (by decide) (by omega); refine wl_k wn (r_insert hrun (H.ev rfl) evc (H.ev rfl)) ?_; replace hcl := ClAt.offm hcl hfm hg2 hqb hqn gq; clear hfm; have hfm := hfm2; clear hfm2; replace k0 := Block.grown k0 hg2 (by simp; omega); replace hall := Only.grownm hall hg2 (.inr gq); clear hg2 hrun; refine kl0 H fun a H => ?_
  refine kR 1 H rfl fun a H => ?_
  refine kV (v := .func (.func 56) #[.pointer (some ⟨b, 0, none⟩)] #[]) H (r_mkfnb (H.ev rfl)) rfl fun a H => ?_
  obtain ⟨wn, hrun, hfm2, hg2⟩ := FMap.put hfm 11 (.func (.func 56) #[.pointer (some ⟨b, 0, none⟩)] #[]) (by decide) (by omega); refine wl_k wn (r_insert hrun (H.ev rfl) evc (H.ev rfl)) ?_; replace hcl := ClAt.offm hcl hfm hg2 hqb hqn gq; clear hfm; have hfm := hfm2; clear hfm2; replace k0 := Block.grown k0 hg2 (by simp; omega); replace hall := Only.grownm hall hg2 (.inr gq); clear hg2 hrun; refine kl0 H fun a H => ?_
  refine kR 2 H rfl fun a H => ?_
  refine kV H (r_ld U3 rfl (H.ev rfl) (pv_cell k0 (fld_at hpo (j := 0) (by omega)))) rfl fun a H => ?_
  refine wl_v fv (r_lookf hfm hkw (H.ev rfl) (H.ev rfl) hfv) ?_; refine kl H rfl fun a H => ?_
  refine kR 1 H rfl fun a H => ?_
  refine zA (zB (zC (zC ?_)))
  clear hfm
  by_cases hk2 : p.fld 0 = 2
  ·
   have hfe : fv = .func (.func 52) #[.pointer (some ⟨b, 0, none⟩)] #[] := by rw [← hfv, hk2]; rfl
   subst hfe
   clear hfv
   refine zD ?_
   refine kR 1 H rfl fun a H => ?_
   refine kV (v := .bool false) H (r_fnnil (H.ev rfl)) rfl fun a H => ?_
   refine zA (zB (zG H rfl (zE (zB (zC (zD ?_))))))
   refine kR 1 H rfl fun a H => ?_
   refine kV H (run_load_row b0 36 _ _ (H.ev rfl) k0 U36 rfl (s36p hpo)) rfl fun a H => ?_
   refine wl_call _ _ _ (cookied_any _ b m c hcl p hpo hr hk2) (r_callm cf52 (H.ev rfl) (H.ev rfl)) ?_; rintro e w9 ⟨⟨v, rfl, hou⟩, hcl2, hon⟩; refine ⟨_, rfl, ?_⟩; clear hcl; replace hou := Outs.base hou hall.size; replace hall := Only.comp hall (MNext.same _ _) hon; have hmn := MNext.same w m; refine kl H rfl fun a H => ?_
   refine kR 1 H rfl fun a H => ?_
   refine zA (zB (zF ?_))
   exact k_ret1 H rfl rfl ⟨⟨_, rfl, by rw [stepO, if_pos hde, HP.out, gotO, if_pos hk2]; exact hou⟩, ⟨m, by rw [stepC, if_pos hde, HP.out, gotC, if_pos hk2]; exact hcl2, hmn⟩, hall⟩
  ·
   by_cases hk4 : p.fld 0 = 4
   ·
    have hfe : fv = .func (.func 53) #[.pointer (some ⟨b, 0, none⟩)] #[] := by rw [← hfv, hk4]; rfl
    subst hfe
    clear hfv
    refine zD ?_
    refine kR 1 H rfl fun a H => ?_
    refine kV (v := .bool false) H (r_fnnil (H.ev rfl)) rfl fun a H => ?_
    refine zA (zB (zG H rfl (zE (zB (zC (zD ?_))))))
    refine kR 1 H rfl fun a H => ?_
    refine kV H (run_load_row b0 36 _ _ (H.ev rfl) k0 U36 rfl (s36p hpo)) rfl fun a H => ?_
    refine wl_call _ _ _ (accepted_any _ b m c hcl p hpo hr hk4) (r_callm cf53 (H.ev rfl) (H.ev rfl)) ?_; rintro e w9 ⟨⟨v, rfl, hou⟩, hcl2, hon⟩; refine ⟨_, rfl, ?_⟩; clear hcl; replace hou := Outs.base hou hall.size; replace hall := Only.comp hall (MNext.same _ _) hon; have hmn := MNext.same w m; refine kl H rfl fun a H => ?_
    refine kR 1 H rfl fun a H => ?_
    refine zA (zB (zF ?_))
    exact k_ret1 H rfl rfl ⟨⟨_, rfl, by rw [stepO, if_pos hde, HP.out, gotO, if_neg (by omega), if_neg (by omega)]; exact hou⟩, ⟨m, by rw [stepC, if_pos hde, HP.out, gotC, if_neg hk2, if_pos hk4]; exact hcl2, hmn⟩, hall⟩
   ·
    by_cases hk12 : p.fld 0 = 12
    ·
     have hfe : fv = .func (.func 54) #[.pointer (some ⟨b, 0, none⟩)] #[] := by rw [← hfv, hk12]; rfl
     subst hfe
     clear hfv
     refine zD ?_
     refine kR 1 H rfl fun a H => ?_
     refine kV (v := .bool false) H (r_fnnil (H.ev rfl)) rfl fun a H => ?_
     refine zA (zB (zG H rfl (zE (zB (zC (zD ?_))))))
     refine kR 1 H rfl fun a H => ?_
     refine kV H (run_load_row b0 36 _ _ (H.ev rfl) k0 U36 rfl (s36p hpo)) rfl fun a H => ?_
     refine wl_call _ _ _ (refused_any _ b m c hcl p hpo hr hk12) (r_callm cf54 (H.ev rfl) (H.ev rfl)) ?_; rintro e w9 ⟨⟨v, rfl, hou⟩, hcl2, hon⟩; refine ⟨_, rfl, ?_⟩; clear hcl; replace hou := Outs.base hou hall.size; replace hall := Only.comp hall (MNext.same _ _) hon; have hmn := MNext.same w m; refine kl H rfl fun a H => ?_
     refine kR 1 H rfl fun a H => ?_
     refine zA (zB (zF ?_))
     exact k_ret1 H rfl rfl ⟨⟨_, rfl, by rw [stepO, if_pos hde, HP.out, gotO, if_neg (by omega), if_neg (by omega)]; exact hou⟩, ⟨m, by rw [stepC, if_pos hde, HP.out, gotC, if_neg hk2, if_neg hk4, if_pos hk12]; exact hcl2, hmn⟩, hall⟩
    ·
     by_cases hk8 : p.fld 0 = 8
     ·
      have hfe : fv = .func (.func 55) #[.pointer (some ⟨b, 0, none⟩)] #[] := by rw [← hfv, hk8]; rfl
      subst hfe
      clear hfv
      refine zD ?_
      refine kR 1 H rfl fun a H => ?_
      refine kV (v := .bool false) H (r_fnnil (H.ev rfl)) rfl fun a H => ?_
      refine zA (zB (zG H rfl (zE (zB (zC (zD ?_))))))
      refine kR 1 H rfl fun a H => ?_
      refine kV H (run_load_row b0 36 _ _ (H.ev rfl) k0 U36 rfl (s36p hpo)) rfl fun a H => ?_
      have hall0 := hall; refine wl_call _ _ _ (notified_any _ b m c hcl p hpo hr hk8 (Nat.le_trans hX hall.size)) (r_callm cf55 (H.ev rfl) (H.ev rfl)) ?_; rintro e w9 ⟨⟨v, rfl, hou⟩, ⟨m2, hcl2, hmn⟩, hon⟩; refine ⟨_, rfl, ?_⟩; clear hcl; replace hou := Outs.base hou hall.size; replace hall := Only.comp hall (MNext.same _ _) hon; replace hmn := MNext.lift hmn hall0.size; refine kl H rfl fun a H => ?_
      refine kR 1 H rfl fun a H => ?_
      refine zA (zB (zF ?_))
      exact k_ret1 H rfl rfl ⟨⟨_, rfl, by rw [stepO, if_pos hde, HP.out, gotO, if_neg (by omega), if_pos hk8]; exact hou⟩, ⟨m2, by rw [stepC, if_pos hde, HP.out, gotC, if_neg hk2, if_neg hk4, if_neg hk12, if_pos hk8]; exact hcl2, hmn⟩, hall⟩
     ·
      by_cases hk11 : p.fld 0 = 11
      ·
       have hfe : fv = .func (.func 56) #[.pointer (some ⟨b, 0, none⟩)] #[] := by rw [← hfv, hk11]; rfl
       subst hfe
       clear hfv
       refine zD ?_
       refine kR 1 H rfl fun a H => ?_
       refine kV (v := .bool false) H (r_fnnil (H.ev rfl)) rfl fun a H => ?_
       refine zA (zB (zG H rfl (zE (zB (zC (zD ?_))))))
       refine kR 1 H rfl fun a H => ?_
       refine kV H (run_load_row b0 36 _ _ (H.ev rfl) k0 U36 rfl (s36p hpo)) rfl fun a H => ?_
       refine wl_call _ _ _ (replied_any _ b m c hcl p hpo hr hk11) (r_callm cf56 (H.ev rfl) (H.ev rfl)) ?_; rintro e w9 ⟨⟨v, rfl, hou⟩, hcl2, hon⟩; refine ⟨_, rfl, ?_⟩; clear hcl; replace hou := Outs.base hou hall.size; replace hall := Only.comp hall (MNext.same _ _) hon; have hmn := MNext.same w m; refine kl H rfl fun a H => ?_
       refine kR 1 H rfl fun a H => ?_
       refine zA (zB (zF ?_))
       exact k_ret1 H rfl rfl ⟨⟨_, rfl, by rw [stepO, if_pos hde, HP.out, gotO, if_neg (by omega), if_neg (by omega)]; exact hou⟩, ⟨m, by rw [stepC, if_pos hde, HP.out, gotC, if_neg hk2, if_neg hk4, if_neg hk12, if_neg hk8, if_pos hk11]; exact hcl2, hmn⟩, hall⟩
      ·
       have hfe : fv = .nilFunc := by rw [← hfv]; exact fn_none hk2 hk4 hk12 hk8 hk11
       subst hfe
       clear hfv
       refine zD ?_
       refine kR 1 H rfl fun a H => ?_
       refine kV (v := .bool true) H (r_fnnil0 (H.ev rfl)) rfl fun a H => ?_
       refine zA (zB (zH H rfl (zC (zD ?_))))
       refine kR 1 H rfl fun a H => ?_
       refine zA (zB (zF (zJ ?_)))
       exact k_ret1 H rfl rfl ⟨⟨_, rfl, by rw [stepO, if_pos hde, HP.out, gotO, if_neg hk2, if_neg hk8]; exact outs_nil⟩, ⟨m, by rw [stepC, if_pos hde, HP.out, gotC, if_neg hk2, if_neg hk4, if_neg hk12, if_neg hk8, if_neg hk11]; exact hcl, .inl rfl⟩, hall⟩
 ·
  refine zD ?_
  refine kR 1 H rfl fun a H => ?_
  refine kV H (r_ne U46 (H.ev rfl) evc (dec_t (by omega))) rfl fun a H => ?_
  refine zA (zB (zH H rfl (zC (zD ?_))))
  refine kR 1 H rfl fun a H => ?_
  refine zA (zB (zF (zJ ?_)))
  exact k_ret1 H rfl rfl ⟨⟨_, rfl, by rw [stepO, if_neg hde]; exact outs_nil⟩, ⟨m, by rw [stepC, if_neg hde]; exact hcl, .inl rfl⟩, hall⟩
end
end Go.Proofs.YtbnmpoonkjlkjaaGreat
