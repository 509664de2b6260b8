/- The ghost: the walk of GhostRises. -/
import Derived.Test.YtbpepkpjjfhmpaaH
import Derived.Outline
import Derived.IntWalk
namespace Go.Proofs.Ytbpepkpjjfhmpaa
open Go.RowKit Go.Maps
set_option linter.unusedVariables false
set_option linter.unusedSimpArgs false
theorem eqN_same (a b c d : Int) (w : World) : (Op.equalIn 10000 35 (.agg #[.int .i64 a, .int .i64 b, .int .i64 c, .int .i64 d]) (.agg #[.int .i64 a, .int .i64 b, .int .i64 c, .int .i64 d])).run Try.prog w = .ok true w := by rw [eqN]; simp
theorem eqN_lt {a b c d a' b' c' d' : Int} (h : b' < b) (w : World) : (Op.equalIn 10000 35 (.agg #[.int .i64 a, .int .i64 b, .int .i64 c, .int .i64 d]) (.agg #[.int .i64 a', .int .i64 b', .int .i64 c', .int .i64 d'])).run Try.prog w = .ok false w := by
  rw [eqN]
  have : ¬ (a = a' ∧ b = b' ∧ c = c' ∧ d = d') := fun e => by omega
  rw [decide_eq_false this]
def Same (W w : World) : Prop := w = W
theorem range_ups {w w' : World} {b o : Nat} {cs : List Value} (h : w.rangeAt b o cs) (hb : Below w.heap.size w w') : w'.rangeAt b o cs := fun j v hv => (hb.cell (p := ⟨b, o + j, none⟩) (World.block_lt_of_cell? w _ (h j v hv))).trans (h j v hv)
theorem cell_ups {w w' : World} {b o : Nat} {v : Value} (h : w.cell? ⟨b, o, none⟩ = some v) (hb : Below w.heap.size w w') : w'.cell? ⟨b, o, none⟩ = some v := (hb.cell (p := ⟨b, o, none⟩) (World.block_lt_of_cell? w _ h)).trans h
set_option maxHeartbeats 20000000 in
set_option maxRecDepth 100000 in
theorem rises_walk (w : World) (A : Option Addr) (n c : Nat) (L : List Int) (hL : L.length = n * 51) (hw : WF L) (hn : n ≤ 50) (hh : Holds w A (L.map (Value.int .i64))) :
    Calls Try.prog 4 #[.slice A n c] w fun e w' => e = .returned (.bool true) ∧ Below w.heap.size w w' := by
  have hall := Below.refl w.heap.size w
  have HL := Lib.hid hL
  have HW := Lib.hid hw
  replace hh := Lib.hid hh
  clear hL hw
  have hg28 := g28
  go_enter Try.func4, Try.ntmps4
  go_upto_region 0 with (fail)
  refine wp_region_lit ?_
  refine wl_v ?_ ?_ ?_; rotate_left; (focus (go_simp; (try with_reducible rfl); done)); try simp only [Act.put, List.setIfInBounds_toArray, List.set_cons_zero, List.set_cons_succ]
  go_upto_region 1 with (fail)
  refine wp_region_lit ?_
  refine wl_call _ _ _ (small_any _) (by go_simp) ?_; rintro e w9 ⟨rfl, hb⟩; refine ⟨_, rfl, ?_⟩; replace hall := hall.trans (hb.mono hall.size); clear hb; try simp only [Act.put, List.setIfInBounds_toArray, List.set_cons_zero, List.set_cons_succ]
  refine wl_v ?_ ?_ ?_; rotate_left; (focus (go_simp; (try with_reducible rfl); done)); try simp only [Act.put, List.setIfInBounds_toArray, List.set_cons_zero, List.set_cons_succ]
  go_upto_region 2 with (fail)
  refine wp_region_lit ?_
  refine wl_v ?_ ?_ ?_; rotate_left; (focus (go_simp; (try with_reducible rfl); done)); try simp only [Act.put, List.setIfInBounds_toArray, List.set_cons_zero, List.set_cons_succ]
  refine wl_v ?_ ?_ ?_; rotate_left; (focus (go_simp; (try with_reducible rfl); done)); try simp only [Act.put, List.setIfInBounds_toArray, List.set_cons_zero, List.set_cons_succ]
  refine wl_v ?_ ?_ ?_; rotate_left; (focus (go_simp; (try with_reducible rfl); done)); try simp only [Act.put, List.setIfInBounds_toArray, List.set_cons_zero, List.set_cons_succ]
  go_upto_region 4 with (fail)
  refine wp_region_lit ?_
  refine wl_call _ _ _ (new_any _) (by go_simp) ?_; rintro e w1 ⟨g, bm, rfl, gg0, gm0, h9, hb⟩; refine ⟨_, rfl, ?_⟩; have gg := Nat.le_trans hall.size gg0; have gm := Nat.le_trans hall.size gm0; replace hall := hall.trans (hb.mono hall.size); have h : GG w1 g bm G0 := h9; clear hb h9 gg0 gm0; try simp only [Act.put, List.setIfInBounds_toArray, List.set_cons_zero, List.set_cons_succ]
  refine wl_v ?_ ?_ ?_; rotate_left; (focus (go_simp; (try with_reducible rfl); done)); try simp only [Act.put, List.setIfInBounds_toArray, List.set_cons_zero, List.set_cons_succ]
  go_upto_region 5 with (fail)
  refine wp_region_lit ?_
  refine wl_v ?_ ?_ ?_; rotate_left; (focus (go_simp; (try with_reducible rfl); done)); try simp only [Act.put, List.setIfInBounds_toArray, List.set_cons_zero, List.set_cons_succ]
  refine wl_v ?_ ?_ ?_; rotate_left; (focus (go_simp; (try with_reducible rfl); done)); try simp only [Act.put, List.setIfInBounds_toArray, List.set_cons_zero, List.set_cons_succ]
  go_upto_region 7 with (fail)
  refine wp_region_lit ?_
  refine wl_v ?_ ?_ ?_; rotate_left; (focus (go_simp; (try with_reducible rfl); done)); try simp only [Act.put, List.setIfInBounds_toArray, List.set_cons_zero, List.set_cons_succ]
  go_upto_region 8 with (fail)
  refine wp_region_lit ?_
  refine wl_v ?_ ?_ ?_; rotate_left; (focus (go_simp; (try with_reducible rfl); done)); try simp only [Act.put, List.setIfInBounds_toArray, List.set_cons_zero, List.set_cons_succ]
  obtain ⟨base, hbase⟩ : ∃ base, base = w1.heap.size := ⟨_, rfl⟩
  have gb : g < base := by rw [hbase]; exact h.1.lt
  have mb : bm < base := by rw [hbase]; exact h.2.1.lt
  have g0b : w.heap.size ≤ base := by rw [hbase]; exact hall.size
  have hbs : base ≤ w1.heap.size := by rw [hbase]; exact Nat.le_refl _
  clear hbase
  go_wp2_with fail
  go_loopw [5, 6] (R1 w g bm base n) (fun _ i _ => n - (intOf i).toNat)
  case atStart => exact ⟨0, G0, [], by omega, rfl, G0_ok, h, World.ownsRow_nil _ _ _ _, fun x hx => by simp at hx, by simp, hall, hbs⟩
  case round =>
    clear h hall hbs
    obtain ⟨k, G, V, hk, rfl, hok, h, r5, hV, hVl, hall, hbs⟩ := hrel
    replace hok := Lib.hid hok
    replace hV := Lib.hid hV
    by_cases hlt : k < n
    · skip
      go_upto_region 9 with (fail)
      refine wp_region_lit ?_
      refine wl_v ?_ ?_ ?_; rotate_left; (focus (go_simp; (try with_reducible rfl); done)); try simp only [Act.put, List.setIfInBounds_toArray, List.set_cons_zero, List.set_cons_succ]
      refine wl_v ?_ ?_ ?_; rotate_left; (focus (go_simp; (try with_reducible rfl); done)); try simp only [Act.put, List.setIfInBounds_toArray, List.set_cons_zero, List.set_cons_succ]
      refine wl_v ?_ ?_ ?_; rotate_left; (focus (go_simp; (try with_reducible rfl); done)); try simp only [Act.put, List.setIfInBounds_toArray, List.set_cons_zero, List.set_cons_succ]
      refine wl_v (.bool true) (by go_simp <;> omega) ?_; try simp only [Act.put, List.setIfInBounds_toArray, List.set_cons_zero, List.set_cons_succ]
      obtain ⟨b0, hb0⟩ : ∃ b0, G.wrong = b0 := ⟨_, rfl⟩
      replace hb0 := Lib.hid hb0
      go_upto_region 11 with (fail)
      refine wp_region_lit ?_
      refine wl_v ?_ ?_ ?_; rotate_left; (focus (go_simp; (try with_reducible rfl); done)); try simp only [Act.put, List.setIfInBounds_toArray, List.set_cons_zero, List.set_cons_succ]
      refine wl_call _ _ _ (wrong_at _ g bm G.n G.last G.many G.wrong G.had h) (by go_simp) ?_; rintro e w9 ⟨rfl, rfl⟩; refine ⟨_, rfl, ?_⟩; rw [hb0.out]; try simp only [Act.put, List.setIfInBounds_toArray, List.set_cons_zero, List.set_cons_succ]
      refine wl_v ?_ ?_ ?_; rotate_left; (focus (go_simp; (try with_reducible rfl); done)); try simp only [Act.put, List.setIfInBounds_toArray, List.set_cons_zero, List.set_cons_succ]
      go_upto_region 12 with (fail)
      refine wp_region_lit ?_
      refine wl_v ?_ ?_ ?_; rotate_left; (focus (go_simp; (try with_reducible rfl); done)); try simp only [Act.put, List.setIfInBounds_toArray, List.set_cons_zero, List.set_cons_succ]
      go_upto_region 13 with (fail)
      refine wp_region_lit ?_
      refine wl_v ?_ ?_ ?_; rotate_left; (focus (go_simp; (try with_reducible rfl); done)); try simp only [Act.put, List.setIfInBounds_toArray, List.set_cons_zero, List.set_cons_succ]
      go_upto_region 14 with (fail)
      refine wp_region_lit ?_
      refine wl_v ?_ ?_ ?_; rotate_left; (focus (go_simp; (try with_reducible rfl); done)); try simp only [Act.put, List.setIfInBounds_toArray, List.set_cons_zero, List.set_cons_succ]
      go_wp2_with fail
      go_loopw [8, 9, 10] (R2 w g bm base G V u5) (fun _ _ u _ => 18 - (intOf u).toNat)
      case atStart => exact ⟨0, by omega, rfl, h, r5, World.ownsRow_nil _ _ _ _, World.ownsRow_nil _ _ _ _, Apart.nil _, Apart.nil _, Apart.nil _, hall, hbs⟩
      case round =>
        clear h r5 hall hbs
        obtain ⟨j, hj, rfl, h, r5, r8, r9, a85, a95, a89, hall, hbs⟩ := hrel
        by_cases hm : j < 16
        · skip
          obtain ⟨⟨x0, x1, x2, x3⟩, hx⟩ : ∃ x, lastF G.last ((j : Int) + 1) = x := ⟨_, rfl⟩
          obtain ⟨q, hq⟩ : ∃ q, ci G.many (j + 1) = q := ⟨_, rfl⟩
          have HX := Lib.hid hx
          have HQ := Lib.hid hq
          have HQ2 := Lib.hid ((manyJ G.many j hm).trans hq)
          clear hx hq
          go_upto_region 15 with (fail)
          refine wp_region_lit ?_
          refine wl_v ?_ ?_ ?_; rotate_left; (focus (go_simp; (try with_reducible rfl); done)); try simp only [Act.put, List.setIfInBounds_toArray, List.set_cons_zero, List.set_cons_succ]
          refine wl_v (.bool true) (by go_simp <;> omega) ?_; try simp only [Act.put, List.setIfInBounds_toArray, List.set_cons_zero, List.set_cons_succ]
          go_upto_region 17 with (fail)
          refine wp_region_lit ?_
          refine wl_v ?_ ?_ ?_; rotate_left; (focus (go_simp; (try with_reducible rfl); done)); try simp only [Act.put, List.setIfInBounds_toArray, List.set_cons_zero, List.set_cons_succ]
          refine wl_v ?_ ?_ ?_; rotate_left; (focus (go_simp; (try with_reducible rfl); done)); try simp only [Act.put, List.setIfInBounds_toArray, List.set_cons_zero, List.set_cons_succ]
          refine wl_v ?_ ?_ ?_; rotate_left; (focus (go_simp; (try with_reducible rfl); done)); try simp only [Act.put, List.setIfInBounds_toArray, List.set_cons_zero, List.set_cons_succ]
          refine wl_call _ _ _ (last_at _ g bm G.n G.last G.many G.wrong G.had ((j : Int) + 1) h) (by go_simp) ?_; rintro e w9 ⟨rfl, hb⟩; refine ⟨_, rfl, ?_⟩; rw [HX.out]; simp only [ntv]; replace hall := hall.trans (hb.mono hall.size); replace hbs := Nat.le_trans hbs hb.size; replace h := h.ups hb; replace r5 := own_ups r5 hb; replace r8 := own_ups r8 hb; replace r9 := own_ups r9 hb; clear hb; try simp only [Act.put, List.setIfInBounds_toArray, List.set_cons_zero, List.set_cons_succ]
          refine op_lit _ 1 _ 35 (ints [x0, x1, x2, x3]) (by intro wl; kernel_rfl) ?_; intro w8 bl hge hb kl; replace hall := hall.trans (hb.mono hall.size); replace hbs := Nat.le_trans hbs hb.size; replace h := h.ups hb; replace r5 := own_ups r5 hb; replace r8 := own_ups r8 hb; replace r9 := own_ups r9 hb; clear hb hge; try simp only [Act.put, List.setIfInBounds_toArray, List.set_cons_zero, List.set_cons_succ]
          refine op_append 23 35 _ _ base (.agg zN) 4 32 _ _ _ (some ⟨bl, 0, none⟩) 1 1 [.int .i64 x0, .int .i64 x1, .int .i64 x2, .int .i64 x3] (by rfl) (by rfl) Try.underlying23 i35 rfl (by omega) r8 rfl (Block.holds kl) (by simp [Value.oneCell']) (by unfold maxLen; omega) (by omega) hbs ?_; intro v7 w7 own7 hg7 hn7 hb7; clear kl; replace h := h.row r8 hg7 gb mb; have q5 := r5; have q9 := r9; replace r5 := own_row r5 hg7 a85.turn; replace r9 := own_row r9 hg7 a89.turn; have p5 := (a85.turn.next q5 hn7).turn; have p9 := (a89.turn.next q9 hn7).turn; clear r8 q5 q9 a85 a89; have r8 := own7; have a85 := p5; have a89 := p9; clear own7 p5 p9; replace hall := hall.trans (hb7.mono g0b); replace hbs := Nat.le_trans hbs hg7.size; clear hg7 hn7 hb7; try simp only [Act.put, List.setIfInBounds_toArray, List.set_cons_zero, List.set_cons_succ]
          refine wl_v ?_ ?_ ?_; rotate_left; (focus (go_simp; (try with_reducible rfl); done)); try simp only [Act.put, List.setIfInBounds_toArray, List.set_cons_zero, List.set_cons_succ]
          go_upto_region 18 with (fail)
          refine wp_region_lit ?_
          refine wl_v ?_ ?_ ?_; rotate_left; (focus (go_simp; (try with_reducible rfl); done)); try simp only [Act.put, List.setIfInBounds_toArray, List.set_cons_zero, List.set_cons_succ]
          refine wl_v ?_ ?_ ?_; rotate_left; (focus (go_simp; (try with_reducible rfl); done)); try simp only [Act.put, List.setIfInBounds_toArray, List.set_cons_zero, List.set_cons_succ]
          refine wl_v ?_ ?_ ?_; rotate_left; (focus (go_simp; (try with_reducible rfl); done)); try simp only [Act.put, List.setIfInBounds_toArray, List.set_cons_zero, List.set_cons_succ]
          refine wl_call _ _ _ (many_at _ g bm G.n G.last G.many G.wrong G.had ((j : Int) + 1) h) (by go_simp) ?_; rintro e w9 ⟨rfl, rfl⟩; refine ⟨_, rfl, ?_⟩; rw [HQ2.out]; try simp only [Act.put, List.setIfInBounds_toArray, List.set_cons_zero, List.set_cons_succ]
          refine op_lit _ 1 _ 3 (ints [q]) (by intro wl; kernel_rfl) ?_; intro w8 bl hge hb kl; replace hall := hall.trans (hb.mono hall.size); replace hbs := Nat.le_trans hbs hb.size; replace h := h.ups hb; replace r5 := own_ups r5 hb; replace r8 := own_ups r8 hb; replace r9 := own_ups r9 hb; clear hb hge; try simp only [Act.put, List.setIfInBounds_toArray, List.set_cons_zero, List.set_cons_succ]
          refine op_append 42 3 _ _ base (.int .i64 0) 1 8 _ _ _ (some ⟨bl, 0, none⟩) 1 1 [.int .i64 q] (by rfl) (by rfl) Try.underlying42 i3 rfl (by omega) r9 rfl (Block.holds kl) (by simp [Value.oneCell']) (by unfold maxLen; omega) (by omega) hbs ?_; intro v7 w7 own7 hg7 hn7 hb7; clear kl; have q5 := r5; have q8 := r8; replace h := h.row r9 hg7 gb mb; replace r5 := own_row r5 hg7 a95.turn; replace r8 := own_row r8 hg7 a89; have p5 := (a95.turn.next q5 hn7).turn; have p8 := a89.next q8 hn7; clear r9 q5 q8 a95 a89; have r9 := own7; have a95 := p5; have a89 := p8; clear own7 p5 p8; replace hall := hall.trans (hb7.mono g0b); replace hbs := Nat.le_trans hbs hg7.size; clear hg7 hn7 hb7; try simp only [Act.put, List.setIfInBounds_toArray, List.set_cons_zero, List.set_cons_succ]
          refine wl_v ?_ ?_ ?_; rotate_left; (focus (go_simp; (try with_reducible rfl); done)); try simp only [Act.put, List.setIfInBounds_toArray, List.set_cons_zero, List.set_cons_succ]
          go_upto_region 16 with (fail)
          refine wp_region_lit ?_
          refine wl_v ?_ ?_ ?_; rotate_left; (focus (go_simp; (try with_reducible rfl); done)); try simp only [Act.put, List.setIfInBounds_toArray, List.set_cons_zero, List.set_cons_succ]
          refine wl_v (.int .i64 ((j : Int) + 1 + 1)) (by go_simp <;> exact IntWalk.i64_in _ (by omega)) ?_; try simp only [Act.put, List.setIfInBounds_toArray, List.set_cons_zero, List.set_cons_succ]
          refine wl_v ?_ ?_ ?_; rotate_left; (focus (go_simp; (try with_reducible rfl); done)); try simp only [Act.put, List.setIfInBounds_toArray, List.set_cons_zero, List.set_cons_succ]
          go_wp2_with fail
          refine ⟨⟨j + 1, by omega, by go_num, h, r5, ?_, ?_, a85, a95, a89, hall, hbs⟩, by simp [intOf]; omega⟩
          · rw [lasts_next, HX.out]; exact own_snoc4 (x := (x0, x1, x2, x3)) r8
          · rw [manys_next, HQ.out]; exact own_snoc1 r9
        · obtain rfl : j = 16 := by omega
          clear hm hj
          go_upto_region 15 with (fail)
          refine wp_region_lit ?_
          refine wl_v ?_ ?_ ?_; rotate_left; (focus (go_simp; (try with_reducible rfl); done)); try simp only [Act.put, List.setIfInBounds_toArray, List.set_cons_zero, List.set_cons_succ]
          refine wl_v (.bool false) (by go_simp <;> omega) ?_; try simp only [Act.put, List.setIfInBounds_toArray, List.set_cons_zero, List.set_cons_succ]
          have hB51 : ((L.drop (k*51)).take 51).length = 51 := by simp [HL.out]; omega
          have hBw : WF ((L.drop (k*51)).take 51) := fun x hx => HW.out x (List.mem_of_mem_drop (List.mem_of_mem_take hx))
          have st := lookK_steps ((L.drop (k*51)).take 51) G hok.out.len hok.out.mlen 16 (by omega)
          have hok1 := hok.out.look (B := (L.drop (k*51)).take 51) hBw
          obtain ⟨bA, oA, hA, _⟩ := hh.out 0 (by have := HL.out; simp; omega)
          have hrg := ((hh.out.up hall).ints_range hA (k*51) 51 (by have := HL.out; omega))
          subst hA
          obtain ⟨B, hB⟩ : ∃ B, (L.drop (k*51)).take 51 = B := ⟨_, rfl⟩
          rw [hB] at hB51 hBw st hok1 hrg
          obtain ⟨G1, hG1⟩ : ∃ G1, lookK B G 16 = G1 := ⟨_, rfl⟩
          rw [hG1] at st hok1
          have HG1 := Lib.hid hG1
          have HB51 := Lib.hid hB51
          have HBw := Lib.hid hBw
          have ST := Lib.hid st
          have HOK1 := Lib.hid hok1
          have HRG := Lib.hid hrg
          clear hB hG1 hB51 hBw st hok1 hrg
          go_upto_region 19 with (fail)
          refine wp_region_lit ?_
          refine wl_v ?_ ?_ ?_; rotate_left; (focus (go_simp; (try with_reducible rfl); done)); try simp only [Act.put, List.setIfInBounds_toArray, List.set_cons_zero, List.set_cons_succ]
          refine wl_v ?_ ?_ ?_; rotate_left; (focus (go_simp; (try with_reducible rfl); done)); try simp only [Act.put, List.setIfInBounds_toArray, List.set_cons_zero, List.set_cons_succ]
          refine wl_v ?_ ?_ ?_; rotate_left; (focus (go_simp; (try with_reducible rfl); done)); try simp only [Act.put, List.setIfInBounds_toArray, List.set_cons_zero, List.set_cons_succ]
          refine wl_v ?_ ?_ ?_; rotate_left; (focus (go_simp; (try with_reducible rfl); done)); try simp only [Act.put, List.setIfInBounds_toArray, List.set_cons_zero, List.set_cons_succ]
          refine op_loadM 33 _ bA (oA + k*51) _ (ints B) rfl (by rfl) HRG.out (by kernel_rfl) (by have := info25s; rw [List.length_map, HB51.out]; exact this) ?_; try simp only [Act.put, List.setIfInBounds_toArray, List.set_cons_zero, List.set_cons_succ]
          refine wl_call _ _ _ (look_at _ g bm B HB51.out HBw.out G (by have := hok.out.n; unfold maxLen; omega) (fun u hu => by have := hok.out.many u hu; omega) h) (by go_simp) ?_; rintro e w9 ⟨rfl, hb, h9⟩; refine ⟨_, rfl, ?_⟩; rw [HG1.out] at h9; replace hall := hall.trans (hb.below hall.size gg gm); replace hbs := Nat.le_trans hbs hb.size; replace r5 := own_but r5 hb gb mb; replace r8 := own_but r8 hb gb mb; replace r9 := own_but r9 hb gb mb; clear h hb; have h := h9; clear h9; try simp only [Act.put, List.setIfInBounds_toArray, List.set_cons_zero, List.set_cons_succ]
          have hwr := ST.out.wrong
          rw [hb0.out] at hwr
          have Hwr := Lib.hid hwr
          clear hwr
          cases b0
          · skip
            go_upto_region 20 with (fail)
            refine wp_region_lit ?_
            refine wl_v ?_ ?_ ?_; rotate_left; (focus (go_simp; (try with_reducible rfl); done)); try simp only [Act.put, List.setIfInBounds_toArray, List.set_cons_zero, List.set_cons_succ]
            refine wl_v ?_ ?_ ?_; rotate_left; (focus (go_simp; (try with_reducible rfl); done)); try simp only [Act.put, List.setIfInBounds_toArray, List.set_cons_zero, List.set_cons_succ]
            refine wl_s rfl ?_; try simp only [Act.put, List.setIfInBounds_toArray, List.set_cons_zero, List.set_cons_succ]
            refine wl_s rfl ?_; try simp only [Act.put, List.setIfInBounds_toArray, List.set_cons_zero, List.set_cons_succ]
            refine wl_s rfl ?_; try simp only [Act.put, List.setIfInBounds_toArray, List.set_cons_zero, List.set_cons_succ]
            refine wl_v ?_ ?_ ?_; rotate_left; (focus (go_simp; (try with_reducible rfl); done)); try simp only [Act.put, List.setIfInBounds_toArray, List.set_cons_zero, List.set_cons_succ]
            go_upto_region 22 with (fail)
            refine wp_region_lit ?_
            refine wl_v ?_ ?_ ?_; rotate_left; (focus (go_simp; (try with_reducible rfl); done)); try simp only [Act.put, List.setIfInBounds_toArray, List.set_cons_zero, List.set_cons_succ]
            go_wp2_with fail
            go_loopw [5, 11] (R3 w g bm base G G1 u8 u9 (16 * k)) (fun _ u _ => 18 - (intOf u).toNat)
            case atStart => exact ⟨0, V, by omega, rfl, h, r5, r8, r9, a85, a95, fun x hx => ⟨ST.out.had x (hV.out x hx).1, (hV.out x hx).2⟩, by omega, hall, hbs⟩
            case round =>
              clear h r5 r8 r9 a85 a95 hall hbs hV hVl
              obtain ⟨j, V, hj, rfl, h, r5, r8, r9, a85, a95, hV, hVl, hall, hbs⟩ := hrel
              replace hV := Lib.hid hV
              by_cases hm : j < 16
              · skip
                obtain ⟨⟨y0, y1, y2, y3⟩, hy⟩ : ∃ y, lastF G1.last ((j : Int) + 1) = y := ⟨_, rfl⟩
                obtain ⟨⟨x0, x1, x2, x3⟩, hx⟩ : ∃ x, lastF G.last ((j : Int) + 1) = x := ⟨_, rfl⟩
                obtain ⟨q, hq⟩ : ∃ q, ci G.many (j + 1) = q := ⟨_, rfl⟩
                obtain ⟨q1, hq1⟩ : ∃ q1, ci G1.many (j + 1) = q1 := ⟨_, rfl⟩
                have hq0 := hok.out.many (j + 1) (by omega)
                have hin := HOK1.out.hadJ j hm
                have hwf := HOK1.out.wfJ j hm
                have hcase := ST.out.here (j + 1) (by omega) (by omega)
                have hl8 := lasts_at G (j := j) (k := 16) hm
                have hl9 := manys_at G (j := j) (k := 16) hm
                have HQ2 := Lib.hid ((manyJ G1.many j hm).trans hq1)
                rw [castJ, hy, hx, hq, hq1] at hcase
                have hq2 : 0 ≤ q1 ∧ q1 ≤ 1 + ((k + 1 : Nat) : Int) := by have := HOK1.out.many (j + 1) (by omega); rw [hq1] at this; exact this
                rw [hx] at hl8
                rw [hq] at hl9 hq0
                rw [hy] at hin hwf
                obtain ⟨A8, c8, e8, h8, _, _⟩ := own_slice r8
                obtain ⟨A9, c9, e9, h9, _, _⟩ := own_slice r9
                have hl8' : j < (lasts G 16).length := by rw [lasts_len]; exact hm
                obtain ⟨b8, o8, rfl, _⟩ := h8 0 (by simp [IV, nflat_len, lasts_len])
                obtain ⟨b9, o9, rfl, _⟩ := h9 0 (by simp [IV, manys_len])
                have rg8 := nflat_range h8 rfl hl8'
                rw [List.getElem?_eq_getElem hl8'] at hl8
                injection hl8 with hl8
                rw [hl8] at rg8
                obtain ⟨b9', o9', e9', c9v⟩ := h9 j (by simp [IV, manys_len, hm])
                injection e9' with e9'
                injection e9' with e91 e92
                subst e91 e92
                rw [List.getElem?_map, hl9] at c9v
                simp only [Option.map_some] at c9v
                have HRG8 := Lib.hid rg8
                have HC9 := Lib.hid c9v
                have HY := Lib.hid hy
                have HIN := Lib.hid hin
                have HWF := Lib.hid hwf
                have HCASE := Lib.hid hcase
                have E8 := Lib.hid e8
                have E9 := Lib.hid e9
                have R8 := Lib.hid r8
                have R9 := Lib.hid r9
                clear hy hx hq hq1 hin hwf hcase hl8 hl9 h8 h9 rg8 c9v r8 r9 hl8'
                obtain rfl := E8.out
                obtain rfl := E9.out
                clear E8 E9
                go_upto_region 23 with (fail)
                refine wp_region_lit ?_
                refine wl_v ?_ ?_ ?_; rotate_left; (focus (go_simp; (try with_reducible rfl); done)); try simp only [Act.put, List.setIfInBounds_toArray, List.set_cons_zero, List.set_cons_succ]
                refine wl_v (.bool true) (by go_simp <;> omega) ?_; try simp only [Act.put, List.setIfInBounds_toArray, List.set_cons_zero, List.set_cons_succ]
                go_upto_region 25 with (fail)
                refine wp_region_lit ?_
                refine wl_v ?_ ?_ ?_; rotate_left; (focus (go_simp; (try with_reducible rfl); done)); try simp only [Act.put, List.setIfInBounds_toArray, List.set_cons_zero, List.set_cons_succ]
                refine wl_v ?_ ?_ ?_; rotate_left; (focus (go_simp; (try with_reducible rfl); done)); try simp only [Act.put, List.setIfInBounds_toArray, List.set_cons_zero, List.set_cons_succ]
                refine wl_call _ _ _ (last_at _ g bm G1.n G1.last G1.many G1.wrong G1.had ((j : Int) + 1) h) (by go_simp) ?_; rintro e w9 ⟨rfl, hb⟩; refine ⟨_, rfl, ?_⟩; rw [HY.out]; simp only [ntv]; replace hall := hall.trans (hb.mono hall.size); replace hbs := Nat.le_trans hbs hb.size; replace h := h.ups hb; replace r5 := own_ups r5 hb; replace R8 := Lib.hid (own_ups R8.out hb); replace R9 := Lib.hid (own_ups R9.out hb); replace HRG8 := Lib.hid (range_ups HRG8.out hb); replace HC9 := Lib.hid (cell_ups HC9.out hb); clear hb; try simp only [Act.put, List.setIfInBounds_toArray, List.set_cons_zero, List.set_cons_succ]
                refine op_new 35 12 _ #[.int .i64 y0, .int .i64 y1, .int .i64 y2, .int .i64 y3] zN info28z info28s rfl (by simp [Value.oneCell']) (by intro p; rfl) (by intro p; rfl) ?_; intro w3 b12 hge hb k12; replace hall := hall.trans (hb.mono hall.size); replace hbs := Nat.le_trans hbs hb.size; replace h := h.ups hb; replace r5 := own_ups r5 hb; replace R8 := Lib.hid (own_ups R8.out hb); replace R9 := Lib.hid (own_ups R9.out hb); replace HRG8 := Lib.hid (range_ups HRG8.out hb); replace HC9 := Lib.hid (cell_ups HC9.out hb); clear hb hge; try simp only [Act.put, List.setIfInBounds_toArray, List.set_cons_zero, List.set_cons_succ]
                replace hcase := HCASE.out
                rcases hcase with ⟨hcs, rfl⟩ | ⟨hcs, hlt1, rfl, _⟩
                · skip
                  simp only [Prod.mk.injEq] at hcs
                  obtain ⟨rfl, rfl, rfl, rfl⟩ := hcs
                  have heq : ∀ w, (Op.equalIn 10000 35 (.agg #[.int .i64 y0, .int .i64 y1, .int .i64 y2, .int .i64 y3]) (.agg #[.int .i64 y0, .int .i64 y1, .int .i64 y2, .int .i64 y3])).run Try.prog w = .ok true w := eqN_same _ _ _ _
                  have hd1 : decide (y1 < y1) = false := by simp
                  have hd2 : (q1 == q1 + 1) = false := by simp; omega
                  have hd3 : decide (q1 < q1) = false := by simp
                  have J16 : (j : Int) < 16 := by omega
                  have WJ : IntKind.i64.wrap (j : Int) = (j : Int) := IntWalk.i64_in _ (by omega)
                  have WQ : IntKind.i64.wrap (q1 + 1) = q1 + 1 := IntWalk.i64_in _ (by omega)
                  go_upto_region 26 with (fail)
                  have hS : Same w3.drew _ := rfl
                  refine region_pi (Same w3.drew) [(0, true), (1, true), (2, true), (3, true), (4, true), (5, true), (6, true), (7, true), (8, true), (9, true), (10, true), (11, true), (12, true), (13, true), (14, true), (15, true), (16, true), (17, true), (18, true), (20, true), (21, true), (22, true), (23, true), (24, true), (25, true), (19, false), (26, true), (27, true), (28, true), (29, true), (30, true), (31, true), (33, true), (34, true), (35, true), (36, true), (37, true), (32, false), (38, true), (39, true)] (by kernel_rfl) (by kernel_rfl) rfl (by kernel_rfl) hS ?_
                  skip
                  refine pi_f0 ?_ rfl ?_ ?_; rotate_left; (focus (intro w' hS'; go_simp; (try with_reducible rfl); done)); try simp only [Act.put, List.setIfInBounds_toArray, List.set_cons_zero, List.set_cons_succ]
                  refine pi_f0 ?_ rfl ?_ ?_; rotate_left; (focus (intro w' hS'; have hS2 : w' = w3.drew := hS'; subst hS2; have q0 := k12.cell 0; have q1' := k12.cell 1; have q2 := k12.cell 2; have q3 := k12.cell 3; have p0 := HRG8.out 0 _ rfl; rw [Nat.add_zero] at p0; have p1 := HRG8.out 1 _ rfl; have p2 := HRG8.out 2 _ rfl; have p3 := HRG8.out 3 _ rfl; have p9 := HC9.out; go_simp; (try with_reducible rfl); done)); try simp only [Act.put, List.setIfInBounds_toArray, List.set_cons_zero, List.set_cons_succ]
                  refine pi_f0 ?_ rfl ?_ ?_; rotate_left; (focus (intro w' hS'; go_simp; (try with_reducible rfl); done)); try simp only [Act.put, List.setIfInBounds_toArray, List.set_cons_zero, List.set_cons_succ]
                  refine pi_f0 ?_ rfl ?_ ?_; rotate_left; (focus (intro w' hS'; go_simp; (try with_reducible rfl); done)); try simp only [Act.put, List.setIfInBounds_toArray, List.set_cons_zero, List.set_cons_succ]
                  refine pi_f0 ?_ rfl ?_ ?_; rotate_left; (focus (intro w' hS'; go_simp; (try with_reducible rfl); done)); try simp only [Act.put, List.setIfInBounds_toArray, List.set_cons_zero, List.set_cons_succ]
                  refine pi_f0 ?_ rfl ?_ ?_; rotate_left; (focus (intro w' hS'; go_simp; (try with_reducible rfl); done)); try simp only [Act.put, List.setIfInBounds_toArray, List.set_cons_zero, List.set_cons_succ]
                  refine pi_f0 ?_ rfl ?_ ?_; rotate_left; (focus (intro w' hS'; go_simp; (try with_reducible rfl); done)); try simp only [Act.put, List.setIfInBounds_toArray, List.set_cons_zero, List.set_cons_succ]
                  refine pi_f0 ?_ rfl ?_ ?_; rotate_left; (focus (intro w' hS'; have hS2 : w' = w3.drew := hS'; subst hS2; have q0 := k12.cell 0; have q1' := k12.cell 1; have q2 := k12.cell 2; have q3 := k12.cell 3; have p0 := HRG8.out 0 _ rfl; rw [Nat.add_zero] at p0; have p1 := HRG8.out 1 _ rfl; have p2 := HRG8.out 2 _ rfl; have p3 := HRG8.out 3 _ rfl; have p9 := HC9.out; go_simp; (try with_reducible rfl); done)); try simp only [Act.put, List.setIfInBounds_toArray, List.set_cons_zero, List.set_cons_succ]
                  refine pi_f0 ?_ rfl ?_ ?_; rotate_left; (focus (intro w' hS'; go_simp; (try with_reducible rfl); done)); try simp only [Act.put, List.setIfInBounds_toArray, List.set_cons_zero, List.set_cons_succ]
                  refine pi_f0 ?_ rfl ?_ ?_; rotate_left; (focus (intro w' hS'; go_simp; (try with_reducible rfl); done)); try simp only [Act.put, List.setIfInBounds_toArray, List.set_cons_zero, List.set_cons_succ]
                  refine pi_f1 ?_ rfl rfl rfl rfl ?_ ?_; rotate_left; (focus (intro w' hS'; have hS2 : w' = w3.drew := hS'; subst hS2; have q0 := k12.cell 0; have q1' := k12.cell 1; have q2 := k12.cell 2; have q3 := k12.cell 3; have p0 := HRG8.out 0 _ rfl; rw [Nat.add_zero] at p0; have p1 := HRG8.out 1 _ rfl; have p2 := HRG8.out 2 _ rfl; have p3 := HRG8.out 3 _ rfl; have p9 := HC9.out; go_simp; (try with_reducible rfl); done)); try simp only [Act.put, List.setIfInBounds_toArray, List.set_cons_zero, List.set_cons_succ]
                  refine pi_f1 ?_ rfl rfl rfl rfl ?_ ?_; rotate_left; (focus (intro w' hS'; go_simp; (try with_reducible rfl); done)); try simp only [Act.put, List.setIfInBounds_toArray, List.set_cons_zero, List.set_cons_succ]
                  refine pi_f1 ?_ rfl rfl rfl rfl ?_ ?_; rotate_left; (focus (intro w' hS'; go_simp; (try with_reducible rfl); done)); try simp only [Act.put, List.setIfInBounds_toArray, List.set_cons_zero, List.set_cons_succ]
                  refine pi_f1 ?_ rfl rfl rfl rfl ?_ ?_; rotate_left; (focus (intro w' hS'; go_simp; (try with_reducible rfl); done)); try simp only [Act.put, List.setIfInBounds_toArray, List.set_cons_zero, List.set_cons_succ]
                  refine pi_f1 ?_ rfl rfl rfl rfl ?_ ?_; rotate_left; (focus (intro w' hS'; go_simp; (try with_reducible rfl); done)); try simp only [Act.put, List.setIfInBounds_toArray, List.set_cons_zero, List.set_cons_succ]
                  refine pi_f1 ?_ rfl rfl rfl rfl ?_ ?_; rotate_left; (focus (intro w' hS'; have hS2 : w' = w3.drew := hS'; subst hS2; have q0 := k12.cell 0; have q1' := k12.cell 1; have q2 := k12.cell 2; have q3 := k12.cell 3; have p0 := HRG8.out 0 _ rfl; rw [Nat.add_zero] at p0; have p1 := HRG8.out 1 _ rfl; have p2 := HRG8.out 2 _ rfl; have p3 := HRG8.out 3 _ rfl; have p9 := HC9.out; go_simp; (try with_reducible rfl); done)); try simp only [Act.put, List.setIfInBounds_toArray, List.set_cons_zero, List.set_cons_succ]
                  refine pi_f1 ?_ rfl rfl rfl rfl ?_ ?_; rotate_left; (focus (intro w' hS'; go_simp; (try with_reducible rfl); done)); try simp only [Act.put, List.setIfInBounds_toArray, List.set_cons_zero, List.set_cons_succ]
                  refine pi_f1 ?_ rfl rfl rfl rfl ?_ ?_; rotate_left; (focus (intro w' hS'; go_simp; (try with_reducible rfl); done)); try simp only [Act.put, List.setIfInBounds_toArray, List.set_cons_zero, List.set_cons_succ]
                  refine pi_f1 ?_ rfl rfl rfl rfl ?_ ?_; rotate_left; (focus (intro w' hS'; go_simp; (try with_reducible rfl); done)); try simp only [Act.put, List.setIfInBounds_toArray, List.set_cons_zero, List.set_cons_succ]
                  refine pi_f1 ?_ rfl rfl rfl rfl ?_ ?_; rotate_left; (focus (intro w' hS'; go_simp; (try with_reducible rfl); done)); try simp only [Act.put, List.setIfInBounds_toArray, List.set_cons_zero, List.set_cons_succ]
                  refine pi_f1 ?_ rfl rfl rfl rfl ?_ ?_; rotate_left; (focus (intro w' hS'; go_simp; (try with_reducible rfl); done)); try simp only [Act.put, List.setIfInBounds_toArray, List.set_cons_zero, List.set_cons_succ]
                  refine pi_f1 ?_ rfl rfl rfl rfl ?_ ?_; rotate_left; (focus (intro w' hS'; go_simp; (try with_reducible rfl); done)); try simp only [Act.put, List.setIfInBounds_toArray, List.set_cons_zero, List.set_cons_succ]
                  refine pi_f1 ?_ rfl rfl rfl rfl ?_ ?_; rotate_left; (focus (intro w' hS'; go_simp; (try with_reducible rfl); done)); try simp only [Act.put, List.setIfInBounds_toArray, List.set_cons_zero, List.set_cons_succ]
                  refine pi_f1 ?_ rfl rfl rfl rfl ?_ ?_; rotate_left; (focus (intro w' hS'; have hS2 : w' = w3.drew := hS'; subst hS2; have q0 := k12.cell 0; have q1' := k12.cell 1; have q2 := k12.cell 2; have q3 := k12.cell 3; have p0 := HRG8.out 0 _ rfl; rw [Nat.add_zero] at p0; have p1 := HRG8.out 1 _ rfl; have p2 := HRG8.out 2 _ rfl; have p3 := HRG8.out 3 _ rfl; have p9 := HC9.out; go_simp; (try with_reducible rfl); done)); try simp only [Act.put, List.setIfInBounds_toArray, List.set_cons_zero, List.set_cons_succ]
                  refine pi_f1 ?_ rfl rfl rfl rfl ?_ ?_; rotate_left; (focus (intro w' hS'; go_simp; (try with_reducible rfl); done)); try simp only [Act.put, List.setIfInBounds_toArray, List.set_cons_zero, List.set_cons_succ]
                  refine pi_a1 rfl rfl rfl rfl (fun K hK => ?_); go_simp; refine (many_at _ g bm G1.n G1.last G1.many G1.wrong G1.had ((j : Int) + 1) (show GG _ g bm G1 from by rw [hS]; exact h)).mono ?_; rw [HQ2.out]; rintro e w9 ⟨rfl, rfl⟩; refine hK _ _ ⟨?_, ?_⟩; exact hS; clear hK; clear K; try simp only [Act.put, List.setIfInBounds_toArray, List.set_cons_zero, List.set_cons_succ]
                  refine pi_f1 ?_ rfl rfl rfl rfl ?_ ?_; rotate_left; (focus (intro w' hS'; go_simp; (try with_reducible rfl); done)); try simp only [Act.put, List.setIfInBounds_toArray, List.set_cons_zero, List.set_cons_succ]
                  refine pi_f1 ?_ rfl rfl rfl rfl ?_ ?_; rotate_left; (focus (intro w' hS'; go_simp; (try with_reducible rfl); done)); try simp only [Act.put, List.setIfInBounds_toArray, List.set_cons_zero, List.set_cons_succ]
                  refine pi_f0 ?_ rfl ?_ ?_; rotate_left; (focus (intro w' hS'; go_simp; (try with_reducible rfl); done)); try simp only [Act.put, List.setIfInBounds_toArray, List.set_cons_zero, List.set_cons_succ]
                  refine pi_f0 ?_ rfl ?_ ?_; rotate_left; (focus (intro w' hS'; go_simp; (try with_reducible rfl); done)); try simp only [Act.put, List.setIfInBounds_toArray, List.set_cons_zero, List.set_cons_succ]
                  refine pi_f1 ?_ rfl rfl rfl rfl ?_ ?_; rotate_left; (focus (intro w' hS'; go_simp; (try with_reducible rfl); done)); try simp only [Act.put, List.setIfInBounds_toArray, List.set_cons_zero, List.set_cons_succ]
                  refine pi_f1 ?_ rfl rfl rfl rfl ?_ ?_; rotate_left; (focus (intro w' hS'; go_simp; (try with_reducible rfl); done)); try simp only [Act.put, List.setIfInBounds_toArray, List.set_cons_zero, List.set_cons_succ]
                  refine pi_f1 ?_ rfl rfl rfl rfl ?_ ?_; rotate_left; (focus (intro w' hS'; go_simp; (try with_reducible rfl); done)); try simp only [Act.put, List.setIfInBounds_toArray, List.set_cons_zero, List.set_cons_succ]
                  refine pi_f1 ?_ rfl rfl rfl rfl ?_ ?_; rotate_left; (focus (intro w' hS'; go_simp; (try with_reducible rfl); done)); try simp only [Act.put, List.setIfInBounds_toArray, List.set_cons_zero, List.set_cons_succ]
                  refine pi_f1 ?_ rfl rfl rfl rfl ?_ ?_; rotate_left; (focus (intro w' hS'; go_simp; (try with_reducible rfl); done)); try simp only [Act.put, List.setIfInBounds_toArray, List.set_cons_zero, List.set_cons_succ]
                  refine pi_f1 ?_ rfl rfl rfl rfl ?_ ?_; rotate_left; (focus (intro w' hS'; go_simp; (try with_reducible rfl); done)); try simp only [Act.put, List.setIfInBounds_toArray, List.set_cons_zero, List.set_cons_succ]
                  refine pi_f1 ?_ rfl rfl rfl rfl ?_ ?_; rotate_left; (focus (intro w' hS'; have hS2 : w' = w3.drew := hS'; subst hS2; have q0 := k12.cell 0; have q1' := k12.cell 1; have q2 := k12.cell 2; have q3 := k12.cell 3; have p0 := HRG8.out 0 _ rfl; rw [Nat.add_zero] at p0; have p1 := HRG8.out 1 _ rfl; have p2 := HRG8.out 2 _ rfl; have p3 := HRG8.out 3 _ rfl; have p9 := HC9.out; go_simp; (try with_reducible rfl); done)); try simp only [Act.put, List.setIfInBounds_toArray, List.set_cons_zero, List.set_cons_succ]
                  refine pi_a1 rfl rfl rfl rfl (fun K hK => ?_); go_simp; refine (many_at _ g bm G1.n G1.last G1.many G1.wrong G1.had ((j : Int) + 1) (show GG _ g bm G1 from by rw [hS]; exact h)).mono ?_; rw [HQ2.out]; rintro e w9 ⟨rfl, rfl⟩; refine hK _ _ ⟨?_, ?_⟩; exact hS; clear hK; clear K; try simp only [Act.put, List.setIfInBounds_toArray, List.set_cons_zero, List.set_cons_succ]
                  refine pi_f1 ?_ rfl rfl rfl rfl ?_ ?_; rotate_left; (focus (intro w' hS'; go_simp; (try with_reducible rfl); done)); try simp only [Act.put, List.setIfInBounds_toArray, List.set_cons_zero, List.set_cons_succ]
                  refine pi_f0 ?_ rfl ?_ ?_; rotate_left; (focus (intro w' hS'; go_simp; (try with_reducible rfl); done)); try simp only [Act.put, List.setIfInBounds_toArray, List.set_cons_zero, List.set_cons_succ]
                  refine pi_nil (NoPanic.normal ?_)
                  replace h : GG w3.drew g bm G1 := h
                  replace r5 := own_block (w' := w3.drew) r5 (fun _ _ => rfl)
                  replace R8 := Lib.hid (own_block (w' := w3.drew) R8.out (fun _ _ => rfl))
                  replace R9 := Lib.hid (own_block (w' := w3.drew) R9.out (fun _ _ => rfl))
                  replace k12 : Block w3.drew b12 35 _ := k12
                  replace hall := hall.drew
                  replace hbs : base ≤ w3.drew.heap.size := hbs
                  clear heq hd1 hd3 WJ WQ hS HRG8 HC9 HCASE
                  go_upto_region 28 with (fail)
                  refine wp_region_lit ?_
                  refine wl_v ?_ ?_ ?_; rotate_left; (focus (go_simp; (try with_reducible rfl); done)); try simp only [Act.put, List.setIfInBounds_toArray, List.set_cons_zero, List.set_cons_succ]
                  refine op_loadR _ _ _ _ _ rfl k12 (by kernel_rfl) info28s ?_; try simp only [Act.put, List.setIfInBounds_toArray, List.set_cons_zero, List.set_cons_succ]
                  refine op_lit _ 1 _ 35 (ints [y0, y1, y2, y3]) (by intro wl; kernel_rfl) ?_; intro w8 bl hge hb kl; replace hall := hall.trans (hb.mono hall.size); replace hbs := Nat.le_trans hbs hb.size; replace h := h.ups hb; replace r5 := own_ups r5 hb; replace R8 := Lib.hid (own_ups R8.out hb); replace R9 := Lib.hid (own_ups R9.out hb); clear hb hge; try simp only [Act.put, List.setIfInBounds_toArray, List.set_cons_zero, List.set_cons_succ]
                  refine op_append 23 35 _ _ base (.agg zN) 4 32 _ _ _ (some ⟨bl, 0, none⟩) 1 1 [.int .i64 y0, .int .i64 y1, .int .i64 y2, .int .i64 y3] (by rfl) (by rfl) Try.underlying23 i35 rfl (by omega) r5 rfl (Block.holds kl) (by simp [Value.oneCell']) (by unfold maxLen; omega) (by omega) hbs ?_; intro v7 w7 own7 hg7 hn7 hb7; clear kl; replace h := h.row r5 hg7 gb mb; have p8 := a85.next R8.out hn7; have p9 := a95.next R9.out hn7; replace R8 := Lib.hid (own_row R8.out hg7 a85); replace R9 := Lib.hid (own_row R9.out hg7 a95); clear r5 a85 a95; have r5 := own7; have a85 := p8; have a95 := p9; clear own7 p8 p9; replace hall := hall.trans (hb7.mono g0b); replace hbs := Nat.le_trans hbs hg7.size; clear hg7 hn7 hb7; try simp only [Act.put, List.setIfInBounds_toArray, List.set_cons_zero, List.set_cons_succ]
                  refine wl_v ?_ ?_ ?_; rotate_left; (focus (go_simp; (try with_reducible rfl); done)); try simp only [Act.put, List.setIfInBounds_toArray, List.set_cons_zero, List.set_cons_succ]
                  go_upto_region 24 with (fail)
                  refine wp_region_lit ?_
                  refine wl_v ?_ ?_ ?_; rotate_left; (focus (go_simp; (try with_reducible rfl); done)); try simp only [Act.put, List.setIfInBounds_toArray, List.set_cons_zero, List.set_cons_succ]
                  refine wl_v (.int .i64 ((j : Int) + 1 + 1)) (by go_simp <;> exact IntWalk.i64_in _ (by omega)) ?_; try simp only [Act.put, List.setIfInBounds_toArray, List.set_cons_zero, List.set_cons_succ]
                  refine wl_v ?_ ?_ ?_; rotate_left; (focus (go_simp; (try with_reducible rfl); done)); try simp only [Act.put, List.setIfInBounds_toArray, List.set_cons_zero, List.set_cons_succ]
                  go_wp2_with fail
                  refine ⟨?_, ?_⟩
                  · first
                    | (exact ⟨j + 1, V ++ [(y0, y1, y2, y3)], by omega, by go_num, h, (by rw [List.length_append]; exact own_snoc4 (x := (y0, y1, y2, y3)) r5), R8.out, R9.out, a85, a95, (fun x hx => (List.mem_append.1 hx).elim (hV.out x) (fun hx => by rw [List.mem_singleton.1 hx]; exact ⟨HIN.out, HWF.out⟩)), (by simp; omega), hall, hbs⟩)
                    | ((repeat apply Exists.intro); refine ⟨?_, ?_⟩; rotate_left; (focus (first | exact rfl | (repeat (first | exact rfl | refine ⟨rfl, ?_⟩)))); (exact ⟨j + 1, V ++ [(y0, y1, y2, y3)], by omega, by go_num, h, (by rw [List.length_append]; exact own_snoc4 (x := (y0, y1, y2, y3)) r5), R8.out, R9.out, a85, a95, (fun x hx => (List.mem_append.1 hx).elim (hV.out x) (fun hx => by rw [List.mem_singleton.1 hx]; exact ⟨HIN.out, HWF.out⟩)), (by simp; omega), hall, hbs⟩))
                  · simp [intOf]; omega
                · skip
                  rw [← hcs] at hlt1
                  simp only at hlt1
                  have heq : ∀ w, (Op.equalIn 10000 35 (.agg #[.int .i64 y0, .int .i64 y1, .int .i64 y2, .int .i64 y3]) (.agg #[.int .i64 x0, .int .i64 x1, .int .i64 x2, .int .i64 x3])).run Try.prog w = .ok false w := eqN_lt hlt1
                  have hd1 : decide (y1 < x1) = false := by simp; omega
                  have hd3 : decide (q + 1 < q) = false := by simp; omega
                  have J16 : (j : Int) < 16 := by omega
                  have WJ : IntKind.i64.wrap (j : Int) = (j : Int) := IntWalk.i64_in _ (by omega)
                  have WQ : IntKind.i64.wrap (q + 1) = q + 1 := IntWalk.i64_in _ (by omega)
                  go_upto_region 26 with (fail)
                  have hS : Same w3.drew _ := rfl
                  refine region_pi (Same w3.drew) [(0, true), (1, true), (2, true), (3, true), (4, true), (5, true), (6, true), (7, true), (8, true), (9, true), (10, true), (11, true), (12, true), (13, true), (14, true), (15, true), (16, true), (17, true), (18, true), (20, true), (21, true), (22, true), (23, true), (24, true), (25, true), (19, false), (26, true), (27, true), (28, true), (29, true), (30, true), (31, true), (33, true), (34, true), (35, true), (36, true), (37, true), (32, false), (38, true), (39, true)] (by kernel_rfl) (by kernel_rfl) rfl (by kernel_rfl) hS ?_
                  skip
                  refine pi_f0 ?_ rfl ?_ ?_; rotate_left; (focus (intro w' hS'; go_simp; (try with_reducible rfl); done)); try simp only [Act.put, List.setIfInBounds_toArray, List.set_cons_zero, List.set_cons_succ]
                  refine pi_f0 ?_ rfl ?_ ?_; rotate_left; (focus (intro w' hS'; have hS2 : w' = w3.drew := hS'; subst hS2; have q0 := k12.cell 0; have q1' := k12.cell 1; have q2 := k12.cell 2; have q3 := k12.cell 3; have p0 := HRG8.out 0 _ rfl; rw [Nat.add_zero] at p0; have p1 := HRG8.out 1 _ rfl; have p2 := HRG8.out 2 _ rfl; have p3 := HRG8.out 3 _ rfl; have p9 := HC9.out; go_simp; (try with_reducible rfl); done)); try simp only [Act.put, List.setIfInBounds_toArray, List.set_cons_zero, List.set_cons_succ]
                  refine pi_f0 ?_ rfl ?_ ?_; rotate_left; (focus (intro w' hS'; go_simp; (try with_reducible rfl); done)); try simp only [Act.put, List.setIfInBounds_toArray, List.set_cons_zero, List.set_cons_succ]
                  refine pi_f0 ?_ rfl ?_ ?_; rotate_left; (focus (intro w' hS'; go_simp; (try with_reducible rfl); done)); try simp only [Act.put, List.setIfInBounds_toArray, List.set_cons_zero, List.set_cons_succ]
                  refine pi_f0 ?_ rfl ?_ ?_; rotate_left; (focus (intro w' hS'; go_simp; (try with_reducible rfl); done)); try simp only [Act.put, List.setIfInBounds_toArray, List.set_cons_zero, List.set_cons_succ]
                  refine pi_f0 ?_ rfl ?_ ?_; rotate_left; (focus (intro w' hS'; go_simp; (try with_reducible rfl); done)); try simp only [Act.put, List.setIfInBounds_toArray, List.set_cons_zero, List.set_cons_succ]
                  refine pi_f0 ?_ rfl ?_ ?_; rotate_left; (focus (intro w' hS'; go_simp; (try with_reducible rfl); done)); try simp only [Act.put, List.setIfInBounds_toArray, List.set_cons_zero, List.set_cons_succ]
                  refine pi_f0 ?_ rfl ?_ ?_; rotate_left; (focus (intro w' hS'; have hS2 : w' = w3.drew := hS'; subst hS2; have q0 := k12.cell 0; have q1' := k12.cell 1; have q2 := k12.cell 2; have q3 := k12.cell 3; have p0 := HRG8.out 0 _ rfl; rw [Nat.add_zero] at p0; have p1 := HRG8.out 1 _ rfl; have p2 := HRG8.out 2 _ rfl; have p3 := HRG8.out 3 _ rfl; have p9 := HC9.out; go_simp; (try with_reducible rfl); done)); try simp only [Act.put, List.setIfInBounds_toArray, List.set_cons_zero, List.set_cons_succ]
                  refine pi_f0 ?_ rfl ?_ ?_; rotate_left; (focus (intro w' hS'; go_simp; (try with_reducible rfl); done)); try simp only [Act.put, List.setIfInBounds_toArray, List.set_cons_zero, List.set_cons_succ]
                  refine pi_f0 ?_ rfl ?_ ?_; rotate_left; (focus (intro w' hS'; go_simp; (try with_reducible rfl); done)); try simp only [Act.put, List.setIfInBounds_toArray, List.set_cons_zero, List.set_cons_succ]
                  refine pi_f1 ?_ rfl rfl rfl rfl ?_ ?_; rotate_left; (focus (intro w' hS'; have hS2 : w' = w3.drew := hS'; subst hS2; have q0 := k12.cell 0; have q1' := k12.cell 1; have q2 := k12.cell 2; have q3 := k12.cell 3; have p0 := HRG8.out 0 _ rfl; rw [Nat.add_zero] at p0; have p1 := HRG8.out 1 _ rfl; have p2 := HRG8.out 2 _ rfl; have p3 := HRG8.out 3 _ rfl; have p9 := HC9.out; go_simp; (try with_reducible rfl); done)); try simp only [Act.put, List.setIfInBounds_toArray, List.set_cons_zero, List.set_cons_succ]
                  refine pi_f1 ?_ rfl rfl rfl rfl ?_ ?_; rotate_left; (focus (intro w' hS'; go_simp; (try with_reducible rfl); done)); try simp only [Act.put, List.setIfInBounds_toArray, List.set_cons_zero, List.set_cons_succ]
                  refine pi_f1 ?_ rfl rfl rfl rfl ?_ ?_; rotate_left; (focus (intro w' hS'; go_simp; (try with_reducible rfl); done)); try simp only [Act.put, List.setIfInBounds_toArray, List.set_cons_zero, List.set_cons_succ]
                  refine pi_f1 ?_ rfl rfl rfl rfl ?_ ?_; rotate_left; (focus (intro w' hS'; go_simp; (try with_reducible rfl); done)); try simp only [Act.put, List.setIfInBounds_toArray, List.set_cons_zero, List.set_cons_succ]
                  refine pi_f1 ?_ rfl rfl rfl rfl ?_ ?_; rotate_left; (focus (intro w' hS'; go_simp; (try with_reducible rfl); done)); try simp only [Act.put, List.setIfInBounds_toArray, List.set_cons_zero, List.set_cons_succ]
                  refine pi_f1 ?_ rfl rfl rfl rfl ?_ ?_; rotate_left; (focus (intro w' hS'; have hS2 : w' = w3.drew := hS'; subst hS2; have q0 := k12.cell 0; have q1' := k12.cell 1; have q2 := k12.cell 2; have q3 := k12.cell 3; have p0 := HRG8.out 0 _ rfl; rw [Nat.add_zero] at p0; have p1 := HRG8.out 1 _ rfl; have p2 := HRG8.out 2 _ rfl; have p3 := HRG8.out 3 _ rfl; have p9 := HC9.out; go_simp; (try with_reducible rfl); done)); try simp only [Act.put, List.setIfInBounds_toArray, List.set_cons_zero, List.set_cons_succ]
                  refine pi_f1 ?_ rfl rfl rfl rfl ?_ ?_; rotate_left; (focus (intro w' hS'; go_simp; (try with_reducible rfl); done)); try simp only [Act.put, List.setIfInBounds_toArray, List.set_cons_zero, List.set_cons_succ]
                  refine pi_f1 ?_ rfl rfl rfl rfl ?_ ?_; rotate_left; (focus (intro w' hS'; go_simp; (try with_reducible rfl); done)); try simp only [Act.put, List.setIfInBounds_toArray, List.set_cons_zero, List.set_cons_succ]
                  refine pi_f1 ?_ rfl rfl rfl rfl ?_ ?_; rotate_left; (focus (intro w' hS'; go_simp; (try with_reducible rfl); done)); try simp only [Act.put, List.setIfInBounds_toArray, List.set_cons_zero, List.set_cons_succ]
                  refine pi_f1 ?_ rfl rfl rfl rfl ?_ ?_; rotate_left; (focus (intro w' hS'; go_simp; (try with_reducible rfl); done)); try simp only [Act.put, List.setIfInBounds_toArray, List.set_cons_zero, List.set_cons_succ]
                  refine pi_f1 ?_ rfl rfl rfl rfl ?_ ?_; rotate_left; (focus (intro w' hS'; go_simp; (try with_reducible rfl); done)); try simp only [Act.put, List.setIfInBounds_toArray, List.set_cons_zero, List.set_cons_succ]
                  refine pi_f1 ?_ rfl rfl rfl rfl ?_ ?_; rotate_left; (focus (intro w' hS'; go_simp; (try with_reducible rfl); done)); try simp only [Act.put, List.setIfInBounds_toArray, List.set_cons_zero, List.set_cons_succ]
                  refine pi_f1 ?_ rfl rfl rfl rfl ?_ ?_; rotate_left; (focus (intro w' hS'; go_simp; (try with_reducible rfl); done)); try simp only [Act.put, List.setIfInBounds_toArray, List.set_cons_zero, List.set_cons_succ]
                  refine pi_f1 ?_ rfl rfl rfl rfl ?_ ?_; rotate_left; (focus (intro w' hS'; have hS2 : w' = w3.drew := hS'; subst hS2; have q0 := k12.cell 0; have q1' := k12.cell 1; have q2 := k12.cell 2; have q3 := k12.cell 3; have p0 := HRG8.out 0 _ rfl; rw [Nat.add_zero] at p0; have p1 := HRG8.out 1 _ rfl; have p2 := HRG8.out 2 _ rfl; have p3 := HRG8.out 3 _ rfl; have p9 := HC9.out; go_simp; (try with_reducible rfl); done)); try simp only [Act.put, List.setIfInBounds_toArray, List.set_cons_zero, List.set_cons_succ]
                  refine pi_f1 ?_ rfl rfl rfl rfl ?_ ?_; rotate_left; (focus (intro w' hS'; go_simp; (try with_reducible rfl); done)); try simp only [Act.put, List.setIfInBounds_toArray, List.set_cons_zero, List.set_cons_succ]
                  refine pi_a1 rfl rfl rfl rfl (fun K hK => ?_); go_simp; refine (many_at _ g bm G1.n G1.last G1.many G1.wrong G1.had ((j : Int) + 1) (show GG _ g bm G1 from by rw [hS]; exact h)).mono ?_; rw [HQ2.out]; rintro e w9 ⟨rfl, rfl⟩; refine hK _ _ ⟨?_, ?_⟩; exact hS; clear hK; clear K; try simp only [Act.put, List.setIfInBounds_toArray, List.set_cons_zero, List.set_cons_succ]
                  refine pi_f1 ?_ rfl rfl rfl rfl ?_ ?_; rotate_left; (focus (intro w' hS'; go_simp; (try with_reducible rfl); done)); try simp only [Act.put, List.setIfInBounds_toArray, List.set_cons_zero, List.set_cons_succ]
                  refine pi_f1 ?_ rfl rfl rfl rfl ?_ ?_; rotate_left; (focus (intro w' hS'; go_simp; (try with_reducible rfl); done)); try simp only [Act.put, List.setIfInBounds_toArray, List.set_cons_zero, List.set_cons_succ]
                  refine pi_f0 ?_ rfl ?_ ?_; rotate_left; (focus (intro w' hS'; go_simp; (try with_reducible rfl); done)); try simp only [Act.put, List.setIfInBounds_toArray, List.set_cons_zero, List.set_cons_succ]
                  refine pi_f0 ?_ rfl ?_ ?_; rotate_left; (focus (intro w' hS'; go_simp; (try with_reducible rfl); done)); try simp only [Act.put, List.setIfInBounds_toArray, List.set_cons_zero, List.set_cons_succ]
                  refine pi_f1 ?_ rfl rfl rfl rfl ?_ ?_; rotate_left; (focus (intro w' hS'; go_simp; (try with_reducible rfl); done)); try simp only [Act.put, List.setIfInBounds_toArray, List.set_cons_zero, List.set_cons_succ]
                  refine pi_f1 ?_ rfl rfl rfl rfl ?_ ?_; rotate_left; (focus (intro w' hS'; go_simp; (try with_reducible rfl); done)); try simp only [Act.put, List.setIfInBounds_toArray, List.set_cons_zero, List.set_cons_succ]
                  refine pi_f1 ?_ rfl rfl rfl rfl ?_ ?_; rotate_left; (focus (intro w' hS'; go_simp; (try with_reducible rfl); done)); try simp only [Act.put, List.setIfInBounds_toArray, List.set_cons_zero, List.set_cons_succ]
                  refine pi_f1 ?_ rfl rfl rfl rfl ?_ ?_; rotate_left; (focus (intro w' hS'; go_simp; (try with_reducible rfl); done)); try simp only [Act.put, List.setIfInBounds_toArray, List.set_cons_zero, List.set_cons_succ]
                  refine pi_f1 ?_ rfl rfl rfl rfl ?_ ?_; rotate_left; (focus (intro w' hS'; go_simp; (try with_reducible rfl); done)); try simp only [Act.put, List.setIfInBounds_toArray, List.set_cons_zero, List.set_cons_succ]
                  refine pi_f1 ?_ rfl rfl rfl rfl ?_ ?_; rotate_left; (focus (intro w' hS'; go_simp; (try with_reducible rfl); done)); try simp only [Act.put, List.setIfInBounds_toArray, List.set_cons_zero, List.set_cons_succ]
                  refine pi_f1 ?_ rfl rfl rfl rfl ?_ ?_; rotate_left; (focus (intro w' hS'; have hS2 : w' = w3.drew := hS'; subst hS2; have q0 := k12.cell 0; have q1' := k12.cell 1; have q2 := k12.cell 2; have q3 := k12.cell 3; have p0 := HRG8.out 0 _ rfl; rw [Nat.add_zero] at p0; have p1 := HRG8.out 1 _ rfl; have p2 := HRG8.out 2 _ rfl; have p3 := HRG8.out 3 _ rfl; have p9 := HC9.out; go_simp; (try with_reducible rfl); done)); try simp only [Act.put, List.setIfInBounds_toArray, List.set_cons_zero, List.set_cons_succ]
                  refine pi_a1 rfl rfl rfl rfl (fun K hK => ?_); go_simp; refine (many_at _ g bm G1.n G1.last G1.many G1.wrong G1.had ((j : Int) + 1) (show GG _ g bm G1 from by rw [hS]; exact h)).mono ?_; rw [HQ2.out]; rintro e w9 ⟨rfl, rfl⟩; refine hK _ _ ⟨?_, ?_⟩; exact hS; clear hK; clear K; try simp only [Act.put, List.setIfInBounds_toArray, List.set_cons_zero, List.set_cons_succ]
                  refine pi_f1 ?_ rfl rfl rfl rfl ?_ ?_; rotate_left; (focus (intro w' hS'; go_simp; (try with_reducible rfl); done)); try simp only [Act.put, List.setIfInBounds_toArray, List.set_cons_zero, List.set_cons_succ]
                  refine pi_f0 ?_ rfl ?_ ?_; rotate_left; (focus (intro w' hS'; go_simp; (try with_reducible rfl); done)); try simp only [Act.put, List.setIfInBounds_toArray, List.set_cons_zero, List.set_cons_succ]
                  refine pi_nil (NoPanic.normal ?_)
                  replace h : GG w3.drew g bm G1 := h
                  replace r5 := own_block (w' := w3.drew) r5 (fun _ _ => rfl)
                  replace R8 := Lib.hid (own_block (w' := w3.drew) R8.out (fun _ _ => rfl))
                  replace R9 := Lib.hid (own_block (w' := w3.drew) R9.out (fun _ _ => rfl))
                  replace k12 : Block w3.drew b12 35 _ := k12
                  replace hall := hall.drew
                  replace hbs : base ≤ w3.drew.heap.size := hbs
                  clear heq hd1 hd3 WJ WQ hS HRG8 HC9 HCASE
                  go_upto_region 28 with (fail)
                  refine wp_region_lit ?_
                  refine wl_v ?_ ?_ ?_; rotate_left; (focus (go_simp; (try with_reducible rfl); done)); try simp only [Act.put, List.setIfInBounds_toArray, List.set_cons_zero, List.set_cons_succ]
                  refine op_loadR _ _ _ _ _ rfl k12 (by kernel_rfl) info28s ?_; try simp only [Act.put, List.setIfInBounds_toArray, List.set_cons_zero, List.set_cons_succ]
                  refine op_lit _ 1 _ 35 (ints [y0, y1, y2, y3]) (by intro wl; kernel_rfl) ?_; intro w8 bl hge hb kl; replace hall := hall.trans (hb.mono hall.size); replace hbs := Nat.le_trans hbs hb.size; replace h := h.ups hb; replace r5 := own_ups r5 hb; replace R8 := Lib.hid (own_ups R8.out hb); replace R9 := Lib.hid (own_ups R9.out hb); clear hb hge; try simp only [Act.put, List.setIfInBounds_toArray, List.set_cons_zero, List.set_cons_succ]
                  refine op_append 23 35 _ _ base (.agg zN) 4 32 _ _ _ (some ⟨bl, 0, none⟩) 1 1 [.int .i64 y0, .int .i64 y1, .int .i64 y2, .int .i64 y3] (by rfl) (by rfl) Try.underlying23 i35 rfl (by omega) r5 rfl (Block.holds kl) (by simp [Value.oneCell']) (by unfold maxLen; omega) (by omega) hbs ?_; intro v7 w7 own7 hg7 hn7 hb7; clear kl; replace h := h.row r5 hg7 gb mb; have p8 := a85.next R8.out hn7; have p9 := a95.next R9.out hn7; replace R8 := Lib.hid (own_row R8.out hg7 a85); replace R9 := Lib.hid (own_row R9.out hg7 a95); clear r5 a85 a95; have r5 := own7; have a85 := p8; have a95 := p9; clear own7 p8 p9; replace hall := hall.trans (hb7.mono g0b); replace hbs := Nat.le_trans hbs hg7.size; clear hg7 hn7 hb7; try simp only [Act.put, List.setIfInBounds_toArray, List.set_cons_zero, List.set_cons_succ]
                  refine wl_v ?_ ?_ ?_; rotate_left; (focus (go_simp; (try with_reducible rfl); done)); try simp only [Act.put, List.setIfInBounds_toArray, List.set_cons_zero, List.set_cons_succ]
                  go_upto_region 24 with (fail)
                  refine wp_region_lit ?_
                  refine wl_v ?_ ?_ ?_; rotate_left; (focus (go_simp; (try with_reducible rfl); done)); try simp only [Act.put, List.setIfInBounds_toArray, List.set_cons_zero, List.set_cons_succ]
                  refine wl_v (.int .i64 ((j : Int) + 1 + 1)) (by go_simp <;> exact IntWalk.i64_in _ (by omega)) ?_; try simp only [Act.put, List.setIfInBounds_toArray, List.set_cons_zero, List.set_cons_succ]
                  refine wl_v ?_ ?_ ?_; rotate_left; (focus (go_simp; (try with_reducible rfl); done)); try simp only [Act.put, List.setIfInBounds_toArray, List.set_cons_zero, List.set_cons_succ]
                  go_wp2_with fail
                  refine ⟨?_, ?_⟩
                  · first
                    | (exact ⟨j + 1, V ++ [(y0, y1, y2, y3)], by omega, by go_num, h, (by rw [List.length_append]; exact own_snoc4 (x := (y0, y1, y2, y3)) r5), R8.out, R9.out, a85, a95, (fun x hx => (List.mem_append.1 hx).elim (hV.out x) (fun hx => by rw [List.mem_singleton.1 hx]; exact ⟨HIN.out, HWF.out⟩)), (by simp; omega), hall, hbs⟩)
                    | ((repeat apply Exists.intro); refine ⟨?_, ?_⟩; rotate_left; (focus (first | exact rfl | (repeat (first | exact rfl | refine ⟨rfl, ?_⟩)))); (exact ⟨j + 1, V ++ [(y0, y1, y2, y3)], by omega, by go_num, h, (by rw [List.length_append]; exact own_snoc4 (x := (y0, y1, y2, y3)) r5), R8.out, R9.out, a85, a95, (fun x hx => (List.mem_append.1 hx).elim (hV.out x) (fun hx => by rw [List.mem_singleton.1 hx]; exact ⟨HIN.out, HWF.out⟩)), (by simp; omega), hall, hbs⟩))
                  · simp [intOf]; omega
              · obtain rfl : j = 16 := by omega
                clear hm hj r8 r9 a85 a95
                go_upto_region 23 with (fail)
                refine wp_region_lit ?_
                refine wl_v ?_ ?_ ?_; rotate_left; (focus (go_simp; (try with_reducible rfl); done)); try simp only [Act.put, List.setIfInBounds_toArray, List.set_cons_zero, List.set_cons_succ]
                refine wl_v (.bool false) (by go_simp <;> omega) ?_; try simp only [Act.put, List.setIfInBounds_toArray, List.set_cons_zero, List.set_cons_succ]
                go_upto_region 29 with (fail)
                refine wp_region_lit ?_
                refine wl_v ?_ ?_ ?_; rotate_left; (focus (go_simp; (try with_reducible rfl); done)); try simp only [Act.put, List.setIfInBounds_toArray, List.set_cons_zero, List.set_cons_succ]
                obtain ⟨A5, c5, e5, h5, _, _⟩ := own_slice r5
                obtain rfl := e5
                clear h5
                go_wp2_with fail
                go_loopw [13] (R4 w g bm base G1 V (.slice A5 V.length c5)) (fun u _ => V.length - (intOf u).toNat)
                case atStart => exact ⟨0, by omega, rfl, h, r5, hall, hbs⟩
                case round =>
                  clear h r5 hall hbs
                  obtain ⟨j, hj, rfl, h, r5, hall, hbs⟩ := hrel
                  by_cases hm : j < V.length
                  · skip
                    obtain ⟨A5', c5', e5, h5, _, _⟩ := own_slice r5
                    injection e5 with e51 e52 e53
                    subst e51 e53
                    obtain ⟨b5, o5, rfl, _⟩ := h5 0 (by simp [IV, nflat_len]; omega)
                    have rg := nflat_range h5 rfl hm
                    have hin := hV.out V[j] (List.getElem_mem _)
                    generalize V[j] = x at *
                    obtain ⟨a0, a1, a2, a3⟩ := x
                    simp only at rg
                    have HRG5 := Lib.hid rg
                    have HIN5 := Lib.hid hin
                    have JV : (j : Int) < (V.length : Int) := by omega
                    clear rg hin h5
                    go_upto_region 30 with (fail)
                    refine wp_region_lit ?_
                    refine wl_v ?_ ?_ ?_; rotate_left; (focus (go_simp; (try with_reducible rfl); done)); try simp only [Act.put, List.setIfInBounds_toArray, List.set_cons_zero, List.set_cons_succ]
                    refine wl_v ?_ ?_ ?_; rotate_left; (focus (go_simp; (try with_reducible rfl); done)); try simp only [Act.put, List.setIfInBounds_toArray, List.set_cons_zero, List.set_cons_succ]
                    refine wl_v ?_ ?_ ?_; rotate_left; (focus (go_simp; (try with_reducible rfl); done)); try simp only [Act.put, List.setIfInBounds_toArray, List.set_cons_zero, List.set_cons_succ]
                    refine wl_v (.bool true) (by go_simp <;> omega) ?_; try simp only [Act.put, List.setIfInBounds_toArray, List.set_cons_zero, List.set_cons_succ]
                    go_upto_region 32 with (fail)
                    refine wp_region_lit ?_
                    refine wl_v ?_ ?_ ?_; rotate_left; (focus (go_simp; (try with_reducible rfl); done)); try simp only [Act.put, List.setIfInBounds_toArray, List.set_cons_zero, List.set_cons_succ]
                    refine wl_v ?_ ?_ ?_; rotate_left; (focus (go_simp; (try with_reducible rfl); done)); try simp only [Act.put, List.setIfInBounds_toArray, List.set_cons_zero, List.set_cons_succ]
                    refine wl_v ?_ ?_ ?_; rotate_left; (focus (go_simp; (try with_reducible rfl); done)); try simp only [Act.put, List.setIfInBounds_toArray, List.set_cons_zero, List.set_cons_succ]
                    refine wl_v ?_ ?_ ?_; rotate_left; (focus (go_simp; (try with_reducible rfl); done)); try simp only [Act.put, List.setIfInBounds_toArray, List.set_cons_zero, List.set_cons_succ]
                    refine op_loadM 35 _ b5 (o5 + j * 4) _ #[.int .i64 a0, .int .i64 a1, .int .i64 a2, .int .i64 a3] rfl (by rfl) HRG5.out (by kernel_rfl) info28s ?_; try simp only [Act.put, List.setIfInBounds_toArray, List.set_cons_zero, List.set_cons_succ]
                    refine wl_call _ _ _ (had_at _ g bm G1.n G1.last G1.many G1.wrong G1.had (a0, a1, a2, a3) HIN5.out.2 h) (by simp only [ntv]; go_simp) ?_; rintro e w9 ⟨rfl, hb⟩; refine ⟨_, rfl, ?_⟩; rw [decide_eq_true HIN5.out.1]; replace hall := hall.trans (hb.mono hall.size); replace hbs := Nat.le_trans hbs hb.size; replace h := h.ups hb; replace r5 := own_ups r5 hb; clear hb; try simp only [Act.put, List.setIfInBounds_toArray, List.set_cons_zero, List.set_cons_succ]
                    refine wl_v ?_ ?_ ?_; rotate_left; (focus (go_simp; (try with_reducible rfl); done)); try simp only [Act.put, List.setIfInBounds_toArray, List.set_cons_zero, List.set_cons_succ]
                    go_upto_region 31 with (fail)
                    refine wp_region_lit ?_
                    refine wl_v ?_ ?_ ?_; rotate_left; (focus (go_simp; (try with_reducible rfl); done)); try simp only [Act.put, List.setIfInBounds_toArray, List.set_cons_zero, List.set_cons_succ]
                    refine wl_v (.int .i64 ((j : Int) + 1)) (by go_simp <;> exact IntWalk.i64_in _ (by omega)) ?_; try simp only [Act.put, List.setIfInBounds_toArray, List.set_cons_zero, List.set_cons_succ]
                    refine wl_v ?_ ?_ ?_; rotate_left; (focus (go_simp; (try with_reducible rfl); done)); try simp only [Act.put, List.setIfInBounds_toArray, List.set_cons_zero, List.set_cons_succ]
                    go_wp2_with fail
                    refine ⟨?_, ?_⟩
                    · first
                      | (exact ⟨j + 1, by omega, by go_num, h, r5, hall, hbs⟩)
                      | ((repeat apply Exists.intro); refine ⟨?_, ?_⟩; rotate_left; (focus (first | exact rfl | (repeat (first | exact rfl | refine ⟨rfl, ?_⟩)))); (exact ⟨j + 1, by omega, by go_num, h, r5, hall, hbs⟩))
                    · simp [intOf]; omega
                  · obtain rfl : j = V.length := by omega
                    go_upto_region 30 with (fail)
                    refine wp_region_lit ?_
                    refine wl_v ?_ ?_ ?_; rotate_left; (focus (go_simp; (try with_reducible rfl); done)); try simp only [Act.put, List.setIfInBounds_toArray, List.set_cons_zero, List.set_cons_succ]
                    refine wl_v ?_ ?_ ?_; rotate_left; (focus (go_simp; (try with_reducible rfl); done)); try simp only [Act.put, List.setIfInBounds_toArray, List.set_cons_zero, List.set_cons_succ]
                    refine wl_v ?_ ?_ ?_; rotate_left; (focus (go_simp; (try with_reducible rfl); done)); try simp only [Act.put, List.setIfInBounds_toArray, List.set_cons_zero, List.set_cons_succ]
                    refine wl_v (.bool false) (by go_simp <;> omega) ?_; try simp only [Act.put, List.setIfInBounds_toArray, List.set_cons_zero, List.set_cons_succ]
                    go_upto_region 10 with (fail)
                    refine wp_region_lit ?_
                    refine wl_v ?_ ?_ ?_; rotate_left; (focus (go_simp; (try with_reducible rfl); done)); try simp only [Act.put, List.setIfInBounds_toArray, List.set_cons_zero, List.set_cons_succ]
                    refine wl_v (.int .i64 ((k : Int) + 1)) (by go_simp <;> exact IntWalk.i64_in _ (by omega)) ?_; try simp only [Act.put, List.setIfInBounds_toArray, List.set_cons_zero, List.set_cons_succ]
                    refine wl_v ?_ ?_ ?_; rotate_left; (focus (go_simp; (try with_reducible rfl); done)); try simp only [Act.put, List.setIfInBounds_toArray, List.set_cons_zero, List.set_cons_succ]
                    go_wp2_with fail
                    refine ⟨?_, ?_⟩
                    · first
                      | (exact ⟨k + 1, G1, V, by omega, by go_num, HOK1.out, h, r5, hV.out, by omega, hall, hbs⟩)
                      | ((repeat apply Exists.intro); refine ⟨?_, ?_⟩; rotate_left; (focus (first | exact rfl | (repeat (first | exact rfl | refine ⟨rfl, ?_⟩)))); (exact ⟨k + 1, G1, V, by omega, by go_num, HOK1.out, h, r5, hV.out, by omega, hall, hbs⟩))
                    · simp [intOf]; omega
          · skip
            go_upto_region 20 with (fail)
            refine wp_region_lit ?_
            refine wl_v ?_ ?_ ?_; rotate_left; (focus (go_simp; (try with_reducible rfl); done)); try simp only [Act.put, List.setIfInBounds_toArray, List.set_cons_zero, List.set_cons_succ]
            refine wl_v ?_ ?_ ?_; rotate_left; (focus (go_simp; (try with_reducible rfl); done)); try simp only [Act.put, List.setIfInBounds_toArray, List.set_cons_zero, List.set_cons_succ]
            refine op_unguard _ _ rfl ?_; refine wl_v ?_ ?_ ?_; rotate_left; (focus (go_simp; (try with_reducible rfl); done)); try simp only [Act.put, List.setIfInBounds_toArray, List.set_cons_zero, List.set_cons_succ]
            refine op_unguard _ _ rfl ?_; refine wl_call _ _ _ (wrong_at _ g bm G1.n G1.last G1.many G1.wrong G1.had h) (by go_simp) ?_; rintro e w9 ⟨rfl, rfl⟩; refine ⟨_, rfl, ?_⟩; rw [Hwr.out rfl]; try simp only [Act.put, List.setIfInBounds_toArray, List.set_cons_zero, List.set_cons_succ]
            refine op_unguard _ _ rfl ?_; refine wl_v ?_ ?_ ?_; rotate_left; (focus (go_simp; (try with_reducible rfl); done)); try simp only [Act.put, List.setIfInBounds_toArray, List.set_cons_zero, List.set_cons_succ]
            refine wl_v ?_ ?_ ?_; rotate_left; (focus (go_simp; (try with_reducible rfl); done)); try simp only [Act.put, List.setIfInBounds_toArray, List.set_cons_zero, List.set_cons_succ]
            go_upto_region 22 with (fail)
            refine wp_region_lit ?_
            refine wl_v ?_ ?_ ?_; rotate_left; (focus (go_simp; (try with_reducible rfl); done)); try simp only [Act.put, List.setIfInBounds_toArray, List.set_cons_zero, List.set_cons_succ]
            go_wp2_with fail
            go_loopw [5, 11] (R3 w g bm base G G1 u8 u9 (16 * k)) (fun _ u _ => 18 - (intOf u).toNat)
            case atStart => exact ⟨0, V, by omega, rfl, h, r5, r8, r9, a85, a95, fun x hx => ⟨ST.out.had x (hV.out x hx).1, (hV.out x hx).2⟩, by omega, hall, hbs⟩
            case round =>
              clear h r5 r8 r9 a85 a95 hall hbs hV hVl
              obtain ⟨j, V, hj, rfl, h, r5, r8, r9, a85, a95, hV, hVl, hall, hbs⟩ := hrel
              replace hV := Lib.hid hV
              by_cases hm : j < 16
              · skip
                obtain ⟨⟨y0, y1, y2, y3⟩, hy⟩ : ∃ y, lastF G1.last ((j : Int) + 1) = y := ⟨_, rfl⟩
                obtain ⟨⟨x0, x1, x2, x3⟩, hx⟩ : ∃ x, lastF G.last ((j : Int) + 1) = x := ⟨_, rfl⟩
                obtain ⟨q, hq⟩ : ∃ q, ci G.many (j + 1) = q := ⟨_, rfl⟩
                obtain ⟨q1, hq1⟩ : ∃ q1, ci G1.many (j + 1) = q1 := ⟨_, rfl⟩
                have hq0 := hok.out.many (j + 1) (by omega)
                have hin := HOK1.out.hadJ j hm
                have hwf := HOK1.out.wfJ j hm
                have hcase := ST.out.here (j + 1) (by omega) (by omega)
                have hl8 := lasts_at G (j := j) (k := 16) hm
                have hl9 := manys_at G (j := j) (k := 16) hm
                have HQ2 := Lib.hid ((manyJ G1.many j hm).trans hq1)
                rw [castJ, hy, hx, hq, hq1] at hcase
                have hq2 : 0 ≤ q1 ∧ q1 ≤ 1 + ((k + 1 : Nat) : Int) := by have := HOK1.out.many (j + 1) (by omega); rw [hq1] at this; exact this
                rw [hx] at hl8
                rw [hq] at hl9 hq0
                rw [hy] at hin hwf
                obtain ⟨A8, c8, e8, h8, _, _⟩ := own_slice r8
                obtain ⟨A9, c9, e9, h9, _, _⟩ := own_slice r9
                have hl8' : j < (lasts G 16).length := by rw [lasts_len]; exact hm
                obtain ⟨b8, o8, rfl, _⟩ := h8 0 (by simp [IV, nflat_len, lasts_len])
                obtain ⟨b9, o9, rfl, _⟩ := h9 0 (by simp [IV, manys_len])
                have rg8 := nflat_range h8 rfl hl8'
                rw [List.getElem?_eq_getElem hl8'] at hl8
                injection hl8 with hl8
                rw [hl8] at rg8
                obtain ⟨b9', o9', e9', c9v⟩ := h9 j (by simp [IV, manys_len, hm])
                injection e9' with e9'
                injection e9' with e91 e92
                subst e91 e92
                rw [List.getElem?_map, hl9] at c9v
                simp only [Option.map_some] at c9v
                have HRG8 := Lib.hid rg8
                have HC9 := Lib.hid c9v
                have HY := Lib.hid hy
                have HIN := Lib.hid hin
                have HWF := Lib.hid hwf
                have HCASE := Lib.hid hcase
                have E8 := Lib.hid e8
                have E9 := Lib.hid e9
                have R8 := Lib.hid r8
                have R9 := Lib.hid r9
                clear hy hx hq hq1 hin hwf hcase hl8 hl9 h8 h9 rg8 c9v r8 r9 hl8'
                obtain rfl := E8.out
                obtain rfl := E9.out
                clear E8 E9
                go_upto_region 23 with (fail)
                refine wp_region_lit ?_
                refine wl_v ?_ ?_ ?_; rotate_left; (focus (go_simp; (try with_reducible rfl); done)); try simp only [Act.put, List.setIfInBounds_toArray, List.set_cons_zero, List.set_cons_succ]
                refine wl_v (.bool true) (by go_simp <;> omega) ?_; try simp only [Act.put, List.setIfInBounds_toArray, List.set_cons_zero, List.set_cons_succ]
                go_upto_region 25 with (fail)
                refine wp_region_lit ?_
                refine wl_v ?_ ?_ ?_; rotate_left; (focus (go_simp; (try with_reducible rfl); done)); try simp only [Act.put, List.setIfInBounds_toArray, List.set_cons_zero, List.set_cons_succ]
                refine wl_v ?_ ?_ ?_; rotate_left; (focus (go_simp; (try with_reducible rfl); done)); try simp only [Act.put, List.setIfInBounds_toArray, List.set_cons_zero, List.set_cons_succ]
                refine wl_call _ _ _ (last_at _ g bm G1.n G1.last G1.many G1.wrong G1.had ((j : Int) + 1) h) (by go_simp) ?_; rintro e w9 ⟨rfl, hb⟩; refine ⟨_, rfl, ?_⟩; rw [HY.out]; simp only [ntv]; replace hall := hall.trans (hb.mono hall.size); replace hbs := Nat.le_trans hbs hb.size; replace h := h.ups hb; replace r5 := own_ups r5 hb; replace R8 := Lib.hid (own_ups R8.out hb); replace R9 := Lib.hid (own_ups R9.out hb); replace HRG8 := Lib.hid (range_ups HRG8.out hb); replace HC9 := Lib.hid (cell_ups HC9.out hb); clear hb; try simp only [Act.put, List.setIfInBounds_toArray, List.set_cons_zero, List.set_cons_succ]
                refine op_new 35 12 _ #[.int .i64 y0, .int .i64 y1, .int .i64 y2, .int .i64 y3] zN info28z info28s rfl (by simp [Value.oneCell']) (by intro p; rfl) (by intro p; rfl) ?_; intro w3 b12 hge hb k12; replace hall := hall.trans (hb.mono hall.size); replace hbs := Nat.le_trans hbs hb.size; replace h := h.ups hb; replace r5 := own_ups r5 hb; replace R8 := Lib.hid (own_ups R8.out hb); replace R9 := Lib.hid (own_ups R9.out hb); replace HRG8 := Lib.hid (range_ups HRG8.out hb); replace HC9 := Lib.hid (cell_ups HC9.out hb); clear hb hge; try simp only [Act.put, List.setIfInBounds_toArray, List.set_cons_zero, List.set_cons_succ]
                replace hcase := HCASE.out
                rcases hcase with ⟨hcs, rfl⟩ | ⟨hcs, hlt1, rfl, _⟩
                · skip
                  simp only [Prod.mk.injEq] at hcs
                  obtain ⟨rfl, rfl, rfl, rfl⟩ := hcs
                  have heq : ∀ w, (Op.equalIn 10000 35 (.agg #[.int .i64 y0, .int .i64 y1, .int .i64 y2, .int .i64 y3]) (.agg #[.int .i64 y0, .int .i64 y1, .int .i64 y2, .int .i64 y3])).run Try.prog w = .ok true w := eqN_same _ _ _ _
                  have hd1 : decide (y1 < y1) = false := by simp
                  have hd2 : (q1 == q1 + 1) = false := by simp; omega
                  have hd3 : decide (q1 < q1) = false := by simp
                  have J16 : (j : Int) < 16 := by omega
                  have WJ : IntKind.i64.wrap (j : Int) = (j : Int) := IntWalk.i64_in _ (by omega)
                  have WQ : IntKind.i64.wrap (q1 + 1) = q1 + 1 := IntWalk.i64_in _ (by omega)
                  go_upto_region 26 with (fail)
                  have hS : Same w3.drew _ := rfl
                  refine region_pi (Same w3.drew) [(0, true), (1, true), (2, true), (3, true), (4, true), (5, true), (6, true), (7, true), (8, true), (9, true), (10, true), (11, true), (12, true), (13, true), (14, true), (15, true), (16, true), (17, true), (18, true), (20, true), (21, true), (22, true), (23, true), (24, true), (25, true), (19, false), (26, true), (27, true), (28, true), (29, true), (30, true), (31, true), (33, true), (34, true), (35, true), (36, true), (37, true), (32, false), (38, true), (39, true)] (by kernel_rfl) (by kernel_rfl) rfl (by kernel_rfl) hS ?_
                  skip
                  refine pi_f0 ?_ rfl ?_ ?_; rotate_left; (focus (intro w' hS'; go_simp; (try with_reducible rfl); done)); try simp only [Act.put, List.setIfInBounds_toArray, List.set_cons_zero, List.set_cons_succ]
                  refine pi_f0 ?_ rfl ?_ ?_; rotate_left; (focus (intro w' hS'; have hS2 : w' = w3.drew := hS'; subst hS2; have q0 := k12.cell 0; have q1' := k12.cell 1; have q2 := k12.cell 2; have q3 := k12.cell 3; have p0 := HRG8.out 0 _ rfl; rw [Nat.add_zero] at p0; have p1 := HRG8.out 1 _ rfl; have p2 := HRG8.out 2 _ rfl; have p3 := HRG8.out 3 _ rfl; have p9 := HC9.out; go_simp; (try with_reducible rfl); done)); try simp only [Act.put, List.setIfInBounds_toArray, List.set_cons_zero, List.set_cons_succ]
                  refine pi_f0 ?_ rfl ?_ ?_; rotate_left; (focus (intro w' hS'; go_simp; (try with_reducible rfl); done)); try simp only [Act.put, List.setIfInBounds_toArray, List.set_cons_zero, List.set_cons_succ]
                  refine pi_f0 ?_ rfl ?_ ?_; rotate_left; (focus (intro w' hS'; go_simp; (try with_reducible rfl); done)); try simp only [Act.put, List.setIfInBounds_toArray, List.set_cons_zero, List.set_cons_succ]
                  refine pi_f0 ?_ rfl ?_ ?_; rotate_left; (focus (intro w' hS'; go_simp; (try with_reducible rfl); done)); try simp only [Act.put, List.setIfInBounds_toArray, List.set_cons_zero, List.set_cons_succ]
                  refine pi_f0 ?_ rfl ?_ ?_; rotate_left; (focus (intro w' hS'; go_simp; (try with_reducible rfl); done)); try simp only [Act.put, List.setIfInBounds_toArray, List.set_cons_zero, List.set_cons_succ]
                  refine pi_f0 ?_ rfl ?_ ?_; rotate_left; (focus (intro w' hS'; go_simp; (try with_reducible rfl); done)); try simp only [Act.put, List.setIfInBounds_toArray, List.set_cons_zero, List.set_cons_succ]
                  refine pi_f0 ?_ rfl ?_ ?_; rotate_left; (focus (intro w' hS'; have hS2 : w' = w3.drew := hS'; subst hS2; have q0 := k12.cell 0; have q1' := k12.cell 1; have q2 := k12.cell 2; have q3 := k12.cell 3; have p0 := HRG8.out 0 _ rfl; rw [Nat.add_zero] at p0; have p1 := HRG8.out 1 _ rfl; have p2 := HRG8.out 2 _ rfl; have p3 := HRG8.out 3 _ rfl; have p9 := HC9.out; go_simp; (try with_reducible rfl); done)); try simp only [Act.put, List.setIfInBounds_toArray, List.set_cons_zero, List.set_cons_succ]
                  refine pi_f0 ?_ rfl ?_ ?_; rotate_left; (focus (intro w' hS'; go_simp; (try with_reducible rfl); done)); try simp only [Act.put, List.setIfInBounds_toArray, List.set_cons_zero, List.set_cons_succ]
                  refine pi_f0 ?_ rfl ?_ ?_; rotate_left; (focus (intro w' hS'; go_simp; (try with_reducible rfl); done)); try simp only [Act.put, List.setIfInBounds_toArray, List.set_cons_zero, List.set_cons_succ]
                  refine pi_f1 ?_ rfl rfl rfl rfl ?_ ?_; rotate_left; (focus (intro w' hS'; have hS2 : w' = w3.drew := hS'; subst hS2; have q0 := k12.cell 0; have q1' := k12.cell 1; have q2 := k12.cell 2; have q3 := k12.cell 3; have p0 := HRG8.out 0 _ rfl; rw [Nat.add_zero] at p0; have p1 := HRG8.out 1 _ rfl; have p2 := HRG8.out 2 _ rfl; have p3 := HRG8.out 3 _ rfl; have p9 := HC9.out; go_simp; (try with_reducible rfl); done)); try simp only [Act.put, List.setIfInBounds_toArray, List.set_cons_zero, List.set_cons_succ]
                  refine pi_f1 ?_ rfl rfl rfl rfl ?_ ?_; rotate_left; (focus (intro w' hS'; go_simp; (try with_reducible rfl); done)); try simp only [Act.put, List.setIfInBounds_toArray, List.set_cons_zero, List.set_cons_succ]
                  refine pi_f1 ?_ rfl rfl rfl rfl ?_ ?_; rotate_left; (focus (intro w' hS'; go_simp; (try with_reducible rfl); done)); try simp only [Act.put, List.setIfInBounds_toArray, List.set_cons_zero, List.set_cons_succ]
                  refine pi_f1 ?_ rfl rfl rfl rfl ?_ ?_; rotate_left; (focus (intro w' hS'; go_simp; (try with_reducible rfl); done)); try simp only [Act.put, List.setIfInBounds_toArray, List.set_cons_zero, List.set_cons_succ]
                  refine pi_f1 ?_ rfl rfl rfl rfl ?_ ?_; rotate_left; (focus (intro w' hS'; go_simp; (try with_reducible rfl); done)); try simp only [Act.put, List.setIfInBounds_toArray, List.set_cons_zero, List.set_cons_succ]
                  refine pi_f1 ?_ rfl rfl rfl rfl ?_ ?_; rotate_left; (focus (intro w' hS'; have hS2 : w' = w3.drew := hS'; subst hS2; have q0 := k12.cell 0; have q1' := k12.cell 1; have q2 := k12.cell 2; have q3 := k12.cell 3; have p0 := HRG8.out 0 _ rfl; rw [Nat.add_zero] at p0; have p1 := HRG8.out 1 _ rfl; have p2 := HRG8.out 2 _ rfl; have p3 := HRG8.out 3 _ rfl; have p9 := HC9.out; go_simp; (try with_reducible rfl); done)); try simp only [Act.put, List.setIfInBounds_toArray, List.set_cons_zero, List.set_cons_succ]
                  refine pi_f1 ?_ rfl rfl rfl rfl ?_ ?_; rotate_left; (focus (intro w' hS'; go_simp; (try with_reducible rfl); done)); try simp only [Act.put, List.setIfInBounds_toArray, List.set_cons_zero, List.set_cons_succ]
                  refine pi_f1 ?_ rfl rfl rfl rfl ?_ ?_; rotate_left; (focus (intro w' hS'; go_simp; (try with_reducible rfl); done)); try simp only [Act.put, List.setIfInBounds_toArray, List.set_cons_zero, List.set_cons_succ]
                  refine pi_f1 ?_ rfl rfl rfl rfl ?_ ?_; rotate_left; (focus (intro w' hS'; go_simp; (try with_reducible rfl); done)); try simp only [Act.put, List.setIfInBounds_toArray, List.set_cons_zero, List.set_cons_succ]
                  refine pi_f1 ?_ rfl rfl rfl rfl ?_ ?_; rotate_left; (focus (intro w' hS'; go_simp; (try with_reducible rfl); done)); try simp only [Act.put, List.setIfInBounds_toArray, List.set_cons_zero, List.set_cons_succ]
                  refine pi_f1 ?_ rfl rfl rfl rfl ?_ ?_; rotate_left; (focus (intro w' hS'; go_simp; (try with_reducible rfl); done)); try simp only [Act.put, List.setIfInBounds_toArray, List.set_cons_zero, List.set_cons_succ]
                  refine pi_f1 ?_ rfl rfl rfl rfl ?_ ?_; rotate_left; (focus (intro w' hS'; go_simp; (try with_reducible rfl); done)); try simp only [Act.put, List.setIfInBounds_toArray, List.set_cons_zero, List.set_cons_succ]
                  refine pi_f1 ?_ rfl rfl rfl rfl ?_ ?_; rotate_left; (focus (intro w' hS'; go_simp; (try with_reducible rfl); done)); try simp only [Act.put, List.setIfInBounds_toArray, List.set_cons_zero, List.set_cons_succ]
                  refine pi_f1 ?_ rfl rfl rfl rfl ?_ ?_; rotate_left; (focus (intro w' hS'; have hS2 : w' = w3.drew := hS'; subst hS2; have q0 := k12.cell 0; have q1' := k12.cell 1; have q2 := k12.cell 2; have q3 := k12.cell 3; have p0 := HRG8.out 0 _ rfl; rw [Nat.add_zero] at p0; have p1 := HRG8.out 1 _ rfl; have p2 := HRG8.out 2 _ rfl; have p3 := HRG8.out 3 _ rfl; have p9 := HC9.out; go_simp; (try with_reducible rfl); done)); try simp only [Act.put, List.setIfInBounds_toArray, List.set_cons_zero, List.set_cons_succ]
                  refine pi_f1 ?_ rfl rfl rfl rfl ?_ ?_; rotate_left; (focus (intro w' hS'; go_simp; (try with_reducible rfl); done)); try simp only [Act.put, List.setIfInBounds_toArray, List.set_cons_zero, List.set_cons_succ]
                  refine pi_a1 rfl rfl rfl rfl (fun K hK => ?_); go_simp; refine (many_at _ g bm G1.n G1.last G1.many G1.wrong G1.had ((j : Int) + 1) (show GG _ g bm G1 from by rw [hS]; exact h)).mono ?_; rw [HQ2.out]; rintro e w9 ⟨rfl, rfl⟩; refine hK _ _ ⟨?_, ?_⟩; exact hS; clear hK; clear K; try simp only [Act.put, List.setIfInBounds_toArray, List.set_cons_zero, List.set_cons_succ]
                  refine pi_f1 ?_ rfl rfl rfl rfl ?_ ?_; rotate_left; (focus (intro w' hS'; go_simp; (try with_reducible rfl); done)); try simp only [Act.put, List.setIfInBounds_toArray, List.set_cons_zero, List.set_cons_succ]
                  refine pi_f1 ?_ rfl rfl rfl rfl ?_ ?_; rotate_left; (focus (intro w' hS'; go_simp; (try with_reducible rfl); done)); try simp only [Act.put, List.setIfInBounds_toArray, List.set_cons_zero, List.set_cons_succ]
                  refine pi_f0 ?_ rfl ?_ ?_; rotate_left; (focus (intro w' hS'; go_simp; (try with_reducible rfl); done)); try simp only [Act.put, List.setIfInBounds_toArray, List.set_cons_zero, List.set_cons_succ]
                  refine pi_f0 ?_ rfl ?_ ?_; rotate_left; (focus (intro w' hS'; go_simp; (try with_reducible rfl); done)); try simp only [Act.put, List.setIfInBounds_toArray, List.set_cons_zero, List.set_cons_succ]
                  refine pi_f1 ?_ rfl rfl rfl rfl ?_ ?_; rotate_left; (focus (intro w' hS'; go_simp; (try with_reducible rfl); done)); try simp only [Act.put, List.setIfInBounds_toArray, List.set_cons_zero, List.set_cons_succ]
                  refine pi_f1 ?_ rfl rfl rfl rfl ?_ ?_; rotate_left; (focus (intro w' hS'; go_simp; (try with_reducible rfl); done)); try simp only [Act.put, List.setIfInBounds_toArray, List.set_cons_zero, List.set_cons_succ]
                  refine pi_f1 ?_ rfl rfl rfl rfl ?_ ?_; rotate_left; (focus (intro w' hS'; go_simp; (try with_reducible rfl); done)); try simp only [Act.put, List.setIfInBounds_toArray, List.set_cons_zero, List.set_cons_succ]
                  refine pi_f1 ?_ rfl rfl rfl rfl ?_ ?_; rotate_left; (focus (intro w' hS'; go_simp; (try with_reducible rfl); done)); try simp only [Act.put, List.setIfInBounds_toArray, List.set_cons_zero, List.set_cons_succ]
                  refine pi_f1 ?_ rfl rfl rfl rfl ?_ ?_; rotate_left; (focus (intro w' hS'; go_simp; (try with_reducible rfl); done)); try simp only [Act.put, List.setIfInBounds_toArray, List.set_cons_zero, List.set_cons_succ]
                  refine pi_f1 ?_ rfl rfl rfl rfl ?_ ?_; rotate_left; (focus (intro w' hS'; go_simp; (try with_reducible rfl); done)); try simp only [Act.put, List.setIfInBounds_toArray, List.set_cons_zero, List.set_cons_succ]
                  refine pi_f1 ?_ rfl rfl rfl rfl ?_ ?_; rotate_left; (focus (intro w' hS'; have hS2 : w' = w3.drew := hS'; subst hS2; have q0 := k12.cell 0; have q1' := k12.cell 1; have q2 := k12.cell 2; have q3 := k12.cell 3; have p0 := HRG8.out 0 _ rfl; rw [Nat.add_zero] at p0; have p1 := HRG8.out 1 _ rfl; have p2 := HRG8.out 2 _ rfl; have p3 := HRG8.out 3 _ rfl; have p9 := HC9.out; go_simp; (try with_reducible rfl); done)); try simp only [Act.put, List.setIfInBounds_toArray, List.set_cons_zero, List.set_cons_succ]
                  refine pi_a1 rfl rfl rfl rfl (fun K hK => ?_); go_simp; refine (many_at _ g bm G1.n G1.last G1.many G1.wrong G1.had ((j : Int) + 1) (show GG _ g bm G1 from by rw [hS]; exact h)).mono ?_; rw [HQ2.out]; rintro e w9 ⟨rfl, rfl⟩; refine hK _ _ ⟨?_, ?_⟩; exact hS; clear hK; clear K; try simp only [Act.put, List.setIfInBounds_toArray, List.set_cons_zero, List.set_cons_succ]
                  refine pi_f1 ?_ rfl rfl rfl rfl ?_ ?_; rotate_left; (focus (intro w' hS'; go_simp; (try with_reducible rfl); done)); try simp only [Act.put, List.setIfInBounds_toArray, List.set_cons_zero, List.set_cons_succ]
                  refine pi_f0 ?_ rfl ?_ ?_; rotate_left; (focus (intro w' hS'; go_simp; (try with_reducible rfl); done)); try simp only [Act.put, List.setIfInBounds_toArray, List.set_cons_zero, List.set_cons_succ]
                  refine pi_nil (NoPanic.normal ?_)
                  replace h : GG w3.drew g bm G1 := h
                  replace r5 := own_block (w' := w3.drew) r5 (fun _ _ => rfl)
                  replace R8 := Lib.hid (own_block (w' := w3.drew) R8.out (fun _ _ => rfl))
                  replace R9 := Lib.hid (own_block (w' := w3.drew) R9.out (fun _ _ => rfl))
                  replace k12 : Block w3.drew b12 35 _ := k12
                  replace hall := hall.drew
                  replace hbs : base ≤ w3.drew.heap.size := hbs
                  clear heq hd1 hd3 WJ WQ hS HRG8 HC9 HCASE
                  go_upto_region 28 with (fail)
                  refine wp_region_lit ?_
                  refine wl_v ?_ ?_ ?_; rotate_left; (focus (go_simp; (try with_reducible rfl); done)); try simp only [Act.put, List.setIfInBounds_toArray, List.set_cons_zero, List.set_cons_succ]
                  refine op_loadR _ _ _ _ _ rfl k12 (by kernel_rfl) info28s ?_; try simp only [Act.put, List.setIfInBounds_toArray, List.set_cons_zero, List.set_cons_succ]
                  refine op_lit _ 1 _ 35 (ints [y0, y1, y2, y3]) (by intro wl; kernel_rfl) ?_; intro w8 bl hge hb kl; replace hall := hall.trans (hb.mono hall.size); replace hbs := Nat.le_trans hbs hb.size; replace h := h.ups hb; replace r5 := own_ups r5 hb; replace R8 := Lib.hid (own_ups R8.out hb); replace R9 := Lib.hid (own_ups R9.out hb); clear hb hge; try simp only [Act.put, List.setIfInBounds_toArray, List.set_cons_zero, List.set_cons_succ]
                  refine op_append 23 35 _ _ base (.agg zN) 4 32 _ _ _ (some ⟨bl, 0, none⟩) 1 1 [.int .i64 y0, .int .i64 y1, .int .i64 y2, .int .i64 y3] (by rfl) (by rfl) Try.underlying23 i35 rfl (by omega) r5 rfl (Block.holds kl) (by simp [Value.oneCell']) (by unfold maxLen; omega) (by omega) hbs ?_; intro v7 w7 own7 hg7 hn7 hb7; clear kl; replace h := h.row r5 hg7 gb mb; have p8 := a85.next R8.out hn7; have p9 := a95.next R9.out hn7; replace R8 := Lib.hid (own_row R8.out hg7 a85); replace R9 := Lib.hid (own_row R9.out hg7 a95); clear r5 a85 a95; have r5 := own7; have a85 := p8; have a95 := p9; clear own7 p8 p9; replace hall := hall.trans (hb7.mono g0b); replace hbs := Nat.le_trans hbs hg7.size; clear hg7 hn7 hb7; try simp only [Act.put, List.setIfInBounds_toArray, List.set_cons_zero, List.set_cons_succ]
                  refine wl_v ?_ ?_ ?_; rotate_left; (focus (go_simp; (try with_reducible rfl); done)); try simp only [Act.put, List.setIfInBounds_toArray, List.set_cons_zero, List.set_cons_succ]
                  go_upto_region 24 with (fail)
                  refine wp_region_lit ?_
                  refine wl_v ?_ ?_ ?_; rotate_left; (focus (go_simp; (try with_reducible rfl); done)); try simp only [Act.put, List.setIfInBounds_toArray, List.set_cons_zero, List.set_cons_succ]
                  refine wl_v (.int .i64 ((j : Int) + 1 + 1)) (by go_simp <;> exact IntWalk.i64_in _ (by omega)) ?_; try simp only [Act.put, List.setIfInBounds_toArray, List.set_cons_zero, List.set_cons_succ]
                  refine wl_v ?_ ?_ ?_; rotate_left; (focus (go_simp; (try with_reducible rfl); done)); try simp only [Act.put, List.setIfInBounds_toArray, List.set_cons_zero, List.set_cons_succ]
                  go_wp2_with fail
                  refine ⟨?_, ?_⟩
                  · first
                    | (exact ⟨j + 1, V ++ [(y0, y1, y2, y3)], by omega, by go_num, h, (by rw [List.length_append]; exact own_snoc4 (x := (y0, y1, y2, y3)) r5), R8.out, R9.out, a85, a95, (fun x hx => (List.mem_append.1 hx).elim (hV.out x) (fun hx => by rw [List.mem_singleton.1 hx]; exact ⟨HIN.out, HWF.out⟩)), (by simp; omega), hall, hbs⟩)
                    | ((repeat apply Exists.intro); refine ⟨?_, ?_⟩; rotate_left; (focus (first | exact rfl | (repeat (first | exact rfl | refine ⟨rfl, ?_⟩)))); (exact ⟨j + 1, V ++ [(y0, y1, y2, y3)], by omega, by go_num, h, (by rw [List.length_append]; exact own_snoc4 (x := (y0, y1, y2, y3)) r5), R8.out, R9.out, a85, a95, (fun x hx => (List.mem_append.1 hx).elim (hV.out x) (fun hx => by rw [List.mem_singleton.1 hx]; exact ⟨HIN.out, HWF.out⟩)), (by simp; omega), hall, hbs⟩))
                  · simp [intOf]; omega
                · skip
                  rw [← hcs] at hlt1
                  simp only at hlt1
                  have heq : ∀ w, (Op.equalIn 10000 35 (.agg #[.int .i64 y0, .int .i64 y1, .int .i64 y2, .int .i64 y3]) (.agg #[.int .i64 x0, .int .i64 x1, .int .i64 x2, .int .i64 x3])).run Try.prog w = .ok false w := eqN_lt hlt1
                  have hd1 : decide (y1 < x1) = false := by simp; omega
                  have hd3 : decide (q + 1 < q) = false := by simp; omega
                  have J16 : (j : Int) < 16 := by omega
                  have WJ : IntKind.i64.wrap (j : Int) = (j : Int) := IntWalk.i64_in _ (by omega)
                  have WQ : IntKind.i64.wrap (q + 1) = q + 1 := IntWalk.i64_in _ (by omega)
                  go_upto_region 26 with (fail)
                  have hS : Same w3.drew _ := rfl
                  refine region_pi (Same w3.drew) [(0, true), (1, true), (2, true), (3, true), (4, true), (5, true), (6, true), (7, true), (8, true), (9, true), (10, true), (11, true), (12, true), (13, true), (14, true), (15, true), (16, true), (17, true), (18, true), (20, true), (21, true), (22, true), (23, true), (24, true), (25, true), (19, false), (26, true), (27, true), (28, true), (29, true), (30, true), (31, true), (33, true), (34, true), (35, true), (36, true), (37, true), (32, false), (38, true), (39, true)] (by kernel_rfl) (by kernel_rfl) rfl (by kernel_rfl) hS ?_
                  skip
                  refine pi_f0 ?_ rfl ?_ ?_; rotate_left; (focus (intro w' hS'; go_simp; (try with_reducible rfl); done)); try simp only [Act.put, List.setIfInBounds_toArray, List.set_cons_zero, List.set_cons_succ]
                  refine pi_f0 ?_ rfl ?_ ?_; rotate_left; (focus (intro w' hS'; have hS2 : w' = w3.drew := hS'; subst hS2; have q0 := k12.cell 0; have q1' := k12.cell 1; have q2 := k12.cell 2; have q3 := k12.cell 3; have p0 := HRG8.out 0 _ rfl; rw [Nat.add_zero] at p0; have p1 := HRG8.out 1 _ rfl; have p2 := HRG8.out 2 _ rfl; have p3 := HRG8.out 3 _ rfl; have p9 := HC9.out; go_simp; (try with_reducible rfl); done)); try simp only [Act.put, List.setIfInBounds_toArray, List.set_cons_zero, List.set_cons_succ]
                  refine pi_f0 ?_ rfl ?_ ?_; rotate_left; (focus (intro w' hS'; go_simp; (try with_reducible rfl); done)); try simp only [Act.put, List.setIfInBounds_toArray, List.set_cons_zero, List.set_cons_succ]
                  refine pi_f0 ?_ rfl ?_ ?_; rotate_left; (focus (intro w' hS'; go_simp; (try with_reducible rfl); done)); try simp only [Act.put, List.setIfInBounds_toArray, List.set_cons_zero, List.set_cons_succ]
                  refine pi_f0 ?_ rfl ?_ ?_; rotate_left; (focus (intro w' hS'; go_simp; (try with_reducible rfl); done)); try simp only [Act.put, List.setIfInBounds_toArray, List.set_cons_zero, List.set_cons_succ]
                  refine pi_f0 ?_ rfl ?_ ?_; rotate_left; (focus (intro w' hS'; go_simp; (try with_reducible rfl); done)); try simp only [Act.put, List.setIfInBounds_toArray, List.set_cons_zero, List.set_cons_succ]
                  refine pi_f0 ?_ rfl ?_ ?_; rotate_left; (focus (intro w' hS'; go_simp; (try with_reducible rfl); done)); try simp only [Act.put, List.setIfInBounds_toArray, List.set_cons_zero, List.set_cons_succ]
                  refine pi_f0 ?_ rfl ?_ ?_; rotate_left; (focus (intro w' hS'; have hS2 : w' = w3.drew := hS'; subst hS2; have q0 := k12.cell 0; have q1' := k12.cell 1; have q2 := k12.cell 2; have q3 := k12.cell 3; have p0 := HRG8.out 0 _ rfl; rw [Nat.add_zero] at p0; have p1 := HRG8.out 1 _ rfl; have p2 := HRG8.out 2 _ rfl; have p3 := HRG8.out 3 _ rfl; have p9 := HC9.out; go_simp; (try with_reducible rfl); done)); try simp only [Act.put, List.setIfInBounds_toArray, List.set_cons_zero, List.set_cons_succ]
                  refine pi_f0 ?_ rfl ?_ ?_; rotate_left; (focus (intro w' hS'; go_simp; (try with_reducible rfl); done)); try simp only [Act.put, List.setIfInBounds_toArray, List.set_cons_zero, List.set_cons_succ]
                  refine pi_f0 ?_ rfl ?_ ?_; rotate_left; (focus (intro w' hS'; go_simp; (try with_reducible rfl); done)); try simp only [Act.put, List.setIfInBounds_toArray, List.set_cons_zero, List.set_cons_succ]
                  refine pi_f1 ?_ rfl rfl rfl rfl ?_ ?_; rotate_left; (focus (intro w' hS'; have hS2 : w' = w3.drew := hS'; subst hS2; have q0 := k12.cell 0; have q1' := k12.cell 1; have q2 := k12.cell 2; have q3 := k12.cell 3; have p0 := HRG8.out 0 _ rfl; rw [Nat.add_zero] at p0; have p1 := HRG8.out 1 _ rfl; have p2 := HRG8.out 2 _ rfl; have p3 := HRG8.out 3 _ rfl; have p9 := HC9.out; go_simp; (try with_reducible rfl); done)); try simp only [Act.put, List.setIfInBounds_toArray, List.set_cons_zero, List.set_cons_succ]
                  refine pi_f1 ?_ rfl rfl rfl rfl ?_ ?_; rotate_left; (focus (intro w' hS'; go_simp; (try with_reducible rfl); done)); try simp only [Act.put, List.setIfInBounds_toArray, List.set_cons_zero, List.set_cons_succ]
                  refine pi_f1 ?_ rfl rfl rfl rfl ?_ ?_; rotate_left; (focus (intro w' hS'; go_simp; (try with_reducible rfl); done)); try simp only [Act.put, List.setIfInBounds_toArray, List.set_cons_zero, List.set_cons_succ]
                  refine pi_f1 ?_ rfl rfl rfl rfl ?_ ?_; rotate_left; (focus (intro w' hS'; go_simp; (try with_reducible rfl); done)); try simp only [Act.put, List.setIfInBounds_toArray, List.set_cons_zero, List.set_cons_succ]
                  refine pi_f1 ?_ rfl rfl rfl rfl ?_ ?_; rotate_left; (focus (intro w' hS'; go_simp; (try with_reducible rfl); done)); try simp only [Act.put, List.setIfInBounds_toArray, List.set_cons_zero, List.set_cons_succ]
                  refine pi_f1 ?_ rfl rfl rfl rfl ?_ ?_; rotate_left; (focus (intro w' hS'; have hS2 : w' = w3.drew := hS'; subst hS2; have q0 := k12.cell 0; have q1' := k12.cell 1; have q2 := k12.cell 2; have q3 := k12.cell 3; have p0 := HRG8.out 0 _ rfl; rw [Nat.add_zero] at p0; have p1 := HRG8.out 1 _ rfl; have p2 := HRG8.out 2 _ rfl; have p3 := HRG8.out 3 _ rfl; have p9 := HC9.out; go_simp; (try with_reducible rfl); done)); try simp only [Act.put, List.setIfInBounds_toArray, List.set_cons_zero, List.set_cons_succ]
                  refine pi_f1 ?_ rfl rfl rfl rfl ?_ ?_; rotate_left; (focus (intro w' hS'; go_simp; (try with_reducible rfl); done)); try simp only [Act.put, List.setIfInBounds_toArray, List.set_cons_zero, List.set_cons_succ]
                  refine pi_f1 ?_ rfl rfl rfl rfl ?_ ?_; rotate_left; (focus (intro w' hS'; go_simp; (try with_reducible rfl); done)); try simp only [Act.put, List.setIfInBounds_toArray, List.set_cons_zero, List.set_cons_succ]
                  refine pi_f1 ?_ rfl rfl rfl rfl ?_ ?_; rotate_left; (focus (intro w' hS'; go_simp; (try with_reducible rfl); done)); try simp only [Act.put, List.setIfInBounds_toArray, List.set_cons_zero, List.set_cons_succ]
                  refine pi_f1 ?_ rfl rfl rfl rfl ?_ ?_; rotate_left; (focus (intro w' hS'; go_simp; (try with_reducible rfl); done)); try simp only [Act.put, List.setIfInBounds_toArray, List.set_cons_zero, List.set_cons_succ]
                  refine pi_f1 ?_ rfl rfl rfl rfl ?_ ?_; rotate_left; (focus (intro w' hS'; go_simp; (try with_reducible rfl); done)); try simp only [Act.put, List.setIfInBounds_toArray, List.set_cons_zero, List.set_cons_succ]
                  refine pi_f1 ?_ rfl rfl rfl rfl ?_ ?_; rotate_left; (focus (intro w' hS'; go_simp; (try with_reducible rfl); done)); try simp only [Act.put, List.setIfInBounds_toArray, List.set_cons_zero, List.set_cons_succ]
                  refine pi_f1 ?_ rfl rfl rfl rfl ?_ ?_; rotate_left; (focus (intro w' hS'; go_simp; (try with_reducible rfl); done)); try simp only [Act.put, List.setIfInBounds_toArray, List.set_cons_zero, List.set_cons_succ]
                  refine pi_f1 ?_ rfl rfl rfl rfl ?_ ?_; rotate_left; (focus (intro w' hS'; have hS2 : w' = w3.drew := hS'; subst hS2; have q0 := k12.cell 0; have q1' := k12.cell 1; have q2 := k12.cell 2; have q3 := k12.cell 3; have p0 := HRG8.out 0 _ rfl; rw [Nat.add_zero] at p0; have p1 := HRG8.out 1 _ rfl; have p2 := HRG8.out 2 _ rfl; have p3 := HRG8.out 3 _ rfl; have p9 := HC9.out; go_simp; (try with_reducible rfl); done)); try simp only [Act.put, List.setIfInBounds_toArray, List.set_cons_zero, List.set_cons_succ]
                  refine pi_f1 ?_ rfl rfl rfl rfl ?_ ?_; rotate_left; (focus (intro w' hS'; go_simp; (try with_reducible rfl); done)); try simp only [Act.put, List.setIfInBounds_toArray, List.set_cons_zero, List.set_cons_succ]
                  refine pi_a1 rfl rfl rfl rfl (fun K hK => ?_); go_simp; refine (many_at _ g bm G1.n G1.last G1.many G1.wrong G1.had ((j : Int) + 1) (show GG _ g bm G1 from by rw [hS]; exact h)).mono ?_; rw [HQ2.out]; rintro e w9 ⟨rfl, rfl⟩; refine hK _ _ ⟨?_, ?_⟩; exact hS; clear hK; clear K; try simp only [Act.put, List.setIfInBounds_toArray, List.set_cons_zero, List.set_cons_succ]
                  refine pi_f1 ?_ rfl rfl rfl rfl ?_ ?_; rotate_left; (focus (intro w' hS'; go_simp; (try with_reducible rfl); done)); try simp only [Act.put, List.setIfInBounds_toArray, List.set_cons_zero, List.set_cons_succ]
                  refine pi_f1 ?_ rfl rfl rfl rfl ?_ ?_; rotate_left; (focus (intro w' hS'; go_simp; (try with_reducible rfl); done)); try simp only [Act.put, List.setIfInBounds_toArray, List.set_cons_zero, List.set_cons_succ]
                  refine pi_f0 ?_ rfl ?_ ?_; rotate_left; (focus (intro w' hS'; go_simp; (try with_reducible rfl); done)); try simp only [Act.put, List.setIfInBounds_toArray, List.set_cons_zero, List.set_cons_succ]
                  refine pi_f0 ?_ rfl ?_ ?_; rotate_left; (focus (intro w' hS'; go_simp; (try with_reducible rfl); done)); try simp only [Act.put, List.setIfInBounds_toArray, List.set_cons_zero, List.set_cons_succ]
                  refine pi_f1 ?_ rfl rfl rfl rfl ?_ ?_; rotate_left; (focus (intro w' hS'; go_simp; (try with_reducible rfl); done)); try simp only [Act.put, List.setIfInBounds_toArray, List.set_cons_zero, List.set_cons_succ]
                  refine pi_f1 ?_ rfl rfl rfl rfl ?_ ?_; rotate_left; (focus (intro w' hS'; go_simp; (try with_reducible rfl); done)); try simp only [Act.put, List.setIfInBounds_toArray, List.set_cons_zero, List.set_cons_succ]
                  refine pi_f1 ?_ rfl rfl rfl rfl ?_ ?_; rotate_left; (focus (intro w' hS'; go_simp; (try with_reducible rfl); done)); try simp only [Act.put, List.setIfInBounds_toArray, List.set_cons_zero, List.set_cons_succ]
                  refine pi_f1 ?_ rfl rfl rfl rfl ?_ ?_; rotate_left; (focus (intro w' hS'; go_simp; (try with_reducible rfl); done)); try simp only [Act.put, List.setIfInBounds_toArray, List.set_cons_zero, List.set_cons_succ]
                  refine pi_f1 ?_ rfl rfl rfl rfl ?_ ?_; rotate_left; (focus (intro w' hS'; go_simp; (try with_reducible rfl); done)); try simp only [Act.put, List.setIfInBounds_toArray, List.set_cons_zero, List.set_cons_succ]
                  refine pi_f1 ?_ rfl rfl rfl rfl ?_ ?_; rotate_left; (focus (intro w' hS'; go_simp; (try with_reducible rfl); done)); try simp only [Act.put, List.setIfInBounds_toArray, List.set_cons_zero, List.set_cons_succ]
                  refine pi_f1 ?_ rfl rfl rfl rfl ?_ ?_; rotate_left; (focus (intro w' hS'; have hS2 : w' = w3.drew := hS'; subst hS2; have q0 := k12.cell 0; have q1' := k12.cell 1; have q2 := k12.cell 2; have q3 := k12.cell 3; have p0 := HRG8.out 0 _ rfl; rw [Nat.add_zero] at p0; have p1 := HRG8.out 1 _ rfl; have p2 := HRG8.out 2 _ rfl; have p3 := HRG8.out 3 _ rfl; have p9 := HC9.out; go_simp; (try with_reducible rfl); done)); try simp only [Act.put, List.setIfInBounds_toArray, List.set_cons_zero, List.set_cons_succ]
                  refine pi_a1 rfl rfl rfl rfl (fun K hK => ?_); go_simp; refine (many_at _ g bm G1.n G1.last G1.many G1.wrong G1.had ((j : Int) + 1) (show GG _ g bm G1 from by rw [hS]; exact h)).mono ?_; rw [HQ2.out]; rintro e w9 ⟨rfl, rfl⟩; refine hK _ _ ⟨?_, ?_⟩; exact hS; clear hK; clear K; try simp only [Act.put, List.setIfInBounds_toArray, List.set_cons_zero, List.set_cons_succ]
                  refine pi_f1 ?_ rfl rfl rfl rfl ?_ ?_; rotate_left; (focus (intro w' hS'; go_simp; (try with_reducible rfl); done)); try simp only [Act.put, List.setIfInBounds_toArray, List.set_cons_zero, List.set_cons_succ]
                  refine pi_f0 ?_ rfl ?_ ?_; rotate_left; (focus (intro w' hS'; go_simp; (try with_reducible rfl); done)); try simp only [Act.put, List.setIfInBounds_toArray, List.set_cons_zero, List.set_cons_succ]
                  refine pi_nil (NoPanic.normal ?_)
                  replace h : GG w3.drew g bm G1 := h
                  replace r5 := own_block (w' := w3.drew) r5 (fun _ _ => rfl)
                  replace R8 := Lib.hid (own_block (w' := w3.drew) R8.out (fun _ _ => rfl))
                  replace R9 := Lib.hid (own_block (w' := w3.drew) R9.out (fun _ _ => rfl))
                  replace k12 : Block w3.drew b12 35 _ := k12
                  replace hall := hall.drew
                  replace hbs : base ≤ w3.drew.heap.size := hbs
                  clear heq hd1 hd3 WJ WQ hS HRG8 HC9 HCASE
                  go_upto_region 28 with (fail)
                  refine wp_region_lit ?_
                  refine wl_v ?_ ?_ ?_; rotate_left; (focus (go_simp; (try with_reducible rfl); done)); try simp only [Act.put, List.setIfInBounds_toArray, List.set_cons_zero, List.set_cons_succ]
                  refine op_loadR _ _ _ _ _ rfl k12 (by kernel_rfl) info28s ?_; try simp only [Act.put, List.setIfInBounds_toArray, List.set_cons_zero, List.set_cons_succ]
                  refine op_lit _ 1 _ 35 (ints [y0, y1, y2, y3]) (by intro wl; kernel_rfl) ?_; intro w8 bl hge hb kl; replace hall := hall.trans (hb.mono hall.size); replace hbs := Nat.le_trans hbs hb.size; replace h := h.ups hb; replace r5 := own_ups r5 hb; replace R8 := Lib.hid (own_ups R8.out hb); replace R9 := Lib.hid (own_ups R9.out hb); clear hb hge; try simp only [Act.put, List.setIfInBounds_toArray, List.set_cons_zero, List.set_cons_succ]
                  refine op_append 23 35 _ _ base (.agg zN) 4 32 _ _ _ (some ⟨bl, 0, none⟩) 1 1 [.int .i64 y0, .int .i64 y1, .int .i64 y2, .int .i64 y3] (by rfl) (by rfl) Try.underlying23 i35 rfl (by omega) r5 rfl (Block.holds kl) (by simp [Value.oneCell']) (by unfold maxLen; omega) (by omega) hbs ?_; intro v7 w7 own7 hg7 hn7 hb7; clear kl; replace h := h.row r5 hg7 gb mb; have p8 := a85.next R8.out hn7; have p9 := a95.next R9.out hn7; replace R8 := Lib.hid (own_row R8.out hg7 a85); replace R9 := Lib.hid (own_row R9.out hg7 a95); clear r5 a85 a95; have r5 := own7; have a85 := p8; have a95 := p9; clear own7 p8 p9; replace hall := hall.trans (hb7.mono g0b); replace hbs := Nat.le_trans hbs hg7.size; clear hg7 hn7 hb7; try simp only [Act.put, List.setIfInBounds_toArray, List.set_cons_zero, List.set_cons_succ]
                  refine wl_v ?_ ?_ ?_; rotate_left; (focus (go_simp; (try with_reducible rfl); done)); try simp only [Act.put, List.setIfInBounds_toArray, List.set_cons_zero, List.set_cons_succ]
                  go_upto_region 24 with (fail)
                  refine wp_region_lit ?_
                  refine wl_v ?_ ?_ ?_; rotate_left; (focus (go_simp; (try with_reducible rfl); done)); try simp only [Act.put, List.setIfInBounds_toArray, List.set_cons_zero, List.set_cons_succ]
                  refine wl_v (.int .i64 ((j : Int) + 1 + 1)) (by go_simp <;> exact IntWalk.i64_in _ (by omega)) ?_; try simp only [Act.put, List.setIfInBounds_toArray, List.set_cons_zero, List.set_cons_succ]
                  refine wl_v ?_ ?_ ?_; rotate_left; (focus (go_simp; (try with_reducible rfl); done)); try simp only [Act.put, List.setIfInBounds_toArray, List.set_cons_zero, List.set_cons_succ]
                  go_wp2_with fail
                  refine ⟨?_, ?_⟩
                  · first
                    | (exact ⟨j + 1, V ++ [(y0, y1, y2, y3)], by omega, by go_num, h, (by rw [List.length_append]; exact own_snoc4 (x := (y0, y1, y2, y3)) r5), R8.out, R9.out, a85, a95, (fun x hx => (List.mem_append.1 hx).elim (hV.out x) (fun hx => by rw [List.mem_singleton.1 hx]; exact ⟨HIN.out, HWF.out⟩)), (by simp; omega), hall, hbs⟩)
                    | ((repeat apply Exists.intro); refine ⟨?_, ?_⟩; rotate_left; (focus (first | exact rfl | (repeat (first | exact rfl | refine ⟨rfl, ?_⟩)))); (exact ⟨j + 1, V ++ [(y0, y1, y2, y3)], by omega, by go_num, h, (by rw [List.length_append]; exact own_snoc4 (x := (y0, y1, y2, y3)) r5), R8.out, R9.out, a85, a95, (fun x hx => (List.mem_append.1 hx).elim (hV.out x) (fun hx => by rw [List.mem_singleton.1 hx]; exact ⟨HIN.out, HWF.out⟩)), (by simp; omega), hall, hbs⟩))
                  · simp [intOf]; omega
              · obtain rfl : j = 16 := by omega
                clear hm hj r8 r9 a85 a95
                go_upto_region 23 with (fail)
                refine wp_region_lit ?_
                refine wl_v ?_ ?_ ?_; rotate_left; (focus (go_simp; (try with_reducible rfl); done)); try simp only [Act.put, List.setIfInBounds_toArray, List.set_cons_zero, List.set_cons_succ]
                refine wl_v (.bool false) (by go_simp <;> omega) ?_; try simp only [Act.put, List.setIfInBounds_toArray, List.set_cons_zero, List.set_cons_succ]
                go_upto_region 29 with (fail)
                refine wp_region_lit ?_
                refine wl_v ?_ ?_ ?_; rotate_left; (focus (go_simp; (try with_reducible rfl); done)); try simp only [Act.put, List.setIfInBounds_toArray, List.set_cons_zero, List.set_cons_succ]
                obtain ⟨A5, c5, e5, h5, _, _⟩ := own_slice r5
                obtain rfl := e5
                clear h5
                go_wp2_with fail
                go_loopw [13] (R4 w g bm base G1 V (.slice A5 V.length c5)) (fun u _ => V.length - (intOf u).toNat)
                case atStart => exact ⟨0, by omega, rfl, h, r5, hall, hbs⟩
                case round =>
                  clear h r5 hall hbs
                  obtain ⟨j, hj, rfl, h, r5, hall, hbs⟩ := hrel
                  by_cases hm : j < V.length
                  · skip
                    obtain ⟨A5', c5', e5, h5, _, _⟩ := own_slice r5
                    injection e5 with e51 e52 e53
                    subst e51 e53
                    obtain ⟨b5, o5, rfl, _⟩ := h5 0 (by simp [IV, nflat_len]; omega)
                    have rg := nflat_range h5 rfl hm
                    have hin := hV.out V[j] (List.getElem_mem _)
                    generalize V[j] = x at *
                    obtain ⟨a0, a1, a2, a3⟩ := x
                    simp only at rg
                    have HRG5 := Lib.hid rg
                    have HIN5 := Lib.hid hin
                    have JV : (j : Int) < (V.length : Int) := by omega
                    clear rg hin h5
                    go_upto_region 30 with (fail)
                    refine wp_region_lit ?_
                    refine wl_v ?_ ?_ ?_; rotate_left; (focus (go_simp; (try with_reducible rfl); done)); try simp only [Act.put, List.setIfInBounds_toArray, List.set_cons_zero, List.set_cons_succ]
                    refine wl_v ?_ ?_ ?_; rotate_left; (focus (go_simp; (try with_reducible rfl); done)); try simp only [Act.put, List.setIfInBounds_toArray, List.set_cons_zero, List.set_cons_succ]
                    refine wl_v ?_ ?_ ?_; rotate_left; (focus (go_simp; (try with_reducible rfl); done)); try simp only [Act.put, List.setIfInBounds_toArray, List.set_cons_zero, List.set_cons_succ]
                    refine wl_v (.bool true) (by go_simp <;> omega) ?_; try simp only [Act.put, List.setIfInBounds_toArray, List.set_cons_zero, List.set_cons_succ]
                    go_upto_region 32 with (fail)
                    refine wp_region_lit ?_
                    refine wl_v ?_ ?_ ?_; rotate_left; (focus (go_simp; (try with_reducible rfl); done)); try simp only [Act.put, List.setIfInBounds_toArray, List.set_cons_zero, List.set_cons_succ]
                    refine wl_v ?_ ?_ ?_; rotate_left; (focus (go_simp; (try with_reducible rfl); done)); try simp only [Act.put, List.setIfInBounds_toArray, List.set_cons_zero, List.set_cons_succ]
                    refine wl_v ?_ ?_ ?_; rotate_left; (focus (go_simp; (try with_reducible rfl); done)); try simp only [Act.put, List.setIfInBounds_toArray, List.set_cons_zero, List.set_cons_succ]
                    refine wl_v ?_ ?_ ?_; rotate_left; (focus (go_simp; (try with_reducible rfl); done)); try simp only [Act.put, List.setIfInBounds_toArray, List.set_cons_zero, List.set_cons_succ]
                    refine op_loadM 35 _ b5 (o5 + j * 4) _ #[.int .i64 a0, .int .i64 a1, .int .i64 a2, .int .i64 a3] rfl (by rfl) HRG5.out (by kernel_rfl) info28s ?_; try simp only [Act.put, List.setIfInBounds_toArray, List.set_cons_zero, List.set_cons_succ]
                    refine wl_call _ _ _ (had_at _ g bm G1.n G1.last G1.many G1.wrong G1.had (a0, a1, a2, a3) HIN5.out.2 h) (by simp only [ntv]; go_simp) ?_; rintro e w9 ⟨rfl, hb⟩; refine ⟨_, rfl, ?_⟩; rw [decide_eq_true HIN5.out.1]; replace hall := hall.trans (hb.mono hall.size); replace hbs := Nat.le_trans hbs hb.size; replace h := h.ups hb; replace r5 := own_ups r5 hb; clear hb; try simp only [Act.put, List.setIfInBounds_toArray, List.set_cons_zero, List.set_cons_succ]
                    refine wl_v ?_ ?_ ?_; rotate_left; (focus (go_simp; (try with_reducible rfl); done)); try simp only [Act.put, List.setIfInBounds_toArray, List.set_cons_zero, List.set_cons_succ]
                    go_upto_region 31 with (fail)
                    refine wp_region_lit ?_
                    refine wl_v ?_ ?_ ?_; rotate_left; (focus (go_simp; (try with_reducible rfl); done)); try simp only [Act.put, List.setIfInBounds_toArray, List.set_cons_zero, List.set_cons_succ]
                    refine wl_v (.int .i64 ((j : Int) + 1)) (by go_simp <;> exact IntWalk.i64_in _ (by omega)) ?_; try simp only [Act.put, List.setIfInBounds_toArray, List.set_cons_zero, List.set_cons_succ]
                    refine wl_v ?_ ?_ ?_; rotate_left; (focus (go_simp; (try with_reducible rfl); done)); try simp only [Act.put, List.setIfInBounds_toArray, List.set_cons_zero, List.set_cons_succ]
                    go_wp2_with fail
                    refine ⟨?_, ?_⟩
                    · first
                      | (exact ⟨j + 1, by omega, by go_num, h, r5, hall, hbs⟩)
                      | ((repeat apply Exists.intro); refine ⟨?_, ?_⟩; rotate_left; (focus (first | exact rfl | (repeat (first | exact rfl | refine ⟨rfl, ?_⟩)))); (exact ⟨j + 1, by omega, by go_num, h, r5, hall, hbs⟩))
                    · simp [intOf]; omega
                  · obtain rfl : j = V.length := by omega
                    go_upto_region 30 with (fail)
                    refine wp_region_lit ?_
                    refine wl_v ?_ ?_ ?_; rotate_left; (focus (go_simp; (try with_reducible rfl); done)); try simp only [Act.put, List.setIfInBounds_toArray, List.set_cons_zero, List.set_cons_succ]
                    refine wl_v ?_ ?_ ?_; rotate_left; (focus (go_simp; (try with_reducible rfl); done)); try simp only [Act.put, List.setIfInBounds_toArray, List.set_cons_zero, List.set_cons_succ]
                    refine wl_v ?_ ?_ ?_; rotate_left; (focus (go_simp; (try with_reducible rfl); done)); try simp only [Act.put, List.setIfInBounds_toArray, List.set_cons_zero, List.set_cons_succ]
                    refine wl_v (.bool false) (by go_simp <;> omega) ?_; try simp only [Act.put, List.setIfInBounds_toArray, List.set_cons_zero, List.set_cons_succ]
                    go_upto_region 10 with (fail)
                    refine wp_region_lit ?_
                    refine wl_v ?_ ?_ ?_; rotate_left; (focus (go_simp; (try with_reducible rfl); done)); try simp only [Act.put, List.setIfInBounds_toArray, List.set_cons_zero, List.set_cons_succ]
                    refine wl_v (.int .i64 ((k : Int) + 1)) (by go_simp <;> exact IntWalk.i64_in _ (by omega)) ?_; try simp only [Act.put, List.setIfInBounds_toArray, List.set_cons_zero, List.set_cons_succ]
                    refine wl_v ?_ ?_ ?_; rotate_left; (focus (go_simp; (try with_reducible rfl); done)); try simp only [Act.put, List.setIfInBounds_toArray, List.set_cons_zero, List.set_cons_succ]
                    go_wp2_with fail
                    refine ⟨?_, ?_⟩
                    · first
                      | (exact ⟨k + 1, G1, V, by omega, by go_num, HOK1.out, h, r5, hV.out, by omega, hall, hbs⟩)
                      | ((repeat apply Exists.intro); refine ⟨?_, ?_⟩; rotate_left; (focus (first | exact rfl | (repeat (first | exact rfl | refine ⟨rfl, ?_⟩)))); (exact ⟨k + 1, G1, V, by omega, by go_num, HOK1.out, h, r5, hV.out, by omega, hall, hbs⟩))
                    · simp [intOf]; omega
    · obtain rfl : k = n := by omega
      obtain ⟨A5, c5, e5, h5, _, _⟩ := own_slice r5
      obtain rfl := e5
      obtain ⟨b0, hb0⟩ : ∃ b0, G.wrong = b0 := ⟨_, rfl⟩
      have hf : fineF G V = !b0 := by
        have : V.any (oddF G.had) = false := by
          rw [List.any_eq_false]
          intro x hx
          have := (hV.out x hx).1
          simp [oddF, this]
        unfold fineF
        rw [this, hb0]; simp
      have HF := Lib.hid hf
      have HB0 := Lib.hid hb0
      have H5 := Lib.hid h5
      clear hf hb0 h5
      go_upto_region 9 with (fail)
      refine wp_region_lit ?_
      refine wl_v ?_ ?_ ?_; rotate_left; (focus (go_simp; (try with_reducible rfl); done)); try simp only [Act.put, List.setIfInBounds_toArray, List.set_cons_zero, List.set_cons_succ]
      refine wl_v ?_ ?_ ?_; rotate_left; (focus (go_simp; (try with_reducible rfl); done)); try simp only [Act.put, List.setIfInBounds_toArray, List.set_cons_zero, List.set_cons_succ]
      refine wl_v ?_ ?_ ?_; rotate_left; (focus (go_simp; (try with_reducible rfl); done)); try simp only [Act.put, List.setIfInBounds_toArray, List.set_cons_zero, List.set_cons_succ]
      refine wl_v (.bool false) (by go_simp <;> omega) ?_; try simp only [Act.put, List.setIfInBounds_toArray, List.set_cons_zero, List.set_cons_succ]
      go_upto_region 34 with (fail)
      refine wp_region_lit ?_
      refine wl_v ?_ ?_ ?_; rotate_left; (focus (go_simp; (try with_reducible rfl); done)); try simp only [Act.put, List.setIfInBounds_toArray, List.set_cons_zero, List.set_cons_succ]
      refine wl_v ?_ ?_ ?_; rotate_left; (focus (go_simp; (try with_reducible rfl); done)); try simp only [Act.put, List.setIfInBounds_toArray, List.set_cons_zero, List.set_cons_succ]
      refine op_unguard _ _ rfl ?_; refine wl_v ?_ ?_ ?_; rotate_left; (focus (go_simp; (try with_reducible rfl); done)); try simp only [Act.put, List.setIfInBounds_toArray, List.set_cons_zero, List.set_cons_succ]
      refine op_unguard _ _ rfl ?_; refine wl_v ?_ ?_ ?_; rotate_left; (focus (go_simp; (try with_reducible rfl); done)); try simp only [Act.put, List.setIfInBounds_toArray, List.set_cons_zero, List.set_cons_succ]
      refine op_unguard _ _ rfl ?_; refine wl_call _ _ _ (fine_at _ g bm G V (fun x hx => (hV.out x hx).2) A5 V.length c5 rfl (by omega) H5.out h) (by go_simp) ?_; rintro e w9 ⟨rfl, hb⟩; refine ⟨_, rfl, ?_⟩; rw [HF.out]; replace hall := hall.trans (hb.mono hall.size); replace hbs := Nat.le_trans hbs hb.size; replace h := h.ups hb; clear hb; try simp only [Act.put, List.setIfInBounds_toArray, List.set_cons_zero, List.set_cons_succ]
      refine op_unguard _ _ rfl ?_; refine wl_v ?_ ?_ ?_; rotate_left; (focus (go_simp; (try with_reducible rfl); done)); try simp only [Act.put, List.setIfInBounds_toArray, List.set_cons_zero, List.set_cons_succ]
      refine op_unguard _ _ rfl ?_; refine wl_call _ _ _ (wrong_at _ g bm G.n G.last G.many G.wrong G.had h) (by go_simp) ?_; rintro e w9 ⟨rfl, rfl⟩; refine ⟨_, rfl, ?_⟩; rw [HB0.out]; try simp only [Act.put, List.setIfInBounds_toArray, List.set_cons_zero, List.set_cons_succ]
      refine op_unguard _ _ rfl ?_; refine wl_v (.bool true) (by cases b0 <;> go_simp) ?_; try simp only [Act.put, List.setIfInBounds_toArray, List.set_cons_zero, List.set_cons_succ]
      refine wl_v ?_ ?_ ?_; rotate_left; (focus (go_simp; (try with_reducible rfl); done)); try simp only [Act.put, List.setIfInBounds_toArray, List.set_cons_zero, List.set_cons_succ]
      refine wl_v ?_ ?_ ?_; rotate_left; (focus (go_simp; (try with_reducible rfl); done)); try simp only [Act.put, List.setIfInBounds_toArray, List.set_cons_zero, List.set_cons_succ]
      go_wp2_with fail
      go_ret
      exact ⟨rfl, hall⟩
end Go.Proofs.Ytbpepkpjjfhmpaa
