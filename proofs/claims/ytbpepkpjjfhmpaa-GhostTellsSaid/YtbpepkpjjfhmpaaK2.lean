/- GhostBoards: the walk. -/
import Derived.Test.YtbpepkpjjfhmpaaK1
namespace Go.Proofs.Ytbpepkpjjfhmpaa
open Go.ChangeShapes Go.WideShapes Go.ChangeAt Go.RowKit Go.Deep Go.Maps
set_option linter.unusedVariables false
set_option linter.unusedSimpArgs false
theorem eqN_same (a b c d : Int) (w : World) : (Op.equalIn 10000 35 (.agg #[.int .i64 a, .int .i64 b, .int .i64 c, .int .i64 d]) (.agg #[.int .i64 a, .int .i64 b, .int .i64 c, .int .i64 d])).run Try.prog w = .ok true w := by rw [eqN]; simp
theorem noteF_nwf' {B : List Int} (hw : WF B) (x : Int) : NWF (noteF B x) := by
  by_cases hx : 1 ≤ x ∧ x ≤ 16
  · obtain ⟨m, rfl⟩ : ∃ m : Nat, x = m := ⟨x.toNat, by omega⟩
    exact noteF_nwf hw m (by omega) (by omega)
  · rw [noteF_bad _ _ hx]
    exact ⟨wf_mk (by simp), wf_mk (by simp), wf_mk (by simp), wf_mk (by simp)⟩
def VH (W : World) (g bm : Nat) (G : GS) (b7 : Nat) (C : List Int) (b10 : Nat) (D : List Int) (bu qu : Nat) (x : Int) (bs qs : Nat) (A : Option Addr) (c : Nat) (L : List Int) (w' : World) : Prop :=
  VG W g bm G b7 C bu qu x bs qs A c L w' ∧ Block w' b10 33 (ints D)
theorem VH.up {W w w' : World} {g bm : Nat} {G : GS} {b7 : Nat} {C : List Int} {b10 : Nat} {D : List Int} {bu qu : Nat} {x : Int} {bs qs : Nat} {A : Option Addr} {c : Nat} {L : List Int} (h : VH W g bm G b7 C b10 D bu qu x bs qs A c L w) (hb : Below w.heap.size w w') : VH W g bm G b7 C b10 D bu qu x bs qs A c L w' :=
  ⟨h.1.up hb, h.2.ups hb⟩
section
variable {P : Program} {d : Option Tmp} {tt : TypeId} {ps : String} {af : Array Edge} {a : Act} {w : World} {K : Act → World → Prop} {Q : Exit → Act → World → Prop}
theorem wpo_lit (t : TypeId) (n : Nat) (parts : Array (Nat × Operand)) (e : TypeId) (C : Array Value)
    (hr : ∀ w : World, (Instr.buildSlice t n (parts.map fun (i, x) => (i, a.eval x))).run P w = .ok (.slice (some ⟨w.heap.size, 0, none⟩) n n) (w.alloc (.cells C e)))
    (h : ∀ w' b, w.heap.size ≤ b → Below w.heap.size w w' → Block w' b e C → K (a.put d (.slice (some ⟨b, 0, none⟩) n n)) w') :
    Oper.wp P ⟨d, .buildSlice t n parts, tt, ps, af, none⟩ a w K Q := by
  unfold Oper.wp execOp
  simp only [hr, Sem.run_bind, Sem.run_pure, Result.andThen_ok]
  exact h (w.alloc (.cells C e)) w.heap.size (Nat.le_refl _) ((Below.refl _ _).alloc (Nat.le_refl _) _) (heap_alloc_new w _)
end
set_option maxHeartbeats 8000000 in
set_option maxRecDepth 100000 in
theorem boards_walk0 (w : World) (U : List Int) (A A2 : Option Addr) (c c2 : Nat) (hU : U.length ≤ 100) (hA : Holds w A (U.map (Value.int .i64))) (hA2 : HoldsRows w A2 U.length) :
    Calls Try.prog 5 #[.slice A U.length c, .slice A2 U.length c2] w fun e w' => e = .returned (.bool true) ∧ Below w.heap.size w w' := by
  have hall := Below.refl w.heap.size w
  replace hA := Lib.hid hA
  replace hA2 := Lib.hid hA2
  have hg28 := g28
  go_enter Try.func5, Try.ntmps5
  go_upto_region 0 with (fail)
  refine wp_region_lit ?_
  refine wl_v ?_ ?_ ?_; rotate_left; (focus (go_simp; (try with_reducible rfl); done)); try simp only [Act.put, List.setIfInBounds_toArray, List.set_cons_zero, List.set_cons_succ]
  go_upto_region 1 with (fail)
  refine wp_region_lit ?_
  refine wl_call _ _ _ (small_any _) (by go_simp) ?_; rintro e w9 ⟨rfl, hb⟩; refine ⟨_, rfl, ?_⟩; replace hall := hall.trans (hb.mono hall.size); clear hb; try simp only [Act.put, List.setIfInBounds_toArray, List.set_cons_zero, List.set_cons_succ]
  refine wl_v ?_ ?_ ?_; rotate_left; (focus (go_simp; (try with_reducible rfl); done)); try simp only [Act.put, List.setIfInBounds_toArray, List.set_cons_zero, List.set_cons_succ]
  go_upto_region 2 with (fail)
  refine wp_region_lit ?_
  refine wl_v ?_ ?_ ?_; rotate_left; (focus (go_simp; (try with_reducible rfl); done)); try simp only [Act.put, List.setIfInBounds_toArray, List.set_cons_zero, List.set_cons_succ]
  refine wl_v ?_ ?_ ?_; rotate_left; (focus (go_simp; (try with_reducible rfl); done)); try simp only [Act.put, List.setIfInBounds_toArray, List.set_cons_zero, List.set_cons_succ]
  refine wl_v (.bool false) (by go_simp <;> omega) ?_; try simp only [Act.put, List.setIfInBounds_toArray, List.set_cons_zero, List.set_cons_succ]
  refine wl_v ?_ ?_ ?_; rotate_left; (focus (go_simp; (try with_reducible rfl); done)); try simp only [Act.put, List.setIfInBounds_toArray, List.set_cons_zero, List.set_cons_succ]
  refine op_unguard _ _ rfl ?_; refine wl_v ?_ ?_ ?_; rotate_left; (focus (go_simp; (try with_reducible rfl); done)); try simp only [Act.put, List.setIfInBounds_toArray, List.set_cons_zero, List.set_cons_succ]
  refine op_unguard _ _ rfl ?_; refine wl_v ?_ ?_ ?_; rotate_left; (focus (go_simp; (try with_reducible rfl); done)); try simp only [Act.put, List.setIfInBounds_toArray, List.set_cons_zero, List.set_cons_succ]
  refine op_unguard _ _ rfl ?_; refine wl_v ?_ ?_ ?_; rotate_left; (focus (go_simp; (try with_reducible rfl); done)); try simp only [Act.put, List.setIfInBounds_toArray, List.set_cons_zero, List.set_cons_succ]
  refine op_unguard _ _ rfl ?_; refine wl_v ?_ ?_ ?_; rotate_left; (focus (go_simp; (try with_reducible rfl); done)); try simp only [Act.put, List.setIfInBounds_toArray, List.set_cons_zero, List.set_cons_succ]
  refine op_unguard _ _ rfl ?_; refine wl_v (.bool false) (by go_simp) ?_; try simp only [Act.put, List.setIfInBounds_toArray, List.set_cons_zero, List.set_cons_succ]
  refine wl_v (.bool false) (by go_simp) ?_; try simp only [Act.put, List.setIfInBounds_toArray, List.set_cons_zero, List.set_cons_succ]
  go_upto_region 4 with (fail)
  refine wp_region_lit ?_
  refine wl_call _ _ _ (new_any _) (by go_simp) ?_; rintro e w1 ⟨g, bm, rfl, gg0, gm0, h9, hb⟩; refine ⟨_, rfl, ?_⟩; have gg := Nat.le_trans hall.size gg0; have gm := Nat.le_trans hall.size gm0; replace hall := hall.trans (hb.mono hall.size); have h : GG w1 g bm G0 := h9; clear hb h9 gg0 gm0; try simp only [Act.put, List.setIfInBounds_toArray, List.set_cons_zero, List.set_cons_succ]
  refine wl_v ?_ ?_ ?_; rotate_left; (focus (go_simp; (try with_reducible rfl); done)); try simp only [Act.put, List.setIfInBounds_toArray, List.set_cons_zero, List.set_cons_succ]
  go_upto_region 5 with (fail)
  refine wp_region_lit ?_
  refine wl_v ?_ ?_ ?_; rotate_left; (focus (go_simp; (try with_reducible rfl); done)); try simp only [Act.put, List.setIfInBounds_toArray, List.set_cons_zero, List.set_cons_succ]
  refine wl_v ?_ ?_ ?_; rotate_left; (focus (go_simp; (try with_reducible rfl); done)); try simp only [Act.put, List.setIfInBounds_toArray, List.set_cons_zero, List.set_cons_succ]
  go_upto_region 7 with (fail)
  refine wp_region_lit ?_
  refine op_alloc 33 (ints sB0) (by rw [← zB_ints]; exact info25z) ?_; intro w2 b7 hge hb k7; have nk7 : b7 ≠ g := (by have := h.1.lt; omega); have nk7' : b7 ≠ bm := (by have := h.2.1.lt; omega); have g7 := Nat.le_trans hall.size hge; replace hall := hall.trans (hb.mono hall.size); replace h := h.ups hb; clear hb hge; try simp only [Act.put, List.setIfInBounds_toArray, List.set_cons_zero, List.set_cons_succ]
  go_upto_region 8 with (fail)
  refine wp_region_lit ?_
  refine wl_v ?_ ?_ ?_; rotate_left; (focus (go_simp; (try with_reducible rfl); done)); try simp only [Act.put, List.setIfInBounds_toArray, List.set_cons_zero, List.set_cons_succ]
  go_wp2_with fail
  go_loopw [8] (RG w g bm b7 U.length) (fun i _ => U.length - (intOf i).toNat)
  case atStart => exact ⟨0, G0, sB0, by omega, rfl, sB0_len, sB0_wf, G0_bok, h, k7, hall⟩
  case round =>
    clear h k7 hall
    obtain ⟨k, G, C, hk, rfl, hC, hCw, hbok, h, k7, hall⟩ := hrel
    have HC := Lib.hid hC
    have HCw := Lib.hid hCw
    have HBOK := Lib.hid hbok
    clear hC hCw hbok
    by_cases hlt : k < U.length
    · skip
      obtain ⟨⟨A', c', L'⟩, hrow⟩ := hA2.out k hlt
      obtain ⟨bu, ou, rfl, hcx⟩ := hA.out k (by simpa using hlt)
      rw [List.getElem?_map, List.getElem?_eq_getElem hlt] at hcx
      simp only [Option.map_some] at hcx
      obtain ⟨bs, os, rfl, hcs⟩ := hrow.1
      simp only [] at hcs
      have hl63 := hrow.2.2
      simp only [maxLen] at hl63
      have hrw := hrow.2.1
      simp only [] at hrw
      have JU : (k : Int) < (U.length : Int) := by omega
      generalize hx : U[k] = x at *
      clear hx hrow
      have HCX := Lib.hid hcx
      have HCS := Lib.hid hcs
      have HRW := Lib.hid hrw
      obtain ⟨D, ok, hp⟩ : ∃ D ok, putF C x L' = (D, ok) := ⟨_, _, rfl⟩
      have HD : Hid (D.length = 51) := Lib.hid (by have := putF_len HC.out x L'; rw [hp] at this; exact this)
      have HDw : Hid (WF D) := Lib.hid (by have := putF_wf HCw.out x L'; rw [hp] at this; exact this)
      have HN := Lib.hid (HBOK.out.look HC.out HCw.out hp)
      have HP := Lib.hid hp
      have hq := HBOK.out.ok.many
      have hqb : 0 ≤ manyF G.many x ∧ manyF G.many x ≤ 1 + (k : Int) := by
        unfold manyF
        split
        · exact hq _ (by omega)
        · omega
      obtain ⟨q, hq2⟩ : ∃ q, manyF G.many x = q := ⟨_, rfl⟩
      rw [hq2] at hqb
      have HQ := Lib.hid hq2
      clear hcx hcs hrw hp hq hq2
      have hcs' := Lib.hid (hall.cell (p := ⟨bs, os + k, none⟩) (World.block_lt_of_cell? w _ HCS.out) |>.trans HCS.out)
      have hcx' := Lib.hid (hall.cell (p := ⟨bu, ou + k, none⟩) (World.block_lt_of_cell? w _ HCX.out) |>.trans HCX.out)
      go_upto_region 9 with (fail)
      refine wp_region_lit ?_
      refine wl_v ?_ ?_ ?_; rotate_left; (focus (go_simp; (try with_reducible rfl); done)); try simp only [Act.put, List.setIfInBounds_toArray, List.set_cons_zero, List.set_cons_succ]
      refine wl_v ?_ ?_ ?_; rotate_left; (focus (go_simp; (try with_reducible rfl); done)); try simp only [Act.put, List.setIfInBounds_toArray, List.set_cons_zero, List.set_cons_succ]
      refine wl_v ?_ ?_ ?_; rotate_left; (focus (go_simp; (try with_reducible rfl); done)); try simp only [Act.put, List.setIfInBounds_toArray, List.set_cons_zero, List.set_cons_succ]
      refine wl_v (.bool true) (by go_simp <;> omega) ?_; try simp only [Act.put, List.setIfInBounds_toArray, List.set_cons_zero, List.set_cons_succ]
      by_cases h100 : L'.length ≤ 100
      rotate_left
      · skip
        go_upto_region 11 with (fail)
        refine wp_region_lit ?_
        refine wl_v ?_ ?_ ?_; rotate_left; (focus (go_simp; (try with_reducible rfl); done)); try simp only [Act.put, List.setIfInBounds_toArray, List.set_cons_zero, List.set_cons_succ]
        refine wl_v ?_ ?_ ?_; rotate_left; (focus (go_simp; (try with_reducible rfl); done)); try simp only [Act.put, List.setIfInBounds_toArray, List.set_cons_zero, List.set_cons_succ]
        refine wl_v ?_ ?_ ?_; rotate_left; (focus (go_simp; (try with_reducible rfl); done)); try simp only [Act.put, List.setIfInBounds_toArray, List.set_cons_zero, List.set_cons_succ]
        refine wl_v (.slice A' L'.length c') (by have hc1 := hcs'.out; go_simp) ?_; try simp only [Act.put, List.setIfInBounds_toArray, List.set_cons_zero, List.set_cons_succ]
        refine wl_v ?_ ?_ ?_; rotate_left; (focus (go_simp; (try with_reducible rfl); done)); try simp only [Act.put, List.setIfInBounds_toArray, List.set_cons_zero, List.set_cons_succ]
        refine wl_v (.bool true) (by go_simp <;> omega) ?_; try simp only [Act.put, List.setIfInBounds_toArray, List.set_cons_zero, List.set_cons_succ]
        go_upto_region 12 with (fail)
        refine wp_region_lit ?_
        refine wl_v ?_ ?_ ?_; rotate_left; (focus (go_simp; (try with_reducible rfl); done)); try simp only [Act.put, List.setIfInBounds_toArray, List.set_cons_zero, List.set_cons_succ]
        refine wl_v ?_ ?_ ?_; rotate_left; (focus (go_simp; (try with_reducible rfl); done)); try simp only [Act.put, List.setIfInBounds_toArray, List.set_cons_zero, List.set_cons_succ]
        go_wp2_with fail
        go_ret
        exact ⟨rfl, hall⟩
      · skip
        go_upto_region 11 with (fail)
        refine wp_region_lit ?_
        refine wl_v ?_ ?_ ?_; rotate_left; (focus (go_simp; (try with_reducible rfl); done)); try simp only [Act.put, List.setIfInBounds_toArray, List.set_cons_zero, List.set_cons_succ]
        refine wl_v ?_ ?_ ?_; rotate_left; (focus (go_simp; (try with_reducible rfl); done)); try simp only [Act.put, List.setIfInBounds_toArray, List.set_cons_zero, List.set_cons_succ]
        refine wl_v ?_ ?_ ?_; rotate_left; (focus (go_simp; (try with_reducible rfl); done)); try simp only [Act.put, List.setIfInBounds_toArray, List.set_cons_zero, List.set_cons_succ]
        refine wl_v (.slice A' L'.length c') (by have hc1 := hcs'.out; go_simp) ?_; try simp only [Act.put, List.setIfInBounds_toArray, List.set_cons_zero, List.set_cons_succ]
        refine wl_v ?_ ?_ ?_; rotate_left; (focus (go_simp; (try with_reducible rfl); done)); try simp only [Act.put, List.setIfInBounds_toArray, List.set_cons_zero, List.set_cons_succ]
        refine wl_v (.bool false) (by go_simp <;> omega) ?_; try simp only [Act.put, List.setIfInBounds_toArray, List.set_cons_zero, List.set_cons_succ]
        go_upto_region 13 with (fail)
        refine wp_region_lit ?_
        refine wl_v ?_ ?_ ?_; rotate_left; (focus (go_simp; (try with_reducible rfl); done)); try simp only [Act.put, List.setIfInBounds_toArray, List.set_cons_zero, List.set_cons_succ]
        refine wl_v ?_ ?_ ?_; rotate_left; (focus (go_simp; (try with_reducible rfl); done)); try simp only [Act.put, List.setIfInBounds_toArray, List.set_cons_zero, List.set_cons_succ]
        refine wl_v ?_ ?_ ?_; rotate_left; (focus (go_simp; (try with_reducible rfl); done)); try simp only [Act.put, List.setIfInBounds_toArray, List.set_cons_zero, List.set_cons_succ]
        refine wl_v ?_ ?_ ?_; rotate_left; (focus (go_simp; (try with_reducible rfl); done)); try simp only [Act.put, List.setIfInBounds_toArray, List.set_cons_zero, List.set_cons_succ]
        refine wl_v (.int .i64 x) (by have hc1 := hcx'.out; go_simp) ?_; try simp only [Act.put, List.setIfInBounds_toArray, List.set_cons_zero, List.set_cons_succ]
        refine wl_call _ _ _ (many_at _ g bm G.n G.last G.many G.wrong G.had x h) (by go_simp) ?_; rintro e w9 ⟨rfl, rfl⟩; refine ⟨_, rfl, ?_⟩; rw [HQ.out]; try simp only [Act.put, List.setIfInBounds_toArray, List.set_cons_zero, List.set_cons_succ]
        refine wl_v ?_ ?_ ?_; rotate_left; (focus (go_simp; (try with_reducible rfl); done)); try simp only [Act.put, List.setIfInBounds_toArray, List.set_cons_zero, List.set_cons_succ]
        go_upto_region 14 with (fail)
        go_cut [10, 11] from 47 to 59 (fun p o wc => ∃ b10, p = .pointer (some ⟨b10, 0, none⟩) ∧ o = .bool ok ∧ VG w g bm G b7 C bu (ou + k) x bs (os + k) A' c' L' wc ∧ Block wc b10 33 (ints D) ∧ b10 ≠ b7 ∧ b10 ≠ g ∧ b10 ≠ bm ∧ w.heap.size ≤ b10)
        case first =>
          have hS : VG w g bm G b7 C bu (ou + k) x bs (os + k) A' c' L' _ := ⟨hall.drew, h, k7, hcx'.out, hcs'.out, HRW.out.up hall.drew⟩
          clear h k7 hall hcx' hcs'
          refine region_fork (VG w g bm G b7 C bu (ou + k) x bs (os + k) A' c' L') [(0, true), (1, true), (2, true), (3, true), (4, true), (5, true), (6, true), (7, true), (8, true)] 9 [(10, true), (11, true), (12, true), (13, false), (14, false), (15, true)] 13 [(9, false), (10, true), (11, true), (12, true), (14, false), (15, true)] (by kernel_rfl) (by kernel_rfl) rfl rfl (by kernel_rfl) hS ?_
          refine pi_f0 ?_ rfl ?_ ?_; rotate_left; (focus (intro w' h; refine run_load_row b7 33 (ints C) (.array 17 31) ?_ h.2.2.1 Try.underlying33 ?_ (info25b _ HC.out) <;> rfl)); try simp only [Act.put, List.setIfInBounds_toArray, List.set_cons_zero, List.set_cons_succ]
          refine pi_f0 ?_ rfl ?_ ?_; rotate_left; (focus (intro w' hS'; have q1 := hS'.2.2.2.1; have q2 := hS'.2.2.2.2.1; go_simp; (try rw [if_pos JU]); (try with_reducible rfl); done)); try simp only [Act.put, List.setIfInBounds_toArray, List.set_cons_zero, List.set_cons_succ]
          refine pi_f0 ?_ rfl ?_ ?_; rotate_left; (focus (intro w' hS'; have q1 := hS'.2.2.2.1; have q2 := hS'.2.2.2.2.1; go_simp; (try rw [if_pos JU]); (try with_reducible rfl); done)); try simp only [Act.put, List.setIfInBounds_toArray, List.set_cons_zero, List.set_cons_succ]
          refine pi_f0 ?_ rfl ?_ ?_; rotate_left; (focus (intro w' hS'; have q1 := hS'.2.2.2.1; have q2 := hS'.2.2.2.2.1; go_simp; (try rw [if_pos JU]); (try with_reducible rfl); done)); try simp only [Act.put, List.setIfInBounds_toArray, List.set_cons_zero, List.set_cons_succ]
          refine pi_f0 ?_ rfl ?_ ?_; rotate_left; (focus (intro w' hS'; have q1 := hS'.2.2.2.1; have q2 := hS'.2.2.2.2.1; go_simp; (try rw [if_pos JU]); (try with_reducible rfl); done)); try simp only [Act.put, List.setIfInBounds_toArray, List.set_cons_zero, List.set_cons_succ]
          refine pi_f0 ?_ rfl ?_ ?_; rotate_left; (focus (intro w' hS'; have q1 := hS'.2.2.2.1; have q2 := hS'.2.2.2.2.1; go_simp; (try rw [if_pos JU]); (try with_reducible rfl); done)); try simp only [Act.put, List.setIfInBounds_toArray, List.set_cons_zero, List.set_cons_succ]
          refine pi_f0 ?_ rfl ?_ ?_; rotate_left; (focus (intro w' hS'; have q1 := hS'.2.2.2.1; have q2 := hS'.2.2.2.2.1; go_simp; (try rw [if_pos JU]); (try with_reducible rfl); done)); try simp only [Act.put, List.setIfInBounds_toArray, List.set_cons_zero, List.set_cons_succ]
          refine pi_f0 ?_ rfl ?_ ?_; rotate_left; (focus (intro w' hS'; have q1 := hS'.2.2.2.1; have q2 := hS'.2.2.2.2.1; go_simp; (try rw [if_pos JU]); (try with_reducible rfl); done)); try simp only [Act.put, List.setIfInBounds_toArray, List.set_cons_zero, List.set_cons_succ]
          refine pi_f0 ?_ rfl ?_ ?_; rotate_left; (focus (intro w' hS'; have q1 := hS'.2.2.2.1; have q2 := hS'.2.2.2.2.1; go_simp; (try rw [if_pos JU]); (try with_reducible rfl); done)); try simp only [Act.put, List.setIfInBounds_toArray, List.set_cons_zero, List.set_cons_succ]
          refine pi_nil ⟨?_, ?_⟩
          · skip
            refine pi_a0 rfl (fun K hK => ?_); go_simp; refine (put_at C x L' D ok A' _ c' _ HC.out HCw.out HP.out rfl (by omega) hS.2.2.2.2.2).mono ?_; rintro e w9 ⟨rfl, hb9⟩; replace hS := hS.up hb9; clear hb9; refine hK _ _ ⟨hS, ?_⟩; clear hK; clear K; try simp only [Act.put, List.setIfInBounds_toArray, List.set_cons_zero, List.set_cons_succ]
            refine pi_f0 ?_ rfl ?_ ?_; rotate_left; (focus (intro w' hS'; have q1 := hS'.2.2.2.1; have q2 := hS'.2.2.2.2.1; go_simp; (try rw [if_pos JU]); (try with_reducible rfl); done)); try simp only [Act.put, List.setIfInBounds_toArray, List.set_cons_zero, List.set_cons_succ]
            refine pi_f0 ?_ rfl ?_ ?_; rotate_left; (focus (intro w' hS'; have q1 := hS'.2.2.2.1; have q2 := hS'.2.2.2.2.1; go_simp; (try rw [if_pos JU]); (try with_reducible rfl); done)); try simp only [Act.put, List.setIfInBounds_toArray, List.set_cons_zero, List.set_cons_succ]
            refine pi_f0 ?_ rfl ?_ ?_; rotate_left; (focus (intro w' hS'; have q1 := hS'.2.2.2.1; have q2 := hS'.2.2.2.2.1; go_simp; (try rw [if_pos JU]); (try with_reducible rfl); done)); try simp only [Act.put, List.setIfInBounds_toArray, List.set_cons_zero, List.set_cons_succ]
            refine pi_a0 rfl (fun K hK => ?_); refine wpo_alloc 33 zB info25z fun w4 b10 hge hbA k10 => ?_; have hSA := hS; have hgA := hge; have n10 : b10 ≠ b7 := (by have := hS.2.2.1.lt; omega); have n10g : b10 ≠ g := (by have := hS.2.1.1.lt; omega); have n10m : b10 ≠ bm := (by have := hS.2.1.2.1.lt; omega); have g10 : w.heap.size ≤ b10 := (by have := hS.1.size; omega); replace hS := hS.up hbA; clear hge; refine hK _ _ ⟨hS, ?_⟩; clear hK; clear K; try simp only [Act.put, List.setIfInBounds_toArray, List.set_cons_zero, List.set_cons_succ]
            refine pi_a0 rfl (fun K hK => ?_); refine wpo_store 33 (.tmp 10) (.tmp 58) b10 33 (ints D) zB rfl rfl k10 (info25b _ HD.out) (by rw [ints_size, HD.out]; exact zB_size) (ints_one _) fun w6 hbS ho kD => ?_; have hS6 := hSA.up (hbA.trans (hbS _ hgA)); refine hK _ _ ⟨hS6, ?_⟩; clear hK; clear K; try simp only [Act.put, List.setIfInBounds_toArray, List.set_cons_zero, List.set_cons_succ]
            refine pi_f0 ?_ rfl ?_ ?_; rotate_left; (focus (intro w' hS'; have q1 := hS'.2.2.2.1; have q2 := hS'.2.2.2.2.1; go_simp; (try rw [if_pos JU]); (try with_reducible rfl); done)); try simp only [Act.put, List.setIfInBounds_toArray, List.set_cons_zero, List.set_cons_succ]
            refine pi_nil (NoPanic.normal ?_)
            go_wp2_with fail
            go_meet
            exact ⟨b10, rfl, rfl, hS6, kD, n10, n10g, n10m, g10⟩
          · skip
            refine pi_a0 rfl (fun K hK => ?_); refine wpo_alloc 33 zB info25z fun w4 b10 hge hbA k10 => ?_; have hSA := hS; have hgA := hge; have n10 : b10 ≠ b7 := (by have := hS.2.2.1.lt; omega); have n10g : b10 ≠ g := (by have := hS.2.1.1.lt; omega); have n10m : b10 ≠ bm := (by have := hS.2.1.2.1.lt; omega); have g10 : w.heap.size ≤ b10 := (by have := hS.1.size; omega); replace hS := hS.up hbA; clear hge; refine hK _ _ ⟨hS, ?_⟩; clear hK; clear K; try simp only [Act.put, List.setIfInBounds_toArray, List.set_cons_zero, List.set_cons_succ]
            refine pi_a0 rfl (fun K hK => ?_); go_simp; refine (put_at C x L' D ok A' _ c' _ HC.out HCw.out HP.out rfl (by omega) hS.2.2.2.2.2).mono ?_; rintro e w9 ⟨rfl, hb9⟩; replace hbA := hbA.trans (hb9.mono hbA.size); replace k10 := k10.ups hb9; replace hS := hS.up hb9; clear hb9; refine hK _ _ ⟨hS, ?_⟩; clear hK; clear K; try simp only [Act.put, List.setIfInBounds_toArray, List.set_cons_zero, List.set_cons_succ]
            refine pi_f0 ?_ rfl ?_ ?_; rotate_left; (focus (intro w' hS'; have q1 := hS'.2.2.2.1; have q2 := hS'.2.2.2.2.1; go_simp; (try rw [if_pos JU]); (try with_reducible rfl); done)); try simp only [Act.put, List.setIfInBounds_toArray, List.set_cons_zero, List.set_cons_succ]
            refine pi_f0 ?_ rfl ?_ ?_; rotate_left; (focus (intro w' hS'; have q1 := hS'.2.2.2.1; have q2 := hS'.2.2.2.2.1; go_simp; (try rw [if_pos JU]); (try with_reducible rfl); done)); try simp only [Act.put, List.setIfInBounds_toArray, List.set_cons_zero, List.set_cons_succ]
            refine pi_f0 ?_ rfl ?_ ?_; rotate_left; (focus (intro w' hS'; have q1 := hS'.2.2.2.1; have q2 := hS'.2.2.2.2.1; go_simp; (try rw [if_pos JU]); (try with_reducible rfl); done)); try simp only [Act.put, List.setIfInBounds_toArray, List.set_cons_zero, List.set_cons_succ]
            refine pi_a0 rfl (fun K hK => ?_); refine wpo_store 33 (.tmp 10) (.tmp 58) b10 33 (ints D) zB rfl rfl k10 (info25b _ HD.out) (by rw [ints_size, HD.out]; exact zB_size) (ints_one _) fun w6 hbS ho kD => ?_; have hS6 := hSA.up (hbA.trans (hbS _ hgA)); refine hK _ _ ⟨hS6, ?_⟩; clear hK; clear K; try simp only [Act.put, List.setIfInBounds_toArray, List.set_cons_zero, List.set_cons_succ]
            refine pi_f0 ?_ rfl ?_ ?_; rotate_left; (focus (intro w' hS'; have q1 := hS'.2.2.2.1; have q2 := hS'.2.2.2.2.1; go_simp; (try rw [if_pos JU]); (try with_reducible rfl); done)); try simp only [Act.put, List.setIfInBounds_toArray, List.set_cons_zero, List.set_cons_succ]
            refine pi_nil (NoPanic.normal ?_)
            go_wp2_with fail
            go_meet
            exact ⟨b10, rfl, rfl, hS6, kD, n10, n10g, n10m, g10⟩
        case rest =>
          clear h k7 hall hcx' hcs'
          obtain ⟨b10, rfl, rfl, hS, k10, n10, nk10, nk10', g10⟩ := hcut
          have hall := hS.1
          have h := hS.2.1
          have k7 := hS.2.2.1
          clear hS
          obtain ⟨G1, hG1⟩ : ∃ G1, lookK D G 16 = G1 := ⟨_, rfl⟩
          have hn := HN.out
          rw [hG1] at hn
          have HN1 := Lib.hid hn
          have HG1 := Lib.hid hG1
          clear hn hG1
          go_upto_region 15 with (fail)
          refine wp_region_lit ?_
          refine wl_v ?_ ?_ ?_; rotate_left; (focus (go_simp; (try with_reducible rfl); done)); try simp only [Act.put, List.setIfInBounds_toArray, List.set_cons_zero, List.set_cons_succ]
          refine op_loadR _ _ _ _ _ rfl k10 (by kernel_rfl) (info25b _ HD.out) ?_; try simp only [Act.put, List.setIfInBounds_toArray, List.set_cons_zero, List.set_cons_succ]
          refine wl_call _ _ _ (look_at _ g bm D HD.out HDw.out G (by have := HBOK.out.ok.n; unfold maxLen; omega) (fun u hu => by have := HBOK.out.ok.many u hu; omega) h) (by go_simp) ?_; rintro e w9 ⟨rfl, hb, h9⟩; refine ⟨_, rfl, ?_⟩; rw [HG1.out] at h9; replace hall := hall.trans (hb.below hall.size gg gm); replace k7 := hb.blk k7 nk7 nk7'; replace k10 := hb.blk k10 nk10 nk10'; clear h hb; have h := h9; clear h9; try simp only [Act.put, List.setIfInBounds_toArray, List.set_cons_zero, List.set_cons_succ]
          go_upto_region 16 with (fail)
          refine wp_region_lit ?_
          refine wl_v ?_ ?_ ?_; rotate_left; (focus (go_simp; (try with_reducible rfl); done)); try simp only [Act.put, List.setIfInBounds_toArray, List.set_cons_zero, List.set_cons_succ]
          obtain ⟨⟨y0, y1, y2, y3⟩, hy⟩ : ∃ y, noteF D x = y := ⟨_, rfl⟩
          obtain ⟨⟨z0, z1, z2, z3⟩, hz⟩ : ∃ z, noteF C x = z := ⟨_, rfl⟩
          have hyw : NWF (y0, y1, y2, y3) := by rw [← hy]; exact noteF_nwf' HDw.out x
          have hzw : NWF (z0, z1, z2, z3) := by rw [← hz]; exact noteF_nwf' HCw.out x
          have hfine : fineF G1 [(y0, y1, y2, y3), (z0, z1, z2, z3)] = true := by
            have h1 := HN1.out.old
            have h2 := HN1.out.new
            rw [hz] at h1
            rw [hy] at h2
            unfold fineF
            rw [HN1.out.next.wrong]
            simp [h1, h2]
          have hlast := HN1.out.next.last x
          rw [hy] at hlast
          have hmany := HN1.out.many
          rw [HQ.out] at hmany
          have HY := Lib.hid hy
          have HZ := Lib.hid hz
          have HYW := Lib.hid hyw
          have HZW := Lib.hid hzw
          have HF := Lib.hid hfine
          have HL := Lib.hid hlast
          have HM := Lib.hid hmany
          have HW1 := Lib.hid HN1.out.next.wrong
          clear hy hz hyw hzw hfine hlast hmany
          cases ok
          · skip
            go_upto_region 17 with (fail)
            refine wp_region_lit ?_
            refine wl_v ?_ ?_ ?_; rotate_left; (focus (go_simp; (try with_reducible rfl); done)); try simp only [Act.put, List.setIfInBounds_toArray, List.set_cons_zero, List.set_cons_succ]
            have WQ : IntKind.i64.wrap (q) = q := IntWalk.i64_in _ (by omega)
            have hm1 : manyF G1.many x = q := by rw [HM.out]; simp
            have HM1 := Lib.hid hm1
            clear hm1
            have heq : ∀ w, (Op.equalIn 10000 35 (.agg #[.int .i64 y0, .int .i64 y1, .int .i64 y2, .int .i64 y3]) (.agg #[.int .i64 y0, .int .i64 y1, .int .i64 y2, .int .i64 y3])).run Try.prog w = .ok true w := eqN_same _ _ _ _
            go_upto_region 19 with (fail)
            have hS : VH w g bm G1 b7 C b10 D bu (ou + k) x bs (os + k) A' c' L' _ := ⟨⟨hall.drew, h, k7, (hall.cell (p := ⟨bu, ou + k, none⟩) (World.block_lt_of_cell? w _ HCX.out)).trans HCX.out, (hall.cell (p := ⟨bs, os + k, none⟩) (World.block_lt_of_cell? w _ HCS.out)).trans HCS.out, HRW.out.up hall.drew⟩, k10⟩
            refine region_pi (VH w g bm G1 b7 C b10 D bu (ou + k) x bs (os + k) A' c' L') [(0, true), (1, false), (2, true), (3, true), (4, true), (5, true), (6, true), (7, true), (9, true), (10, true), (11, true), (8, false), (12, true), (13, true), (14, true), (15, true), (16, true), (17, true), (18, true), (19, true), (20, true), (22, true), (23, true), (24, true), (25, true), (26, true), (21, false), (27, false), (28, false), (29, false), (30, true), (31, true), (32, true), (33, true), (34, true), (35, true), (36, true), (37, true), (39, true), (40, true), (41, true), (42, true), (43, true), (38, false), (44, false), (45, true), (46, true)] (by kernel_rfl) (by kernel_rfl) rfl (by kernel_rfl) hS ?_
            clear h k7 k10 hall
            refine pi_f0 ?_ rfl ?_ ?_; rotate_left; (focus (intro w' hS'; go_simp; (try with_reducible rfl); done)); try simp only [Act.put, List.setIfInBounds_toArray, List.set_cons_zero, List.set_cons_succ]
            refine pi_a0 rfl (fun K hK => ?_); go_simp; refine (wrong_at _ g bm G1.n G1.last G1.many G1.wrong G1.had hS.1.2.1).mono ?_; rintro e w9 ⟨rfl, rfl⟩; rw [HW1.out]; refine hK _ _ ⟨?_, ?_⟩; exact hS; clear hK; clear K; try simp only [Act.put, List.setIfInBounds_toArray, List.set_cons_zero, List.set_cons_succ]
            refine pi_f0 ?_ rfl ?_ ?_; rotate_left; (focus (intro w' hS'; go_simp; (try with_reducible rfl); done)); try simp only [Act.put, List.setIfInBounds_toArray, List.set_cons_zero, List.set_cons_succ]
            refine pi_f1 ?_ rfl rfl rfl rfl ?_ ?_; rotate_left; (focus (intro w' hS'; go_simp; (try with_reducible rfl); done)); try simp only [Act.put, List.setIfInBounds_toArray, List.set_cons_zero, List.set_cons_succ]
            refine pi_f1 ?_ rfl rfl rfl rfl ?_ ?_; rotate_left; (focus (intro w' hS'; go_simp; (try with_reducible rfl); done)); try simp only [Act.put, List.setIfInBounds_toArray, List.set_cons_zero, List.set_cons_succ]
            refine pi_f1 ?_ rfl rfl rfl rfl ?_ ?_; rotate_left; (focus (intro w' hS'; go_simp; (try with_reducible rfl); done)); try simp only [Act.put, List.setIfInBounds_toArray, List.set_cons_zero, List.set_cons_succ]
            refine pi_f1 ?_ rfl rfl rfl rfl ?_ ?_; rotate_left; (focus (intro w' hS'; go_simp; (try rw [if_pos JU]); (try with_reducible rfl); done)); try simp only [Act.put, List.setIfInBounds_toArray, List.set_cons_zero, List.set_cons_succ]
            refine pi_f1 ?_ rfl rfl rfl rfl ?_ ?_; rotate_left; (focus (intro w' hS'; have q1 := hS'.1.2.2.2.1; have q2 := hS'.1.2.2.2.2.1; go_simp; (try with_reducible rfl); done)); try simp only [Act.put, List.setIfInBounds_toArray, List.set_cons_zero, List.set_cons_succ]
            refine pi_f1 ?_ rfl rfl rfl rfl ?_ ?_; rotate_left; (focus (intro w' hS'; go_simp; (try with_reducible rfl); done)); try simp only [Act.put, List.setIfInBounds_toArray, List.set_cons_zero, List.set_cons_succ]
            refine pi_f1 ?_ rfl rfl rfl rfl ?_ ?_; rotate_left; (focus (intro w' hS'; go_simp; (try with_reducible rfl); done)); try simp only [Act.put, List.setIfInBounds_toArray, List.set_cons_zero, List.set_cons_succ]
            refine pi_f1 ?_ rfl rfl rfl rfl ?_ ?_; rotate_left; (focus (intro w' hS'; go_simp; (try with_reducible rfl); done)); try simp only [Act.put, List.setIfInBounds_toArray, List.set_cons_zero, List.set_cons_succ]
            refine pi_a1 rfl rfl rfl rfl (fun K hK => ?_); go_simp; refine (many_at _ g bm G1.n G1.last G1.many G1.wrong G1.had x hS.1.2.1).mono ?_; rintro e w9 ⟨rfl, rfl⟩; rw [HM1.out]; refine hK _ _ ⟨?_, ?_⟩; exact hS; clear hK; clear K; try simp only [Act.put, List.setIfInBounds_toArray, List.set_cons_zero, List.set_cons_succ]
            refine pi_f1 ?_ rfl rfl rfl rfl ?_ ?_; rotate_left; (focus (intro w' hS'; go_simp; (try with_reducible rfl); done)); try simp only [Act.put, List.setIfInBounds_toArray, List.set_cons_zero, List.set_cons_succ]
            refine pi_f0 ?_ rfl ?_ ?_; rotate_left; (focus (intro w' hS'; go_simp; (try with_reducible rfl); done)); try simp only [Act.put, List.setIfInBounds_toArray, List.set_cons_zero, List.set_cons_succ]
            refine pi_f0 ?_ rfl ?_ ?_; rotate_left; (focus (intro w' hS'; go_simp; (try with_reducible rfl); done)); try simp only [Act.put, List.setIfInBounds_toArray, List.set_cons_zero, List.set_cons_succ]
            refine pi_f1 ?_ rfl rfl rfl rfl ?_ ?_; rotate_left; (focus (intro w' hS'; go_simp; (try with_reducible rfl); done)); try simp only [Act.put, List.setIfInBounds_toArray, List.set_cons_zero, List.set_cons_succ]
            refine pi_f1 ?_ rfl rfl rfl rfl ?_ ?_; rotate_left; (focus (intro w' h; refine run_load_row b10 33 (ints D) (.array 17 31) ?_ h.2 Try.underlying33 ?_ (info25b _ HD.out) <;> rfl)); try simp only [Act.put, List.setIfInBounds_toArray, List.set_cons_zero, List.set_cons_succ]
            refine pi_f1 ?_ rfl rfl rfl rfl ?_ ?_; rotate_left; (focus (intro w' hS'; go_simp; (try with_reducible rfl); done)); try simp only [Act.put, List.setIfInBounds_toArray, List.set_cons_zero, List.set_cons_succ]
            refine pi_f1 ?_ rfl rfl rfl rfl ?_ ?_; rotate_left; (focus (intro w' hS'; go_simp; (try with_reducible rfl); done)); try simp only [Act.put, List.setIfInBounds_toArray, List.set_cons_zero, List.set_cons_succ]
            refine pi_f1 ?_ rfl rfl rfl rfl ?_ ?_; rotate_left; (focus (intro w' hS'; go_simp; (try rw [if_pos JU]); (try with_reducible rfl); done)); try simp only [Act.put, List.setIfInBounds_toArray, List.set_cons_zero, List.set_cons_succ]
            refine pi_f1 ?_ rfl rfl rfl rfl ?_ ?_; rotate_left; (focus (intro w' hS'; have q1 := hS'.1.2.2.2.1; have q2 := hS'.1.2.2.2.2.1; go_simp; (try with_reducible rfl); done)); try simp only [Act.put, List.setIfInBounds_toArray, List.set_cons_zero, List.set_cons_succ]
            refine pi_f1 ?_ rfl rfl rfl rfl ?_ ?_; rotate_left; (focus (intro w' h; refine run_load_row b7 33 (ints C) (.array 17 31) ?_ h.1.2.2.1 Try.underlying33 ?_ (info25b _ HC.out) <;> rfl)); try simp only [Act.put, List.setIfInBounds_toArray, List.set_cons_zero, List.set_cons_succ]
            refine pi_f1 ?_ rfl rfl rfl rfl ?_ ?_; rotate_left; (focus (intro w' hS'; go_simp; (try with_reducible rfl); done)); try simp only [Act.put, List.setIfInBounds_toArray, List.set_cons_zero, List.set_cons_succ]
            refine pi_f1 ?_ rfl rfl rfl rfl ?_ ?_; rotate_left; (focus (intro w' hS'; go_simp; (try with_reducible rfl); done)); try simp only [Act.put, List.setIfInBounds_toArray, List.set_cons_zero, List.set_cons_succ]
            refine pi_f1 ?_ rfl rfl rfl rfl ?_ ?_; rotate_left; (focus (intro w' hS'; go_simp; (try rw [if_pos JU]); (try with_reducible rfl); done)); try simp only [Act.put, List.setIfInBounds_toArray, List.set_cons_zero, List.set_cons_succ]
            refine pi_f1 ?_ rfl rfl rfl rfl ?_ ?_; rotate_left; (focus (intro w' hS'; have q1 := hS'.1.2.2.2.1; have q2 := hS'.1.2.2.2.2.1; go_simp; (try with_reducible rfl); done)); try simp only [Act.put, List.setIfInBounds_toArray, List.set_cons_zero, List.set_cons_succ]
            refine pi_a1 rfl rfl rfl rfl (fun K hK => ?_); go_simp; refine (note_at D x y0 y1 y2 y3 _ HD.out HY.out).mono ?_; rintro e w9 ⟨rfl, hb9⟩; replace hS := hS.up hb9; (try replace kl := kl.ups hb9); clear hb9; refine hK _ _ ⟨?_, ?_⟩; exact hS; clear hK; clear K; try simp only [Act.put, List.setIfInBounds_toArray, List.set_cons_zero, List.set_cons_succ]
            refine pi_a1 rfl rfl rfl rfl (fun K hK => ?_); go_simp; refine (note_at C x z0 z1 z2 z3 _ HC.out HZ.out).mono ?_; rintro e w9 ⟨rfl, hb9⟩; replace hS := hS.up hb9; (try replace kl := kl.ups hb9); clear hb9; refine hK _ _ ⟨?_, ?_⟩; exact hS; clear hK; clear K; try simp only [Act.put, List.setIfInBounds_toArray, List.set_cons_zero, List.set_cons_succ]
            refine pi_a1 rfl rfl rfl rfl (fun K hK => ?_); refine wpo_lit _ 2 _ 35 (ints [y0, y1, y2, y3, z0, z1, z2, z3]) (by intro wl; kernel_rfl) fun w5 bl hge hb9 kl => ?_; replace hS := hS.up hb9; clear hge hb9; refine hK _ _ ⟨?_, ?_⟩; exact hS; clear hK; clear K; try simp only [Act.put, List.setIfInBounds_toArray, List.set_cons_zero, List.set_cons_succ]
            refine pi_a1 rfl rfl rfl rfl (fun K hK => ?_); go_simp; refine (fine_at _ g bm G1 [(y0, y1, y2, y3), (z0, z1, z2, z3)] (fun v hv => by rcases List.mem_cons.1 hv with rfl | hv; exact HYW.out; rw [List.mem_singleton.1 hv]; exact HZW.out) _ 2 2 rfl (by simp) (Block.holds kl) hS.1.2.1).mono ?_; rw [HF.out]; rintro e w9 ⟨rfl, hb9⟩; replace hS := hS.up hb9; (try replace kl := kl.ups hb9); clear hb9; refine hK _ _ ⟨?_, ?_⟩; exact hS; clear hK; clear K; try simp only [Act.put, List.setIfInBounds_toArray, List.set_cons_zero, List.set_cons_succ]
            refine pi_f1 ?_ rfl rfl rfl rfl ?_ ?_; rotate_left; (focus (intro w' hS'; go_simp; (try with_reducible rfl); done)); try simp only [Act.put, List.setIfInBounds_toArray, List.set_cons_zero, List.set_cons_succ]
            refine pi_f0 ?_ rfl ?_ ?_; rotate_left; (focus (intro w' hS'; go_simp; (try with_reducible rfl); done)); try simp only [Act.put, List.setIfInBounds_toArray, List.set_cons_zero, List.set_cons_succ]
            refine pi_f0 ?_ rfl ?_ ?_; rotate_left; (focus (intro w' hS'; go_simp; (try with_reducible rfl); done)); try simp only [Act.put, List.setIfInBounds_toArray, List.set_cons_zero, List.set_cons_succ]
            refine pi_f1 ?_ rfl rfl rfl rfl ?_ ?_; rotate_left; (focus (intro w' hS'; go_simp; (try with_reducible rfl); done)); try simp only [Act.put, List.setIfInBounds_toArray, List.set_cons_zero, List.set_cons_succ]
            refine pi_f1 ?_ rfl rfl rfl rfl ?_ ?_; rotate_left; (focus (intro w' hS'; go_simp; (try with_reducible rfl); done)); try simp only [Act.put, List.setIfInBounds_toArray, List.set_cons_zero, List.set_cons_succ]
            refine pi_f1 ?_ rfl rfl rfl rfl ?_ ?_; rotate_left; (focus (intro w' hS'; go_simp; (try with_reducible rfl); done)); try simp only [Act.put, List.setIfInBounds_toArray, List.set_cons_zero, List.set_cons_succ]
            refine pi_f1 ?_ rfl rfl rfl rfl ?_ ?_; rotate_left; (focus (intro w' hS'; go_simp; (try rw [if_pos JU]); (try with_reducible rfl); done)); try simp only [Act.put, List.setIfInBounds_toArray, List.set_cons_zero, List.set_cons_succ]
            refine pi_f1 ?_ rfl rfl rfl rfl ?_ ?_; rotate_left; (focus (intro w' hS'; have q1 := hS'.1.2.2.2.1; have q2 := hS'.1.2.2.2.2.1; go_simp; (try with_reducible rfl); done)); try simp only [Act.put, List.setIfInBounds_toArray, List.set_cons_zero, List.set_cons_succ]
            refine pi_f1 ?_ rfl rfl rfl rfl ?_ ?_; rotate_left; (focus (intro w' h; refine run_load_row b10 33 (ints D) (.array 17 31) ?_ h.2 Try.underlying33 ?_ (info25b _ HD.out) <;> rfl)); try simp only [Act.put, List.setIfInBounds_toArray, List.set_cons_zero, List.set_cons_succ]
            refine pi_f1 ?_ rfl rfl rfl rfl ?_ ?_; rotate_left; (focus (intro w' hS'; go_simp; (try with_reducible rfl); done)); try simp only [Act.put, List.setIfInBounds_toArray, List.set_cons_zero, List.set_cons_succ]
            refine pi_f1 ?_ rfl rfl rfl rfl ?_ ?_; rotate_left; (focus (intro w' hS'; go_simp; (try with_reducible rfl); done)); try simp only [Act.put, List.setIfInBounds_toArray, List.set_cons_zero, List.set_cons_succ]
            refine pi_f1 ?_ rfl rfl rfl rfl ?_ ?_; rotate_left; (focus (intro w' hS'; go_simp; (try rw [if_pos JU]); (try with_reducible rfl); done)); try simp only [Act.put, List.setIfInBounds_toArray, List.set_cons_zero, List.set_cons_succ]
            refine pi_f1 ?_ rfl rfl rfl rfl ?_ ?_; rotate_left; (focus (intro w' hS'; have q1 := hS'.1.2.2.2.1; have q2 := hS'.1.2.2.2.2.1; go_simp; (try with_reducible rfl); done)); try simp only [Act.put, List.setIfInBounds_toArray, List.set_cons_zero, List.set_cons_succ]
            refine pi_a1 rfl rfl rfl rfl (fun K hK => ?_); go_simp; refine (last_at _ g bm G1.n G1.last G1.many G1.wrong G1.had x hS.1.2.1).mono ?_; rw [HL.out]; simp only [ntv]; rintro e w9 ⟨rfl, hb9⟩; replace hS := hS.up hb9; (try replace kl := kl.ups hb9); clear hb9; refine hK _ _ ⟨?_, ?_⟩; exact hS; clear hK; clear K; try simp only [Act.put, List.setIfInBounds_toArray, List.set_cons_zero, List.set_cons_succ]
            refine pi_a1 rfl rfl rfl rfl (fun K hK => ?_); go_simp; refine (note_at D x y0 y1 y2 y3 _ HD.out HY.out).mono ?_; rintro e w9 ⟨rfl, hb9⟩; replace hS := hS.up hb9; (try replace kl := kl.ups hb9); clear hb9; refine hK _ _ ⟨?_, ?_⟩; exact hS; clear hK; clear K; try simp only [Act.put, List.setIfInBounds_toArray, List.set_cons_zero, List.set_cons_succ]
            refine pi_f1 ?_ rfl rfl rfl rfl ?_ ?_; rotate_left; (focus (intro w' hS'; go_simp; (try with_reducible rfl); done)); try simp only [Act.put, List.setIfInBounds_toArray, List.set_cons_zero, List.set_cons_succ]
            refine pi_f0 ?_ rfl ?_ ?_; rotate_left; (focus (intro w' hS'; go_simp; (try with_reducible rfl); done)); try simp only [Act.put, List.setIfInBounds_toArray, List.set_cons_zero, List.set_cons_succ]
            refine pi_nil (NoPanic.normal ?_)
            have hall := hS.1.1
            have h := hS.1.2.1
            have k7 := hS.1.2.2.1
            have k10 := hS.2
            clear hS heq WQ kl
            go_upto_region 21 with (fail)
            refine wp_region_lit ?_
            refine op_loadR _ _ _ _ _ rfl k10 (by kernel_rfl) (info25b _ HD.out) ?_; try simp only [Act.put, List.setIfInBounds_toArray, List.set_cons_zero, List.set_cons_succ]
            refine op_store 33 _ _ b7 33 (ints D) (ints C) rfl rfl k7 (info25b _ HD.out) (by rw [ints_size, ints_size, HC.out, HD.out]) (ints_one _) ?_; intro w3 hb ho kk; replace h := GAt.far h nk7 nk7' hb ho; replace hall := hall.trans (hb _ g7); clear k7 k10 hb ho; try simp only [Act.put, List.setIfInBounds_toArray, List.set_cons_zero, List.set_cons_succ]
            go_upto_region 10 with (fail)
            refine wp_region_lit ?_
            refine wl_v ?_ ?_ ?_; rotate_left; (focus (go_simp; (try with_reducible rfl); done)); try simp only [Act.put, List.setIfInBounds_toArray, List.set_cons_zero, List.set_cons_succ]
            refine wl_v (.int .i64 ((k : Int) + 1)) (by go_simp <;> exact IntWalk.i64_in _ (by omega)) ?_; try simp only [Act.put, List.setIfInBounds_toArray, List.set_cons_zero, List.set_cons_succ]
            refine wl_v ?_ ?_ ?_; rotate_left; (focus (go_simp; (try with_reducible rfl); done)); try simp only [Act.put, List.setIfInBounds_toArray, List.set_cons_zero, List.set_cons_succ]
            go_wp2_with fail
            refine ⟨?_, ?_⟩
            · first
              | (exact ⟨k + 1, G1, D, by omega, by go_num, HD.out, HDw.out, HN1.out.next, h, kk, hall⟩)
              | ((repeat apply Exists.intro); refine ⟨?_, ?_⟩; rotate_left; (focus (first | exact rfl | (repeat (first | exact rfl | refine ⟨rfl, ?_⟩)))); (exact ⟨k + 1, G1, D, by omega, by go_num, HD.out, HDw.out, HN1.out.next, h, kk, hall⟩))
            · simp [intOf]; omega
          · skip
            go_upto_region 17 with (fail)
            refine wp_region_lit ?_
            refine wl_v ?_ ?_ ?_; rotate_left; (focus (go_simp; (try with_reducible rfl); done)); try simp only [Act.put, List.setIfInBounds_toArray, List.set_cons_zero, List.set_cons_succ]
            go_upto_region 18 with (fail)
            refine wp_region_lit ?_
            refine wl_v ?_ ?_ ?_; rotate_left; (focus (go_simp; (try with_reducible rfl); done)); try simp only [Act.put, List.setIfInBounds_toArray, List.set_cons_zero, List.set_cons_succ]
            have WQ : IntKind.i64.wrap (q + 1) = q + 1 := IntWalk.i64_in _ (by omega)
            have hm1 : manyF G1.many x = q + 1 := by rw [HM.out]; simp
            have HM1 := Lib.hid hm1
            clear hm1
            have heq : ∀ w, (Op.equalIn 10000 35 (.agg #[.int .i64 y0, .int .i64 y1, .int .i64 y2, .int .i64 y3]) (.agg #[.int .i64 y0, .int .i64 y1, .int .i64 y2, .int .i64 y3])).run Try.prog w = .ok true w := eqN_same _ _ _ _
            go_upto_region 19 with (fail)
            have hS : VH w g bm G1 b7 C b10 D bu (ou + k) x bs (os + k) A' c' L' _ := ⟨⟨hall.drew, h, k7, (hall.cell (p := ⟨bu, ou + k, none⟩) (World.block_lt_of_cell? w _ HCX.out)).trans HCX.out, (hall.cell (p := ⟨bs, os + k, none⟩) (World.block_lt_of_cell? w _ HCS.out)).trans HCS.out, HRW.out.up hall.drew⟩, k10⟩
            refine region_pi (VH w g bm G1 b7 C b10 D bu (ou + k) x bs (os + k) A' c' L') [(0, true), (1, false), (2, true), (3, true), (4, true), (5, true), (6, true), (7, true), (9, true), (10, true), (11, true), (8, false), (12, true), (13, true), (14, true), (15, true), (16, true), (17, true), (18, true), (19, true), (20, true), (22, true), (23, true), (24, true), (25, true), (26, true), (21, false), (27, false), (28, false), (29, false), (30, true), (31, true), (32, true), (33, true), (34, true), (35, true), (36, true), (37, true), (39, true), (40, true), (41, true), (42, true), (43, true), (38, false), (44, false), (45, true), (46, true)] (by kernel_rfl) (by kernel_rfl) rfl (by kernel_rfl) hS ?_
            clear h k7 k10 hall
            refine pi_f0 ?_ rfl ?_ ?_; rotate_left; (focus (intro w' hS'; go_simp; (try with_reducible rfl); done)); try simp only [Act.put, List.setIfInBounds_toArray, List.set_cons_zero, List.set_cons_succ]
            refine pi_a0 rfl (fun K hK => ?_); go_simp; refine (wrong_at _ g bm G1.n G1.last G1.many G1.wrong G1.had hS.1.2.1).mono ?_; rintro e w9 ⟨rfl, rfl⟩; rw [HW1.out]; refine hK _ _ ⟨?_, ?_⟩; exact hS; clear hK; clear K; try simp only [Act.put, List.setIfInBounds_toArray, List.set_cons_zero, List.set_cons_succ]
            refine pi_f0 ?_ rfl ?_ ?_; rotate_left; (focus (intro w' hS'; go_simp; (try with_reducible rfl); done)); try simp only [Act.put, List.setIfInBounds_toArray, List.set_cons_zero, List.set_cons_succ]
            refine pi_f1 ?_ rfl rfl rfl rfl ?_ ?_; rotate_left; (focus (intro w' hS'; go_simp; (try with_reducible rfl); done)); try simp only [Act.put, List.setIfInBounds_toArray, List.set_cons_zero, List.set_cons_succ]
            refine pi_f1 ?_ rfl rfl rfl rfl ?_ ?_; rotate_left; (focus (intro w' hS'; go_simp; (try with_reducible rfl); done)); try simp only [Act.put, List.setIfInBounds_toArray, List.set_cons_zero, List.set_cons_succ]
            refine pi_f1 ?_ rfl rfl rfl rfl ?_ ?_; rotate_left; (focus (intro w' hS'; go_simp; (try with_reducible rfl); done)); try simp only [Act.put, List.setIfInBounds_toArray, List.set_cons_zero, List.set_cons_succ]
            refine pi_f1 ?_ rfl rfl rfl rfl ?_ ?_; rotate_left; (focus (intro w' hS'; go_simp; (try rw [if_pos JU]); (try with_reducible rfl); done)); try simp only [Act.put, List.setIfInBounds_toArray, List.set_cons_zero, List.set_cons_succ]
            refine pi_f1 ?_ rfl rfl rfl rfl ?_ ?_; rotate_left; (focus (intro w' hS'; have q1 := hS'.1.2.2.2.1; have q2 := hS'.1.2.2.2.2.1; go_simp; (try with_reducible rfl); done)); try simp only [Act.put, List.setIfInBounds_toArray, List.set_cons_zero, List.set_cons_succ]
            refine pi_f1 ?_ rfl rfl rfl rfl ?_ ?_; rotate_left; (focus (intro w' hS'; go_simp; (try with_reducible rfl); done)); try simp only [Act.put, List.setIfInBounds_toArray, List.set_cons_zero, List.set_cons_succ]
            refine pi_f1 ?_ rfl rfl rfl rfl ?_ ?_; rotate_left; (focus (intro w' hS'; go_simp; (try with_reducible rfl); done)); try simp only [Act.put, List.setIfInBounds_toArray, List.set_cons_zero, List.set_cons_succ]
            refine pi_f1 ?_ rfl rfl rfl rfl ?_ ?_; rotate_left; (focus (intro w' hS'; go_simp; (try with_reducible rfl); done)); try simp only [Act.put, List.setIfInBounds_toArray, List.set_cons_zero, List.set_cons_succ]
            refine pi_a1 rfl rfl rfl rfl (fun K hK => ?_); go_simp; refine (many_at _ g bm G1.n G1.last G1.many G1.wrong G1.had x hS.1.2.1).mono ?_; rintro e w9 ⟨rfl, rfl⟩; rw [HM1.out]; refine hK _ _ ⟨?_, ?_⟩; exact hS; clear hK; clear K; try simp only [Act.put, List.setIfInBounds_toArray, List.set_cons_zero, List.set_cons_succ]
            refine pi_f1 ?_ rfl rfl rfl rfl ?_ ?_; rotate_left; (focus (intro w' hS'; go_simp; (try with_reducible rfl); done)); try simp only [Act.put, List.setIfInBounds_toArray, List.set_cons_zero, List.set_cons_succ]
            refine pi_f0 ?_ rfl ?_ ?_; rotate_left; (focus (intro w' hS'; go_simp; (try with_reducible rfl); done)); try simp only [Act.put, List.setIfInBounds_toArray, List.set_cons_zero, List.set_cons_succ]
            refine pi_f0 ?_ rfl ?_ ?_; rotate_left; (focus (intro w' hS'; go_simp; (try with_reducible rfl); done)); try simp only [Act.put, List.setIfInBounds_toArray, List.set_cons_zero, List.set_cons_succ]
            refine pi_f1 ?_ rfl rfl rfl rfl ?_ ?_; rotate_left; (focus (intro w' hS'; go_simp; (try with_reducible rfl); done)); try simp only [Act.put, List.setIfInBounds_toArray, List.set_cons_zero, List.set_cons_succ]
            refine pi_f1 ?_ rfl rfl rfl rfl ?_ ?_; rotate_left; (focus (intro w' h; refine run_load_row b10 33 (ints D) (.array 17 31) ?_ h.2 Try.underlying33 ?_ (info25b _ HD.out) <;> rfl)); try simp only [Act.put, List.setIfInBounds_toArray, List.set_cons_zero, List.set_cons_succ]
            refine pi_f1 ?_ rfl rfl rfl rfl ?_ ?_; rotate_left; (focus (intro w' hS'; go_simp; (try with_reducible rfl); done)); try simp only [Act.put, List.setIfInBounds_toArray, List.set_cons_zero, List.set_cons_succ]
            refine pi_f1 ?_ rfl rfl rfl rfl ?_ ?_; rotate_left; (focus (intro w' hS'; go_simp; (try with_reducible rfl); done)); try simp only [Act.put, List.setIfInBounds_toArray, List.set_cons_zero, List.set_cons_succ]
            refine pi_f1 ?_ rfl rfl rfl rfl ?_ ?_; rotate_left; (focus (intro w' hS'; go_simp; (try rw [if_pos JU]); (try with_reducible rfl); done)); try simp only [Act.put, List.setIfInBounds_toArray, List.set_cons_zero, List.set_cons_succ]
            refine pi_f1 ?_ rfl rfl rfl rfl ?_ ?_; rotate_left; (focus (intro w' hS'; have q1 := hS'.1.2.2.2.1; have q2 := hS'.1.2.2.2.2.1; go_simp; (try with_reducible rfl); done)); try simp only [Act.put, List.setIfInBounds_toArray, List.set_cons_zero, List.set_cons_succ]
            refine pi_f1 ?_ rfl rfl rfl rfl ?_ ?_; rotate_left; (focus (intro w' h; refine run_load_row b7 33 (ints C) (.array 17 31) ?_ h.1.2.2.1 Try.underlying33 ?_ (info25b _ HC.out) <;> rfl)); try simp only [Act.put, List.setIfInBounds_toArray, List.set_cons_zero, List.set_cons_succ]
            refine pi_f1 ?_ rfl rfl rfl rfl ?_ ?_; rotate_left; (focus (intro w' hS'; go_simp; (try with_reducible rfl); done)); try simp only [Act.put, List.setIfInBounds_toArray, List.set_cons_zero, List.set_cons_succ]
            refine pi_f1 ?_ rfl rfl rfl rfl ?_ ?_; rotate_left; (focus (intro w' hS'; go_simp; (try with_reducible rfl); done)); try simp only [Act.put, List.setIfInBounds_toArray, List.set_cons_zero, List.set_cons_succ]
            refine pi_f1 ?_ rfl rfl rfl rfl ?_ ?_; rotate_left; (focus (intro w' hS'; go_simp; (try rw [if_pos JU]); (try with_reducible rfl); done)); try simp only [Act.put, List.setIfInBounds_toArray, List.set_cons_zero, List.set_cons_succ]
            refine pi_f1 ?_ rfl rfl rfl rfl ?_ ?_; rotate_left; (focus (intro w' hS'; have q1 := hS'.1.2.2.2.1; have q2 := hS'.1.2.2.2.2.1; go_simp; (try with_reducible rfl); done)); try simp only [Act.put, List.setIfInBounds_toArray, List.set_cons_zero, List.set_cons_succ]
            refine pi_a1 rfl rfl rfl rfl (fun K hK => ?_); go_simp; refine (note_at D x y0 y1 y2 y3 _ HD.out HY.out).mono ?_; rintro e w9 ⟨rfl, hb9⟩; replace hS := hS.up hb9; (try replace kl := kl.ups hb9); clear hb9; refine hK _ _ ⟨?_, ?_⟩; exact hS; clear hK; clear K; try simp only [Act.put, List.setIfInBounds_toArray, List.set_cons_zero, List.set_cons_succ]
            refine pi_a1 rfl rfl rfl rfl (fun K hK => ?_); go_simp; refine (note_at C x z0 z1 z2 z3 _ HC.out HZ.out).mono ?_; rintro e w9 ⟨rfl, hb9⟩; replace hS := hS.up hb9; (try replace kl := kl.ups hb9); clear hb9; refine hK _ _ ⟨?_, ?_⟩; exact hS; clear hK; clear K; try simp only [Act.put, List.setIfInBounds_toArray, List.set_cons_zero, List.set_cons_succ]
            refine pi_a1 rfl rfl rfl rfl (fun K hK => ?_); refine wpo_lit _ 2 _ 35 (ints [y0, y1, y2, y3, z0, z1, z2, z3]) (by intro wl; kernel_rfl) fun w5 bl hge hb9 kl => ?_; replace hS := hS.up hb9; clear hge hb9; refine hK _ _ ⟨?_, ?_⟩; exact hS; clear hK; clear K; try simp only [Act.put, List.setIfInBounds_toArray, List.set_cons_zero, List.set_cons_succ]
            refine pi_a1 rfl rfl rfl rfl (fun K hK => ?_); go_simp; refine (fine_at _ g bm G1 [(y0, y1, y2, y3), (z0, z1, z2, z3)] (fun v hv => by rcases List.mem_cons.1 hv with rfl | hv; exact HYW.out; rw [List.mem_singleton.1 hv]; exact HZW.out) _ 2 2 rfl (by simp) (Block.holds kl) hS.1.2.1).mono ?_; rw [HF.out]; rintro e w9 ⟨rfl, hb9⟩; replace hS := hS.up hb9; (try replace kl := kl.ups hb9); clear hb9; refine hK _ _ ⟨?_, ?_⟩; exact hS; clear hK; clear K; try simp only [Act.put, List.setIfInBounds_toArray, List.set_cons_zero, List.set_cons_succ]
            refine pi_f1 ?_ rfl rfl rfl rfl ?_ ?_; rotate_left; (focus (intro w' hS'; go_simp; (try with_reducible rfl); done)); try simp only [Act.put, List.setIfInBounds_toArray, List.set_cons_zero, List.set_cons_succ]
            refine pi_f0 ?_ rfl ?_ ?_; rotate_left; (focus (intro w' hS'; go_simp; (try with_reducible rfl); done)); try simp only [Act.put, List.setIfInBounds_toArray, List.set_cons_zero, List.set_cons_succ]
            refine pi_f0 ?_ rfl ?_ ?_; rotate_left; (focus (intro w' hS'; go_simp; (try with_reducible rfl); done)); try simp only [Act.put, List.setIfInBounds_toArray, List.set_cons_zero, List.set_cons_succ]
            refine pi_f1 ?_ rfl rfl rfl rfl ?_ ?_; rotate_left; (focus (intro w' hS'; go_simp; (try with_reducible rfl); done)); try simp only [Act.put, List.setIfInBounds_toArray, List.set_cons_zero, List.set_cons_succ]
            refine pi_f1 ?_ rfl rfl rfl rfl ?_ ?_; rotate_left; (focus (intro w' hS'; go_simp; (try with_reducible rfl); done)); try simp only [Act.put, List.setIfInBounds_toArray, List.set_cons_zero, List.set_cons_succ]
            refine pi_f1 ?_ rfl rfl rfl rfl ?_ ?_; rotate_left; (focus (intro w' hS'; go_simp; (try with_reducible rfl); done)); try simp only [Act.put, List.setIfInBounds_toArray, List.set_cons_zero, List.set_cons_succ]
            refine pi_f1 ?_ rfl rfl rfl rfl ?_ ?_; rotate_left; (focus (intro w' hS'; go_simp; (try rw [if_pos JU]); (try with_reducible rfl); done)); try simp only [Act.put, List.setIfInBounds_toArray, List.set_cons_zero, List.set_cons_succ]
            refine pi_f1 ?_ rfl rfl rfl rfl ?_ ?_; rotate_left; (focus (intro w' hS'; have q1 := hS'.1.2.2.2.1; have q2 := hS'.1.2.2.2.2.1; go_simp; (try with_reducible rfl); done)); try simp only [Act.put, List.setIfInBounds_toArray, List.set_cons_zero, List.set_cons_succ]
            refine pi_f1 ?_ rfl rfl rfl rfl ?_ ?_; rotate_left; (focus (intro w' h; refine run_load_row b10 33 (ints D) (.array 17 31) ?_ h.2 Try.underlying33 ?_ (info25b _ HD.out) <;> rfl)); try simp only [Act.put, List.setIfInBounds_toArray, List.set_cons_zero, List.set_cons_succ]
            refine pi_f1 ?_ rfl rfl rfl rfl ?_ ?_; rotate_left; (focus (intro w' hS'; go_simp; (try with_reducible rfl); done)); try simp only [Act.put, List.setIfInBounds_toArray, List.set_cons_zero, List.set_cons_succ]
            refine pi_f1 ?_ rfl rfl rfl rfl ?_ ?_; rotate_left; (focus (intro w' hS'; go_simp; (try with_reducible rfl); done)); try simp only [Act.put, List.setIfInBounds_toArray, List.set_cons_zero, List.set_cons_succ]
            refine pi_f1 ?_ rfl rfl rfl rfl ?_ ?_; rotate_left; (focus (intro w' hS'; go_simp; (try rw [if_pos JU]); (try with_reducible rfl); done)); try simp only [Act.put, List.setIfInBounds_toArray, List.set_cons_zero, List.set_cons_succ]
            refine pi_f1 ?_ rfl rfl rfl rfl ?_ ?_; rotate_left; (focus (intro w' hS'; have q1 := hS'.1.2.2.2.1; have q2 := hS'.1.2.2.2.2.1; go_simp; (try with_reducible rfl); done)); try simp only [Act.put, List.setIfInBounds_toArray, List.set_cons_zero, List.set_cons_succ]
            refine pi_a1 rfl rfl rfl rfl (fun K hK => ?_); go_simp; refine (last_at _ g bm G1.n G1.last G1.many G1.wrong G1.had x hS.1.2.1).mono ?_; rw [HL.out]; simp only [ntv]; rintro e w9 ⟨rfl, hb9⟩; replace hS := hS.up hb9; (try replace kl := kl.ups hb9); clear hb9; refine hK _ _ ⟨?_, ?_⟩; exact hS; clear hK; clear K; try simp only [Act.put, List.setIfInBounds_toArray, List.set_cons_zero, List.set_cons_succ]
            refine pi_a1 rfl rfl rfl rfl (fun K hK => ?_); go_simp; refine (note_at D x y0 y1 y2 y3 _ HD.out HY.out).mono ?_; rintro e w9 ⟨rfl, hb9⟩; replace hS := hS.up hb9; (try replace kl := kl.ups hb9); clear hb9; refine hK _ _ ⟨?_, ?_⟩; exact hS; clear hK; clear K; try simp only [Act.put, List.setIfInBounds_toArray, List.set_cons_zero, List.set_cons_succ]
            refine pi_f1 ?_ rfl rfl rfl rfl ?_ ?_; rotate_left; (focus (intro w' hS'; go_simp; (try with_reducible rfl); done)); try simp only [Act.put, List.setIfInBounds_toArray, List.set_cons_zero, List.set_cons_succ]
            refine pi_f0 ?_ rfl ?_ ?_; rotate_left; (focus (intro w' hS'; go_simp; (try with_reducible rfl); done)); try simp only [Act.put, List.setIfInBounds_toArray, List.set_cons_zero, List.set_cons_succ]
            refine pi_nil (NoPanic.normal ?_)
            have hall := hS.1.1
            have h := hS.1.2.1
            have k7 := hS.1.2.2.1
            have k10 := hS.2
            clear hS heq WQ kl
            go_upto_region 21 with (fail)
            refine wp_region_lit ?_
            refine op_loadR _ _ _ _ _ rfl k10 (by kernel_rfl) (info25b _ HD.out) ?_; try simp only [Act.put, List.setIfInBounds_toArray, List.set_cons_zero, List.set_cons_succ]
            refine op_store 33 _ _ b7 33 (ints D) (ints C) rfl rfl k7 (info25b _ HD.out) (by rw [ints_size, ints_size, HC.out, HD.out]) (ints_one _) ?_; intro w3 hb ho kk; replace h := GAt.far h nk7 nk7' hb ho; replace hall := hall.trans (hb _ g7); clear k7 k10 hb ho; try simp only [Act.put, List.setIfInBounds_toArray, List.set_cons_zero, List.set_cons_succ]
            go_upto_region 10 with (fail)
            refine wp_region_lit ?_
            refine wl_v ?_ ?_ ?_; rotate_left; (focus (go_simp; (try with_reducible rfl); done)); try simp only [Act.put, List.setIfInBounds_toArray, List.set_cons_zero, List.set_cons_succ]
            refine wl_v (.int .i64 ((k : Int) + 1)) (by go_simp <;> exact IntWalk.i64_in _ (by omega)) ?_; try simp only [Act.put, List.setIfInBounds_toArray, List.set_cons_zero, List.set_cons_succ]
            refine wl_v ?_ ?_ ?_; rotate_left; (focus (go_simp; (try with_reducible rfl); done)); try simp only [Act.put, List.setIfInBounds_toArray, List.set_cons_zero, List.set_cons_succ]
            go_wp2_with fail
            refine ⟨?_, ?_⟩
            · first
              | (exact ⟨k + 1, G1, D, by omega, by go_num, HD.out, HDw.out, HN1.out.next, h, kk, hall⟩)
              | ((repeat apply Exists.intro); refine ⟨?_, ?_⟩; rotate_left; (focus (first | exact rfl | (repeat (first | exact rfl | refine ⟨rfl, ?_⟩)))); (exact ⟨k + 1, G1, D, by omega, by go_num, HD.out, HDw.out, HN1.out.next, h, kk, hall⟩))
            · simp [intOf]; omega
    · obtain rfl : k = U.length := by omega
      go_upto_region 9 with (fail)
      refine wp_region_lit ?_
      refine wl_v ?_ ?_ ?_; rotate_left; (focus (go_simp; (try with_reducible rfl); done)); try simp only [Act.put, List.setIfInBounds_toArray, List.set_cons_zero, List.set_cons_succ]
      refine wl_v ?_ ?_ ?_; rotate_left; (focus (go_simp; (try with_reducible rfl); done)); try simp only [Act.put, List.setIfInBounds_toArray, List.set_cons_zero, List.set_cons_succ]
      refine wl_v ?_ ?_ ?_; rotate_left; (focus (go_simp; (try with_reducible rfl); done)); try simp only [Act.put, List.setIfInBounds_toArray, List.set_cons_zero, List.set_cons_succ]
      refine wl_v (.bool false) (by go_simp <;> omega) ?_; try simp only [Act.put, List.setIfInBounds_toArray, List.set_cons_zero, List.set_cons_succ]
      go_upto_region 22 with (fail)
      refine wp_region_lit ?_
      refine wl_v ?_ ?_ ?_; rotate_left; (focus (go_simp; (try with_reducible rfl); done)); try simp only [Act.put, List.setIfInBounds_toArray, List.set_cons_zero, List.set_cons_succ]
      refine wl_v ?_ ?_ ?_; rotate_left; (focus (go_simp; (try with_reducible rfl); done)); try simp only [Act.put, List.setIfInBounds_toArray, List.set_cons_zero, List.set_cons_succ]
      go_wp2_with fail
      go_ret
      exact ⟨rfl, hall⟩
end Go.Proofs.Ytbpepkpjjfhmpaa
