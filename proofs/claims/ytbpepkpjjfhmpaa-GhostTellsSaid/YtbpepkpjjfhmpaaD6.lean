/- GhostTells: the walk. -/
import Derived.Test.YtbpepkpjjfhmpaaD5
namespace Go.Proofs.Ytbpepkpjjfhmpaa
open Go.RowKit Go.Maps
set_option linter.unusedVariables false
set_option linter.unusedSimpArgs false

theorem rlookK_zero (B : List Int) (S : RS) : ∀ k, rowN (rlookK B S k) 0 = rowN S 0
  | 0 => rfl
  | k + 1 => by unfold rlookK; rw [rlookS_row B _ 0 _ (by omega), rlookK_zero B S k]
theorem rnew_zero : rowN (rnewK 16) 0 = [] := by decide +kernel
theorem lastF_nwf {G : GS} {k : Nat} (h : GOK G k) (u : Int) : NWF (lastF G.last u) := by
  by_cases hu : 1 ≤ u ∧ u ≤ 16
  · obtain ⟨m, rfl⟩ : ∃ m : Nat, u = m := ⟨u.toNat, by omega⟩
    exact h.wf m (by omega) (by omega)
  · rw [lastF_bad _ _ hu]
    exact ⟨wf_mk (by simp), wf_mk (by simp), wf_mk (by simp), wf_mk (by simp)⟩
theorem RAt.but {w w' : World} {r g bm : Nat} {S : RS} (h : RAt w r S) (hb : But g bm w w') (hg : g < r) (hm : bm < r) : RAt w' r S := by
  obtain ⟨vals, h1, h2, h3, h4⟩ := h
  refine ⟨vals, h1, h2, (hb.block r h3.lt (by omega) (by omega)).trans h3, fun u v V a b => ?_⟩
  obtain ⟨A, c, rfl, hh, hl, hn⟩ := h4 u v V a b
  refine ⟨A, c, rfl, fun j hj => ?_, hl, fun b o e => ⟨(hn b o e).1, Nat.lt_of_lt_of_le (hn b o e).2 hb.size⟩⟩
  obtain ⟨b, o, e, hc⟩ := hh j hj
  have := hn b o e
  exact ⟨b, o, e, (World.cell?_of_block (a := ⟨b, o + j, none⟩) (hb.block b this.2 (by omega) (by omega))).trans hc⟩
theorem GG.rbut {w w' : World} {r g bm : Nat} {G : GS} (h : GG w g bm G) (hb : But r r w w') (hg : g ≠ r) (hm : bm ≠ r) : GG w' g bm G :=
  ⟨(hb.block g h.1.lt hg hg).trans h.1, h.2.1.kept (row := some r) ⟨hb.os, hb.tape, hb.output, hb.size, fun k hk hne => hb.block k hk (fun e => hne (by rw [e])) (fun e => hne (by rw [e]))⟩ (by simpa using hm), h.2.2⟩
def RT (W : World) (g bm r n : Nat) (i : Value) (w : World) : Prop :=
  ∃ (k : Nat) (G : GS) (S : RS), k ≤ n ∧ i = .int .i64 k ∧ GOK G k ∧ Rel G S ∧ rowN S 0 = [] ∧ GG w g bm G ∧ RAt w r S ∧ Below W.heap.size W w
def RU (W : World) (g bm r : Nat) (G : GS) (S : RS) (u : Value) (w : World) : Prop :=
  ∃ x : Int, -1 ≤ x ∧ x ≤ 18 ∧ u = .int .i64 x ∧ GG w g bm G ∧ RAt w r S ∧ Below W.heap.size W w
def RV (W : World) (g bm r : Nat) (G : GS) (S : RS) (n : Nat) (i : Value) (w : World) : Prop :=
  ∃ j : Nat, j ≤ n ∧ i = .int .i64 (j : Int) ∧ GG w g bm G ∧ RAt w r S ∧ Below W.heap.size W w
def ST3 (W : World) (g bm r : Nat) (G : GS) (S : RS) (w : World) : Prop := Below W.heap.size W w ∧ GG w g bm G ∧ RAt w r S
theorem ST3.up {W w w' : World} {g bm r : Nat} {G : GS} {S : RS} (h : ST3 W g bm r G S w) (hb : Below w.heap.size w w') : ST3 W g bm r G S w' := ⟨h.1.trans (hb.mono h.1.size), h.2.1.ups hb, h.2.2.ups hb⟩
theorem nflat_take (V : List Nt) (j : Nat) : nflat (V.take j) = (nflat V).take (j * 4) := by
  induction V generalizing j with
  | nil => simp [nflat]
  | cons x V ih =>
    cases j with
    | zero => simp [nflat]
    | succ j =>
      have := ih j
      simp only [nflat, List.take_succ_cons, List.flatMap_cons] at this ⊢
      rw [this, List.take_append, show (j + 1) * 4 = j * 4 + 4 by omega]
      simp
theorem holds_take {w : World} {A : Option Addr} {V : List Nt} {j : Nat} (h : Holds w A (IV (nflat V))) (hj : j ≤ V.length) : Holds w A (IV (nflat (V.take j))) := by
  intro i hi
  have hl : i < (V.take j).length * 4 := by simpa [IV, nflat_len] using hi
  rw [List.length_take] at hl
  obtain ⟨b, o, e, hc⟩ := h i (by simp [IV, nflat_len]; omega)
  refine ⟨b, o, e, ?_⟩
  rw [hc, nflat_take]
  simp only [IV, List.getElem?_map]
  rw [List.getElem?_take, if_pos (by omega)]
set_option maxHeartbeats 8000000 in
set_option maxRecDepth 100000 in
theorem tells_walk (w : World) (A AV : Option Addr) (n c cV : Nat) (L : List Int) (V : List Nt) (hL : L.length = n * 51) (hw : WF L) (hn : n ≤ 50) (hh : Holds w A (L.map (Value.int .i64)))
    (hVn : V.length ≤ 50) (hVc : V.length ≤ cV) (hVw : ∀ x ∈ V, NWF x) (hhV : Holds w AV (IV (nflat V))) :
    Calls Try.prog 3 #[.slice A n c, .slice AV V.length cV] w fun e w' => e = .returned (.bool true) ∧ Below w.heap.size w w' := by
  have hall := Below.refl w.heap.size w
  have HL := Lib.hid hL
  have HW := Lib.hid hw
  replace hh := Lib.hid hh
  replace hhV := Lib.hid hhV
  clear hL hw
  have hg28 := g28
  go_enter Try.func3, Try.ntmps3
  go_upto_region 0 with (fail)
  refine wp_region_lit ?_
  refine wl_v ?_ ?_ ?_; rotate_left; (focus (go_simp; (try with_reducible rfl); done)); try simp only [Act.put, List.setIfInBounds_toArray, List.set_cons_zero, List.set_cons_succ]
  go_upto_region 1 with (fail)
  refine wp_region_lit ?_
  refine wl_call _ _ _ (small_any _) (by go_simp) ?_; rintro e w9 ⟨rfl, hb⟩; refine ⟨_, rfl, ?_⟩; replace hall := hall.trans (hb.mono hall.size); clear hb; try simp only [Act.put, List.setIfInBounds_toArray, List.set_cons_zero, List.set_cons_succ]
  refine wl_v ?_ ?_ ?_; rotate_left; (focus (go_simp; (try with_reducible rfl); done)); try simp only [Act.put, List.setIfInBounds_toArray, List.set_cons_zero, List.set_cons_succ]
  go_upto_region 2 with (fail)
  refine wp_region_lit ?_
  refine wl_v ?_ ?_ ?_; rotate_left; (focus (go_simp; (try with_reducible rfl); done)); try simp only [Act.put, List.setIfInBounds_toArray, List.set_cons_zero, List.set_cons_succ]
  refine wl_v ?_ ?_ ?_; rotate_left; (focus (go_simp; (try with_reducible rfl); done)); try simp only [Act.put, List.setIfInBounds_toArray, List.set_cons_zero, List.set_cons_succ]
  refine wl_v (.bool false) (by go_simp <;> omega) ?_; try simp only [Act.put, List.setIfInBounds_toArray, List.set_cons_zero, List.set_cons_succ]
  refine wl_v ?_ ?_ ?_; rotate_left; (focus (go_simp; (try with_reducible rfl); done)); try simp only [Act.put, List.setIfInBounds_toArray, List.set_cons_zero, List.set_cons_succ]
  refine op_unguard _ _ rfl ?_; refine wl_v ?_ ?_ ?_; rotate_left; (focus (go_simp; (try with_reducible rfl); done)); try simp only [Act.put, List.setIfInBounds_toArray, List.set_cons_zero, List.set_cons_succ]
  refine op_unguard _ _ rfl ?_; refine wl_v ?_ ?_ ?_; rotate_left; (focus (go_simp; (try with_reducible rfl); done)); try simp only [Act.put, List.setIfInBounds_toArray, List.set_cons_zero, List.set_cons_succ]
  refine op_unguard _ _ rfl ?_; refine wl_v (.bool false) (by go_simp <;> omega) ?_; try simp only [Act.put, List.setIfInBounds_toArray, List.set_cons_zero, List.set_cons_succ]
  refine wl_v (.bool false) (by go_simp) ?_; try simp only [Act.put, List.setIfInBounds_toArray, List.set_cons_zero, List.set_cons_succ]
  go_upto_region 4 with (fail)
  refine wp_region_lit ?_
  refine wl_call _ _ _ (new_any _) (by go_simp) ?_; rintro e w1 ⟨g, bm, rfl, gg0, gm0, h9, hb⟩; refine ⟨_, rfl, ?_⟩; have gg := Nat.le_trans hall.size gg0; have gm := Nat.le_trans hall.size gm0; replace hall := hall.trans (hb.mono hall.size); have h : GG w1 g bm G0 := h9; clear hb h9 gg0 gm0; try simp only [Act.put, List.setIfInBounds_toArray, List.set_cons_zero, List.set_cons_succ]
  refine wl_v ?_ ?_ ?_; rotate_left; (focus (go_simp; (try with_reducible rfl); done)); try simp only [Act.put, List.setIfInBounds_toArray, List.set_cons_zero, List.set_cons_succ]
  go_upto_region 5 with (fail)
  refine wp_region_lit ?_
  refine wl_call _ _ _ (rnew_any _) (by go_simp) ?_; rintro e w2 ⟨r, rfl, gr0, hr, hb⟩; refine ⟨_, rfl, ?_⟩; have grg : g < r := Nat.lt_of_lt_of_le h.1.lt gr0; have grm : bm < r := Nat.lt_of_lt_of_le h.2.1.lt gr0; have gr := Nat.le_trans hall.size gr0; replace hall := hall.trans (hb.mono hall.size); replace h := h.ups hb; clear hb gr0; try simp only [Act.put, List.setIfInBounds_toArray, List.set_cons_zero, List.set_cons_succ]
  refine wl_v ?_ ?_ ?_; rotate_left; (focus (go_simp; (try with_reducible rfl); done)); try simp only [Act.put, List.setIfInBounds_toArray, List.set_cons_zero, List.set_cons_succ]
  go_upto_region 6 with (fail)
  refine wp_region_lit ?_
  refine wl_v ?_ ?_ ?_; rotate_left; (focus (go_simp; (try with_reducible rfl); done)); try simp only [Act.put, List.setIfInBounds_toArray, List.set_cons_zero, List.set_cons_succ]
  refine wl_v ?_ ?_ ?_; rotate_left; (focus (go_simp; (try with_reducible rfl); done)); try simp only [Act.put, List.setIfInBounds_toArray, List.set_cons_zero, List.set_cons_succ]
  go_upto_region 8 with (fail)
  refine wp_region_lit ?_
  refine wl_v ?_ ?_ ?_; rotate_left; (focus (go_simp; (try with_reducible rfl); done)); try simp only [Act.put, List.setIfInBounds_toArray, List.set_cons_zero, List.set_cons_succ]
  go_wp2_with fail
  go_loopw [8] (RT w g bm r n) (fun i _ => n - (intOf i).toNat)
  case atStart => exact ⟨0, G0, rnewK 16, by omega, rfl, G0_ok, Rel.start, rnew_zero, h, hr, hall⟩
  case round =>
    clear h hr hall
    obtain ⟨k, G, S, hk, rfl, hok, hrel', h0, h, hr, hall⟩ := hrel
    by_cases hlt : k < n
    · skip
      have hB51 : ((L.drop (k*51)).take 51).length = 51 := by simp [HL.out]; omega
      have hBw : WF ((L.drop (k*51)).take 51) := fun x hx => HW.out x (List.mem_of_mem_drop (List.mem_of_mem_take hx))
      obtain ⟨bA, oA, hA, _⟩ := hh.out 0 (by have := HL.out; simp; omega)
      have hrg := ((hh.out.up hall).ints_range hA (k*51) 51 (by have := HL.out; omega))
      subst hA
      have KN : (k : Int) < (n : Int) := by omega
      have hrgf : ∀ w' : World, Below w.heap.size w w' → w'.rangeAt bA (oA + k*51) (((L.drop (k*51)).take 51).map (Value.int .i64)) := fun w' hb => (hh.out.up hb).ints_range rfl (k*51) 51 (by have := HL.out; omega)
      obtain ⟨B, hB⟩ : ∃ B, (L.drop (k*51)).take 51 = B := ⟨_, rfl⟩
      rw [hB] at hB51 hBw hrg hrgf
      have HRGf := Lib.hid hrgf
      clear hrgf
      have hok1 := hok.look hBw
      have hrel1 := hrel'.look B 16 (by omega)
      have h01 : rowN (rlookK B S 16) 0 = [] := (rlookK_zero B S 16).trans h0
      have hb900 : ∀ u : Nat, u ≤ 16 → (rowN S u).length ≤ 900 := by
        intro u hu
        by_cases hu0 : 1 ≤ u
        · have a := hrel'.many u hu0 hu
          have b := (hok.many u hu).2
          omega
        · obtain rfl : u = 0 := by omega
          rw [h0]; simp
      have hlk := look_at
      have HOK := Lib.hid hok
      have HREL := Lib.hid hrel'
      have HB900 := Lib.hid hb900
      obtain ⟨G1, hG1⟩ : ∃ G1, lookK B G 16 = G1 := ⟨_, rfl⟩
      obtain ⟨S1, hS1⟩ : ∃ S1, rlookK B S 16 = S1 := ⟨_, rfl⟩
      rw [hG1] at hok1 hrel1
      rw [hS1] at hrel1 h01
      have HG1 := Lib.hid hG1
      have HS1 := Lib.hid hS1
      have HB51 := Lib.hid hB51
      have HBw := Lib.hid hBw
      have HOK1 := Lib.hid hok1
      have HR := Lib.hid hrel1
      have HRG := Lib.hid hrg
      have H01 := Lib.hid h01
      clear hB hG1 hS1 hB51 hBw hok1 hrel1 hrg h01 hok hrel' h0 hb900 hlk
      go_upto_region 9 with (fail)
      refine wp_region_lit ?_
      refine wl_v ?_ ?_ ?_; rotate_left; (focus (go_simp; (try with_reducible rfl); done)); try simp only [Act.put, List.setIfInBounds_toArray, List.set_cons_zero, List.set_cons_succ]
      refine wl_v ?_ ?_ ?_; rotate_left; (focus (go_simp; (try with_reducible rfl); done)); try simp only [Act.put, List.setIfInBounds_toArray, List.set_cons_zero, List.set_cons_succ]
      refine wl_v ?_ ?_ ?_; rotate_left; (focus (go_simp; (try with_reducible rfl); done)); try simp only [Act.put, List.setIfInBounds_toArray, List.set_cons_zero, List.set_cons_succ]
      refine wl_v (.bool true) (by go_simp <;> omega) ?_; try simp only [Act.put, List.setIfInBounds_toArray, List.set_cons_zero, List.set_cons_succ]
      go_upto_region 11 with (fail)
      refine wp_region_lit ?_
      refine wl_v ?_ ?_ ?_; rotate_left; (focus (go_simp; (try with_reducible rfl); done)); try simp only [Act.put, List.setIfInBounds_toArray, List.set_cons_zero, List.set_cons_succ]
      refine wl_v ?_ ?_ ?_; rotate_left; (focus (go_simp; (try with_reducible rfl); done)); try simp only [Act.put, List.setIfInBounds_toArray, List.set_cons_zero, List.set_cons_succ]
      refine wl_v ?_ ?_ ?_; rotate_left; (focus (go_simp; (try with_reducible rfl); done)); try simp only [Act.put, List.setIfInBounds_toArray, List.set_cons_zero, List.set_cons_succ]
      refine wl_v ?_ ?_ ?_; rotate_left; (focus (go_simp; (try with_reducible rfl); done)); try simp only [Act.put, List.setIfInBounds_toArray, List.set_cons_zero, List.set_cons_succ]
      refine op_loadM 33 _ bA (oA + k*51) _ (ints B) rfl (by rfl) HRG.out (by kernel_rfl) (by have := info25s; rw [List.length_map, HB51.out]; exact this) ?_; try simp only [Act.put, List.setIfInBounds_toArray, List.set_cons_zero, List.set_cons_succ]
      refine wl_call _ _ _ (look_at _ g bm B HB51.out HBw.out G (by have := HOK.out.n; unfold maxLen; omega) (fun u hu => by have := HOK.out.many u hu; omega) h) (by go_simp) ?_; rintro e w9 ⟨rfl, hb, h9⟩; refine ⟨_, rfl, ?_⟩; rw [HG1.out] at h9; replace hr := hr.but hb grg grm; replace hall := hall.trans (hb.below hall.size gg gm); clear h hb; replace HRG := Lib.hid (HRGf.out _ hall); have h := h9; clear h9; try simp only [Act.put, List.setIfInBounds_toArray, List.set_cons_zero, List.set_cons_succ]
      go_upto_region 12 with (fail)
      refine wp_region_lit ?_
      refine wl_v ?_ ?_ ?_; rotate_left; (focus (go_simp; (try with_reducible rfl); done)); try simp only [Act.put, List.setIfInBounds_toArray, List.set_cons_zero, List.set_cons_succ]
      refine wl_v ?_ ?_ ?_; rotate_left; (focus (go_simp; (try with_reducible rfl); done)); try simp only [Act.put, List.setIfInBounds_toArray, List.set_cons_zero, List.set_cons_succ]
      refine wl_v ?_ ?_ ?_; rotate_left; (focus (go_simp; (try with_reducible rfl); done)); try simp only [Act.put, List.setIfInBounds_toArray, List.set_cons_zero, List.set_cons_succ]
      refine wl_v ?_ ?_ ?_; rotate_left; (focus (go_simp; (try with_reducible rfl); done)); try simp only [Act.put, List.setIfInBounds_toArray, List.set_cons_zero, List.set_cons_succ]
      refine op_loadM 33 _ bA (oA + k*51) _ (ints B) rfl (by rfl) HRG.out (by kernel_rfl) (by have := info25s; rw [List.length_map, HB51.out]; exact this) ?_; try simp only [Act.put, List.setIfInBounds_toArray, List.set_cons_zero, List.set_cons_succ]
      refine wl_call _ _ _ (rlook_at _ r B HB51.out HBw.out S HB900.out HREL.out.ne hr) (by go_simp) ?_; rintro e w9 ⟨rfl, hb, h9⟩; refine ⟨_, rfl, ?_⟩; rw [HS1.out] at h9; replace h := h.rbut hb (by omega) (by omega); replace hall := hall.trans (hb.below hall.size gr gr); clear hr hb; have hr := h9; clear h9; try simp only [Act.put, List.setIfInBounds_toArray, List.set_cons_zero, List.set_cons_succ]
      go_upto_region 13 with (fail)
      refine wp_region_lit ?_
      refine wl_v ?_ ?_ ?_; rotate_left; (focus (go_simp; (try with_reducible rfl); done)); try simp only [Act.put, List.setIfInBounds_toArray, List.set_cons_zero, List.set_cons_succ]
      go_wp2_with fail
      go_loopw [9] (RU w g bm r G1 S1) (fun u _ => (18 - intOf u).toNat)
      case atStart => exact ⟨-1, by omega, by omega, rfl, h, hr, hall⟩
      case round =>
        clear h hr hall
        obtain ⟨u, hu1, hu2, rfl, h, hr, hall⟩ := hrel
        by_cases hm : u ≤ 17
        · skip
          obtain ⟨⟨y0, y1, y2, y3⟩, hy⟩ : ∃ y, lastF G1.last u = y := ⟨_, rfl⟩
          obtain ⟨q, hq⟩ : ∃ q, manyF G1.many u = q := ⟨_, rfl⟩
          have HY := Lib.hid hy
          have HRY := Lib.hid ((HR.out.lastE u).trans hy)
          have HQ := Lib.hid hq
          have HRQ := Lib.hid ((HR.out.manyE u).trans hq)
          have HYW : Hid (NWF (y0, y1, y2, y3)) := Lib.hid (by rw [← hy]; exact lastF_nwf HOK1.out u)
          obtain ⟨hd, hhd⟩ : ∃ hd, decide ((y0, y1, y2, y3) ∈ G1.had) = hd := ⟨_, rfl⟩
          have HHD := Lib.hid hhd
          have hkn : (1 ≤ u ∧ u ≤ 16) → hd = true := fun hu => by rw [← hhd, ← hy]; exact HR.out.lastIn u hu
          have HKN := Lib.hid hkn
          have heq : ∀ w, (Op.equalIn 10000 35 (.agg #[.int .i64 y0, .int .i64 y1, .int .i64 y2, .int .i64 y3]) (.agg #[.int .i64 y0, .int .i64 y1, .int .i64 y2, .int .i64 y3])).run Try.prog w = .ok true w := eqN_same _ _ _ _
          clear hy hq hhd hkn
          go_upto_region 14 with (fail)
          refine wp_region_lit ?_
          refine wl_v ?_ ?_ ?_; rotate_left; (focus (go_simp; (try with_reducible rfl); done)); try simp only [Act.put, List.setIfInBounds_toArray, List.set_cons_zero, List.set_cons_succ]
          refine wl_v (.bool true) (by go_simp <;> omega) ?_; try simp only [Act.put, List.setIfInBounds_toArray, List.set_cons_zero, List.set_cons_succ]
          obtain ⟨t1, ht1⟩ : ∃ t1, decide (1 ≤ u) = t1 := ⟨_, rfl⟩
          obtain ⟨t2, ht2⟩ : ∃ t2, decide (u ≤ 16) = t2 := ⟨_, rfl⟩
          have HT1 := Lib.hid ht1
          have HT2 := Lib.hid ht2
          clear ht1 ht2
          have hfin : hd = true ∨ t1 = false ∨ t2 = false := by
            by_cases hu : 1 ≤ u ∧ u ≤ 16
            · exact .inl (HKN.out hu)
            · by_cases a : 1 ≤ u
              · exact .inr (.inr (by rw [← HT2.out]; simp; omega))
              · exact .inr (.inl (by rw [← HT1.out]; simpa using a))
          cases hd
          · skip
            cases t1
            · skip
              go_upto_region 16 with (fail)
              refine wp_region_lit ?_
              refine wl_v ?_ ?_ ?_; rotate_left; (focus (go_simp; (try with_reducible rfl); done)); try simp only [Act.put, List.setIfInBounds_toArray, List.set_cons_zero, List.set_cons_succ]
              refine wl_v ?_ ?_ ?_; rotate_left; (focus (go_simp; (try with_reducible rfl); done)); try simp only [Act.put, List.setIfInBounds_toArray, List.set_cons_zero, List.set_cons_succ]
              refine wl_call _ _ _ (last_at _ g bm G1.n G1.last G1.many G1.wrong G1.had u h) (by go_simp) ?_; rintro e w9 ⟨rfl, hb⟩; refine ⟨_, rfl, ?_⟩; rw [HY.out]; simp only [ntv]; replace hall := hall.trans (hb.mono hall.size); replace h := h.ups hb; replace hr := hr.ups hb; clear hb; try simp only [Act.put, List.setIfInBounds_toArray, List.set_cons_zero, List.set_cons_succ]
              refine wl_v ?_ ?_ ?_; rotate_left; (focus (go_simp; (try with_reducible rfl); done)); try simp only [Act.put, List.setIfInBounds_toArray, List.set_cons_zero, List.set_cons_succ]
              refine wl_v ?_ ?_ ?_; rotate_left; (focus (go_simp; (try with_reducible rfl); done)); try simp only [Act.put, List.setIfInBounds_toArray, List.set_cons_zero, List.set_cons_succ]
              refine wl_call _ _ _ (rlast_at _ r S1 u hr HR.out.ne) (by go_simp) ?_; rintro e w9 ⟨rfl, hb⟩; refine ⟨_, rfl, ?_⟩; rw [HRY.out]; simp only [ntv]; replace hall := hall.trans (hb.mono hall.size); replace h := h.ups hb; replace hr := hr.ups hb; clear hb; try simp only [Act.put, List.setIfInBounds_toArray, List.set_cons_zero, List.set_cons_succ]
              refine wl_v (.bool false) (by go_simp) ?_; try simp only [Act.put, List.setIfInBounds_toArray, List.set_cons_zero, List.set_cons_succ]
              refine wl_v ?_ ?_ ?_; rotate_left; (focus (go_simp; (try with_reducible rfl); done)); try simp only [Act.put, List.setIfInBounds_toArray, List.set_cons_zero, List.set_cons_succ]
              refine op_unguard _ _ rfl ?_; refine wl_v ?_ ?_ ?_; rotate_left; (focus (go_simp; (try with_reducible rfl); done)); try simp only [Act.put, List.setIfInBounds_toArray, List.set_cons_zero, List.set_cons_succ]
              refine op_unguard _ _ rfl ?_; refine wl_v ?_ ?_ ?_; rotate_left; (focus (go_simp; (try with_reducible rfl); done)); try simp only [Act.put, List.setIfInBounds_toArray, List.set_cons_zero, List.set_cons_succ]
              refine op_unguard _ _ rfl ?_; refine wl_call _ _ _ (many_at _ g bm G1.n G1.last G1.many G1.wrong G1.had u h) (by go_simp) ?_; rintro e w9 ⟨rfl, rfl⟩; refine ⟨_, rfl, ?_⟩; rw [HQ.out]; try simp only [Act.put, List.setIfInBounds_toArray, List.set_cons_zero, List.set_cons_succ]
              refine op_unguard _ _ rfl ?_; refine wl_v ?_ ?_ ?_; rotate_left; (focus (go_simp; (try with_reducible rfl); done)); try simp only [Act.put, List.setIfInBounds_toArray, List.set_cons_zero, List.set_cons_succ]
              refine op_unguard _ _ rfl ?_; refine wl_v ?_ ?_ ?_; rotate_left; (focus (go_simp; (try with_reducible rfl); done)); try simp only [Act.put, List.setIfInBounds_toArray, List.set_cons_zero, List.set_cons_succ]
              refine op_unguard _ _ rfl ?_; refine wl_call _ _ _ (rmany_at _ r S1 u hr) (by go_simp) ?_; rintro e w9 ⟨rfl, rfl⟩; refine ⟨_, rfl, ?_⟩; rw [HRQ.out]; try simp only [Act.put, List.setIfInBounds_toArray, List.set_cons_zero, List.set_cons_succ]
              refine op_unguard _ _ rfl ?_; refine wl_v (.bool false) (by go_simp) ?_; try simp only [Act.put, List.setIfInBounds_toArray, List.set_cons_zero, List.set_cons_succ]
              refine wl_v ?_ ?_ ?_; rotate_left; (focus (go_simp; (try with_reducible rfl); done)); try simp only [Act.put, List.setIfInBounds_toArray, List.set_cons_zero, List.set_cons_succ]
              refine wl_v ?_ ?_ ?_; rotate_left; (focus (go_simp; (try with_reducible rfl); done)); try simp only [Act.put, List.setIfInBounds_toArray, List.set_cons_zero, List.set_cons_succ]
              refine op_unguard _ _ rfl ?_; refine wl_v ?_ ?_ ?_; rotate_left; (focus (go_simp; (try with_reducible rfl); done)); try simp only [Act.put, List.setIfInBounds_toArray, List.set_cons_zero, List.set_cons_succ]
              refine op_unguard _ _ rfl ?_; refine wl_v ?_ ?_ ?_; rotate_left; (focus (go_simp; (try with_reducible rfl); done)); try simp only [Act.put, List.setIfInBounds_toArray, List.set_cons_zero, List.set_cons_succ]
              refine op_unguard _ _ rfl ?_; refine wl_v ?_ ?_ ?_; rotate_left; (focus (go_simp; (try with_reducible rfl); done)); try simp only [Act.put, List.setIfInBounds_toArray, List.set_cons_zero, List.set_cons_succ]
              refine op_unguard _ _ rfl ?_; refine wl_call _ _ _ (last_at _ g bm G1.n G1.last G1.many G1.wrong G1.had u h) (by go_simp) ?_; rintro e w9 ⟨rfl, hb⟩; refine ⟨_, rfl, ?_⟩; rw [HY.out]; simp only [ntv]; replace hall := hall.trans (hb.mono hall.size); replace h := h.ups hb; replace hr := hr.ups hb; clear hb; try simp only [Act.put, List.setIfInBounds_toArray, List.set_cons_zero, List.set_cons_succ]
              refine op_unguard _ _ rfl ?_; refine wl_call _ _ _ (had_at _ g bm G1.n G1.last G1.many G1.wrong G1.had (y0, y1, y2, y3) HYW.out h) (by simp only [ntv]; go_simp) ?_; rintro e w9 ⟨rfl, hb⟩; refine ⟨_, rfl, ?_⟩; rw [HHD.out]; replace hall := hall.trans (hb.mono hall.size); replace h := h.ups hb; replace hr := hr.ups hb; clear hb; try simp only [Act.put, List.setIfInBounds_toArray, List.set_cons_zero, List.set_cons_succ]
              refine op_unguard _ _ rfl ?_; refine wl_v ?_ ?_ ?_; rotate_left; (focus (go_simp; (try with_reducible rfl); done)); try simp only [Act.put, List.setIfInBounds_toArray, List.set_cons_zero, List.set_cons_succ]
              refine op_unguard _ _ rfl ?_; refine wl_v ?_ ?_ ?_; rotate_left; (focus (go_simp; (try with_reducible rfl); done)); try simp only [Act.put, List.setIfInBounds_toArray, List.set_cons_zero, List.set_cons_succ]
              refine op_unguard _ _ rfl ?_; refine wl_v ?_ ?_ ?_; rotate_left; (focus (go_simp; (try with_reducible rfl); done)); try simp only [Act.put, List.setIfInBounds_toArray, List.set_cons_zero, List.set_cons_succ]
              refine op_unguard _ _ rfl ?_; refine wl_v (.bool false) (by go_simp <;> first | exact HT1.out | (have := HT1.out; simp at this; omega)) ?_; try simp only [Act.put, List.setIfInBounds_toArray, List.set_cons_zero, List.set_cons_succ]
              refine op_unguard _ _ rfl ?_; refine wl_v ?_ ?_ ?_; rotate_left; (focus (go_simp; (try with_reducible rfl); done)); try simp only [Act.put, List.setIfInBounds_toArray, List.set_cons_zero, List.set_cons_succ]
              refine op_unguard _ _ rfl ?_; refine wl_v ?_ ?_ ?_; rotate_left; (focus (go_simp; (try with_reducible rfl); done)); try simp only [Act.put, List.setIfInBounds_toArray, List.set_cons_zero, List.set_cons_succ]
              refine wl_s rfl ?_; try simp only [Act.put, List.setIfInBounds_toArray, List.set_cons_zero, List.set_cons_succ]
              refine wl_s rfl ?_; try simp only [Act.put, List.setIfInBounds_toArray, List.set_cons_zero, List.set_cons_succ]
              refine op_unguard _ _ rfl ?_; refine wl_v ?_ ?_ ?_; rotate_left; (focus (go_simp; (try with_reducible rfl); done)); try simp only [Act.put, List.setIfInBounds_toArray, List.set_cons_zero, List.set_cons_succ]
              refine wl_v ?_ ?_ ?_; rotate_left; (focus (go_simp; (try with_reducible rfl); done)); try simp only [Act.put, List.setIfInBounds_toArray, List.set_cons_zero, List.set_cons_succ]
              go_upto_region 15 with (fail)
              refine wp_region_lit ?_
              refine wl_v ?_ ?_ ?_; rotate_left; (focus (go_simp; (try with_reducible rfl); done)); try simp only [Act.put, List.setIfInBounds_toArray, List.set_cons_zero, List.set_cons_succ]
              refine wl_v (.int .i64 (u + 1)) (by go_simp <;> exact IntWalk.i64_in _ (by omega)) ?_; try simp only [Act.put, List.setIfInBounds_toArray, List.set_cons_zero, List.set_cons_succ]
              refine wl_v ?_ ?_ ?_; rotate_left; (focus (go_simp; (try with_reducible rfl); done)); try simp only [Act.put, List.setIfInBounds_toArray, List.set_cons_zero, List.set_cons_succ]
              go_wp2_with fail
              refine ⟨?_, ?_⟩
              · first
                | (exact ⟨u + 1, by omega, by omega, rfl, h, hr, hall⟩)
                | ((repeat apply Exists.intro); refine ⟨?_, ?_⟩; rotate_left; (focus (first | exact rfl | (repeat (first | exact rfl | refine ⟨rfl, ?_⟩)))); (exact ⟨u + 1, by omega, by omega, rfl, h, hr, hall⟩))
              · simp [intOf]; omega
            · obtain rfl : t2 = false := by simpa using hfin
              go_upto_region 16 with (fail)
              refine wp_region_lit ?_
              refine wl_v ?_ ?_ ?_; rotate_left; (focus (go_simp; (try with_reducible rfl); done)); try simp only [Act.put, List.setIfInBounds_toArray, List.set_cons_zero, List.set_cons_succ]
              refine wl_v ?_ ?_ ?_; rotate_left; (focus (go_simp; (try with_reducible rfl); done)); try simp only [Act.put, List.setIfInBounds_toArray, List.set_cons_zero, List.set_cons_succ]
              refine wl_call _ _ _ (last_at _ g bm G1.n G1.last G1.many G1.wrong G1.had u h) (by go_simp) ?_; rintro e w9 ⟨rfl, hb⟩; refine ⟨_, rfl, ?_⟩; rw [HY.out]; simp only [ntv]; replace hall := hall.trans (hb.mono hall.size); replace h := h.ups hb; replace hr := hr.ups hb; clear hb; try simp only [Act.put, List.setIfInBounds_toArray, List.set_cons_zero, List.set_cons_succ]
              refine wl_v ?_ ?_ ?_; rotate_left; (focus (go_simp; (try with_reducible rfl); done)); try simp only [Act.put, List.setIfInBounds_toArray, List.set_cons_zero, List.set_cons_succ]
              refine wl_v ?_ ?_ ?_; rotate_left; (focus (go_simp; (try with_reducible rfl); done)); try simp only [Act.put, List.setIfInBounds_toArray, List.set_cons_zero, List.set_cons_succ]
              refine wl_call _ _ _ (rlast_at _ r S1 u hr HR.out.ne) (by go_simp) ?_; rintro e w9 ⟨rfl, hb⟩; refine ⟨_, rfl, ?_⟩; rw [HRY.out]; simp only [ntv]; replace hall := hall.trans (hb.mono hall.size); replace h := h.ups hb; replace hr := hr.ups hb; clear hb; try simp only [Act.put, List.setIfInBounds_toArray, List.set_cons_zero, List.set_cons_succ]
              refine wl_v (.bool false) (by go_simp) ?_; try simp only [Act.put, List.setIfInBounds_toArray, List.set_cons_zero, List.set_cons_succ]
              refine wl_v ?_ ?_ ?_; rotate_left; (focus (go_simp; (try with_reducible rfl); done)); try simp only [Act.put, List.setIfInBounds_toArray, List.set_cons_zero, List.set_cons_succ]
              refine op_unguard _ _ rfl ?_; refine wl_v ?_ ?_ ?_; rotate_left; (focus (go_simp; (try with_reducible rfl); done)); try simp only [Act.put, List.setIfInBounds_toArray, List.set_cons_zero, List.set_cons_succ]
              refine op_unguard _ _ rfl ?_; refine wl_v ?_ ?_ ?_; rotate_left; (focus (go_simp; (try with_reducible rfl); done)); try simp only [Act.put, List.setIfInBounds_toArray, List.set_cons_zero, List.set_cons_succ]
              refine op_unguard _ _ rfl ?_; refine wl_call _ _ _ (many_at _ g bm G1.n G1.last G1.many G1.wrong G1.had u h) (by go_simp) ?_; rintro e w9 ⟨rfl, rfl⟩; refine ⟨_, rfl, ?_⟩; rw [HQ.out]; try simp only [Act.put, List.setIfInBounds_toArray, List.set_cons_zero, List.set_cons_succ]
              refine op_unguard _ _ rfl ?_; refine wl_v ?_ ?_ ?_; rotate_left; (focus (go_simp; (try with_reducible rfl); done)); try simp only [Act.put, List.setIfInBounds_toArray, List.set_cons_zero, List.set_cons_succ]
              refine op_unguard _ _ rfl ?_; refine wl_v ?_ ?_ ?_; rotate_left; (focus (go_simp; (try with_reducible rfl); done)); try simp only [Act.put, List.setIfInBounds_toArray, List.set_cons_zero, List.set_cons_succ]
              refine op_unguard _ _ rfl ?_; refine wl_call _ _ _ (rmany_at _ r S1 u hr) (by go_simp) ?_; rintro e w9 ⟨rfl, rfl⟩; refine ⟨_, rfl, ?_⟩; rw [HRQ.out]; try simp only [Act.put, List.setIfInBounds_toArray, List.set_cons_zero, List.set_cons_succ]
              refine op_unguard _ _ rfl ?_; refine wl_v (.bool false) (by go_simp) ?_; try simp only [Act.put, List.setIfInBounds_toArray, List.set_cons_zero, List.set_cons_succ]
              refine wl_v ?_ ?_ ?_; rotate_left; (focus (go_simp; (try with_reducible rfl); done)); try simp only [Act.put, List.setIfInBounds_toArray, List.set_cons_zero, List.set_cons_succ]
              refine wl_v ?_ ?_ ?_; rotate_left; (focus (go_simp; (try with_reducible rfl); done)); try simp only [Act.put, List.setIfInBounds_toArray, List.set_cons_zero, List.set_cons_succ]
              refine op_unguard _ _ rfl ?_; refine wl_v ?_ ?_ ?_; rotate_left; (focus (go_simp; (try with_reducible rfl); done)); try simp only [Act.put, List.setIfInBounds_toArray, List.set_cons_zero, List.set_cons_succ]
              refine op_unguard _ _ rfl ?_; refine wl_v ?_ ?_ ?_; rotate_left; (focus (go_simp; (try with_reducible rfl); done)); try simp only [Act.put, List.setIfInBounds_toArray, List.set_cons_zero, List.set_cons_succ]
              refine op_unguard _ _ rfl ?_; refine wl_v ?_ ?_ ?_; rotate_left; (focus (go_simp; (try with_reducible rfl); done)); try simp only [Act.put, List.setIfInBounds_toArray, List.set_cons_zero, List.set_cons_succ]
              refine op_unguard _ _ rfl ?_; refine wl_call _ _ _ (last_at _ g bm G1.n G1.last G1.many G1.wrong G1.had u h) (by go_simp) ?_; rintro e w9 ⟨rfl, hb⟩; refine ⟨_, rfl, ?_⟩; rw [HY.out]; simp only [ntv]; replace hall := hall.trans (hb.mono hall.size); replace h := h.ups hb; replace hr := hr.ups hb; clear hb; try simp only [Act.put, List.setIfInBounds_toArray, List.set_cons_zero, List.set_cons_succ]
              refine op_unguard _ _ rfl ?_; refine wl_call _ _ _ (had_at _ g bm G1.n G1.last G1.many G1.wrong G1.had (y0, y1, y2, y3) HYW.out h) (by simp only [ntv]; go_simp) ?_; rintro e w9 ⟨rfl, hb⟩; refine ⟨_, rfl, ?_⟩; rw [HHD.out]; replace hall := hall.trans (hb.mono hall.size); replace h := h.ups hb; replace hr := hr.ups hb; clear hb; try simp only [Act.put, List.setIfInBounds_toArray, List.set_cons_zero, List.set_cons_succ]
              refine op_unguard _ _ rfl ?_; refine wl_v ?_ ?_ ?_; rotate_left; (focus (go_simp; (try with_reducible rfl); done)); try simp only [Act.put, List.setIfInBounds_toArray, List.set_cons_zero, List.set_cons_succ]
              refine op_unguard _ _ rfl ?_; refine wl_v ?_ ?_ ?_; rotate_left; (focus (go_simp; (try with_reducible rfl); done)); try simp only [Act.put, List.setIfInBounds_toArray, List.set_cons_zero, List.set_cons_succ]
              refine op_unguard _ _ rfl ?_; refine wl_v ?_ ?_ ?_; rotate_left; (focus (go_simp; (try with_reducible rfl); done)); try simp only [Act.put, List.setIfInBounds_toArray, List.set_cons_zero, List.set_cons_succ]
              refine op_unguard _ _ rfl ?_; refine wl_v (.bool true) (by go_simp <;> first | exact HT1.out | (have := HT1.out; simp at this; omega)) ?_; try simp only [Act.put, List.setIfInBounds_toArray, List.set_cons_zero, List.set_cons_succ]
              refine op_unguard _ _ rfl ?_; refine wl_v ?_ ?_ ?_; rotate_left; (focus (go_simp; (try with_reducible rfl); done)); try simp only [Act.put, List.setIfInBounds_toArray, List.set_cons_zero, List.set_cons_succ]
              refine op_unguard _ _ rfl ?_; refine wl_v ?_ ?_ ?_; rotate_left; (focus (go_simp; (try with_reducible rfl); done)); try simp only [Act.put, List.setIfInBounds_toArray, List.set_cons_zero, List.set_cons_succ]
              refine op_unguard _ _ rfl ?_; refine wl_v ?_ ?_ ?_; rotate_left; (focus (go_simp; (try with_reducible rfl); done)); try simp only [Act.put, List.setIfInBounds_toArray, List.set_cons_zero, List.set_cons_succ]
              refine op_unguard _ _ rfl ?_; refine wl_v (.bool false) (by go_simp <;> first | exact HT2.out | (have := HT2.out; simp at this; omega)) ?_; try simp only [Act.put, List.setIfInBounds_toArray, List.set_cons_zero, List.set_cons_succ]
              refine op_unguard _ _ rfl ?_; refine wl_v ?_ ?_ ?_; rotate_left; (focus (go_simp; (try with_reducible rfl); done)); try simp only [Act.put, List.setIfInBounds_toArray, List.set_cons_zero, List.set_cons_succ]
              refine wl_v ?_ ?_ ?_; rotate_left; (focus (go_simp; (try with_reducible rfl); done)); try simp only [Act.put, List.setIfInBounds_toArray, List.set_cons_zero, List.set_cons_succ]
              go_upto_region 15 with (fail)
              refine wp_region_lit ?_
              refine wl_v ?_ ?_ ?_; rotate_left; (focus (go_simp; (try with_reducible rfl); done)); try simp only [Act.put, List.setIfInBounds_toArray, List.set_cons_zero, List.set_cons_succ]
              refine wl_v (.int .i64 (u + 1)) (by go_simp <;> exact IntWalk.i64_in _ (by omega)) ?_; try simp only [Act.put, List.setIfInBounds_toArray, List.set_cons_zero, List.set_cons_succ]
              refine wl_v ?_ ?_ ?_; rotate_left; (focus (go_simp; (try with_reducible rfl); done)); try simp only [Act.put, List.setIfInBounds_toArray, List.set_cons_zero, List.set_cons_succ]
              go_wp2_with fail
              refine ⟨?_, ?_⟩
              · first
                | (exact ⟨u + 1, by omega, by omega, rfl, h, hr, hall⟩)
                | ((repeat apply Exists.intro); refine ⟨?_, ?_⟩; rotate_left; (focus (first | exact rfl | (repeat (first | exact rfl | refine ⟨rfl, ?_⟩)))); (exact ⟨u + 1, by omega, by omega, rfl, h, hr, hall⟩))
              · simp [intOf]; omega
          · skip
            go_upto_region 16 with (fail)
            refine wp_region_lit ?_
            refine wl_v ?_ ?_ ?_; rotate_left; (focus (go_simp; (try with_reducible rfl); done)); try simp only [Act.put, List.setIfInBounds_toArray, List.set_cons_zero, List.set_cons_succ]
            refine wl_v ?_ ?_ ?_; rotate_left; (focus (go_simp; (try with_reducible rfl); done)); try simp only [Act.put, List.setIfInBounds_toArray, List.set_cons_zero, List.set_cons_succ]
            refine wl_call _ _ _ (last_at _ g bm G1.n G1.last G1.many G1.wrong G1.had u h) (by go_simp) ?_; rintro e w9 ⟨rfl, hb⟩; refine ⟨_, rfl, ?_⟩; rw [HY.out]; simp only [ntv]; replace hall := hall.trans (hb.mono hall.size); replace h := h.ups hb; replace hr := hr.ups hb; clear hb; try simp only [Act.put, List.setIfInBounds_toArray, List.set_cons_zero, List.set_cons_succ]
            refine wl_v ?_ ?_ ?_; rotate_left; (focus (go_simp; (try with_reducible rfl); done)); try simp only [Act.put, List.setIfInBounds_toArray, List.set_cons_zero, List.set_cons_succ]
            refine wl_v ?_ ?_ ?_; rotate_left; (focus (go_simp; (try with_reducible rfl); done)); try simp only [Act.put, List.setIfInBounds_toArray, List.set_cons_zero, List.set_cons_succ]
            refine wl_call _ _ _ (rlast_at _ r S1 u hr HR.out.ne) (by go_simp) ?_; rintro e w9 ⟨rfl, hb⟩; refine ⟨_, rfl, ?_⟩; rw [HRY.out]; simp only [ntv]; replace hall := hall.trans (hb.mono hall.size); replace h := h.ups hb; replace hr := hr.ups hb; clear hb; try simp only [Act.put, List.setIfInBounds_toArray, List.set_cons_zero, List.set_cons_succ]
            refine wl_v (.bool false) (by go_simp) ?_; try simp only [Act.put, List.setIfInBounds_toArray, List.set_cons_zero, List.set_cons_succ]
            refine wl_v ?_ ?_ ?_; rotate_left; (focus (go_simp; (try with_reducible rfl); done)); try simp only [Act.put, List.setIfInBounds_toArray, List.set_cons_zero, List.set_cons_succ]
            refine op_unguard _ _ rfl ?_; refine wl_v ?_ ?_ ?_; rotate_left; (focus (go_simp; (try with_reducible rfl); done)); try simp only [Act.put, List.setIfInBounds_toArray, List.set_cons_zero, List.set_cons_succ]
            refine op_unguard _ _ rfl ?_; refine wl_v ?_ ?_ ?_; rotate_left; (focus (go_simp; (try with_reducible rfl); done)); try simp only [Act.put, List.setIfInBounds_toArray, List.set_cons_zero, List.set_cons_succ]
            refine op_unguard _ _ rfl ?_; refine wl_call _ _ _ (many_at _ g bm G1.n G1.last G1.many G1.wrong G1.had u h) (by go_simp) ?_; rintro e w9 ⟨rfl, rfl⟩; refine ⟨_, rfl, ?_⟩; rw [HQ.out]; try simp only [Act.put, List.setIfInBounds_toArray, List.set_cons_zero, List.set_cons_succ]
            refine op_unguard _ _ rfl ?_; refine wl_v ?_ ?_ ?_; rotate_left; (focus (go_simp; (try with_reducible rfl); done)); try simp only [Act.put, List.setIfInBounds_toArray, List.set_cons_zero, List.set_cons_succ]
            refine op_unguard _ _ rfl ?_; refine wl_v ?_ ?_ ?_; rotate_left; (focus (go_simp; (try with_reducible rfl); done)); try simp only [Act.put, List.setIfInBounds_toArray, List.set_cons_zero, List.set_cons_succ]
            refine op_unguard _ _ rfl ?_; refine wl_call _ _ _ (rmany_at _ r S1 u hr) (by go_simp) ?_; rintro e w9 ⟨rfl, rfl⟩; refine ⟨_, rfl, ?_⟩; rw [HRQ.out]; try simp only [Act.put, List.setIfInBounds_toArray, List.set_cons_zero, List.set_cons_succ]
            refine op_unguard _ _ rfl ?_; refine wl_v (.bool false) (by go_simp) ?_; try simp only [Act.put, List.setIfInBounds_toArray, List.set_cons_zero, List.set_cons_succ]
            refine wl_v ?_ ?_ ?_; rotate_left; (focus (go_simp; (try with_reducible rfl); done)); try simp only [Act.put, List.setIfInBounds_toArray, List.set_cons_zero, List.set_cons_succ]
            refine wl_v ?_ ?_ ?_; rotate_left; (focus (go_simp; (try with_reducible rfl); done)); try simp only [Act.put, List.setIfInBounds_toArray, List.set_cons_zero, List.set_cons_succ]
            refine op_unguard _ _ rfl ?_; refine wl_v ?_ ?_ ?_; rotate_left; (focus (go_simp; (try with_reducible rfl); done)); try simp only [Act.put, List.setIfInBounds_toArray, List.set_cons_zero, List.set_cons_succ]
            refine op_unguard _ _ rfl ?_; refine wl_v ?_ ?_ ?_; rotate_left; (focus (go_simp; (try with_reducible rfl); done)); try simp only [Act.put, List.setIfInBounds_toArray, List.set_cons_zero, List.set_cons_succ]
            refine op_unguard _ _ rfl ?_; refine wl_v ?_ ?_ ?_; rotate_left; (focus (go_simp; (try with_reducible rfl); done)); try simp only [Act.put, List.setIfInBounds_toArray, List.set_cons_zero, List.set_cons_succ]
            refine op_unguard _ _ rfl ?_; refine wl_call _ _ _ (last_at _ g bm G1.n G1.last G1.many G1.wrong G1.had u h) (by go_simp) ?_; rintro e w9 ⟨rfl, hb⟩; refine ⟨_, rfl, ?_⟩; rw [HY.out]; simp only [ntv]; replace hall := hall.trans (hb.mono hall.size); replace h := h.ups hb; replace hr := hr.ups hb; clear hb; try simp only [Act.put, List.setIfInBounds_toArray, List.set_cons_zero, List.set_cons_succ]
            refine op_unguard _ _ rfl ?_; refine wl_call _ _ _ (had_at _ g bm G1.n G1.last G1.many G1.wrong G1.had (y0, y1, y2, y3) HYW.out h) (by simp only [ntv]; go_simp) ?_; rintro e w9 ⟨rfl, hb⟩; refine ⟨_, rfl, ?_⟩; rw [HHD.out]; replace hall := hall.trans (hb.mono hall.size); replace h := h.ups hb; replace hr := hr.ups hb; clear hb; try simp only [Act.put, List.setIfInBounds_toArray, List.set_cons_zero, List.set_cons_succ]
            refine op_unguard _ _ rfl ?_; refine wl_v ?_ ?_ ?_; rotate_left; (focus (go_simp; (try with_reducible rfl); done)); try simp only [Act.put, List.setIfInBounds_toArray, List.set_cons_zero, List.set_cons_succ]
            refine op_unguard _ _ rfl ?_; refine wl_v ?_ ?_ ?_; rotate_left; (focus (go_simp; (try with_reducible rfl); done)); try simp only [Act.put, List.setIfInBounds_toArray, List.set_cons_zero, List.set_cons_succ]
            refine wl_s rfl ?_; try simp only [Act.put, List.setIfInBounds_toArray, List.set_cons_zero, List.set_cons_succ]
            refine wl_s rfl ?_; try simp only [Act.put, List.setIfInBounds_toArray, List.set_cons_zero, List.set_cons_succ]
            refine op_unguard _ _ rfl ?_; refine wl_v ?_ ?_ ?_; rotate_left; (focus (go_simp; (try with_reducible rfl); done)); try simp only [Act.put, List.setIfInBounds_toArray, List.set_cons_zero, List.set_cons_succ]
            refine op_unguard _ _ rfl ?_; refine wl_v ?_ ?_ ?_; rotate_left; (focus (go_simp; (try with_reducible rfl); done)); try simp only [Act.put, List.setIfInBounds_toArray, List.set_cons_zero, List.set_cons_succ]
            refine wl_s rfl ?_; try simp only [Act.put, List.setIfInBounds_toArray, List.set_cons_zero, List.set_cons_succ]
            refine wl_s rfl ?_; try simp only [Act.put, List.setIfInBounds_toArray, List.set_cons_zero, List.set_cons_succ]
            refine op_unguard _ _ rfl ?_; refine wl_v ?_ ?_ ?_; rotate_left; (focus (go_simp; (try with_reducible rfl); done)); try simp only [Act.put, List.setIfInBounds_toArray, List.set_cons_zero, List.set_cons_succ]
            refine wl_v ?_ ?_ ?_; rotate_left; (focus (go_simp; (try with_reducible rfl); done)); try simp only [Act.put, List.setIfInBounds_toArray, List.set_cons_zero, List.set_cons_succ]
            go_upto_region 15 with (fail)
            refine wp_region_lit ?_
            refine wl_v ?_ ?_ ?_; rotate_left; (focus (go_simp; (try with_reducible rfl); done)); try simp only [Act.put, List.setIfInBounds_toArray, List.set_cons_zero, List.set_cons_succ]
            refine wl_v (.int .i64 (u + 1)) (by go_simp <;> exact IntWalk.i64_in _ (by omega)) ?_; try simp only [Act.put, List.setIfInBounds_toArray, List.set_cons_zero, List.set_cons_succ]
            refine wl_v ?_ ?_ ?_; rotate_left; (focus (go_simp; (try with_reducible rfl); done)); try simp only [Act.put, List.setIfInBounds_toArray, List.set_cons_zero, List.set_cons_succ]
            go_wp2_with fail
            refine ⟨?_, ?_⟩
            · first
              | (exact ⟨u + 1, by omega, by omega, rfl, h, hr, hall⟩)
              | ((repeat apply Exists.intro); refine ⟨?_, ?_⟩; rotate_left; (focus (first | exact rfl | (repeat (first | exact rfl | refine ⟨rfl, ?_⟩)))); (exact ⟨u + 1, by omega, by omega, rfl, h, hr, hall⟩))
            · simp [intOf]; omega
        · obtain rfl : u = 18 := by omega
          go_upto_region 14 with (fail)
          refine wp_region_lit ?_
          refine wl_v ?_ ?_ ?_; rotate_left; (focus (go_simp; (try with_reducible rfl); done)); try simp only [Act.put, List.setIfInBounds_toArray, List.set_cons_zero, List.set_cons_succ]
          refine wl_v (.bool false) (by go_simp <;> omega) ?_; try simp only [Act.put, List.setIfInBounds_toArray, List.set_cons_zero, List.set_cons_succ]
          go_upto_region 18 with (fail)
          refine wp_region_lit ?_
          refine wl_v ?_ ?_ ?_; rotate_left; (focus (go_simp; (try with_reducible rfl); done)); try simp only [Act.put, List.setIfInBounds_toArray, List.set_cons_zero, List.set_cons_succ]
          go_wp2_with fail
          go_loopw [10] (RV w g bm r G1 S1 V.length) (fun i _ => V.length - (intOf i).toNat)
          case atStart => exact ⟨0, by omega, rfl, h, hr, hall⟩
          case round =>
            clear h hr hall
            obtain ⟨j, hj, rfl, h, hr, hall⟩ := hrel
            by_cases hm : j < V.length
            · skip
              have hix : (j : Int) < (V.length : Int) := by omega
              obtain ⟨bq, oq, hAV, _⟩ := hhV.out 0 (by simp [IV, nflat_len]; omega)
              subst hAV
              have hrg2 := nflat_range hhV.out rfl hm
              have hvw := hVw V[j] (List.getElem_mem _)
              generalize V[j] = v at *
              obtain ⟨v0, v1, v2, v3⟩ := v
              simp only at hrg2
              have HRG2 := Lib.hid hrg2
              have HVW := Lib.hid hvw
              obtain ⟨hd, hhd⟩ : ∃ hd, decide ((v0, v1, v2, v3) ∈ G1.had) = hd := ⟨_, rfl⟩
              have HHD := Lib.hid hhd
              have HRD := Lib.hid ((HR.out.hadE (v0, v1, v2, v3)).trans hhd)
              obtain ⟨fi, hfi⟩ : ∃ fi, fineF G1 (V.take j) = fi := ⟨_, rfl⟩
              have HFI := Lib.hid hfi
              have HRF := Lib.hid ((HR.out.fineE (V.take j)).trans hfi)
              have JC : (j : Int) ≤ (cV : Int) := by omega
              have JL : j ≤ cV := by omega
              have HTK := Lib.hid (holds_take hhV.out (show j ≤ V.length by omega))
              have HTW : Hid (∀ x ∈ V.take j, NWF x) := Lib.hid (fun x hx => hVw x (List.mem_of_mem_take hx))
              have tlen : (V.take j).length = j := by rw [List.length_take]; omega
              have TL := Lib.hid tlen
              clear hrg2 hvw hhd hfi tlen
              go_upto_region 19 with (fail)
              refine wp_region_lit ?_
              refine wl_v ?_ ?_ ?_; rotate_left; (focus (go_simp; (try with_reducible rfl); done)); try simp only [Act.put, List.setIfInBounds_toArray, List.set_cons_zero, List.set_cons_succ]
              refine wl_v ?_ ?_ ?_; rotate_left; (focus (go_simp; (try with_reducible rfl); done)); try simp only [Act.put, List.setIfInBounds_toArray, List.set_cons_zero, List.set_cons_succ]
              refine wl_v ?_ ?_ ?_; rotate_left; (focus (go_simp; (try with_reducible rfl); done)); try simp only [Act.put, List.setIfInBounds_toArray, List.set_cons_zero, List.set_cons_succ]
              refine wl_v (.bool true) (by go_simp <;> omega) ?_; try simp only [Act.put, List.setIfInBounds_toArray, List.set_cons_zero, List.set_cons_succ]
              have hqd : (hd != hd) = false := by simp
              have hqf : (fi != fi) = false := by simp
              go_upto_region 21 with (fail)
              have hS : ST3 w g bm r G1 S1 _ := ⟨hall.drew, h, hr⟩
              refine region_tree (ST3 w g bm r G1 S1) 26 (.fl 0 (.fl 1 (.fl 2 (.fl 3 (.fl 4 (.fl 6 (.fl 7 (.fl 8 (.fl 9 (.fl 10 (.one 5 (.one 11 (.fl 12 (.fl 13 (.fl 14 (.fl 15 (.fl 16 (.fl 17 (.fl 19 (.fl 20 (.fl 21 (.fl 22 (.one 18 (.one 23 (.fl 24 (.fl 25 .done)))))))))))))))))))))))))) (by kernel_rfl) (by kernel_rfl) rfl (by kernel_rfl) hS ?_
              clear hall h hr
              refine pt_f0 ?_ rfl ?_ ?_; rotate_left; (focus (intro w' hS'; go_simp; (try with_reducible rfl); done)); try simp only [Act.put, List.setIfInBounds_toArray, List.set_cons_zero, List.set_cons_succ]
              refine pt_f0 ?_ rfl ?_ ?_; rotate_left; (focus (intro w' hS'; go_simp; (try with_reducible rfl); done)); try simp only [Act.put, List.setIfInBounds_toArray, List.set_cons_zero, List.set_cons_succ]
              refine pt_f0 ?_ rfl ?_ ?_; rotate_left; (focus (intro w' hS'; go_simp; (try with_reducible rfl); done)); try simp only [Act.put, List.setIfInBounds_toArray, List.set_cons_zero, List.set_cons_succ]
              refine pt_f0 ?_ rfl ?_ ?_; rotate_left; (focus (intro w' hS'; go_simp; (try with_reducible rfl); done)); try simp only [Act.put, List.setIfInBounds_toArray, List.set_cons_zero, List.set_cons_succ]
              refine pt_f0 ?_ rfl ?_ ?_; rotate_left; (focus (intro w' hS'; refine run_loadM 35 _ bq (oq + j * 4) [.int .i64 v0, .int .i64 v1, .int .i64 v2, .int .i64 v3] ?_ (range_ups HRG2.out hS'.1) ?_ ?_; rfl; kernel_rfl; exact info28s)); try simp only [Act.put, List.setIfInBounds_toArray, List.set_cons_zero, List.set_cons_succ]
              refine pt_f0 ?_ rfl ?_ ?_; rotate_left; (focus (intro w' hS'; go_simp; (try with_reducible rfl); done)); try simp only [Act.put, List.setIfInBounds_toArray, List.set_cons_zero, List.set_cons_succ]
              refine pt_f0 ?_ rfl ?_ ?_; rotate_left; (focus (intro w' hS'; go_simp; (try with_reducible rfl); done)); try simp only [Act.put, List.setIfInBounds_toArray, List.set_cons_zero, List.set_cons_succ]
              refine pt_f0 ?_ rfl ?_ ?_; rotate_left; (focus (intro w' hS'; go_simp; (try with_reducible rfl); done)); try simp only [Act.put, List.setIfInBounds_toArray, List.set_cons_zero, List.set_cons_succ]
              refine pt_f0 ?_ rfl ?_ ?_; rotate_left; (focus (intro w' hS'; go_simp; (try with_reducible rfl); done)); try simp only [Act.put, List.setIfInBounds_toArray, List.set_cons_zero, List.set_cons_succ]
              refine pt_f0 ?_ rfl ?_ ?_; rotate_left; (focus (intro w' hS'; refine run_loadM 35 _ bq (oq + j * 4) [.int .i64 v0, .int .i64 v1, .int .i64 v2, .int .i64 v3] ?_ (range_ups HRG2.out hS'.1) ?_ ?_; rfl; kernel_rfl; exact info28s)); try simp only [Act.put, List.setIfInBounds_toArray, List.set_cons_zero, List.set_cons_succ]
              refine pt_one (fun K hK => ?_); refine st_a0 rfl ?_; go_simp; refine (had_at _ g bm G1.n G1.last G1.many G1.wrong G1.had (v0, v1, v2, v3) HVW.out hS.2.1).mono ?_; rintro e w9 ⟨rfl, hb9⟩; rw [HHD.out]; replace hS := hS.up hb9; clear hb9; refine hK _ _ ⟨(fun _ => hS), ?_⟩; clear hK; clear K; try simp only [Act.put, List.setIfInBounds_toArray, List.set_cons_zero, List.set_cons_succ]
              refine pt_one (fun K hK => ?_); refine st_a0 rfl ?_; go_simp; refine (rhad_at _ r S1 (v0, v1, v2, v3) hS.2.2).mono ?_; rintro e w9 ⟨rfl, hb9⟩; rw [HRD.out]; replace hS := hS.up hb9; clear hb9; refine hK _ _ ⟨(fun _ => hS), ?_⟩; clear hK; clear K; try simp only [Act.put, List.setIfInBounds_toArray, List.set_cons_zero, List.set_cons_succ]
              refine pt_f0 ?_ rfl ?_ ?_; rotate_left; (focus (intro w' hS'; go_simp; (try with_reducible rfl); done)); try simp only [Act.put, List.setIfInBounds_toArray, List.set_cons_zero, List.set_cons_succ]
              refine pt_f0 ?_ rfl ?_ ?_; rotate_left; (focus (intro w' hS'; go_simp; (try with_reducible rfl); done)); try simp only [Act.put, List.setIfInBounds_toArray, List.set_cons_zero, List.set_cons_succ]
              refine pt_f1 ?_ rfl rfl rfl rfl ?_ ?_; rotate_left; (focus (intro w' hS'; go_simp; (try with_reducible rfl); done)); try simp only [Act.put, List.setIfInBounds_toArray, List.set_cons_zero, List.set_cons_succ]
              refine pt_f1 ?_ rfl rfl rfl rfl ?_ ?_; rotate_left; (focus (intro w' hS'; go_simp; (try with_reducible rfl); done)); try simp only [Act.put, List.setIfInBounds_toArray, List.set_cons_zero, List.set_cons_succ]
              refine pt_f1 ?_ rfl rfl rfl rfl ?_ ?_; rotate_left; (focus (intro w' hS'; go_simp; (try with_reducible rfl); done)); try simp only [Act.put, List.setIfInBounds_toArray, List.set_cons_zero, List.set_cons_succ]
              refine pt_f1 ?_ rfl rfl rfl rfl ?_ ?_; rotate_left; (focus (intro w' hS'; go_simp; (try with_reducible rfl); done)); try simp only [Act.put, List.setIfInBounds_toArray, List.set_cons_zero, List.set_cons_succ]
              refine pt_f1 ?_ rfl rfl rfl rfl ?_ ?_; rotate_left; (focus (intro w' hS'; go_simp; (try with_reducible rfl); done)); try simp only [Act.put, List.setIfInBounds_toArray, List.set_cons_zero, List.set_cons_succ]
              refine pt_f1 ?_ rfl rfl rfl rfl ?_ ?_; rotate_left; (focus (intro w' hS'; go_simp; (try with_reducible rfl); done)); try simp only [Act.put, List.setIfInBounds_toArray, List.set_cons_zero, List.set_cons_succ]
              refine pt_f1 ?_ rfl rfl rfl rfl ?_ ?_; rotate_left; (focus (intro w' hS'; go_simp; (try with_reducible rfl); done)); try simp only [Act.put, List.setIfInBounds_toArray, List.set_cons_zero, List.set_cons_succ]
              refine pt_f1 ?_ rfl rfl rfl rfl ?_ ?_; rotate_left; (focus (intro w' hS'; go_simp; (try with_reducible rfl); done)); try simp only [Act.put, List.setIfInBounds_toArray, List.set_cons_zero, List.set_cons_succ]
              refine pt_one (fun K hK => ?_); refine st_a1 rfl rfl rfl rfl ?_; go_simp; refine (fine_at _ g bm G1 (V.take j) HTW.out (some ⟨bq, oq, none⟩) j cV TL.out.symm (by rw [TL.out]; omega) (HTK.out.up hS.1) hS.2.1).mono ?_; rintro e w9 ⟨rfl, hb9⟩; rw [HFI.out]; replace hS := hS.up hb9; clear hb9; refine hK _ _ ⟨(fun _ => hS), ?_⟩; clear hK; clear K; try simp only [Act.put, List.setIfInBounds_toArray, List.set_cons_zero, List.set_cons_succ]
              refine pt_one (fun K hK => ?_); refine st_a1 rfl rfl rfl rfl ?_; go_simp; refine (rfine_at _ r S1 (V.take j) (some ⟨bq, oq, none⟩) j cV TL.out.symm (by rw [TL.out]; omega) (HTK.out.up hS.1) hS.2.2).mono ?_; rintro e w9 ⟨rfl, hb9⟩; rw [HRF.out]; replace hS := hS.up hb9; clear hb9; refine hK _ _ ⟨(fun _ => hS), ?_⟩; clear hK; clear K; try simp only [Act.put, List.setIfInBounds_toArray, List.set_cons_zero, List.set_cons_succ]
              refine pt_f1 ?_ rfl rfl rfl rfl ?_ ?_; rotate_left; (focus (intro w' hS'; go_simp; (try with_reducible rfl); done)); try simp only [Act.put, List.setIfInBounds_toArray, List.set_cons_zero, List.set_cons_succ]
              refine pt_f0 ?_ rfl ?_ ?_; rotate_left; (focus (intro w' hS'; go_simp; (try with_reducible rfl); done)); try simp only [Act.put, List.setIfInBounds_toArray, List.set_cons_zero, List.set_cons_succ]
              refine pt_done (NoPanic.normal ?_)
              have hall := hS.1
              have h := hS.2.1
              have hr := hS.2.2
              clear hS hqd hqf
              go_upto_region 20 with (fail)
              refine wp_region_lit ?_
              refine wl_v ?_ ?_ ?_; rotate_left; (focus (go_simp; (try with_reducible rfl); done)); try simp only [Act.put, List.setIfInBounds_toArray, List.set_cons_zero, List.set_cons_succ]
              refine wl_v (.int .i64 ((j : Int) + 1)) (by go_simp <;> exact IntWalk.i64_in _ (by omega)) ?_; try simp only [Act.put, List.setIfInBounds_toArray, List.set_cons_zero, List.set_cons_succ]
              refine wl_v ?_ ?_ ?_; rotate_left; (focus (go_simp; (try with_reducible rfl); done)); try simp only [Act.put, List.setIfInBounds_toArray, List.set_cons_zero, List.set_cons_succ]
              go_wp2_with fail
              refine ⟨?_, ?_⟩
              · first
                | (exact ⟨j + 1, by omega, by go_num, h, hr, hall⟩)
                | ((repeat apply Exists.intro); refine ⟨?_, ?_⟩; rotate_left; (focus (first | exact rfl | (repeat (first | exact rfl | refine ⟨rfl, ?_⟩)))); (exact ⟨j + 1, by omega, by go_num, h, hr, hall⟩))
              · simp [intOf]; omega
            · obtain rfl : j = V.length := by omega
              go_upto_region 19 with (fail)
              refine wp_region_lit ?_
              refine wl_v ?_ ?_ ?_; rotate_left; (focus (go_simp; (try with_reducible rfl); done)); try simp only [Act.put, List.setIfInBounds_toArray, List.set_cons_zero, List.set_cons_succ]
              refine wl_v ?_ ?_ ?_; rotate_left; (focus (go_simp; (try with_reducible rfl); done)); try simp only [Act.put, List.setIfInBounds_toArray, List.set_cons_zero, List.set_cons_succ]
              refine wl_v ?_ ?_ ?_; rotate_left; (focus (go_simp; (try with_reducible rfl); done)); try simp only [Act.put, List.setIfInBounds_toArray, List.set_cons_zero, List.set_cons_succ]
              refine wl_v (.bool false) (by go_simp <;> omega) ?_; try simp only [Act.put, List.setIfInBounds_toArray, List.set_cons_zero, List.set_cons_succ]
              obtain ⟨bd, hbd⟩ : ∃ bd, G1.wrong = bd := ⟨_, rfl⟩
              have HBD := Lib.hid hbd
              have HRB := Lib.hid (HR.out.wrong.symm.trans hbd)
              clear hbd
              go_upto_region 23 with (fail)
              refine wp_region_lit ?_
              refine wl_v ?_ ?_ ?_; rotate_left; (focus (go_simp; (try with_reducible rfl); done)); try simp only [Act.put, List.setIfInBounds_toArray, List.set_cons_zero, List.set_cons_succ]
              refine wl_call _ _ _ (wrong_at _ g bm G1.n G1.last G1.many G1.wrong G1.had h) (by go_simp) ?_; rintro e w9 ⟨rfl, rfl⟩; refine ⟨_, rfl, ?_⟩; rw [HBD.out]; try simp only [Act.put, List.setIfInBounds_toArray, List.set_cons_zero, List.set_cons_succ]
              refine wl_v ?_ ?_ ?_; rotate_left; (focus (go_simp; (try with_reducible rfl); done)); try simp only [Act.put, List.setIfInBounds_toArray, List.set_cons_zero, List.set_cons_succ]
              refine wl_call _ _ _ (rwrong_at _ r S1 hr) (by go_simp) ?_; rintro e w9 ⟨rfl, rfl⟩; refine ⟨_, rfl, ?_⟩; rw [HRB.out]; try simp only [Act.put, List.setIfInBounds_toArray, List.set_cons_zero, List.set_cons_succ]
              refine wl_v (.bool false) (by go_simp) ?_; try simp only [Act.put, List.setIfInBounds_toArray, List.set_cons_zero, List.set_cons_succ]
              go_upto_region 10 with (fail)
              refine wp_region_lit ?_
              refine wl_v ?_ ?_ ?_; rotate_left; (focus (go_simp; (try with_reducible rfl); done)); try simp only [Act.put, List.setIfInBounds_toArray, List.set_cons_zero, List.set_cons_succ]
              refine wl_v (.int .i64 ((k : Int) + 1)) (by go_simp <;> exact IntWalk.i64_in _ (by omega)) ?_; try simp only [Act.put, List.setIfInBounds_toArray, List.set_cons_zero, List.set_cons_succ]
              refine wl_v ?_ ?_ ?_; rotate_left; (focus (go_simp; (try with_reducible rfl); done)); try simp only [Act.put, List.setIfInBounds_toArray, List.set_cons_zero, List.set_cons_succ]
              go_wp2_with fail
              refine ⟨?_, ?_⟩
              · first
                | (exact ⟨k + 1, G1, S1, by omega, by go_num, HOK1.out, HR.out, H01.out, h, hr, hall⟩)
                | ((repeat apply Exists.intro); refine ⟨?_, ?_⟩; rotate_left; (focus (first | exact rfl | (repeat (first | exact rfl | refine ⟨rfl, ?_⟩)))); (exact ⟨k + 1, G1, S1, by omega, by go_num, HOK1.out, HR.out, H01.out, h, hr, hall⟩))
              · simp [intOf]; omega
    · obtain rfl : k = n := by omega
      obtain ⟨fi, hfi⟩ : ∃ fi, fineF G V = fi := ⟨_, rfl⟩
      have HFI := Lib.hid hfi
      have HRF := Lib.hid ((hrel'.fineE V).trans hfi)
      clear hfi
      go_upto_region 9 with (fail)
      refine wp_region_lit ?_
      refine wl_v ?_ ?_ ?_; rotate_left; (focus (go_simp; (try with_reducible rfl); done)); try simp only [Act.put, List.setIfInBounds_toArray, List.set_cons_zero, List.set_cons_succ]
      refine wl_v ?_ ?_ ?_; rotate_left; (focus (go_simp; (try with_reducible rfl); done)); try simp only [Act.put, List.setIfInBounds_toArray, List.set_cons_zero, List.set_cons_succ]
      refine wl_v ?_ ?_ ?_; rotate_left; (focus (go_simp; (try with_reducible rfl); done)); try simp only [Act.put, List.setIfInBounds_toArray, List.set_cons_zero, List.set_cons_succ]
      refine wl_v (.bool false) (by go_simp <;> omega) ?_; try simp only [Act.put, List.setIfInBounds_toArray, List.set_cons_zero, List.set_cons_succ]
      go_upto_region 25 with (fail)
      refine wp_region_lit ?_
      refine wl_v ?_ ?_ ?_; rotate_left; (focus (go_simp; (try with_reducible rfl); done)); try simp only [Act.put, List.setIfInBounds_toArray, List.set_cons_zero, List.set_cons_succ]
      refine wl_v ?_ ?_ ?_; rotate_left; (focus (go_simp; (try with_reducible rfl); done)); try simp only [Act.put, List.setIfInBounds_toArray, List.set_cons_zero, List.set_cons_succ]
      refine op_unguard _ _ rfl ?_; refine wl_v ?_ ?_ ?_; rotate_left; (focus (go_simp; (try with_reducible rfl); done)); try simp only [Act.put, List.setIfInBounds_toArray, List.set_cons_zero, List.set_cons_succ]
      refine op_unguard _ _ rfl ?_; refine wl_v ?_ ?_ ?_; rotate_left; (focus (go_simp; (try with_reducible rfl); done)); try simp only [Act.put, List.setIfInBounds_toArray, List.set_cons_zero, List.set_cons_succ]
      refine op_unguard _ _ rfl ?_; refine wl_call _ _ _ (fine_at _ g bm G V hVw AV V.length cV rfl (by omega) (hhV.out.up hall) h) (by go_simp) ?_; rintro e w9 ⟨rfl, hb⟩; refine ⟨_, rfl, ?_⟩; rw [HFI.out]; replace hall := hall.trans (hb.mono hall.size); replace h := h.ups hb; replace hr := hr.ups hb; clear hb; try simp only [Act.put, List.setIfInBounds_toArray, List.set_cons_zero, List.set_cons_succ]
      refine op_unguard _ _ rfl ?_; refine wl_v ?_ ?_ ?_; rotate_left; (focus (go_simp; (try with_reducible rfl); done)); try simp only [Act.put, List.setIfInBounds_toArray, List.set_cons_zero, List.set_cons_succ]
      refine op_unguard _ _ rfl ?_; refine wl_v ?_ ?_ ?_; rotate_left; (focus (go_simp; (try with_reducible rfl); done)); try simp only [Act.put, List.setIfInBounds_toArray, List.set_cons_zero, List.set_cons_succ]
      refine op_unguard _ _ rfl ?_; refine wl_call _ _ _ (rfine_at _ r S V AV V.length cV rfl (by omega) (hhV.out.up hall) hr) (by go_simp) ?_; rintro e w9 ⟨rfl, hb⟩; refine ⟨_, rfl, ?_⟩; rw [HRF.out]; replace hall := hall.trans (hb.mono hall.size); replace h := h.ups hb; replace hr := hr.ups hb; clear hb; try simp only [Act.put, List.setIfInBounds_toArray, List.set_cons_zero, List.set_cons_succ]
      refine op_unguard _ _ rfl ?_; refine wl_v (.bool true) (by go_simp) ?_; try simp only [Act.put, List.setIfInBounds_toArray, List.set_cons_zero, List.set_cons_succ]
      refine wl_v ?_ ?_ ?_; rotate_left; (focus (go_simp; (try with_reducible rfl); done)); try simp only [Act.put, List.setIfInBounds_toArray, List.set_cons_zero, List.set_cons_succ]
      refine wl_v ?_ ?_ ?_; rotate_left; (focus (go_simp; (try with_reducible rfl); done)); try simp only [Act.put, List.setIfInBounds_toArray, List.set_cons_zero, List.set_cons_succ]
      go_wp2_with fail
      go_ret
      exact ⟨rfl, hall⟩
end Go.Proofs.Ytbpepkpjjfhmpaa
