/- Roster: slices.Delete of one timer. -/
import Derived.Test.YtfehhenbdiageaaD
namespace Go.Proofs.Ytfehhenbdiageaa
open Go.RowKit
set_option linter.unusedVariables false
set_option linter.unusedSimpArgs false

theorem zero37 (w : World) : (zeroValue 37).run Try.prog w = .ok (.agg #[.int .i64 0, .int .i64 0, .int .i64 0]) w := by kernel_rfl
theorem zc_eq : Builtin.zeroCells (Value.agg #[.int .i64 0, .int .i64 0, .int .i64 0]).cells 1 = #[.int .i64 0, .int .i64 0, .int .i64 0] := by kernel_rfl
theorem zc_size : (Builtin.zeroCells (Value.agg #[.int .i64 0, .int .i64 0, .int .i64 0]).cells 1).size = 3 := by rw [zc_eq]; rfl
theorem zc_len : (Builtin.zeroCells (Value.agg #[.int .i64 0, .int .i64 0, .int .i64 0]).cells 1).toList.length = 3 := by rw [zc_eq]; rfl
theorem zc_one (u : Value) (hu : u ∈ Builtin.zeroCells (Value.agg #[.int .i64 0, .int .i64 0, .int .i64 0]).cells 1) : u.oneCell' = true := by
  rw [zc_eq] at hu
  simp at hu
  subst hu
  rfl
def SD (W : World) (base g : Nat) (cur : Array Value) (A : Option Addr) (xs : List Value) (w : World) : Prop := Block w g 37 cur ∧ Holds w A xs ∧ Below base W w
theorem del_end {cur : Array Value} {cap m k : Nat} {L : List Tm} {zs : List Value} (hcs : cur.size = cap * 3) (hc : cur.toList.take ((m + 1) * 3) = FV encT L) (hL : L.length = m + 1) (hk : k ≤ m) (hm : m + 1 ≤ cap) :
    (spl (spl cur (k * 3) (FV encT (L.drop (k + 1)))) (0 + m * 3) zs).toList.take (m * 3) = FV encT (L.eraseIdx k) := by
  have hl : (FV encT (L.drop (k + 1))).length = (m - k) * 3 := by rw [FV_len encT_len, List.length_drop, hL]; congr 1; omega
  rw [spl_take (by omega) (by rw [spl_size (by omega)]; omega), spl_upto (by rw [hl]; omega) (by omega), take_le hc (by omega), ← FV_take encT_len, ← FV_append, List.eraseIdx_eq_take_drop_succ]
set_option maxHeartbeats 2000000 in
set_option maxRecDepth 100000 in
theorem delete_any (w : World) (base : Nat) (v : Value) (L : List Tm) (hown : TOwn w base v L) (k : Nat) (hk : k < L.length) (hn : L.length ≤ 100000) :
    Calls Try.prog 35 #[v, .int .i64 k, .int .i64 (k + 1 : Nat)] w fun e w' => (∃ v', e = .returned v' ∧ TOwn w' base v' (L.eraseIdx k)) ∧ Below base w w' := by
  obtain ⟨m, hm⟩ : ∃ m, L.length = m + 1 := ⟨L.length - 1, by omega⟩
  obtain ⟨_, ⟨rfl, h0⟩ | ⟨g, cap, cur, rfl, hbg, hg, hc, hcm, hcs, htk⟩⟩ := hown
  · omega
  have hsrc : Holds w (slAt (some ⟨g, 0, none⟩) cap (k + 1) 3) (FV encT (L.drop (k + 1))) := by
    rw [FV_drop encT_len]
    refine slAt_holds (FV_len encT_len L) hc ?_ _
    intro j hj
    refine ⟨g, 0, rfl, ?_⟩
    rw [Nat.zero_add, Block.cell hg, ← htk, List.getElem?_take, if_pos (by rw [FV_len encT_len] at hj; exact hj)]
    simp
  rw [hm] at htk hc
  have hfit : k * 3 + (FV encT (L.drop (k + 1))).length ≤ cur.size := by rw [FV_len encT_len, List.length_drop, hm, hcs]; omega
  have HK : Hid (L.length = m + 1) := Lib.hid hm
  have HC := Lib.hid htk
  have hkm : k ≤ m := by omega
  have HM : Hid ((L.eraseIdx k).length = m) := Lib.hid (by rw [List.length_eraseIdx_of_lt hk]; omega)
  have hm2 : m ≤ 100000 := by omega
  have hsz : (m + 1) * 3 ≤ cur.size := by rw [hcs]; omega
  have HCS := Lib.hid hcs
  rw [hm]
  have hall := Below.refl base w
  clear hm htk hn hk hcs
  go_enter Try.func35, Try.ntmps35
  go_upto_region 0 with (fail)
  refine wp_region_lit ?_
  refine wl_v ?_ ?_ ?_; rotate_left; (focus (go_simp; (try with_reducible rfl); done)); try simp only [Act.put, List.setIfInBounds_toArray, List.set_cons_zero, List.set_cons_succ]
  go_upto_region 1 with (fail)
  refine wp_region_lit ?_
  refine wl_v ?_ ?_ ?_; rotate_left; (focus (go_simp; (try with_reducible rfl); done)); try simp only [Act.put, List.setIfInBounds_toArray, List.set_cons_zero, List.set_cons_succ]
  refine wl_v ?_ ?_ ?_; rotate_left; (focus (go_simp; (try with_reducible rfl); done)); try simp only [Act.put, List.setIfInBounds_toArray, List.set_cons_zero, List.set_cons_succ]
  refine wl_v ?_ ?_ ?_; rotate_left; (focus (go_simp; (try with_reducible rfl); done)); try simp only [Act.put, List.setIfInBounds_toArray, List.set_cons_zero, List.set_cons_succ]
  refine wl_v ?_ ?_ ?_; rotate_left; (focus (go_simp; (try with_reducible rfl); done)); try simp only [Act.put, List.setIfInBounds_toArray, List.set_cons_zero, List.set_cons_succ]
  refine wl_v ?_ ?_ ?_; rotate_left; (focus (go_simp; (try with_reducible rfl); done)); try simp only [Act.put, List.setIfInBounds_toArray, List.set_cons_zero, List.set_cons_succ]
  refine wl_v (.slice (slAt (some ⟨g, 0, none⟩) (m + 1) k 3) (k + 1 - k) (m + 1 - k)) (run_op_slice Try.underlying22 (.slice (some ⟨g, 0, none⟩) (m + 1) cap) (some (.int .i64 (k : Nat))) (some (.int .i64 (k + 1 : Nat))) (some (.int .i64 (m + 1 : Nat))) rfl rfl rfl rfl (run_slice3 Try.underlying22 s37 (by omega) (by omega) (by omega))) ?_; try simp only [Act.put, List.setIfInBounds_toArray, List.set_cons_zero, List.set_cons_succ]
  go_upto_region 2 with (fail)
  refine wp_region_lit ?_
  refine wl_v ?_ ?_ ?_; rotate_left; (focus (go_simp; (try with_reducible rfl); done)); try simp only [Act.put, List.setIfInBounds_toArray, List.set_cons_zero, List.set_cons_succ]
  refine wl_v ?_ ?_ ?_; rotate_left; (focus (go_simp; (try with_reducible rfl); done)); try simp only [Act.put, List.setIfInBounds_toArray, List.set_cons_zero, List.set_cons_succ]
  refine wl_v (.bool false) (by go_simp <;> omega) ?_; try simp only [Act.put, List.setIfInBounds_toArray, List.set_cons_zero, List.set_cons_succ]
  go_upto_region 4 with (fail)
  refine wp_region_lit ?_
  refine wl_v ?_ ?_ ?_; rotate_left; (focus (go_simp; (try with_reducible rfl); done)); try simp only [Act.put, List.setIfInBounds_toArray, List.set_cons_zero, List.set_cons_succ]
  refine wl_v ?_ ?_ ?_; rotate_left; (focus (go_simp; (try with_reducible rfl); done)); try simp only [Act.put, List.setIfInBounds_toArray, List.set_cons_zero, List.set_cons_succ]
  refine wl_v ?_ ?_ ?_; rotate_left; (focus (go_simp; (try with_reducible rfl); done)); try simp only [Act.put, List.setIfInBounds_toArray, List.set_cons_zero, List.set_cons_succ]
  go_upto_region 5 with (fail)
  have hS : AnyW _ := AnyW.any w.drew
  refine region_pi (AnyW) [(0, true), (1, true), (2, true), (3, true), (4, true), (5, true), (6, false), (7, true)] (by kernel_rfl) (by kernel_rfl) rfl (by kernel_rfl) hS ?_
  have hgd : Block w.drew g 37 cur := hg
  have hsd : Holds w.drew (slAt (some ⟨g, 0, none⟩) cap (k + 1) 3) (FV encT (L.drop (k + 1))) := hsrc
  replace hall := hall.drew
  clear hg hsrc
  refine pi_f0 ?_ rfl ?_ ?_; rotate_left; (focus (intro w' hS'; go_simp; (try with_reducible rfl); done)); try simp only [Act.put, List.setIfInBounds_toArray, List.set_cons_zero, List.set_cons_succ]
  refine pi_f0 ?_ rfl ?_ ?_; rotate_left; (focus (intro w' hS'; go_simp; (try with_reducible rfl); done)); try simp only [Act.put, List.setIfInBounds_toArray, List.set_cons_zero, List.set_cons_succ]
  refine pi_f0 (.slice (some ⟨g, 0, none⟩) k cap) rfl (fun w' _ => run_op_slice Try.underlying22 (.slice (some ⟨g, 0, none⟩) (m + 1) cap) none (some (.int .i64 (k : Nat))) none rfl rfl rfl rfl (slice_any 0 k Try.underlying22 s37 _ _ (.inl ⟨rfl, rfl⟩) (.inr rfl) (by omega) (by omega) (by simp [slAt, add_flat]) (by omega) (by omega))) ?_; try simp only [Act.put, List.setIfInBounds_toArray, List.set_cons_zero, List.set_cons_succ]
  refine pi_f0 ?_ rfl ?_ ?_; rotate_left; (focus (intro w' hS'; go_simp; (try with_reducible rfl); done)); try simp only [Act.put, List.setIfInBounds_toArray, List.set_cons_zero, List.set_cons_succ]
  refine pi_f0 ?_ rfl ?_ ?_; rotate_left; (focus (intro w' hS'; go_simp; (try with_reducible rfl); done)); try simp only [Act.put, List.setIfInBounds_toArray, List.set_cons_zero, List.set_cons_succ]
  refine pi_f0 (.slice (slAt (some ⟨g, 0, none⟩) cap (k + 1) 3) (m - k) (cap - (k + 1))) rfl (fun w' _ => run_op_slice Try.underlying22 (.slice (some ⟨g, 0, none⟩) (m + 1) cap) (some (.int .i64 (k + 1 : Nat))) none none rfl rfl rfl rfl (slice_any (k + 1) (m + 1) Try.underlying22 s37 _ _ (.inr rfl) (.inl ⟨rfl, rfl⟩) (by omega) (by omega) rfl (by omega) rfl)) ?_; try simp only [Act.put, List.setIfInBounds_toArray, List.set_cons_zero, List.set_cons_succ]
  refine pi_a0 rfl (fun K hK => ?_); refine wpo_row (.slice (some ⟨g, 0, none⟩) m cap) g 37 cur _ hgd (run_b2 (.slice (some ⟨g, 0, none⟩) k cap) (.slice (slAt (some ⟨g, 0, none⟩) cap (k + 1) 3) (m - k) (cap - (k + 1))) rfl rfl (b_append (append_in _ _ _ 37 3 Try.underlying22 s37 g k cap m cur hgd _ (m - k) _ (FV encT (L.drop (k + 1))) (by rw [FV_len encT_len, List.length_drop, HK.out]; omega) hsd (by omega) (FV_one _ _) (by omega) (by omega) hfit))) fun w5 hg5 hb5 _ => ?_; replace hall := hall.trans (hb5 _ hbg); clear hb5 hgd hsd; have hS := AnyW.any w5; refine hK _ _ ⟨?_, ?_⟩; exact hS; clear hK; clear K; try simp only [Act.put, List.setIfInBounds_toArray, List.set_cons_zero, List.set_cons_succ]
  refine pi_f0 ?_ rfl ?_ ?_; rotate_left; (focus (intro w' hS'; go_simp; (try with_reducible rfl); done)); try simp only [Act.put, List.setIfInBounds_toArray, List.set_cons_zero, List.set_cons_succ]
  refine pi_nil (NoPanic.normal ?_)
  go_upto_region 6 with (fail)
  refine wp_region_lit ?_
  refine wl_v ?_ ?_ ?_; rotate_left; (focus (go_simp; (try with_reducible rfl); done)); try simp only [Act.put, List.setIfInBounds_toArray, List.set_cons_zero, List.set_cons_succ]
  refine wl_v ?_ ?_ ?_; rotate_left; (focus (go_simp; (try with_reducible rfl); done)); try simp only [Act.put, List.setIfInBounds_toArray, List.set_cons_zero, List.set_cons_succ]
  refine wl_v ?_ ?_ ?_; rotate_left; (focus (go_simp; (try with_reducible rfl); done)); try simp only [Act.put, List.setIfInBounds_toArray, List.set_cons_zero, List.set_cons_succ]
  refine wl_v ?_ ?_ ?_; rotate_left; (focus (go_simp; (try with_reducible rfl); done)); try simp only [Act.put, List.setIfInBounds_toArray, List.set_cons_zero, List.set_cons_succ]
  refine wl_v (.slice (some ⟨g, 0 + m * 3, none⟩) 1 (cap - m)) (run_op_slice Try.underlying22 (.slice (some ⟨g, 0, none⟩) m cap) (some (.int .i64 (m : Nat))) (some (.int .i64 (m + 1 : Nat))) none rfl rfl rfl rfl (slice_any m (m + 1) Try.underlying22 s37 _ _ (.inr rfl) (.inr rfl) (by omega) (by omega) (slAt_some (by omega)) (by omega) rfl)) ?_; try simp only [Act.put, List.setIfInBounds_toArray, List.set_cons_zero, List.set_cons_succ]
  refine wl_row (.tuple #[]) g 37 _ _ hg5 (run_b1 (.slice (some ⟨g, 0 + m * 3, none⟩) 1 (cap - m)) rfl (b_clear (run_clear_in _ _ _ 37 (.agg #[.int .i64 0, .int .i64 0, .int .i64 0]) Try.underlying22 zero37 g (0 + m * 3) 1 _ _ hg5 (by intro u hu; exact zc_one u hu) (by rw [spl_size hfit, zc_size]; omega) (by omega)))) fun w6 hg6 hb6 _ => ?_; replace hall := hall.trans (hb6 _ hbg); clear hb6 hg5; try simp only [Act.put, List.setIfInBounds_toArray, List.set_cons_zero, List.set_cons_succ]
  go_wp2_with fail
  go_ret
  refine ⟨⟨_, rfl, ?_, .inr ⟨g, cap, _, ?_, hbg, hg6, ?_, hcm, ?_, ?_⟩⟩, hall⟩
  · rw [FV_len encT_len]
  · rw [HM.out]; rfl
  · rw [HM.out]; omega
  · rw [spl_size (by rw [spl_size hfit, zc_len]; omega), spl_size hfit]; exact HCS.out
  · rw [HM.out]
    exact del_end HCS.out HC.out HK.out hkm hc
end Go.Proofs.Ytfehhenbdiageaa
