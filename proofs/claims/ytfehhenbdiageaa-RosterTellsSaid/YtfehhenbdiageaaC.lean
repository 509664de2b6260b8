/- Roster: order. -/
import Derived.Test.YtfehhenbdiageaaB
namespace Go.Proofs.Ytfehhenbdiageaa
open Go.RowKit
set_option linter.unusedVariables false
set_option linter.unusedSimpArgs false

/-- a standing: its watcher, its target, its state -/
abbrev Tm := Int × Int × Int
def ordF (a b : Tm) : Int := orI (cmpI a.1 b.1) (cmpI a.2.1 b.2.1)
def SO (W : World) (b2 b3 : Nat) (a b : Tm) (w : World) : Prop := Below W.heap.size W w ∧ Block w b2 37 #[.int .i64 a.1, .int .i64 a.2.1, .int .i64 a.2.2] ∧ Block w b3 37 #[.int .i64 b.1, .int .i64 b.2.1, .int .i64 b.2.2]
theorem SO.up {W w w' : World} {b2 b3 : Nat} {a b : Tm} (h : SO W b2 b3 a b w) (hb : Below w.heap.size w w') : SO W b2 b3 a b w' := ⟨h.1.trans (hb.mono h.1.size), h.2.1.ups hb, h.2.2.ups hb⟩
set_option maxHeartbeats 1000000 in
set_option maxRecDepth 100000 in
theorem order_any (a b : Tm) (w : World) : Calls Try.prog 26 #[.agg #[.int .i64 a.1, .int .i64 a.2.1, .int .i64 a.2.2], .agg #[.int .i64 b.1, .int .i64 b.2.1, .int .i64 b.2.2]] w fun e w' => e = .returned (.int .i64 (ordF a b)) ∧ Below w.heap.size w w' := by
  have hall := Below.refl w.heap.size w
  go_enter Try.func26, Try.ntmps26
  go_upto_region 0 with (fail)
  refine wp_region_lit ?_
  refine op_box 37 _ #[.int .i64 a.1, .int .i64 a.2.1, .int .i64 a.2.2] rfl ?_; intro w2 b2 hge hb k2; replace hall := hall.trans (hb.mono hall.size); (try replace k2 := k2.ups hb); clear hb hge; try simp only [Act.put, List.setIfInBounds_toArray, List.set_cons_zero, List.set_cons_succ]
  refine op_box 37 _ #[.int .i64 b.1, .int .i64 b.2.1, .int .i64 b.2.2] rfl ?_; intro w3 b3 hge hb k3; replace hall := hall.trans (hb.mono hall.size); (try replace k2 := k2.ups hb); clear hb hge; try simp only [Act.put, List.setIfInBounds_toArray, List.set_cons_zero, List.set_cons_succ]
  refine wl_v ?_ ?_ ?_; rotate_left; (focus (go_simp; (try with_reducible rfl); done)); try simp only [Act.put, List.setIfInBounds_toArray, List.set_cons_zero, List.set_cons_succ]
  go_upto_region 1 with (fail)
  have hS : SO w b2 b3 a b _ := ⟨hall.drew, k2, k3⟩
  refine region_tree (SO w b2 b3 a b) 13 (.fl 0 (.fl 1 (.fl 2 (.fl 3 (.fl 5 (.fl 6 (.fl 7 (.fl 8 (.one 4 (.one 9 (.one 10 (.one 11 (.fl 12 .done))))))))))))) (by kernel_rfl) (by kernel_rfl) rfl (by kernel_rfl) hS ?_
  clear hall k2 k3
  refine pt_f0 ?_ rfl ?_ ?_; rotate_left; (focus (intro w' hS'; go_simp; (try with_reducible rfl); done)); try simp only [Act.put, List.setIfInBounds_toArray, List.set_cons_zero, List.set_cons_succ]
  refine pt_f0 ?_ rfl ?_ ?_; rotate_left; (focus (intro w' hS'; have q0 := hS'.2.1.cell 0; have q1 := hS'.2.1.cell 1; have p0 := hS'.2.2.cell 0; have p1 := hS'.2.2.cell 1; go_simp; (try with_reducible rfl); done)); try simp only [Act.put, List.setIfInBounds_toArray, List.set_cons_zero, List.set_cons_succ]
  refine pt_f0 ?_ rfl ?_ ?_; rotate_left; (focus (intro w' hS'; go_simp; (try with_reducible rfl); done)); try simp only [Act.put, List.setIfInBounds_toArray, List.set_cons_zero, List.set_cons_succ]
  refine pt_f0 ?_ rfl ?_ ?_; rotate_left; (focus (intro w' hS'; have q0 := hS'.2.1.cell 0; have q1 := hS'.2.1.cell 1; have p0 := hS'.2.2.cell 0; have p1 := hS'.2.2.cell 1; go_simp; (try with_reducible rfl); done)); try simp only [Act.put, List.setIfInBounds_toArray, List.set_cons_zero, List.set_cons_succ]
  refine pt_f0 ?_ rfl ?_ ?_; rotate_left; (focus (intro w' hS'; go_simp; (try with_reducible rfl); done)); try simp only [Act.put, List.setIfInBounds_toArray, List.set_cons_zero, List.set_cons_succ]
  refine pt_f0 ?_ rfl ?_ ?_; rotate_left; (focus (intro w' hS'; have q0 := hS'.2.1.cell 0; have q1 := hS'.2.1.cell 1; have p0 := hS'.2.2.cell 0; have p1 := hS'.2.2.cell 1; go_simp; (try with_reducible rfl); done)); try simp only [Act.put, List.setIfInBounds_toArray, List.set_cons_zero, List.set_cons_succ]
  refine pt_f0 ?_ rfl ?_ ?_; rotate_left; (focus (intro w' hS'; go_simp; (try with_reducible rfl); done)); try simp only [Act.put, List.setIfInBounds_toArray, List.set_cons_zero, List.set_cons_succ]
  refine pt_f0 ?_ rfl ?_ ?_; rotate_left; (focus (intro w' hS'; have q0 := hS'.2.1.cell 0; have q1 := hS'.2.1.cell 1; have p0 := hS'.2.2.cell 0; have p1 := hS'.2.2.cell 1; go_simp; (try with_reducible rfl); done)); try simp only [Act.put, List.setIfInBounds_toArray, List.set_cons_zero, List.set_cons_succ]
  refine pt_one (fun K hK => ?_); refine st_a0 rfl ?_; go_simp; refine (compare_any a.1 b.1 _).mono ?_; rintro e w9 ⟨rfl, rfl⟩; refine hK _ _ ⟨(fun _ => hS), ?_⟩; clear hK; clear K; try simp only [Act.put, List.setIfInBounds_toArray, List.set_cons_zero, List.set_cons_succ]
  refine pt_one (fun K hK => ?_); refine st_a0 rfl ?_; go_simp; refine (compare_any a.2.1 b.2.1 _).mono ?_; rintro e w9 ⟨rfl, rfl⟩; refine hK _ _ ⟨(fun _ => hS), ?_⟩; clear hK; clear K; try simp only [Act.put, List.setIfInBounds_toArray, List.set_cons_zero, List.set_cons_succ]
  refine pt_one (fun K hK => ?_); refine st_a0 rfl ?_; refine wpo_lit _ 2 _ 3 #[.int .i64 (cmpI a.1 b.1), .int .i64 (cmpI a.2.1 b.2.1)] (by intro wl; kernel_rfl) fun w8 bl hge hb9 kl => ?_; replace hS := hS.up hb9; clear hge hb9; refine hK _ _ ⟨(fun _ => hS), ?_⟩; clear hK; clear K; try simp only [Act.put, List.setIfInBounds_toArray, List.set_cons_zero, List.set_cons_succ]
  refine pt_one (fun K hK => ?_); refine st_a0 rfl ?_; go_simp; refine (or_two (cmpI a.1 b.1) (cmpI a.2.1 b.2.1) bl _ kl).mono ?_; rintro e w9 ⟨rfl, rfl⟩; refine hK _ _ ⟨(fun _ => hS), ?_⟩; clear hK; clear K; try simp only [Act.put, List.setIfInBounds_toArray, List.set_cons_zero, List.set_cons_succ]
  refine pt_f0 ?_ rfl ?_ ?_; rotate_left; (focus (intro w' hS'; go_simp; (try with_reducible rfl); done)); try simp only [Act.put, List.setIfInBounds_toArray, List.set_cons_zero, List.set_cons_succ]
  refine pt_done (NoPanic.normal ?_)
  go_wp2_with fail
  go_ret
  exact ⟨rfl, hS.1⟩
end Go.Proofs.Ytfehhenbdiageaa
