/- Recv: slices.SortFunc of at most twelve items. -/
import Derived.Test.YthfdjlhplcmicaaS
namespace Go.Proofs.Ythfdjlhplcmicaa
open Go.RowKit
set_option linter.unusedVariables false
set_option linter.unusedSimpArgs false

theorem conv_up52 {a : Act} {w : World} {d : Option Tmp} {tt : TypeId} {ps : String} {af : Array Edge} {gd : Option (Nat × Bool)} {x : Operand} (v : Int) (hx : a.eval x = .int .i64 v) (h0 : 0 ≤ v) (h1 : v < 9223372036854775808) : (execOp a.eval ⟨d, .convert 3 52 x, tt, ps, af, gd⟩).run Try.prog w = .ok (.value (.int .u64 v)) w := by
  have u3 := Try.underlying3
  have u52 := Try.underlying52
  unfold execOp
  simp only [hx]
  go_simp
  exact IntWalk.u64_in _ (by omega)
theorem r_call5 {P : Program} {a : Act} {w : World} {d : Option Tmp} {tt : TypeId} {ps : String} {af : Array Edge} {gd : Option (Nat × Bool)} {f : FuncId} (hf : entF P f) {x y z u v : Operand} {vx vy vz vu vv : Value} {ats : Array TypeId} (hx : a.eval x = vx) (hy : a.eval y = vy) (hz : a.eval z = vz) (hu : a.eval u = vu) (hv : a.eval v = vv) : (execOp a.eval ⟨d, .call { callee := .value (.func f), args := #[x, y, z, u, v], argTypes := ats }, tt, ps, af, gd⟩).run P w = .ok (.enter f #[vx, vy, vz, vu, vv]) w := by
  have he : a.eval (.func f) = .func (.func f) #[] #[] := rfl
  unfold execOp
  simp [resolve, invoke, hx, hy, hz, hu, hv, he, Deferred.ofValue, hf _ w]
set_option maxHeartbeats 4000000 in
set_option maxRecDepth 100000 in
theorem len64_any (n : Nat) (w : World) (h : n ≤ 12) : Calls Try.prog 38 #[.int .u64 (n : Nat)] w fun e w' => (∃ l : Int, e = .returned (.int .i64 l)) ∧ w = w' := by
  have hc : n = 0 ∨ n = 1 ∨ n = 2 ∨ n = 3 ∨ n = 4 ∨ n = 5 ∨ n = 6 ∨ n = 7 ∨ n = 8 ∨ n = 9 ∨ n = 10 ∨ n = 11 ∨ n = 12 := by omega
  rcases hc with rfl | rfl | rfl | rfl | rfl | rfl | rfl | rfl | rfl | rfl | rfl | rfl | rfl <;>
  · go_enter Try.func38, Try.ntmps38
    go_wp2
    go_ret
    exact ⟨⟨_, rfl⟩, rfl⟩
theorem len_any (n : Nat) (w : World) (h : n ≤ 12) : Calls Try.prog 28 #[.int .u64 (n : Nat)] w fun e w' => (∃ l : Int, e = .returned (.int .i64 l)) ∧ w = w' := by
  go_enter Try.func28, Try.ntmps28
  go_wp2_with (first | (go_at_call 38; refine (len64_any n _ h).mono ?_; rintro e w' ⟨⟨l, rfl⟩, rfl⟩))
  go_ret
  exact ⟨⟨_, rfl⟩, rfl⟩
def PdI (W : World) (base g cap m : Nat) (S : List It) (x : It) (lim : Int) (a : Act) (w : World) : Prop :=
  Kn a 148 [(0, .slice (some ⟨g, 0, none⟩) (m + 1) cap), (1, .int .i64 0), (2, .int .i64 (m + 1 : Nat)), (3, .int .i64 lim), (4, .func (.func 25) #[] #[])] ∧ IOwn w base (.slice (some ⟨g, 0, none⟩) (m + 1) cap) (S ++ [x]) ∧ Below base W w
theorem pdq_any (w : World) (base g cap m : Nat) (S : List It) (x : It) (lim : Int) (hbw : base ≤ w.heap.size) (hm : S.length = m) (hn : m ≤ 11) (hS : S.Pairwise (fun a b => a.1 < b.1)) (hB : ∀ y ∈ S ++ [x], 0 ≤ y.1 ∧ y.1 ≤ 2147483648) (hown : IOwn w base (.slice (some ⟨g, 0, none⟩) (m + 1) cap) (S ++ [x])) :
    Calls Try.prog 27 #[.slice (some ⟨g, 0, none⟩) (m + 1) cap, .int .i64 0, .int .i64 (m + 1 : Nat), .int .i64 lim, .func (.func 25) #[] #[]] w fun e w' => e = .returned (.tuple #[]) ∧ IOwn w' base (.slice (some ⟨g, 0, none⟩) (m + 1) cap) (insI S x) ∧ Below base w w' := by
  have hall := Below.refl base w
  refine K_enter 148 Try.func27 rfl rfl fun a H => ?_
  replace H := H.pick [0, 1, 2, 3, 4]
  refine wp_seq ?_
  refine wp_region_lit ?_
  refine wl_v _ (r_assign evc) ?_; refine kl H rfl fun a H => ?_
  refine wpList_nil ?_
  refine c_next ?_
  refine wp_seq ?_
  refine wp_region_lit ?_
  refine wl_v _ (r_assign evc) ?_; refine kl H rfl fun a H => ?_
  refine wpList_nil ?_
  refine c_next ?_
  refine wp_block ?_
  refine wp_loop (PdI w base g cap m S x lim) (fun a _ => 0) ⟨H.pick [0, 1, 2, 3, 4], hown, hall⟩ ?_
  clear H hall hown
  rintro a w' ⟨H, hown, hall⟩
  refine wp_block ?_
  refine wp_seq ?_
  refine wp_region_lit ?_
  refine wl_v _ (r_move (H.ev rfl)) ?_; refine kl H rfl fun a H => ?_
  refine wl_v _ (r_move (H.ev rfl)) ?_; refine kl H rfl fun a H => ?_
  refine wl_v (.int .i64 (m + 1 : Nat)) (r_sub (q := ((m + 1 : Nat) : Int)) Try.underlying3 (H.ev rfl) (H.ev rfl) (by omega) (by omega)) ?_; refine kl H rfl fun a H => ?_
  refine wl_v _ (r_assign (H.ev rfl)) ?_; refine kl H rfl fun a H => ?_
  refine wpList_nil ?_
  refine c_next ?_
  refine wp_seq ?_
  refine wp_seq ?_
  refine wp_region_lit ?_
  refine wl_v _ (r_move (H.ev rfl)) ?_; refine kl H rfl fun a H => ?_
  refine wl_v _ (r_le Try.underlying3 (H.ev rfl) evc (dec_t (by omega))) ?_; refine kl H rfl fun a H => ?_
  refine wpList_nil ?_
  refine c_next ?_
  refine c_cond_t H rfl ?_
  refine wp_seq ?_
  refine wp_region_lit ?_
  refine wl_v _ (r_move (H.ev rfl)) ?_; refine kl H rfl fun a H => ?_
  refine wl_v _ (r_move (H.ev rfl)) ?_; refine kl H rfl fun a H => ?_
  refine wl_v _ (r_move (H.ev rfl)) ?_; refine kl H rfl fun a H => ?_
  refine wl_v _ (r_move (H.ev rfl)) ?_; refine kl H rfl fun a H => ?_
  refine wl_call _ _ _ (isort_any _ base g cap m S x (Nat.le_trans hbw hall.size) hm (by omega) (by omega) hS hB hown) (r_call4 cf29 (H.ev rfl) (H.ev rfl) (H.ev rfl) (H.ev rfl)) ?_; rintro e w9 ⟨rfl, hown2, hb⟩; refine ⟨_, rfl, ?_⟩; replace hall := hall.trans hb; clear hb hown; refine kl H rfl fun a H => ?_
  refine wpList_nil ?_
  refine c_next ?_
  refine wp_ret ?_
  refine r_then ?_
  refine r_block ?_
  refine r_then ?_
  refine r_block ?_
  exact k_ret0 H rfl ⟨rfl, hown2, hall⟩
theorem sort_any (w : World) (base g cap m : Nat) (S : List It) (x : It) (hbw : base ≤ w.heap.size) (hm : S.length = m) (hn : m ≤ 11) (hS : S.Pairwise (fun a b => a.1 < b.1)) (hB : ∀ y ∈ S ++ [x], 0 ≤ y.1 ∧ y.1 ≤ 2147483648) (hown : IOwn w base (.slice (some ⟨g, 0, none⟩) (m + 1) cap) (S ++ [x])) :
    Calls Try.prog 24 #[.slice (some ⟨g, 0, none⟩) (m + 1) cap, .func (.func 25) #[] #[]] w fun e w' => e = .returned (.tuple #[]) ∧ IOwn w' base (.slice (some ⟨g, 0, none⟩) (m + 1) cap) (insI S x) ∧ Below base w w' := by
  refine K_enter 14 Try.func24 rfl rfl fun a H => ?_
  replace H := H.pick [0, 1]
  refine wp_seq ?_
  refine wp_region_lit ?_
  refine wl_v _ (r_move (H.ev rfl)) ?_; refine kl H rfl fun a H => ?_
  refine wl_v _ (r_len Try.underlying22 (H.ev rfl)) ?_; refine kl H rfl fun a H => ?_
  refine wl_v _ (r_assign (H.ev rfl)) ?_; refine kl H rfl fun a H => ?_
  refine wpList_nil ?_
  refine c_next ?_
  refine wp_region_lit ?_
  refine wl_v _ (r_move (H.ev rfl)) ?_; refine kl H rfl fun a H => ?_
  refine wl_v _ (r_move (H.ev rfl)) ?_; refine kl H rfl fun a H => ?_
  refine wl_v _ (r_move (H.ev rfl)) ?_; refine kl H rfl fun a H => ?_
  refine wl_v (.int .u64 (m + 1 : Nat)) (conv_up52 _ (H.ev rfl) (by omega) (by omega)) ?_; refine kl H rfl fun a H => ?_
  refine wl_call _ _ _ (len_any (m + 1) _ (by omega)) (r_call1 cf28 (H.ev rfl)) ?_; rintro e w9 ⟨⟨lim, rfl⟩, rfl⟩; refine ⟨_, rfl, ?_⟩; skip; refine kl H rfl fun a H => ?_
  refine wl_v _ (r_move (H.ev rfl)) ?_; refine kl H rfl fun a H => ?_
  refine wl_call _ _ _ (pdq_any _ base g cap m S x lim hbw hm hn hS hB hown) (r_call5 cf27 (H.ev rfl) evc (H.ev rfl) (H.ev rfl) (H.ev rfl)) ?_; rintro e w9 ⟨rfl, hown2, hb⟩; refine ⟨_, rfl, ?_⟩; skip; refine kl H rfl fun a H => ?_
  refine wpList_nil ?_
  exact k_end0 H rfl ⟨rfl, hown2, hb⟩
end Go.Proofs.Ythfdjlhplcmicaa
