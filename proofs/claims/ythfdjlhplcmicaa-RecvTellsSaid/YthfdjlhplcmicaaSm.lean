/- Recv: small. -/
import Derived.Test.YthfdjlhplcmicaaY
namespace Go.Proofs.Ythfdjlhplcmicaa
open Go.RowKit
set_option linter.unusedVariables false
set_option linter.unusedSimpArgs false

theorem r_eq31 {a : Act} {w : World} {d : Option Tmp} {tt t2 : TypeId} {ps : String} {af : Array Edge} {gd : Option (Nat × Bool)} {p q : Operand} {x y : Nt} (hx : a.eval p = .agg #[.int .i64 x.1, .int .i64 x.2.1, .int .i64 x.2.2.1, .int .i64 x.2.2.2]) (hy : a.eval q = .agg #[.int .i64 y.1, .int .i64 y.2.1, .int .i64 y.2.2.1, .int .i64 y.2.2.2]) {b : Bool} (hb : decide (x = y) = b) :
    (execOp a.eval ⟨d, .binOp .eql 31 p q t2, tt, ps, af, gd⟩).run Try.prog w = .ok (.value (.bool b)) w := by
  subst hb
  have hg := g31
  have heq := fun w => eq31 x y w
  unfold execOp
  simp only [hx, hy]
  go_simp
theorem recv_one {w : World} {n : Int} {s : Value} {L : List It} (h : IRow w s L) : (#[Value.int .i64 n, s] : Array Value).all (·.oneCell') = true := by
  obtain ⟨A, c, rfl, _⟩ := h
  simp [Value.oneCell']
def SSm1 (W : World) (b1 : Nat) (w : World) : Prop := Below W.heap.size W w ∧ Block w b1 31 #[.int .i64 2, .int .i64 8, .int .i64 0, .int .i64 0]
theorem SSm1.up {W w w' : World} {b1 : Nat} (h : SSm1 W b1 w) (hb : Below w.heap.size w w') : SSm1 W b1 w' := ⟨h.1.trans (hb.mono h.1.size), h.2.ups hb⟩
theorem SSm1.far {W w w' : World} {b1 : Nat} (h : SSm1 W b1 w) (hb : Below W.heap.size w w') (ho : w'.heap[b1]? = w.heap[b1]?) : SSm1 W b1 w' := ⟨h.1.trans hb, block_same h.2 ho⟩
theorem SSm1.size {W w : World} {b1 : Nat} (h : SSm1 W b1 w) : W.heap.size ≤ w.heap.size := h.1.size
theorem row_far {w w' : World} {g : Nat} {s : Value} {L : List It} (h : IRow w s L) (hf : ∀ A n c, s = .slice A n c → ∀ b o, A = some ⟨b, o, none⟩ → b ≠ g) (ho : ∀ g', g' ≠ g → w'.heap[g']? = w.heap[g']?) : IRow w' s L := by
  have h' := h
  obtain ⟨A, c, rfl, _⟩ := h'
  exact Row.keep h fun b o e => ho b (hf A _ c rfl b o e)
theorem row_lt {w : World} {s : Value} {L : List It} {A : Option Addr} {n c b o : Nat} (h : IRow w s L) (hL : 0 < L.length) (e : s = .slice A n c) (ea : A = some ⟨b, o, none⟩) : b < w.heap.size := by
  subst e ea
  have := row_holds h
  exact this.lt rfl (by rw [FV_len encI_len]; omega)
def SSm (W : World) (b1 b2 b3 b7 b11 bm om : Nat) (s1 s2 s3 : Value) (w : World) : Prop :=
  Below W.heap.size W w ∧ Block w b1 31 #[.int .i64 1, .int .i64 7, .int .i64 0, .int .i64 0] ∧ Block w b2 31 #[.int .i64 2, .int .i64 8, .int .i64 0, .int .i64 0] ∧ Block w b3 24 #[.int .i64 1, s1] ∧ Block w b7 24 #[.int .i64 3, s2] ∧ Block w b11 24 #[.int .i64 3, s3] ∧
    w.rangeAt bm (om + 0 * 4) [.int .i64 1, .int .i64 7, .int .i64 0, .int .i64 0] ∧ w.rangeAt bm (om + 1 * 4) [.int .i64 2, .int .i64 8, .int .i64 0, .int .i64 0]
theorem SSm.up {W w w' : World} {b1 b2 b3 b7 b11 bm om : Nat} {s1 s2 s3 : Value} (h : SSm W b1 b2 b3 b7 b11 bm om s1 s2 s3 w) (hb : Below w.heap.size w w') : SSm W b1 b2 b3 b7 b11 bm om s1 s2 s3 w' :=
  ⟨h.1.trans (hb.mono h.1.size), h.2.1.ups hb, h.2.2.1.ups hb, h.2.2.2.1.ups hb, h.2.2.2.2.1.ups hb, h.2.2.2.2.2.1.ups hb, range_ups h.2.2.2.2.2.2.1 hb, range_ups h.2.2.2.2.2.2.2 hb⟩
set_option maxHeartbeats 8000000 in
theorem small_any (w : World) : Calls Try.prog 9 #[] w fun e w' => e = .returned (.bool true) ∧ Below w.heap.size w w' := by
  have hall := Below.refl w.heap.size w
  refine K_enter 106 Try.func9 rfl rfl fun a H => ?_
  replace H := H.pick []
  refine wp_seq ?_
  refine wp_region_lit ?_
  refine wl_v _ (r_assign evc) ?_; refine kl H rfl fun a H => ?_
  refine wpList_nil ?_
  refine c_next ?_
  refine wp_seq ?_
  refine wp_region_lit ?_
  refine wl_v _ (r_build #[(0, .int .i64 1), (1, .int .i64 7)] (.agg #[.int .i64 1, .int .i64 7, .int .i64 0, .int .i64 0]) (by simp [evc]) (fun w => by kernel_rfl)) ?_; refine kl H rfl fun a H => ?_
  refine op_new 31 1 (.tmp 13) #[.int .i64 1, .int .i64 7, .int .i64 0, .int .i64 0] _ z31 s31 rfl (ints_one [1, 7, 0, 0]) (fun p => (H.put 1 p rfl).ev rfl) (fun p => (H.put 1 p rfl).ev rfl) fun w0 b0 hge hb k0 => ?_; have g0 := Nat.le_trans hall.size hge; replace hall := hall.trans (hb.mono hall.size); clear hb; clear hge; refine kl H rfl fun a H => ?_
  refine wpList_nil ?_
  refine c_next ?_
  refine wp_seq ?_
  refine wp_region_lit ?_
  refine wl_v _ (r_build #[(0, .int .i64 2), (1, .int .i64 8)] (.agg #[.int .i64 2, .int .i64 8, .int .i64 0, .int .i64 0]) (by simp [evc]) (fun w => by kernel_rfl)) ?_; refine kl H rfl fun a H => ?_
  refine op_new 31 2 (.tmp 14) #[.int .i64 2, .int .i64 8, .int .i64 0, .int .i64 0] _ z31 s31 rfl (ints_one [2, 8, 0, 0]) (fun p => (H.put 2 p rfl).ev rfl) (fun p => (H.put 2 p rfl).ev rfl) fun w1 b1 hge hb k1 => ?_; have g1 := Nat.le_trans hall.size hge; replace k0 := Block.ups k0 hb; replace hall := hall.trans (hb.mono hall.size); clear hb; clear hge; refine kl H rfl fun a H => ?_
  refine wpList_nil ?_
  refine c_next ?_
  refine wp_seq ?_
  have hS : SSm1 w b1 _ := ⟨hall.drew, k1⟩
  refine region_tree (SSm1 w b1) 10 (.fl 1 (.fl 2 (.two 0 (.two 3 (.fl 4 (.fl 5 (.fl 6 (.one 7 (.one 8 (.fl 9 .done)))))) 7 (.one 3 (.fl 4 (.fl 5 (.fl 6 (.one 8 (.fl 9 .done))))))) 7 (.one 0 (.one 3 (.fl 4 (.fl 5 (.fl 6 (.one 8 (.fl 9 .done)))))))))) (by kernel_rfl) (by kernel_rfl) rfl (by kernel_rfl) hS ?_
  replace k0 : Block (World.drew _) b0 31 _ := k0
  replace k1 : Block (World.drew _) b1 31 _ := k1
  clear hall
  refine pt_f0 _ rfl (fun w' hS' => r_row (cs := [.int .i64 2, .int .i64 8, .int .i64 0, .int .i64 0]) (H.ev rfl) (block_range (hS'.2)) (by kernel_rfl) s31 rfl) ?_; refine kt H rfl fun a H => ?_
  refine pt_f0 _ rfl (fun w' hS' => r_build #[(0, .int .i64 2), (1, .agg #[.int .i64 2, .int .i64 8, .int .i64 0, .int .i64 0])] (.agg #[.int .i64 2, .int .i64 2, .int .i64 8, .int .i64 0, .int .i64 0]) (by simp [evc, H.ev (j := 17) rfl]) (fun w => by kernel_rfl)) ?_; refine kt H rfl fun a H => ?_
  refine pt_two (fun K hK => ?_) (fun K hK => ?_)
  · skip
    refine st_a0 rfl ?_; refine wpo_call _ _ _ (start_any _) (r_call0 cf19) ?_; rintro e w9 ⟨rfl, hb⟩; refine ⟨_, rfl, ?_⟩; replace k0 := Block.ups k0 hb; replace k1 := Block.ups k1 hb; replace hS := hS.up hb; clear hb; refine hK _ _ ⟨(fun _ => hS), ?_⟩; clear hK; clear K; refine kt H rfl fun a H => ?_
    refine pt_two (fun K hK => ?_) (fun K hK => ?_)
    · skip
      refine st_a0 rfl ?_; refine wpo_call _ _ _ (take_any _ 1 (.slice none 0 0) [] (2, 2, 8, 0, 0) Row.nil (by simp) (by decide) (by decide)) (r_call2 cf12 (H.ev rfl) (H.ev rfl)) ?_; rintro e w9 ⟨⟨s1, o1, rfl, ⟨rs1, fs1⟩, ⟨ro1, fo1⟩⟩, hb⟩; refine ⟨_, rfl, ?_⟩; rw [show takeF 1 [] (2, 2, 8, 0, 0) = ((1, [(2, 2, 8, 0, 0)]), []) from by kernel_rfl] at rs1 ro1 ⊢; replace k0 := Block.ups k0 hb; replace k1 := Block.ups k1 hb; replace hS := hS.up hb; clear hb; obtain ⟨Ao1, co1, hv, hq1, hq2, hq3, ho1⟩ := ro1; simp only [List.length_nil, List.length_cons] at hv; subst hv; clear hq1 hq2 hq3; refine hK _ _ ⟨(fun _ => hS), ?_⟩; clear hK; clear K; refine kt H rfl fun a H => ?_
      refine pt_f0 _ rfl (fun w' hS' => r_move (H.ev rfl)) ?_; refine kt H rfl fun a H => ?_
      refine pt_f0 _ rfl (fun w' hS' => r_extract (v := .agg #[.int .i64 1, s1]) (H.ev rfl) rfl) ?_; refine kt H rfl fun a H => ?_
      refine pt_f0 _ rfl (fun w' hS' => r_extract (v := .slice Ao1 0 co1) (H.ev rfl) rfl) ?_; refine kt H rfl fun a H => ?_
      refine pt_one (fun K hK => ?_)
      refine st_a0 rfl ?_; refine wpo_alloc 24 #[.int .i64 0, .slice none 0 0] z24 fun w1 b2 hge hb k2 => ?_; have g2 := Nat.le_trans (SSm1.size hS) hge; have d0_2 : b0 < b2 := Nat.lt_of_lt_of_le k0.lt hge; have d1_2 : b1 < b2 := Nat.lt_of_lt_of_le k1.lt hge; have hne1 : ∀ A n c, s1 = .slice A n c → ∀ b o, A = some ⟨b, o, none⟩ → b ≠ b2 := (fun A n c e b o ea => by have := row_lt rs1 (by simp) e ea; omega); replace k0 := Block.ups k0 hb; replace k1 := Block.ups k1 hb; replace rs1 := Row.up rs1 hb; replace hS := hS.up hb; clear hge hb; refine hK _ _ ⟨(fun _ => hS), ?_⟩; clear hK; clear K; refine kt H rfl fun a H => ?_
      refine pt_one (fun K hK => ?_)
      refine st_a0 rfl ?_; refine wpo_store1 24 (.tmp 3) (.tmp 20) b2 0 24 (.agg #[.int .i64 1, s1]) _ (H.ev rfl) (H.ev rfl) k2 s24 (by simp [Value.cells]) (by obtain ⟨A, c, rfl, _⟩ := rs1; simp [Value.cells, Value.oneCell']) fun w8 hb8 ho8 kq => ?_; clear k2; have k2 : Block w8 b2 24 #[.int .i64 1, s1] := kq; clear kq; replace k0 := block_same k0 (ho8 _ (by omega)); replace k1 := block_same k1 (ho8 _ (by omega)); replace rs1 := row_far rs1 hne1 ho8; replace hS := hS.far (hb8 _ g2) (ho8 _ (by omega)); clear hb8 ho8; refine hK _ _ ⟨(fun _ => hS), ?_⟩; clear hK; clear K; skip
      refine pt_f0 _ rfl (fun w' hS' => r_assign (H.ev rfl)) ?_; refine kt H rfl fun a H => ?_
      refine pt_done (NoPanic.normal ?_)
      have hall := hS.1
      clear hS
      refine c_next ?_
      refine wp_seq ?_
      refine wp_region_lit ?_
      refine wl_v _ (r_row (cs := [.int .i64 1, s1]) (H.ev rfl) (block_range k2) (by kernel_rfl) s24 rfl) ?_; refine kl H rfl fun a H => ?_
      refine wl_call _ _ _ (ack_any _ 1 (s1) [(2, 2, 8, 0, 0)] rs1 (by simp)) (r_call1 cf14 (H.ev rfl)) ?_; rintro e w9 ⟨rfl, hb⟩; refine ⟨_, rfl, ?_⟩; rw [show ackF 1 [(2, 2, 8, 0, 0)] = (0, 1) from by kernel_rfl]; replace k0 := Block.ups k0 hb; replace k1 := Block.ups k1 hb; replace rs1 := Row.up rs1 hb; replace k2 := Block.ups k2 hb; replace hall := hall.trans (hb.mono hall.size); clear hb; refine kl H rfl fun a H => ?_
      refine wl_v _ (r_move (H.ev rfl)) ?_; refine kl H rfl fun a H => ?_
      refine wl_v _ (r_extract (v := .int .i64 0) (H.ev rfl) rfl) ?_; refine kl H rfl fun a H => ?_
      refine wl_v _ (r_extract (v := .int .i64 1) (H.ev rfl) rfl) ?_; refine kl H rfl fun a H => ?_
      refine wl_v _ (r_assign (H.ev rfl)) ?_; refine kl H rfl fun a H => ?_
      refine wl_v _ (r_assign (H.ev rfl)) ?_; refine kl H rfl fun a H => ?_
      refine wpList_nil ?_
      refine c_next ?_
      refine wp_seq ?_
      refine wp_region_lit ?_
      refine wl_v _ (r_row (cs := [.int .i64 1, s1]) (H.ev rfl) (block_range k2) (by kernel_rfl) s24 rfl) ?_; refine kl H rfl fun a H => ?_
      refine wl_v _ (r_row (cs := [.int .i64 1, .int .i64 7, .int .i64 0, .int .i64 0]) (H.ev rfl) (block_range k0) (by kernel_rfl) s31 rfl) ?_; refine kl H rfl fun a H => ?_
      refine wl_v _ (r_build #[(0, .int .i64 1), (1, .agg #[.int .i64 1, .int .i64 7, .int .i64 0, .int .i64 0])] (.agg #[.int .i64 1, .int .i64 1, .int .i64 7, .int .i64 0, .int .i64 0]) (by simp [evc, H.ev (j := 29) rfl]) (fun w => by kernel_rfl)) ?_; refine kl H rfl fun a H => ?_
      refine wl_call _ _ _ (take_any _ 1 (s1) [(2, 2, 8, 0, 0)] (1, 1, 7, 0, 0) rs1 (by simp) (by decide) (by decide)) (r_call2 cf12 (H.ev rfl) (H.ev rfl)) ?_; rintro e w9 ⟨⟨s2, o2, rfl, ⟨rs2, fs2⟩, ⟨ro2, fo2⟩⟩, hb⟩; refine ⟨_, rfl, ?_⟩; rw [show takeF 1 [(2, 2, 8, 0, 0)] (1, 1, 7, 0, 0) = ((3, []), [(1, 7, 0, 0), (2, 8, 0, 0)]) from by kernel_rfl] at rs2 ro2 ⊢; replace k0 := Block.ups k0 hb; replace k1 := Block.ups k1 hb; replace rs1 := Row.up rs1 hb; replace k2 := Block.ups k2 hb; replace hall := hall.trans (hb.mono hall.size); clear hb; obtain ⟨Ao2, co2, hv, hq1, hq2, hq3, ho2⟩ := ro2; simp only [List.length_nil, List.length_cons] at hv; subst hv; clear hq1 hq2 hq3; refine kl H rfl fun a H => ?_
      refine wl_v _ (r_move (H.ev rfl)) ?_; refine kl H rfl fun a H => ?_
      refine wl_v _ (r_extract (v := .agg #[.int .i64 3, s2]) (H.ev rfl) rfl) ?_; refine kl H rfl fun a H => ?_
      refine wl_v _ (r_extract (v := .slice Ao2 2 co2) (H.ev rfl) rfl) ?_; refine kl H rfl fun a H => ?_
      refine op_new 24 7 (.tmp 32) #[.int .i64 3, s2] _ z24 s24 rfl (recv_one rs2) (fun p => (H.put 7 p rfl).ev rfl) (fun p => (H.put 7 p rfl).ev rfl) fun w3 b3 hge hb k3 => ?_; have g3 := Nat.le_trans hall.size hge; replace k0 := Block.ups k0 hb; replace k1 := Block.ups k1 hb; replace rs1 := Row.up rs1 hb; replace k2 := Block.ups k2 hb; replace rs2 := Row.up rs2 hb; replace ho2 := Holds.up ho2 hb; replace hall := hall.trans (hb.mono hall.size); clear hb; clear hge; refine kl H rfl fun a H => ?_
      refine wl_v _ (r_assign (H.ev rfl)) ?_; refine kl H rfl fun a H => ?_
      refine wpList_nil ?_
      refine c_next ?_
      refine wp_seq ?_
      refine wp_region_lit ?_
      refine wl_v _ (r_row (cs := [.int .i64 3, s2]) (H.ev rfl) (block_range k3) (by kernel_rfl) s24 rfl) ?_; refine kl H rfl fun a H => ?_
      refine wl_call _ _ _ (ack_any _ 3 (s2) [] rs2 (by simp)) (r_call1 cf14 (H.ev rfl)) ?_; rintro e w9 ⟨rfl, hb⟩; refine ⟨_, rfl, ?_⟩; rw [show ackF 3 [] = (2, 0) from by kernel_rfl]; replace k0 := Block.ups k0 hb; replace k1 := Block.ups k1 hb; replace rs1 := Row.up rs1 hb; replace k2 := Block.ups k2 hb; replace rs2 := Row.up rs2 hb; replace ho2 := Holds.up ho2 hb; replace k3 := Block.ups k3 hb; replace hall := hall.trans (hb.mono hall.size); clear hb; refine kl H rfl fun a H => ?_
      refine wl_v _ (r_move (H.ev rfl)) ?_; refine kl H rfl fun a H => ?_
      refine wl_v _ (r_extract (v := .int .i64 2) (H.ev rfl) rfl) ?_; refine kl H rfl fun a H => ?_
      refine wl_v _ (r_extract (v := .int .i64 0) (H.ev rfl) rfl) ?_; refine kl H rfl fun a H => ?_
      refine wl_v _ (r_assign (H.ev rfl)) ?_; refine kl H rfl fun a H => ?_
      refine wl_v _ (r_assign (H.ev rfl)) ?_; refine kl H rfl fun a H => ?_
      refine wpList_nil ?_
      refine c_next ?_
      refine wp_seq ?_
      refine wp_region_lit ?_
      refine wl_v _ (r_row (cs := [.int .i64 3, s2]) (H.ev rfl) (block_range k3) (by kernel_rfl) s24 rfl) ?_; refine kl H rfl fun a H => ?_
      refine wl_v _ (r_row (cs := [.int .i64 1, .int .i64 7, .int .i64 0, .int .i64 0]) (H.ev rfl) (block_range k0) (by kernel_rfl) s31 rfl) ?_; refine kl H rfl fun a H => ?_
      refine wl_v _ (r_build #[(0, .int .i64 2), (1, .agg #[.int .i64 1, .int .i64 7, .int .i64 0, .int .i64 0])] (.agg #[.int .i64 2, .int .i64 1, .int .i64 7, .int .i64 0, .int .i64 0]) (by simp [evc, H.ev (j := 41) rfl]) (fun w => by kernel_rfl)) ?_; refine kl H rfl fun a H => ?_
      refine wl_call _ _ _ (take_any _ 3 (s2) [] (2, 1, 7, 0, 0) rs2 (by simp) (by decide) (by decide)) (r_call2 cf12 (H.ev rfl) (H.ev rfl)) ?_; rintro e w9 ⟨⟨s3, o3, rfl, ⟨rs3, fs3⟩, ⟨ro3, fo3⟩⟩, hb⟩; refine ⟨_, rfl, ?_⟩; rw [show takeF 3 [] (2, 1, 7, 0, 0) = ((3, []), []) from by kernel_rfl] at rs3 ro3 ⊢; replace k0 := Block.ups k0 hb; replace k1 := Block.ups k1 hb; replace rs1 := Row.up rs1 hb; replace k2 := Block.ups k2 hb; replace rs2 := Row.up rs2 hb; replace ho2 := Holds.up ho2 hb; replace k3 := Block.ups k3 hb; replace hall := hall.trans (hb.mono hall.size); clear hb; obtain ⟨Ao3, co3, hv, hq1, hq2, hq3, ho3⟩ := ro3; simp only [List.length_nil, List.length_cons] at hv; subst hv; clear hq1 hq2 hq3; refine kl H rfl fun a H => ?_
      refine wl_v _ (r_move (H.ev rfl)) ?_; refine kl H rfl fun a H => ?_
      refine wl_v _ (r_extract (v := .agg #[.int .i64 3, s3]) (H.ev rfl) rfl) ?_; refine kl H rfl fun a H => ?_
      refine wl_v _ (r_extract (v := .slice Ao3 0 co3) (H.ev rfl) rfl) ?_; refine kl H rfl fun a H => ?_
      refine op_new 24 11 (.tmp 44) #[.int .i64 3, s3] _ z24 s24 rfl (recv_one rs3) (fun p => (H.put 11 p rfl).ev rfl) (fun p => (H.put 11 p rfl).ev rfl) fun w4 b4 hge hb k4 => ?_; have g4 := Nat.le_trans hall.size hge; replace k0 := Block.ups k0 hb; replace k1 := Block.ups k1 hb; replace rs1 := Row.up rs1 hb; replace k2 := Block.ups k2 hb; replace rs2 := Row.up rs2 hb; replace ho2 := Holds.up ho2 hb; replace k3 := Block.ups k3 hb; replace rs3 := Row.up rs3 hb; replace hall := hall.trans (hb.mono hall.size); clear hb; clear hge; refine kl H rfl fun a H => ?_
      refine wl_v _ (r_assign (H.ev rfl)) ?_; refine kl H rfl fun a H => ?_
      refine wpList_nil ?_
      refine c_next ?_
      refine wp_seq ?_
      refine wp_seq ?_
      refine wp_region_lit ?_
      refine wl_v _ (r_move (H.ev rfl)) ?_; refine kl H rfl fun a H => ?_
      refine wl_v _ (r_len Try.underlying27 (H.ev rfl)) ?_; refine kl H rfl fun a H => ?_
      refine wl_v _ (r_ne Try.underlying3 (H.ev rfl) evc (dec_f (by omega))) ?_; refine kl H rfl fun a H => ?_
      refine wpList_nil ?_
      refine c_next ?_
      refine c_cond_f H rfl ?_
      refine wp_skip ?_
      refine c_next ?_
      refine wp_seq ?_
      obtain ⟨bm, om, hA, hm0⟩ := flat_some encN_len ho2 (by omega) (j := 0) (by simp)
      subst hA
      have hm1 := flat_range encN_len ho2 rfl (j := 1) (by simp)
      clear ho2
      have hS : SSm w b0 b1 b2 b3 b4 bm om s1 s2 s3 _ := ⟨hall.drew, k0, k1, k2, k3, k4, hm0, hm1⟩
      refine region_pi (SSm w b0 b1 b2 b3 b4 bm om s1 s2 s3) [(0, true), (1, true), (2, true), (3, true), (4, true), (5, true), (6, true), (7, true), (8, true), (9, true), (10, true), (11, true), (12, true), (13, true), (14, true), (15, true), (16, true), (17, true), (18, true), (19, true), (20, true), (21, true), (22, true), (23, true), (24, true), (25, true), (26, true), (27, true), (28, true), (29, true), (30, true), (31, true), (32, true), (33, true), (34, true), (35, true), (36, true), (37, true), (38, true), (39, true), (40, true), (41, false), (42, true), (43, true), (44, true), (45, false), (46, true), (47, true), (48, true), (49, false), (50, true), (51, true), (52, true), (54, true), (53, false), (55, false), (56, true), (57, true)] (by kernel_rfl) (by kernel_rfl) rfl (by kernel_rfl) hS ?_
      replace rs1 : IRow (World.drew _) _ _ := Row.up rs1 (Below.refl _ _).drew
      replace rs2 : IRow (World.drew _) _ _ := Row.up rs2 (Below.refl _ _).drew
      replace rs3 : IRow (World.drew _) _ _ := Row.up rs3 (Below.refl _ _).drew
      clear hall k0 k1 k2 k3 k4
      refine pi_f0 _ rfl (fun w' hS' => r_move (H.ev rfl)) ?_; refine kp H rfl fun a H => ?_
      refine pi_f0 _ rfl (fun w' hS' => r_len Try.underlying27 (H.ev rfl)) ?_; refine kp H rfl fun a H => ?_
      refine pi_f0 _ rfl (fun w' hS' => r_eq Try.underlying3 (H.ev rfl) evc (dec_t (by omega))) ?_; refine kp H rfl fun a H => ?_
      refine pi_f0 _ rfl (fun w' hS' => r_move (H.ev rfl)) ?_; refine kp H rfl fun a H => ?_
      refine pi_f1 _ rfl rfl rfl (H.ev rfl) (fun w' hS' => r_move (H.ev rfl)) ?_; refine kp H rfl fun a H => ?_
      refine pi_f1 _ rfl rfl rfl (H.ev rfl) (fun w' hS' => r_eq Try.underlying3 (H.ev rfl) evc (dec_t (by omega))) ?_; refine kp H rfl fun a H => ?_
      refine pi_f0 _ rfl (fun w' hS' => r_pick_t (H.ev rfl) (H.ev rfl)) ?_; refine kp H rfl fun a H => ?_
      refine pi_f0 _ rfl (fun w' hS' => r_move (H.ev rfl)) ?_; refine kp H rfl fun a H => ?_
      refine pi_f1 _ rfl rfl rfl (H.ev rfl) (fun w' hS' => r_move (H.ev rfl)) ?_; refine kp H rfl fun a H => ?_
      refine pi_f1 _ rfl rfl rfl (H.ev rfl) (fun w' hS' => r_eq Try.underlying3 (H.ev rfl) evc (dec_t (by omega))) ?_; refine kp H rfl fun a H => ?_
      refine pi_f0 _ rfl (fun w' hS' => r_pick_t (H.ev rfl) (H.ev rfl)) ?_; refine kp H rfl fun a H => ?_
      refine pi_f0 _ rfl (fun w' hS' => r_move (H.ev rfl)) ?_; refine kp H rfl fun a H => ?_
      refine pi_f1 _ rfl rfl rfl (H.ev rfl) (fun w' hS' => r_move (H.ev rfl)) ?_; refine kp H rfl fun a H => ?_
      refine pi_f1 _ rfl rfl rfl (H.ev rfl) (fun w' hS' => r_idx (j := 0) (q := om + 0 * 4) Try.underlying27 s31 (H.ev rfl) evc (by omega) rfl) ?_; refine kp H rfl fun a H => ?_
      refine pi_f1 _ rfl rfl rfl (H.ev rfl) (fun w' hS' => r_row (cs := [.int .i64 1, .int .i64 7, .int .i64 0, .int .i64 0]) (H.ev rfl) (hS'.2.2.2.2.2.2.1) (by kernel_rfl) s31 rfl) ?_; refine kp H rfl fun a H => ?_
      refine pi_f1 _ rfl rfl rfl (H.ev rfl) (fun w' hS' => r_row (cs := [.int .i64 1, .int .i64 7, .int .i64 0, .int .i64 0]) (H.ev rfl) (block_range (hS'.2.1)) (by kernel_rfl) s31 rfl) ?_; refine kp H rfl fun a H => ?_
      refine pi_f1 (.bool true) rfl rfl rfl (H.ev rfl) (fun w' hS' => r_eq31 (x := (1, 7, 0, 0)) (y := (1, 7, 0, 0)) (H.ev rfl) (H.ev rfl) rfl) ?_; refine kp H rfl fun a H => ?_
      refine pi_f0 _ rfl (fun w' hS' => r_pick_t (H.ev rfl) (H.ev rfl)) ?_; refine kp H rfl fun a H => ?_
      refine pi_f0 _ rfl (fun w' hS' => r_move (H.ev rfl)) ?_; refine kp H rfl fun a H => ?_
      refine pi_f1 _ rfl rfl rfl (H.ev rfl) (fun w' hS' => r_move (H.ev rfl)) ?_; refine kp H rfl fun a H => ?_
      refine pi_f1 _ rfl rfl rfl (H.ev rfl) (fun w' hS' => r_idx (j := 1) (q := om + 1 * 4) Try.underlying27 s31 (H.ev rfl) evc (by omega) rfl) ?_; refine kp H rfl fun a H => ?_
      refine pi_f1 _ rfl rfl rfl (H.ev rfl) (fun w' hS' => r_row (cs := [.int .i64 2, .int .i64 8, .int .i64 0, .int .i64 0]) (H.ev rfl) (hS'.2.2.2.2.2.2.2) (by kernel_rfl) s31 rfl) ?_; refine kp H rfl fun a H => ?_
      refine pi_f1 _ rfl rfl rfl (H.ev rfl) (fun w' hS' => r_row (cs := [.int .i64 2, .int .i64 8, .int .i64 0, .int .i64 0]) (H.ev rfl) (block_range (hS'.2.2.1)) (by kernel_rfl) s31 rfl) ?_; refine kp H rfl fun a H => ?_
      refine pi_f1 (.bool true) rfl rfl rfl (H.ev rfl) (fun w' hS' => r_eq31 (x := (2, 8, 0, 0)) (y := (2, 8, 0, 0)) (H.ev rfl) (H.ev rfl) rfl) ?_; refine kp H rfl fun a H => ?_
      refine pi_f0 _ rfl (fun w' hS' => r_pick_t (H.ev rfl) (H.ev rfl)) ?_; refine kp H rfl fun a H => ?_
      refine pi_f0 _ rfl (fun w' hS' => r_move (H.ev rfl)) ?_; refine kp H rfl fun a H => ?_
      refine pi_f1 _ rfl rfl rfl (H.ev rfl) (fun w' hS' => r_move (H.ev rfl)) ?_; refine kp H rfl fun a H => ?_
      refine pi_f1 _ rfl rfl rfl (H.ev rfl) (fun w' hS' => r_eq Try.underlying3 (H.ev rfl) evc (dec_t (by omega))) ?_; refine kp H rfl fun a H => ?_
      refine pi_f0 _ rfl (fun w' hS' => r_pick_t (H.ev rfl) (H.ev rfl)) ?_; refine kp H rfl fun a H => ?_
      refine pi_f0 _ rfl (fun w' hS' => r_move (H.ev rfl)) ?_; refine kp H rfl fun a H => ?_
      refine pi_f1 _ rfl rfl rfl (H.ev rfl) (fun w' hS' => r_move (H.ev rfl)) ?_; refine kp H rfl fun a H => ?_
      refine pi_f1 _ rfl rfl rfl (H.ev rfl) (fun w' hS' => r_eq Try.underlying3 (H.ev rfl) evc (dec_t (by omega))) ?_; refine kp H rfl fun a H => ?_
      refine pi_f0 _ rfl (fun w' hS' => r_pick_t (H.ev rfl) (H.ev rfl)) ?_; refine kp H rfl fun a H => ?_
      refine pi_f0 _ rfl (fun w' hS' => r_move (H.ev rfl)) ?_; refine kp H rfl fun a H => ?_
      refine pi_f1 _ rfl rfl rfl (H.ev rfl) (fun w' hS' => r_move (H.ev rfl)) ?_; refine kp H rfl fun a H => ?_
      refine pi_f1 _ rfl rfl rfl (H.ev rfl) (fun w' hS' => r_len Try.underlying27 (H.ev rfl)) ?_; refine kp H rfl fun a H => ?_
      refine pi_f1 _ rfl rfl rfl (H.ev rfl) (fun w' hS' => r_eq Try.underlying3 (H.ev rfl) evc (dec_t (by omega))) ?_; refine kp H rfl fun a H => ?_
      refine pi_f0 _ rfl (fun w' hS' => r_pick_t (H.ev rfl) (H.ev rfl)) ?_; refine kp H rfl fun a H => ?_
      refine pi_f0 _ rfl (fun w' hS' => r_move (H.ev rfl)) ?_; refine kp H rfl fun a H => ?_
      refine pi_f1 _ rfl rfl rfl (H.ev rfl) (fun w' hS' => r_row (cs := [.int .i64 3, s3]) (H.ev rfl) (block_range (hS'.2.2.2.2.2.1)) (by kernel_rfl) s24 rfl) ?_; refine kp H rfl fun a H => ?_
      refine pi_f1 _ rfl rfl rfl (H.ev rfl) (fun w' hS' => r_row (cs := [.int .i64 3, s2]) (H.ev rfl) (block_range (hS'.2.2.2.2.1)) (by kernel_rfl) s24 rfl) ?_; refine kp H rfl fun a H => ?_
      refine pi_a1 rfl rfl rfl (H.ev rfl) (fun K hK => ?_); refine wpo_call _ _ _ (same_any _ 3 3 (s3) (s2) [] [] rs3 rs2 (by simp)) (r_call2 cf10 (H.ev rfl) (H.ev rfl)) ?_; rintro e w9 ⟨rfl, hb⟩; refine ⟨_, rfl, ?_⟩; rw [show sameB 3 [] 3 [] = true from by kernel_rfl]; replace rs1 := Row.up rs1 hb; replace rs2 := Row.up rs2 hb; replace rs3 := Row.up rs3 hb; replace hS := hS.up hb; clear hb; refine hK _ _ ⟨hS, ?_⟩; clear hK; clear K; refine kp H rfl fun a H => ?_
      refine pi_f0 _ rfl (fun w' hS' => r_pick_t (H.ev rfl) (H.ev rfl)) ?_; refine kp H rfl fun a H => ?_
      refine pi_f0 _ rfl (fun w' hS' => r_move (H.ev rfl)) ?_; refine kp H rfl fun a H => ?_
      refine pi_f1 _ rfl rfl rfl (H.ev rfl) (fun w' hS' => r_row (cs := [.int .i64 1, s1]) (H.ev rfl) (block_range (hS'.2.2.2.1)) (by kernel_rfl) s24 rfl) ?_; refine kp H rfl fun a H => ?_
      refine pi_a1 rfl rfl rfl (H.ev rfl) (fun K hK => ?_); refine wpo_call _ _ _ (right_any _ 1 (s1) [(2, 2, 8, 0, 0)] rs1 (by simp)) (r_call1 cf16 (H.ev rfl)) ?_; rintro e w9 ⟨rfl, hb⟩; refine ⟨_, rfl, ?_⟩; rw [show rightF 1 [(2, 2, 8, 0, 0)] = true from by kernel_rfl]; replace rs1 := Row.up rs1 hb; replace rs2 := Row.up rs2 hb; replace rs3 := Row.up rs3 hb; replace hS := hS.up hb; clear hb; refine hK _ _ ⟨hS, ?_⟩; clear hK; clear K; refine kp H rfl fun a H => ?_
      refine pi_f0 _ rfl (fun w' hS' => r_pick_t (H.ev rfl) (H.ev rfl)) ?_; refine kp H rfl fun a H => ?_
      refine pi_f0 _ rfl (fun w' hS' => r_move (H.ev rfl)) ?_; refine kp H rfl fun a H => ?_
      refine pi_f1 _ rfl rfl rfl (H.ev rfl) (fun w' hS' => r_build #[] (.agg #[.int .i64 0, .slice none 0 0]) (by simp [evc]) (fun w => by kernel_rfl)) ?_; refine kp H rfl fun a H => ?_
      refine pi_a1 rfl rfl rfl (H.ev rfl) (fun K hK => ?_); refine wpo_call _ _ _ (right_any _ 0 (.slice none 0 0) [] Row.nil (by simp)) (r_call1 cf16 (H.ev rfl)) ?_; rintro e w9 ⟨rfl, hb⟩; refine ⟨_, rfl, ?_⟩; rw [show rightF 0 [] = false from by kernel_rfl]; replace rs1 := Row.up rs1 hb; replace rs2 := Row.up rs2 hb; replace rs3 := Row.up rs3 hb; replace hS := hS.up hb; clear hb; refine hK _ _ ⟨hS, ?_⟩; clear hK; clear K; refine kp H rfl fun a H => ?_
      refine pi_f1 _ rfl rfl rfl (H.ev rfl) (fun w' hS' => r_not (H.ev rfl) rfl) ?_; refine kp H rfl fun a H => ?_
      refine pi_f0 _ rfl (fun w' hS' => r_pick_t (H.ev rfl) (H.ev rfl)) ?_; refine kp H rfl fun a H => ?_
      refine pi_f0 _ rfl (fun w' hS' => r_move (H.ev rfl)) ?_; refine kp H rfl fun a H => ?_
      refine pi_f1 _ rfl rfl rfl (H.ev rfl) (fun w' hS' => r_build #[(0, .int .i64 1)] (.agg #[.int .i64 1, .slice none 0 0]) (by simp [evc]) (fun w => by kernel_rfl)) ?_; refine kp H rfl fun a H => ?_
      refine pi_a1 rfl rfl rfl (H.ev rfl) (fun K hK => ?_); refine wpo_call _ _ _ (start_any _) (r_call0 cf19) ?_; rintro e w9 ⟨rfl, hb⟩; refine ⟨_, rfl, ?_⟩; replace rs1 := Row.up rs1 hb; replace rs2 := Row.up rs2 hb; replace rs3 := Row.up rs3 hb; replace hS := hS.up hb; clear hb; refine hK _ _ ⟨hS, ?_⟩; clear hK; clear K; refine kp H rfl fun a H => ?_
      refine pi_a1 rfl rfl rfl (H.ev rfl) (fun K hK => ?_); refine wpo_call _ _ _ (same_any _ 1 1 (.slice none 0 0) (.slice none 0 0) [] [] Row.nil Row.nil (by simp)) (r_call2 cf10 (H.ev rfl) (H.ev rfl)) ?_; rintro e w9 ⟨rfl, hb⟩; refine ⟨_, rfl, ?_⟩; rw [show sameB 1 [] 1 [] = true from by kernel_rfl]; replace rs1 := Row.up rs1 hb; replace rs2 := Row.up rs2 hb; replace rs3 := Row.up rs3 hb; replace hS := hS.up hb; clear hb; refine hK _ _ ⟨hS, ?_⟩; clear hK; clear K; refine kp H rfl fun a H => ?_
      refine pi_f0 _ rfl (fun w' hS' => r_pick_t (H.ev rfl) (H.ev rfl)) ?_; refine kp H rfl fun a H => ?_
      refine pi_f0 _ rfl (fun w' hS' => r_assign (H.ev rfl)) ?_; refine kp H rfl fun a H => ?_
      refine pi_nil (NoPanic.normal ?_)
      have hall := hS.1
      clear hS
      refine c_next ?_
      refine wp_ret ?_
      exact k_ret1 H rfl rfl ⟨rfl, hall⟩
    · skip
      refine st_a0 rfl ?_; refine wpo_alloc 24 #[.int .i64 0, .slice none 0 0] z24 fun w1 b5 hge hb k5 => ?_; have g5 := Nat.le_trans (SSm1.size hS) hge; have d0_5 : b0 < b5 := Nat.lt_of_lt_of_le k0.lt hge; have d1_5 : b1 < b5 := Nat.lt_of_lt_of_le k1.lt hge; replace k0 := Block.ups k0 hb; replace k1 := Block.ups k1 hb; replace hS := hS.up hb; clear hge hb; refine hK _ _ ⟨(fun _ => hS), ?_⟩; clear hK; clear K; refine kt H rfl fun a H => ?_
      refine pt_one (fun K hK => ?_)
      refine st_a0 rfl ?_; refine wpo_call _ _ _ (take_any _ 1 (.slice none 0 0) [] (2, 2, 8, 0, 0) Row.nil (by simp) (by decide) (by decide)) (r_call2 cf12 (H.ev rfl) (H.ev rfl)) ?_; rintro e w9 ⟨⟨s1, o1, rfl, ⟨rs1, fs1⟩, ⟨ro1, fo1⟩⟩, hb⟩; refine ⟨_, rfl, ?_⟩; rw [show takeF 1 [] (2, 2, 8, 0, 0) = ((1, [(2, 2, 8, 0, 0)]), []) from by kernel_rfl] at rs1 ro1 ⊢; have hlt3 := k5.lt; replace k0 := Block.ups k0 hb; replace k1 := Block.ups k1 hb; replace k5 := Block.ups k5 hb; replace hS := hS.up hb; clear hb; obtain ⟨Ao1, co1, hv, hq1, hq2, hq3, ho1⟩ := ro1; simp only [List.length_nil, List.length_cons] at hv; subst hv; clear hq1 hq2 hq3; have hne1 : ∀ A n c, s1 = .slice A n c → ∀ b o, A = some ⟨b, o, none⟩ → b ≠ b5 := (fun A n c e b o ea => by have := fs1 A n c e b o ea; omega); clear hlt3; refine hK _ _ ⟨(fun _ => hS), ?_⟩; clear hK; clear K; refine kt H rfl fun a H => ?_
      refine pt_f0 _ rfl (fun w' hS' => r_move (H.ev rfl)) ?_; refine kt H rfl fun a H => ?_
      refine pt_f0 _ rfl (fun w' hS' => r_extract (v := .agg #[.int .i64 1, s1]) (H.ev rfl) rfl) ?_; refine kt H rfl fun a H => ?_
      refine pt_f0 _ rfl (fun w' hS' => r_extract (v := .slice Ao1 0 co1) (H.ev rfl) rfl) ?_; refine kt H rfl fun a H => ?_
      refine pt_one (fun K hK => ?_)
      refine st_a0 rfl ?_; refine wpo_store1 24 (.tmp 3) (.tmp 20) b5 0 24 (.agg #[.int .i64 1, s1]) _ (H.ev rfl) (H.ev rfl) k5 s24 (by simp [Value.cells]) (by obtain ⟨A, c, rfl, _⟩ := rs1; simp [Value.cells, Value.oneCell']) fun w8 hb8 ho8 kq => ?_; clear k5; have k5 : Block w8 b5 24 #[.int .i64 1, s1] := kq; clear kq; replace k0 := block_same k0 (ho8 _ (by omega)); replace k1 := block_same k1 (ho8 _ (by omega)); replace rs1 := row_far rs1 hne1 ho8; replace hS := hS.far (hb8 _ g5) (ho8 _ (by omega)); clear hb8 ho8; refine hK _ _ ⟨(fun _ => hS), ?_⟩; clear hK; clear K; skip
      refine pt_f0 _ rfl (fun w' hS' => r_assign (H.ev rfl)) ?_; refine kt H rfl fun a H => ?_
      refine pt_done (NoPanic.normal ?_)
      have hall := hS.1
      clear hS
      refine c_next ?_
      refine wp_seq ?_
      refine wp_region_lit ?_
      refine wl_v _ (r_row (cs := [.int .i64 1, s1]) (H.ev rfl) (block_range k5) (by kernel_rfl) s24 rfl) ?_; refine kl H rfl fun a H => ?_
      refine wl_call _ _ _ (ack_any _ 1 (s1) [(2, 2, 8, 0, 0)] rs1 (by simp)) (r_call1 cf14 (H.ev rfl)) ?_; rintro e w9 ⟨rfl, hb⟩; refine ⟨_, rfl, ?_⟩; rw [show ackF 1 [(2, 2, 8, 0, 0)] = (0, 1) from by kernel_rfl]; replace k0 := Block.ups k0 hb; replace k1 := Block.ups k1 hb; replace k5 := Block.ups k5 hb; replace rs1 := Row.up rs1 hb; replace hall := hall.trans (hb.mono hall.size); clear hb; refine kl H rfl fun a H => ?_
      refine wl_v _ (r_move (H.ev rfl)) ?_; refine kl H rfl fun a H => ?_
      refine wl_v _ (r_extract (v := .int .i64 0) (H.ev rfl) rfl) ?_; refine kl H rfl fun a H => ?_
      refine wl_v _ (r_extract (v := .int .i64 1) (H.ev rfl) rfl) ?_; refine kl H rfl fun a H => ?_
      refine wl_v _ (r_assign (H.ev rfl)) ?_; refine kl H rfl fun a H => ?_
      refine wl_v _ (r_assign (H.ev rfl)) ?_; refine kl H rfl fun a H => ?_
      refine wpList_nil ?_
      refine c_next ?_
      refine wp_seq ?_
      refine wp_region_lit ?_
      refine wl_v _ (r_row (cs := [.int .i64 1, s1]) (H.ev rfl) (block_range k5) (by kernel_rfl) s24 rfl) ?_; refine kl H rfl fun a H => ?_
      refine wl_v _ (r_row (cs := [.int .i64 1, .int .i64 7, .int .i64 0, .int .i64 0]) (H.ev rfl) (block_range k0) (by kernel_rfl) s31 rfl) ?_; refine kl H rfl fun a H => ?_
      refine wl_v _ (r_build #[(0, .int .i64 1), (1, .agg #[.int .i64 1, .int .i64 7, .int .i64 0, .int .i64 0])] (.agg #[.int .i64 1, .int .i64 1, .int .i64 7, .int .i64 0, .int .i64 0]) (by simp [evc, H.ev (j := 29) rfl]) (fun w => by kernel_rfl)) ?_; refine kl H rfl fun a H => ?_
      refine wl_call _ _ _ (take_any _ 1 (s1) [(2, 2, 8, 0, 0)] (1, 1, 7, 0, 0) rs1 (by simp) (by decide) (by decide)) (r_call2 cf12 (H.ev rfl) (H.ev rfl)) ?_; rintro e w9 ⟨⟨s2, o2, rfl, ⟨rs2, fs2⟩, ⟨ro2, fo2⟩⟩, hb⟩; refine ⟨_, rfl, ?_⟩; rw [show takeF 1 [(2, 2, 8, 0, 0)] (1, 1, 7, 0, 0) = ((3, []), [(1, 7, 0, 0), (2, 8, 0, 0)]) from by kernel_rfl] at rs2 ro2 ⊢; replace k0 := Block.ups k0 hb; replace k1 := Block.ups k1 hb; replace k5 := Block.ups k5 hb; replace rs1 := Row.up rs1 hb; replace hall := hall.trans (hb.mono hall.size); clear hb; obtain ⟨Ao2, co2, hv, hq1, hq2, hq3, ho2⟩ := ro2; simp only [List.length_nil, List.length_cons] at hv; subst hv; clear hq1 hq2 hq3; refine kl H rfl fun a H => ?_
      refine wl_v _ (r_move (H.ev rfl)) ?_; refine kl H rfl fun a H => ?_
      refine wl_v _ (r_extract (v := .agg #[.int .i64 3, s2]) (H.ev rfl) rfl) ?_; refine kl H rfl fun a H => ?_
      refine wl_v _ (r_extract (v := .slice Ao2 2 co2) (H.ev rfl) rfl) ?_; refine kl H rfl fun a H => ?_
      refine op_new 24 7 (.tmp 32) #[.int .i64 3, s2] _ z24 s24 rfl (recv_one rs2) (fun p => (H.put 7 p rfl).ev rfl) (fun p => (H.put 7 p rfl).ev rfl) fun w6 b6 hge hb k6 => ?_; have g6 := Nat.le_trans hall.size hge; replace k0 := Block.ups k0 hb; replace k1 := Block.ups k1 hb; replace k5 := Block.ups k5 hb; replace rs1 := Row.up rs1 hb; replace rs2 := Row.up rs2 hb; replace ho2 := Holds.up ho2 hb; replace hall := hall.trans (hb.mono hall.size); clear hb; clear hge; refine kl H rfl fun a H => ?_
      refine wl_v _ (r_assign (H.ev rfl)) ?_; refine kl H rfl fun a H => ?_
      refine wpList_nil ?_
      refine c_next ?_
      refine wp_seq ?_
      refine wp_region_lit ?_
      refine wl_v _ (r_row (cs := [.int .i64 3, s2]) (H.ev rfl) (block_range k6) (by kernel_rfl) s24 rfl) ?_; refine kl H rfl fun a H => ?_
      refine wl_call _ _ _ (ack_any _ 3 (s2) [] rs2 (by simp)) (r_call1 cf14 (H.ev rfl)) ?_; rintro e w9 ⟨rfl, hb⟩; refine ⟨_, rfl, ?_⟩; rw [show ackF 3 [] = (2, 0) from by kernel_rfl]; replace k0 := Block.ups k0 hb; replace k1 := Block.ups k1 hb; replace k5 := Block.ups k5 hb; replace rs1 := Row.up rs1 hb; replace rs2 := Row.up rs2 hb; replace ho2 := Holds.up ho2 hb; replace k6 := Block.ups k6 hb; replace hall := hall.trans (hb.mono hall.size); clear hb; refine kl H rfl fun a H => ?_
      refine wl_v _ (r_move (H.ev rfl)) ?_; refine kl H rfl fun a H => ?_
      refine wl_v _ (r_extract (v := .int .i64 2) (H.ev rfl) rfl) ?_; refine kl H rfl fun a H => ?_
      refine wl_v _ (r_extract (v := .int .i64 0) (H.ev rfl) rfl) ?_; refine kl H rfl fun a H => ?_
      refine wl_v _ (r_assign (H.ev rfl)) ?_; refine kl H rfl fun a H => ?_
      refine wl_v _ (r_assign (H.ev rfl)) ?_; refine kl H rfl fun a H => ?_
      refine wpList_nil ?_
      refine c_next ?_
      refine wp_seq ?_
      refine wp_region_lit ?_
      refine wl_v _ (r_row (cs := [.int .i64 3, s2]) (H.ev rfl) (block_range k6) (by kernel_rfl) s24 rfl) ?_; refine kl H rfl fun a H => ?_
      refine wl_v _ (r_row (cs := [.int .i64 1, .int .i64 7, .int .i64 0, .int .i64 0]) (H.ev rfl) (block_range k0) (by kernel_rfl) s31 rfl) ?_; refine kl H rfl fun a H => ?_
      refine wl_v _ (r_build #[(0, .int .i64 2), (1, .agg #[.int .i64 1, .int .i64 7, .int .i64 0, .int .i64 0])] (.agg #[.int .i64 2, .int .i64 1, .int .i64 7, .int .i64 0, .int .i64 0]) (by simp [evc, H.ev (j := 41) rfl]) (fun w => by kernel_rfl)) ?_; refine kl H rfl fun a H => ?_
      refine wl_call _ _ _ (take_any _ 3 (s2) [] (2, 1, 7, 0, 0) rs2 (by simp) (by decide) (by decide)) (r_call2 cf12 (H.ev rfl) (H.ev rfl)) ?_; rintro e w9 ⟨⟨s3, o3, rfl, ⟨rs3, fs3⟩, ⟨ro3, fo3⟩⟩, hb⟩; refine ⟨_, rfl, ?_⟩; rw [show takeF 3 [] (2, 1, 7, 0, 0) = ((3, []), []) from by kernel_rfl] at rs3 ro3 ⊢; replace k0 := Block.ups k0 hb; replace k1 := Block.ups k1 hb; replace k5 := Block.ups k5 hb; replace rs1 := Row.up rs1 hb; replace rs2 := Row.up rs2 hb; replace ho2 := Holds.up ho2 hb; replace k6 := Block.ups k6 hb; replace hall := hall.trans (hb.mono hall.size); clear hb; obtain ⟨Ao3, co3, hv, hq1, hq2, hq3, ho3⟩ := ro3; simp only [List.length_nil, List.length_cons] at hv; subst hv; clear hq1 hq2 hq3; refine kl H rfl fun a H => ?_
      refine wl_v _ (r_move (H.ev rfl)) ?_; refine kl H rfl fun a H => ?_
      refine wl_v _ (r_extract (v := .agg #[.int .i64 3, s3]) (H.ev rfl) rfl) ?_; refine kl H rfl fun a H => ?_
      refine wl_v _ (r_extract (v := .slice Ao3 0 co3) (H.ev rfl) rfl) ?_; refine kl H rfl fun a H => ?_
      refine op_new 24 11 (.tmp 44) #[.int .i64 3, s3] _ z24 s24 rfl (recv_one rs3) (fun p => (H.put 11 p rfl).ev rfl) (fun p => (H.put 11 p rfl).ev rfl) fun w7 b7 hge hb k7 => ?_; have g7 := Nat.le_trans hall.size hge; replace k0 := Block.ups k0 hb; replace k1 := Block.ups k1 hb; replace k5 := Block.ups k5 hb; replace rs1 := Row.up rs1 hb; replace rs2 := Row.up rs2 hb; replace ho2 := Holds.up ho2 hb; replace k6 := Block.ups k6 hb; replace rs3 := Row.up rs3 hb; replace hall := hall.trans (hb.mono hall.size); clear hb; clear hge; refine kl H rfl fun a H => ?_
      refine wl_v _ (r_assign (H.ev rfl)) ?_; refine kl H rfl fun a H => ?_
      refine wpList_nil ?_
      refine c_next ?_
      refine wp_seq ?_
      refine wp_seq ?_
      refine wp_region_lit ?_
      refine wl_v _ (r_move (H.ev rfl)) ?_; refine kl H rfl fun a H => ?_
      refine wl_v _ (r_len Try.underlying27 (H.ev rfl)) ?_; refine kl H rfl fun a H => ?_
      refine wl_v _ (r_ne Try.underlying3 (H.ev rfl) evc (dec_f (by omega))) ?_; refine kl H rfl fun a H => ?_
      refine wpList_nil ?_
      refine c_next ?_
      refine c_cond_f H rfl ?_
      refine wp_skip ?_
      refine c_next ?_
      refine wp_seq ?_
      obtain ⟨bm, om, hA, hm0⟩ := flat_some encN_len ho2 (by omega) (j := 0) (by simp)
      subst hA
      have hm1 := flat_range encN_len ho2 rfl (j := 1) (by simp)
      clear ho2
      have hS : SSm w b0 b1 b5 b6 b7 bm om s1 s2 s3 _ := ⟨hall.drew, k0, k1, k5, k6, k7, hm0, hm1⟩
      refine region_pi (SSm w b0 b1 b5 b6 b7 bm om s1 s2 s3) [(0, true), (1, true), (2, true), (3, true), (4, true), (5, true), (6, true), (7, true), (8, true), (9, true), (10, true), (11, true), (12, true), (13, true), (14, true), (15, true), (16, true), (17, true), (18, true), (19, true), (20, true), (21, true), (22, true), (23, true), (24, true), (25, true), (26, true), (27, true), (28, true), (29, true), (30, true), (31, true), (32, true), (33, true), (34, true), (35, true), (36, true), (37, true), (38, true), (39, true), (40, true), (41, false), (42, true), (43, true), (44, true), (45, false), (46, true), (47, true), (48, true), (49, false), (50, true), (51, true), (52, true), (54, true), (53, false), (55, false), (56, true), (57, true)] (by kernel_rfl) (by kernel_rfl) rfl (by kernel_rfl) hS ?_
      replace rs1 : IRow (World.drew _) _ _ := Row.up rs1 (Below.refl _ _).drew
      replace rs2 : IRow (World.drew _) _ _ := Row.up rs2 (Below.refl _ _).drew
      replace rs3 : IRow (World.drew _) _ _ := Row.up rs3 (Below.refl _ _).drew
      clear hall k0 k1 k5 k6 k7
      refine pi_f0 _ rfl (fun w' hS' => r_move (H.ev rfl)) ?_; refine kp H rfl fun a H => ?_
      refine pi_f0 _ rfl (fun w' hS' => r_len Try.underlying27 (H.ev rfl)) ?_; refine kp H rfl fun a H => ?_
      refine pi_f0 _ rfl (fun w' hS' => r_eq Try.underlying3 (H.ev rfl) evc (dec_t (by omega))) ?_; refine kp H rfl fun a H => ?_
      refine pi_f0 _ rfl (fun w' hS' => r_move (H.ev rfl)) ?_; refine kp H rfl fun a H => ?_
      refine pi_f1 _ rfl rfl rfl (H.ev rfl) (fun w' hS' => r_move (H.ev rfl)) ?_; refine kp H rfl fun a H => ?_
      refine pi_f1 _ rfl rfl rfl (H.ev rfl) (fun w' hS' => r_eq Try.underlying3 (H.ev rfl) evc (dec_t (by omega))) ?_; refine kp H rfl fun a H => ?_
      refine pi_f0 _ rfl (fun w' hS' => r_pick_t (H.ev rfl) (H.ev rfl)) ?_; refine kp H rfl fun a H => ?_
      refine pi_f0 _ rfl (fun w' hS' => r_move (H.ev rfl)) ?_; refine kp H rfl fun a H => ?_
      refine pi_f1 _ rfl rfl rfl (H.ev rfl) (fun w' hS' => r_move (H.ev rfl)) ?_; refine kp H rfl fun a H => ?_
      refine pi_f1 _ rfl rfl rfl (H.ev rfl) (fun w' hS' => r_eq Try.underlying3 (H.ev rfl) evc (dec_t (by omega))) ?_; refine kp H rfl fun a H => ?_
      refine pi_f0 _ rfl (fun w' hS' => r_pick_t (H.ev rfl) (H.ev rfl)) ?_; refine kp H rfl fun a H => ?_
      refine pi_f0 _ rfl (fun w' hS' => r_move (H.ev rfl)) ?_; refine kp H rfl fun a H => ?_
      refine pi_f1 _ rfl rfl rfl (H.ev rfl) (fun w' hS' => r_move (H.ev rfl)) ?_; refine kp H rfl fun a H => ?_
      refine pi_f1 _ rfl rfl rfl (H.ev rfl) (fun w' hS' => r_idx (j := 0) (q := om + 0 * 4) Try.underlying27 s31 (H.ev rfl) evc (by omega) rfl) ?_; refine kp H rfl fun a H => ?_
      refine pi_f1 _ rfl rfl rfl (H.ev rfl) (fun w' hS' => r_row (cs := [.int .i64 1, .int .i64 7, .int .i64 0, .int .i64 0]) (H.ev rfl) (hS'.2.2.2.2.2.2.1) (by kernel_rfl) s31 rfl) ?_; refine kp H rfl fun a H => ?_
      refine pi_f1 _ rfl rfl rfl (H.ev rfl) (fun w' hS' => r_row (cs := [.int .i64 1, .int .i64 7, .int .i64 0, .int .i64 0]) (H.ev rfl) (block_range (hS'.2.1)) (by kernel_rfl) s31 rfl) ?_; refine kp H rfl fun a H => ?_
      refine pi_f1 (.bool true) rfl rfl rfl (H.ev rfl) (fun w' hS' => r_eq31 (x := (1, 7, 0, 0)) (y := (1, 7, 0, 0)) (H.ev rfl) (H.ev rfl) rfl) ?_; refine kp H rfl fun a H => ?_
      refine pi_f0 _ rfl (fun w' hS' => r_pick_t (H.ev rfl) (H.ev rfl)) ?_; refine kp H rfl fun a H => ?_
      refine pi_f0 _ rfl (fun w' hS' => r_move (H.ev rfl)) ?_; refine kp H rfl fun a H => ?_
      refine pi_f1 _ rfl rfl rfl (H.ev rfl) (fun w' hS' => r_move (H.ev rfl)) ?_; refine kp H rfl fun a H => ?_
      refine pi_f1 _ rfl rfl rfl (H.ev rfl) (fun w' hS' => r_idx (j := 1) (q := om + 1 * 4) Try.underlying27 s31 (H.ev rfl) evc (by omega) rfl) ?_; refine kp H rfl fun a H => ?_
      refine pi_f1 _ rfl rfl rfl (H.ev rfl) (fun w' hS' => r_row (cs := [.int .i64 2, .int .i64 8, .int .i64 0, .int .i64 0]) (H.ev rfl) (hS'.2.2.2.2.2.2.2) (by kernel_rfl) s31 rfl) ?_; refine kp H rfl fun a H => ?_
      refine pi_f1 _ rfl rfl rfl (H.ev rfl) (fun w' hS' => r_row (cs := [.int .i64 2, .int .i64 8, .int .i64 0, .int .i64 0]) (H.ev rfl) (block_range (hS'.2.2.1)) (by kernel_rfl) s31 rfl) ?_; refine kp H rfl fun a H => ?_
      refine pi_f1 (.bool true) rfl rfl rfl (H.ev rfl) (fun w' hS' => r_eq31 (x := (2, 8, 0, 0)) (y := (2, 8, 0, 0)) (H.ev rfl) (H.ev rfl) rfl) ?_; refine kp H rfl fun a H => ?_
      refine pi_f0 _ rfl (fun w' hS' => r_pick_t (H.ev rfl) (H.ev rfl)) ?_; refine kp H rfl fun a H => ?_
      refine pi_f0 _ rfl (fun w' hS' => r_move (H.ev rfl)) ?_; refine kp H rfl fun a H => ?_
      refine pi_f1 _ rfl rfl rfl (H.ev rfl) (fun w' hS' => r_move (H.ev rfl)) ?_; refine kp H rfl fun a H => ?_
      refine pi_f1 _ rfl rfl rfl (H.ev rfl) (fun w' hS' => r_eq Try.underlying3 (H.ev rfl) evc (dec_t (by omega))) ?_; refine kp H rfl fun a H => ?_
      refine pi_f0 _ rfl (fun w' hS' => r_pick_t (H.ev rfl) (H.ev rfl)) ?_; refine kp H rfl fun a H => ?_
      refine pi_f0 _ rfl (fun w' hS' => r_move (H.ev rfl)) ?_; refine kp H rfl fun a H => ?_
      refine pi_f1 _ rfl rfl rfl (H.ev rfl) (fun w' hS' => r_move (H.ev rfl)) ?_; refine kp H rfl fun a H => ?_
      refine pi_f1 _ rfl rfl rfl (H.ev rfl) (fun w' hS' => r_eq Try.underlying3 (H.ev rfl) evc (dec_t (by omega))) ?_; refine kp H rfl fun a H => ?_
      refine pi_f0 _ rfl (fun w' hS' => r_pick_t (H.ev rfl) (H.ev rfl)) ?_; refine kp H rfl fun a H => ?_
      refine pi_f0 _ rfl (fun w' hS' => r_move (H.ev rfl)) ?_; refine kp H rfl fun a H => ?_
      refine pi_f1 _ rfl rfl rfl (H.ev rfl) (fun w' hS' => r_move (H.ev rfl)) ?_; refine kp H rfl fun a H => ?_
      refine pi_f1 _ rfl rfl rfl (H.ev rfl) (fun w' hS' => r_len Try.underlying27 (H.ev rfl)) ?_; refine kp H rfl fun a H => ?_
      refine pi_f1 _ rfl rfl rfl (H.ev rfl) (fun w' hS' => r_eq Try.underlying3 (H.ev rfl) evc (dec_t (by omega))) ?_; refine kp H rfl fun a H => ?_
      refine pi_f0 _ rfl (fun w' hS' => r_pick_t (H.ev rfl) (H.ev rfl)) ?_; refine kp H rfl fun a H => ?_
      refine pi_f0 _ rfl (fun w' hS' => r_move (H.ev rfl)) ?_; refine kp H rfl fun a H => ?_
      refine pi_f1 _ rfl rfl rfl (H.ev rfl) (fun w' hS' => r_row (cs := [.int .i64 3, s3]) (H.ev rfl) (block_range (hS'.2.2.2.2.2.1)) (by kernel_rfl) s24 rfl) ?_; refine kp H rfl fun a H => ?_
      refine pi_f1 _ rfl rfl rfl (H.ev rfl) (fun w' hS' => r_row (cs := [.int .i64 3, s2]) (H.ev rfl) (block_range (hS'.2.2.2.2.1)) (by kernel_rfl) s24 rfl) ?_; refine kp H rfl fun a H => ?_
      refine pi_a1 rfl rfl rfl (H.ev rfl) (fun K hK => ?_); refine wpo_call _ _ _ (same_any _ 3 3 (s3) (s2) [] [] rs3 rs2 (by simp)) (r_call2 cf10 (H.ev rfl) (H.ev rfl)) ?_; rintro e w9 ⟨rfl, hb⟩; refine ⟨_, rfl, ?_⟩; rw [show sameB 3 [] 3 [] = true from by kernel_rfl]; replace rs1 := Row.up rs1 hb; replace rs2 := Row.up rs2 hb; replace rs3 := Row.up rs3 hb; replace hS := hS.up hb; clear hb; refine hK _ _ ⟨hS, ?_⟩; clear hK; clear K; refine kp H rfl fun a H => ?_
      refine pi_f0 _ rfl (fun w' hS' => r_pick_t (H.ev rfl) (H.ev rfl)) ?_; refine kp H rfl fun a H => ?_
      refine pi_f0 _ rfl (fun w' hS' => r_move (H.ev rfl)) ?_; refine kp H rfl fun a H => ?_
      refine pi_f1 _ rfl rfl rfl (H.ev rfl) (fun w' hS' => r_row (cs := [.int .i64 1, s1]) (H.ev rfl) (block_range (hS'.2.2.2.1)) (by kernel_rfl) s24 rfl) ?_; refine kp H rfl fun a H => ?_
      refine pi_a1 rfl rfl rfl (H.ev rfl) (fun K hK => ?_); refine wpo_call _ _ _ (right_any _ 1 (s1) [(2, 2, 8, 0, 0)] rs1 (by simp)) (r_call1 cf16 (H.ev rfl)) ?_; rintro e w9 ⟨rfl, hb⟩; refine ⟨_, rfl, ?_⟩; rw [show rightF 1 [(2, 2, 8, 0, 0)] = true from by kernel_rfl]; replace rs1 := Row.up rs1 hb; replace rs2 := Row.up rs2 hb; replace rs3 := Row.up rs3 hb; replace hS := hS.up hb; clear hb; refine hK _ _ ⟨hS, ?_⟩; clear hK; clear K; refine kp H rfl fun a H => ?_
      refine pi_f0 _ rfl (fun w' hS' => r_pick_t (H.ev rfl) (H.ev rfl)) ?_; refine kp H rfl fun a H => ?_
      refine pi_f0 _ rfl (fun w' hS' => r_move (H.ev rfl)) ?_; refine kp H rfl fun a H => ?_
      refine pi_f1 _ rfl rfl rfl (H.ev rfl) (fun w' hS' => r_build #[] (.agg #[.int .i64 0, .slice none 0 0]) (by simp [evc]) (fun w => by kernel_rfl)) ?_; refine kp H rfl fun a H => ?_
      refine pi_a1 rfl rfl rfl (H.ev rfl) (fun K hK => ?_); refine wpo_call _ _ _ (right_any _ 0 (.slice none 0 0) [] Row.nil (by simp)) (r_call1 cf16 (H.ev rfl)) ?_; rintro e w9 ⟨rfl, hb⟩; refine ⟨_, rfl, ?_⟩; rw [show rightF 0 [] = false from by kernel_rfl]; replace rs1 := Row.up rs1 hb; replace rs2 := Row.up rs2 hb; replace rs3 := Row.up rs3 hb; replace hS := hS.up hb; clear hb; refine hK _ _ ⟨hS, ?_⟩; clear hK; clear K; refine kp H rfl fun a H => ?_
      refine pi_f1 _ rfl rfl rfl (H.ev rfl) (fun w' hS' => r_not (H.ev rfl) rfl) ?_; refine kp H rfl fun a H => ?_
      refine pi_f0 _ rfl (fun w' hS' => r_pick_t (H.ev rfl) (H.ev rfl)) ?_; refine kp H rfl fun a H => ?_
      refine pi_f0 _ rfl (fun w' hS' => r_move (H.ev rfl)) ?_; refine kp H rfl fun a H => ?_
      refine pi_f1 _ rfl rfl rfl (H.ev rfl) (fun w' hS' => r_build #[(0, .int .i64 1)] (.agg #[.int .i64 1, .slice none 0 0]) (by simp [evc]) (fun w => by kernel_rfl)) ?_; refine kp H rfl fun a H => ?_
      refine pi_a1 rfl rfl rfl (H.ev rfl) (fun K hK => ?_); refine wpo_call _ _ _ (start_any _) (r_call0 cf19) ?_; rintro e w9 ⟨rfl, hb⟩; refine ⟨_, rfl, ?_⟩; replace rs1 := Row.up rs1 hb; replace rs2 := Row.up rs2 hb; replace rs3 := Row.up rs3 hb; replace hS := hS.up hb; clear hb; refine hK _ _ ⟨hS, ?_⟩; clear hK; clear K; refine kp H rfl fun a H => ?_
      refine pi_a1 rfl rfl rfl (H.ev rfl) (fun K hK => ?_); refine wpo_call _ _ _ (same_any _ 1 1 (.slice none 0 0) (.slice none 0 0) [] [] Row.nil Row.nil (by simp)) (r_call2 cf10 (H.ev rfl) (H.ev rfl)) ?_; rintro e w9 ⟨rfl, hb⟩; refine ⟨_, rfl, ?_⟩; rw [show sameB 1 [] 1 [] = true from by kernel_rfl]; replace rs1 := Row.up rs1 hb; replace rs2 := Row.up rs2 hb; replace rs3 := Row.up rs3 hb; replace hS := hS.up hb; clear hb; refine hK _ _ ⟨hS, ?_⟩; clear hK; clear K; refine kp H rfl fun a H => ?_
      refine pi_f0 _ rfl (fun w' hS' => r_pick_t (H.ev rfl) (H.ev rfl)) ?_; refine kp H rfl fun a H => ?_
      refine pi_f0 _ rfl (fun w' hS' => r_assign (H.ev rfl)) ?_; refine kp H rfl fun a H => ?_
      refine pi_nil (NoPanic.normal ?_)
      have hall := hS.1
      clear hS
      refine c_next ?_
      refine wp_ret ?_
      exact k_ret1 H rfl rfl ⟨rfl, hall⟩
  · skip
    refine st_a0 rfl ?_; refine wpo_alloc 24 #[.int .i64 0, .slice none 0 0] z24 fun w1 b8 hge hb k8 => ?_; have g8 := Nat.le_trans (SSm1.size hS) hge; have d0_8 : b0 < b8 := Nat.lt_of_lt_of_le k0.lt hge; have d1_8 : b1 < b8 := Nat.lt_of_lt_of_le k1.lt hge; replace k0 := Block.ups k0 hb; replace k1 := Block.ups k1 hb; replace hS := hS.up hb; clear hge hb; refine hK _ _ ⟨(fun _ => hS), ?_⟩; clear hK; clear K; refine kt H rfl fun a H => ?_
    refine pt_one (fun K hK => ?_)
    refine st_a0 rfl ?_; refine wpo_call _ _ _ (start_any _) (r_call0 cf19) ?_; rintro e w9 ⟨rfl, hb⟩; refine ⟨_, rfl, ?_⟩; replace k0 := Block.ups k0 hb; replace k1 := Block.ups k1 hb; replace k8 := Block.ups k8 hb; replace hS := hS.up hb; clear hb; refine hK _ _ ⟨(fun _ => hS), ?_⟩; clear hK; clear K; refine kt H rfl fun a H => ?_
    refine pt_one (fun K hK => ?_)
    refine st_a0 rfl ?_; refine wpo_call _ _ _ (take_any _ 1 (.slice none 0 0) [] (2, 2, 8, 0, 0) Row.nil (by simp) (by decide) (by decide)) (r_call2 cf12 (H.ev rfl) (H.ev rfl)) ?_; rintro e w9 ⟨⟨s1, o1, rfl, ⟨rs1, fs1⟩, ⟨ro1, fo1⟩⟩, hb⟩; refine ⟨_, rfl, ?_⟩; rw [show takeF 1 [] (2, 2, 8, 0, 0) = ((1, [(2, 2, 8, 0, 0)]), []) from by kernel_rfl] at rs1 ro1 ⊢; have hlt3 := k8.lt; replace k0 := Block.ups k0 hb; replace k1 := Block.ups k1 hb; replace k8 := Block.ups k8 hb; replace hS := hS.up hb; clear hb; obtain ⟨Ao1, co1, hv, hq1, hq2, hq3, ho1⟩ := ro1; simp only [List.length_nil, List.length_cons] at hv; subst hv; clear hq1 hq2 hq3; have hne1 : ∀ A n c, s1 = .slice A n c → ∀ b o, A = some ⟨b, o, none⟩ → b ≠ b8 := (fun A n c e b o ea => by have := fs1 A n c e b o ea; omega); clear hlt3; refine hK _ _ ⟨(fun _ => hS), ?_⟩; clear hK; clear K; refine kt H rfl fun a H => ?_
    refine pt_f0 _ rfl (fun w' hS' => r_move (H.ev rfl)) ?_; refine kt H rfl fun a H => ?_
    refine pt_f0 _ rfl (fun w' hS' => r_extract (v := .agg #[.int .i64 1, s1]) (H.ev rfl) rfl) ?_; refine kt H rfl fun a H => ?_
    refine pt_f0 _ rfl (fun w' hS' => r_extract (v := .slice Ao1 0 co1) (H.ev rfl) rfl) ?_; refine kt H rfl fun a H => ?_
    refine pt_one (fun K hK => ?_)
    refine st_a0 rfl ?_; refine wpo_store1 24 (.tmp 3) (.tmp 20) b8 0 24 (.agg #[.int .i64 1, s1]) _ (H.ev rfl) (H.ev rfl) k8 s24 (by simp [Value.cells]) (by obtain ⟨A, c, rfl, _⟩ := rs1; simp [Value.cells, Value.oneCell']) fun w8 hb8 ho8 kq => ?_; clear k8; have k8 : Block w8 b8 24 #[.int .i64 1, s1] := kq; clear kq; replace k0 := block_same k0 (ho8 _ (by omega)); replace k1 := block_same k1 (ho8 _ (by omega)); replace rs1 := row_far rs1 hne1 ho8; replace hS := hS.far (hb8 _ g8) (ho8 _ (by omega)); clear hb8 ho8; refine hK _ _ ⟨(fun _ => hS), ?_⟩; clear hK; clear K; skip
    refine pt_f0 _ rfl (fun w' hS' => r_assign (H.ev rfl)) ?_; refine kt H rfl fun a H => ?_
    refine pt_done (NoPanic.normal ?_)
    have hall := hS.1
    clear hS
    refine c_next ?_
    refine wp_seq ?_
    refine wp_region_lit ?_
    refine wl_v _ (r_row (cs := [.int .i64 1, s1]) (H.ev rfl) (block_range k8) (by kernel_rfl) s24 rfl) ?_; refine kl H rfl fun a H => ?_
    refine wl_call _ _ _ (ack_any _ 1 (s1) [(2, 2, 8, 0, 0)] rs1 (by simp)) (r_call1 cf14 (H.ev rfl)) ?_; rintro e w9 ⟨rfl, hb⟩; refine ⟨_, rfl, ?_⟩; rw [show ackF 1 [(2, 2, 8, 0, 0)] = (0, 1) from by kernel_rfl]; replace k0 := Block.ups k0 hb; replace k1 := Block.ups k1 hb; replace k8 := Block.ups k8 hb; replace rs1 := Row.up rs1 hb; replace hall := hall.trans (hb.mono hall.size); clear hb; refine kl H rfl fun a H => ?_
    refine wl_v _ (r_move (H.ev rfl)) ?_; refine kl H rfl fun a H => ?_
    refine wl_v _ (r_extract (v := .int .i64 0) (H.ev rfl) rfl) ?_; refine kl H rfl fun a H => ?_
    refine wl_v _ (r_extract (v := .int .i64 1) (H.ev rfl) rfl) ?_; refine kl H rfl fun a H => ?_
    refine wl_v _ (r_assign (H.ev rfl)) ?_; refine kl H rfl fun a H => ?_
    refine wl_v _ (r_assign (H.ev rfl)) ?_; refine kl H rfl fun a H => ?_
    refine wpList_nil ?_
    refine c_next ?_
    refine wp_seq ?_
    refine wp_region_lit ?_
    refine wl_v _ (r_row (cs := [.int .i64 1, s1]) (H.ev rfl) (block_range k8) (by kernel_rfl) s24 rfl) ?_; refine kl H rfl fun a H => ?_
    refine wl_v _ (r_row (cs := [.int .i64 1, .int .i64 7, .int .i64 0, .int .i64 0]) (H.ev rfl) (block_range k0) (by kernel_rfl) s31 rfl) ?_; refine kl H rfl fun a H => ?_
    refine wl_v _ (r_build #[(0, .int .i64 1), (1, .agg #[.int .i64 1, .int .i64 7, .int .i64 0, .int .i64 0])] (.agg #[.int .i64 1, .int .i64 1, .int .i64 7, .int .i64 0, .int .i64 0]) (by simp [evc, H.ev (j := 29) rfl]) (fun w => by kernel_rfl)) ?_; refine kl H rfl fun a H => ?_
    refine wl_call _ _ _ (take_any _ 1 (s1) [(2, 2, 8, 0, 0)] (1, 1, 7, 0, 0) rs1 (by simp) (by decide) (by decide)) (r_call2 cf12 (H.ev rfl) (H.ev rfl)) ?_; rintro e w9 ⟨⟨s2, o2, rfl, ⟨rs2, fs2⟩, ⟨ro2, fo2⟩⟩, hb⟩; refine ⟨_, rfl, ?_⟩; rw [show takeF 1 [(2, 2, 8, 0, 0)] (1, 1, 7, 0, 0) = ((3, []), [(1, 7, 0, 0), (2, 8, 0, 0)]) from by kernel_rfl] at rs2 ro2 ⊢; replace k0 := Block.ups k0 hb; replace k1 := Block.ups k1 hb; replace k8 := Block.ups k8 hb; replace rs1 := Row.up rs1 hb; replace hall := hall.trans (hb.mono hall.size); clear hb; obtain ⟨Ao2, co2, hv, hq1, hq2, hq3, ho2⟩ := ro2; simp only [List.length_nil, List.length_cons] at hv; subst hv; clear hq1 hq2 hq3; refine kl H rfl fun a H => ?_
    refine wl_v _ (r_move (H.ev rfl)) ?_; refine kl H rfl fun a H => ?_
    refine wl_v _ (r_extract (v := .agg #[.int .i64 3, s2]) (H.ev rfl) rfl) ?_; refine kl H rfl fun a H => ?_
    refine wl_v _ (r_extract (v := .slice Ao2 2 co2) (H.ev rfl) rfl) ?_; refine kl H rfl fun a H => ?_
    refine op_new 24 7 (.tmp 32) #[.int .i64 3, s2] _ z24 s24 rfl (recv_one rs2) (fun p => (H.put 7 p rfl).ev rfl) (fun p => (H.put 7 p rfl).ev rfl) fun w9 b9 hge hb k9 => ?_; have g9 := Nat.le_trans hall.size hge; replace k0 := Block.ups k0 hb; replace k1 := Block.ups k1 hb; replace k8 := Block.ups k8 hb; replace rs1 := Row.up rs1 hb; replace rs2 := Row.up rs2 hb; replace ho2 := Holds.up ho2 hb; replace hall := hall.trans (hb.mono hall.size); clear hb; clear hge; refine kl H rfl fun a H => ?_
    refine wl_v _ (r_assign (H.ev rfl)) ?_; refine kl H rfl fun a H => ?_
    refine wpList_nil ?_
    refine c_next ?_
    refine wp_seq ?_
    refine wp_region_lit ?_
    refine wl_v _ (r_row (cs := [.int .i64 3, s2]) (H.ev rfl) (block_range k9) (by kernel_rfl) s24 rfl) ?_; refine kl H rfl fun a H => ?_
    refine wl_call _ _ _ (ack_any _ 3 (s2) [] rs2 (by simp)) (r_call1 cf14 (H.ev rfl)) ?_; rintro e w9 ⟨rfl, hb⟩; refine ⟨_, rfl, ?_⟩; rw [show ackF 3 [] = (2, 0) from by kernel_rfl]; replace k0 := Block.ups k0 hb; replace k1 := Block.ups k1 hb; replace k8 := Block.ups k8 hb; replace rs1 := Row.up rs1 hb; replace rs2 := Row.up rs2 hb; replace ho2 := Holds.up ho2 hb; replace k9 := Block.ups k9 hb; replace hall := hall.trans (hb.mono hall.size); clear hb; refine kl H rfl fun a H => ?_
    refine wl_v _ (r_move (H.ev rfl)) ?_; refine kl H rfl fun a H => ?_
    refine wl_v _ (r_extract (v := .int .i64 2) (H.ev rfl) rfl) ?_; refine kl H rfl fun a H => ?_
    refine wl_v _ (r_extract (v := .int .i64 0) (H.ev rfl) rfl) ?_; refine kl H rfl fun a H => ?_
    refine wl_v _ (r_assign (H.ev rfl)) ?_; refine kl H rfl fun a H => ?_
    refine wl_v _ (r_assign (H.ev rfl)) ?_; refine kl H rfl fun a H => ?_
    refine wpList_nil ?_
    refine c_next ?_
    refine wp_seq ?_
    refine wp_region_lit ?_
    refine wl_v _ (r_row (cs := [.int .i64 3, s2]) (H.ev rfl) (block_range k9) (by kernel_rfl) s24 rfl) ?_; refine kl H rfl fun a H => ?_
    refine wl_v _ (r_row (cs := [.int .i64 1, .int .i64 7, .int .i64 0, .int .i64 0]) (H.ev rfl) (block_range k0) (by kernel_rfl) s31 rfl) ?_; refine kl H rfl fun a H => ?_
    refine wl_v _ (r_build #[(0, .int .i64 2), (1, .agg #[.int .i64 1, .int .i64 7, .int .i64 0, .int .i64 0])] (.agg #[.int .i64 2, .int .i64 1, .int .i64 7, .int .i64 0, .int .i64 0]) (by simp [evc, H.ev (j := 41) rfl]) (fun w => by kernel_rfl)) ?_; refine kl H rfl fun a H => ?_
    refine wl_call _ _ _ (take_any _ 3 (s2) [] (2, 1, 7, 0, 0) rs2 (by simp) (by decide) (by decide)) (r_call2 cf12 (H.ev rfl) (H.ev rfl)) ?_; rintro e w9 ⟨⟨s3, o3, rfl, ⟨rs3, fs3⟩, ⟨ro3, fo3⟩⟩, hb⟩; refine ⟨_, rfl, ?_⟩; rw [show takeF 3 [] (2, 1, 7, 0, 0) = ((3, []), []) from by kernel_rfl] at rs3 ro3 ⊢; replace k0 := Block.ups k0 hb; replace k1 := Block.ups k1 hb; replace k8 := Block.ups k8 hb; replace rs1 := Row.up rs1 hb; replace rs2 := Row.up rs2 hb; replace ho2 := Holds.up ho2 hb; replace k9 := Block.ups k9 hb; replace hall := hall.trans (hb.mono hall.size); clear hb; obtain ⟨Ao3, co3, hv, hq1, hq2, hq3, ho3⟩ := ro3; simp only [List.length_nil, List.length_cons] at hv; subst hv; clear hq1 hq2 hq3; refine kl H rfl fun a H => ?_
    refine wl_v _ (r_move (H.ev rfl)) ?_; refine kl H rfl fun a H => ?_
    refine wl_v _ (r_extract (v := .agg #[.int .i64 3, s3]) (H.ev rfl) rfl) ?_; refine kl H rfl fun a H => ?_
    refine wl_v _ (r_extract (v := .slice Ao3 0 co3) (H.ev rfl) rfl) ?_; refine kl H rfl fun a H => ?_
    refine op_new 24 11 (.tmp 44) #[.int .i64 3, s3] _ z24 s24 rfl (recv_one rs3) (fun p => (H.put 11 p rfl).ev rfl) (fun p => (H.put 11 p rfl).ev rfl) fun w10 b10 hge hb k10 => ?_; have g10 := Nat.le_trans hall.size hge; replace k0 := Block.ups k0 hb; replace k1 := Block.ups k1 hb; replace k8 := Block.ups k8 hb; replace rs1 := Row.up rs1 hb; replace rs2 := Row.up rs2 hb; replace ho2 := Holds.up ho2 hb; replace k9 := Block.ups k9 hb; replace rs3 := Row.up rs3 hb; replace hall := hall.trans (hb.mono hall.size); clear hb; clear hge; refine kl H rfl fun a H => ?_
    refine wl_v _ (r_assign (H.ev rfl)) ?_; refine kl H rfl fun a H => ?_
    refine wpList_nil ?_
    refine c_next ?_
    refine wp_seq ?_
    refine wp_seq ?_
    refine wp_region_lit ?_
    refine wl_v _ (r_move (H.ev rfl)) ?_; refine kl H rfl fun a H => ?_
    refine wl_v _ (r_len Try.underlying27 (H.ev rfl)) ?_; refine kl H rfl fun a H => ?_
    refine wl_v _ (r_ne Try.underlying3 (H.ev rfl) evc (dec_f (by omega))) ?_; refine kl H rfl fun a H => ?_
    refine wpList_nil ?_
    refine c_next ?_
    refine c_cond_f H rfl ?_
    refine wp_skip ?_
    refine c_next ?_
    refine wp_seq ?_
    obtain ⟨bm, om, hA, hm0⟩ := flat_some encN_len ho2 (by omega) (j := 0) (by simp)
    subst hA
    have hm1 := flat_range encN_len ho2 rfl (j := 1) (by simp)
    clear ho2
    have hS : SSm w b0 b1 b8 b9 b10 bm om s1 s2 s3 _ := ⟨hall.drew, k0, k1, k8, k9, k10, hm0, hm1⟩
    refine region_pi (SSm w b0 b1 b8 b9 b10 bm om s1 s2 s3) [(0, true), (1, true), (2, true), (3, true), (4, true), (5, true), (6, true), (7, true), (8, true), (9, true), (10, true), (11, true), (12, true), (13, true), (14, true), (15, true), (16, true), (17, true), (18, true), (19, true), (20, true), (21, true), (22, true), (23, true), (24, true), (25, true), (26, true), (27, true), (28, true), (29, true), (30, true), (31, true), (32, true), (33, true), (34, true), (35, true), (36, true), (37, true), (38, true), (39, true), (40, true), (41, false), (42, true), (43, true), (44, true), (45, false), (46, true), (47, true), (48, true), (49, false), (50, true), (51, true), (52, true), (54, true), (53, false), (55, false), (56, true), (57, true)] (by kernel_rfl) (by kernel_rfl) rfl (by kernel_rfl) hS ?_
    replace rs1 : IRow (World.drew _) _ _ := Row.up rs1 (Below.refl _ _).drew
    replace rs2 : IRow (World.drew _) _ _ := Row.up rs2 (Below.refl _ _).drew
    replace rs3 : IRow (World.drew _) _ _ := Row.up rs3 (Below.refl _ _).drew
    clear hall k0 k1 k8 k9 k10
    refine pi_f0 _ rfl (fun w' hS' => r_move (H.ev rfl)) ?_; refine kp H rfl fun a H => ?_
    refine pi_f0 _ rfl (fun w' hS' => r_len Try.underlying27 (H.ev rfl)) ?_; refine kp H rfl fun a H => ?_
    refine pi_f0 _ rfl (fun w' hS' => r_eq Try.underlying3 (H.ev rfl) evc (dec_t (by omega))) ?_; refine kp H rfl fun a H => ?_
    refine pi_f0 _ rfl (fun w' hS' => r_move (H.ev rfl)) ?_; refine kp H rfl fun a H => ?_
    refine pi_f1 _ rfl rfl rfl (H.ev rfl) (fun w' hS' => r_move (H.ev rfl)) ?_; refine kp H rfl fun a H => ?_
    refine pi_f1 _ rfl rfl rfl (H.ev rfl) (fun w' hS' => r_eq Try.underlying3 (H.ev rfl) evc (dec_t (by omega))) ?_; refine kp H rfl fun a H => ?_
    refine pi_f0 _ rfl (fun w' hS' => r_pick_t (H.ev rfl) (H.ev rfl)) ?_; refine kp H rfl fun a H => ?_
    refine pi_f0 _ rfl (fun w' hS' => r_move (H.ev rfl)) ?_; refine kp H rfl fun a H => ?_
    refine pi_f1 _ rfl rfl rfl (H.ev rfl) (fun w' hS' => r_move (H.ev rfl)) ?_; refine kp H rfl fun a H => ?_
    refine pi_f1 _ rfl rfl rfl (H.ev rfl) (fun w' hS' => r_eq Try.underlying3 (H.ev rfl) evc (dec_t (by omega))) ?_; refine kp H rfl fun a H => ?_
    refine pi_f0 _ rfl (fun w' hS' => r_pick_t (H.ev rfl) (H.ev rfl)) ?_; refine kp H rfl fun a H => ?_
    refine pi_f0 _ rfl (fun w' hS' => r_move (H.ev rfl)) ?_; refine kp H rfl fun a H => ?_
    refine pi_f1 _ rfl rfl rfl (H.ev rfl) (fun w' hS' => r_move (H.ev rfl)) ?_; refine kp H rfl fun a H => ?_
    refine pi_f1 _ rfl rfl rfl (H.ev rfl) (fun w' hS' => r_idx (j := 0) (q := om + 0 * 4) Try.underlying27 s31 (H.ev rfl) evc (by omega) rfl) ?_; refine kp H rfl fun a H => ?_
    refine pi_f1 _ rfl rfl rfl (H.ev rfl) (fun w' hS' => r_row (cs := [.int .i64 1, .int .i64 7, .int .i64 0, .int .i64 0]) (H.ev rfl) (hS'.2.2.2.2.2.2.1) (by kernel_rfl) s31 rfl) ?_; refine kp H rfl fun a H => ?_
    refine pi_f1 _ rfl rfl rfl (H.ev rfl) (fun w' hS' => r_row (cs := [.int .i64 1, .int .i64 7, .int .i64 0, .int .i64 0]) (H.ev rfl) (block_range (hS'.2.1)) (by kernel_rfl) s31 rfl) ?_; refine kp H rfl fun a H => ?_
    refine pi_f1 (.bool true) rfl rfl rfl (H.ev rfl) (fun w' hS' => r_eq31 (x := (1, 7, 0, 0)) (y := (1, 7, 0, 0)) (H.ev rfl) (H.ev rfl) rfl) ?_; refine kp H rfl fun a H => ?_
    refine pi_f0 _ rfl (fun w' hS' => r_pick_t (H.ev rfl) (H.ev rfl)) ?_; refine kp H rfl fun a H => ?_
    refine pi_f0 _ rfl (fun w' hS' => r_move (H.ev rfl)) ?_; refine kp H rfl fun a H => ?_
    refine pi_f1 _ rfl rfl rfl (H.ev rfl) (fun w' hS' => r_move (H.ev rfl)) ?_; refine kp H rfl fun a H => ?_
    refine pi_f1 _ rfl rfl rfl (H.ev rfl) (fun w' hS' => r_idx (j := 1) (q := om + 1 * 4) Try.underlying27 s31 (H.ev rfl) evc (by omega) rfl) ?_; refine kp H rfl fun a H => ?_
    refine pi_f1 _ rfl rfl rfl (H.ev rfl) (fun w' hS' => r_row (cs := [.int .i64 2, .int .i64 8, .int .i64 0, .int .i64 0]) (H.ev rfl) (hS'.2.2.2.2.2.2.2) (by kernel_rfl) s31 rfl) ?_; refine kp H rfl fun a H => ?_
    refine pi_f1 _ rfl rfl rfl (H.ev rfl) (fun w' hS' => r_row (cs := [.int .i64 2, .int .i64 8, .int .i64 0, .int .i64 0]) (H.ev rfl) (block_range (hS'.2.2.1)) (by kernel_rfl) s31 rfl) ?_; refine kp H rfl fun a H => ?_
    refine pi_f1 (.bool true) rfl rfl rfl (H.ev rfl) (fun w' hS' => r_eq31 (x := (2, 8, 0, 0)) (y := (2, 8, 0, 0)) (H.ev rfl) (H.ev rfl) rfl) ?_; refine kp H rfl fun a H => ?_
    refine pi_f0 _ rfl (fun w' hS' => r_pick_t (H.ev rfl) (H.ev rfl)) ?_; refine kp H rfl fun a H => ?_
    refine pi_f0 _ rfl (fun w' hS' => r_move (H.ev rfl)) ?_; refine kp H rfl fun a H => ?_
    refine pi_f1 _ rfl rfl rfl (H.ev rfl) (fun w' hS' => r_move (H.ev rfl)) ?_; refine kp H rfl fun a H => ?_
    refine pi_f1 _ rfl rfl rfl (H.ev rfl) (fun w' hS' => r_eq Try.underlying3 (H.ev rfl) evc (dec_t (by omega))) ?_; refine kp H rfl fun a H => ?_
    refine pi_f0 _ rfl (fun w' hS' => r_pick_t (H.ev rfl) (H.ev rfl)) ?_; refine kp H rfl fun a H => ?_
    refine pi_f0 _ rfl (fun w' hS' => r_move (H.ev rfl)) ?_; refine kp H rfl fun a H => ?_
    refine pi_f1 _ rfl rfl rfl (H.ev rfl) (fun w' hS' => r_move (H.ev rfl)) ?_; refine kp H rfl fun a H => ?_
    refine pi_f1 _ rfl rfl rfl (H.ev rfl) (fun w' hS' => r_eq Try.underlying3 (H.ev rfl) evc (dec_t (by omega))) ?_; refine kp H rfl fun a H => ?_
    refine pi_f0 _ rfl (fun w' hS' => r_pick_t (H.ev rfl) (H.ev rfl)) ?_; refine kp H rfl fun a H => ?_
    refine pi_f0 _ rfl (fun w' hS' => r_move (H.ev rfl)) ?_; refine kp H rfl fun a H => ?_
    refine pi_f1 _ rfl rfl rfl (H.ev rfl) (fun w' hS' => r_move (H.ev rfl)) ?_; refine kp H rfl fun a H => ?_
    refine pi_f1 _ rfl rfl rfl (H.ev rfl) (fun w' hS' => r_len Try.underlying27 (H.ev rfl)) ?_; refine kp H rfl fun a H => ?_
    refine pi_f1 _ rfl rfl rfl (H.ev rfl) (fun w' hS' => r_eq Try.underlying3 (H.ev rfl) evc (dec_t (by omega))) ?_; refine kp H rfl fun a H => ?_
    refine pi_f0 _ rfl (fun w' hS' => r_pick_t (H.ev rfl) (H.ev rfl)) ?_; refine kp H rfl fun a H => ?_
    refine pi_f0 _ rfl (fun w' hS' => r_move (H.ev rfl)) ?_; refine kp H rfl fun a H => ?_
    refine pi_f1 _ rfl rfl rfl (H.ev rfl) (fun w' hS' => r_row (cs := [.int .i64 3, s3]) (H.ev rfl) (block_range (hS'.2.2.2.2.2.1)) (by kernel_rfl) s24 rfl) ?_; refine kp H rfl fun a H => ?_
    refine pi_f1 _ rfl rfl rfl (H.ev rfl) (fun w' hS' => r_row (cs := [.int .i64 3, s2]) (H.ev rfl) (block_range (hS'.2.2.2.2.1)) (by kernel_rfl) s24 rfl) ?_; refine kp H rfl fun a H => ?_
    refine pi_a1 rfl rfl rfl (H.ev rfl) (fun K hK => ?_); refine wpo_call _ _ _ (same_any _ 3 3 (s3) (s2) [] [] rs3 rs2 (by simp)) (r_call2 cf10 (H.ev rfl) (H.ev rfl)) ?_; rintro e w9 ⟨rfl, hb⟩; refine ⟨_, rfl, ?_⟩; rw [show sameB 3 [] 3 [] = true from by kernel_rfl]; replace rs1 := Row.up rs1 hb; replace rs2 := Row.up rs2 hb; replace rs3 := Row.up rs3 hb; replace hS := hS.up hb; clear hb; refine hK _ _ ⟨hS, ?_⟩; clear hK; clear K; refine kp H rfl fun a H => ?_
    refine pi_f0 _ rfl (fun w' hS' => r_pick_t (H.ev rfl) (H.ev rfl)) ?_; refine kp H rfl fun a H => ?_
    refine pi_f0 _ rfl (fun w' hS' => r_move (H.ev rfl)) ?_; refine kp H rfl fun a H => ?_
    refine pi_f1 _ rfl rfl rfl (H.ev rfl) (fun w' hS' => r_row (cs := [.int .i64 1, s1]) (H.ev rfl) (block_range (hS'.2.2.2.1)) (by kernel_rfl) s24 rfl) ?_; refine kp H rfl fun a H => ?_
    refine pi_a1 rfl rfl rfl (H.ev rfl) (fun K hK => ?_); refine wpo_call _ _ _ (right_any _ 1 (s1) [(2, 2, 8, 0, 0)] rs1 (by simp)) (r_call1 cf16 (H.ev rfl)) ?_; rintro e w9 ⟨rfl, hb⟩; refine ⟨_, rfl, ?_⟩; rw [show rightF 1 [(2, 2, 8, 0, 0)] = true from by kernel_rfl]; replace rs1 := Row.up rs1 hb; replace rs2 := Row.up rs2 hb; replace rs3 := Row.up rs3 hb; replace hS := hS.up hb; clear hb; refine hK _ _ ⟨hS, ?_⟩; clear hK; clear K; refine kp H rfl fun a H => ?_
    refine pi_f0 _ rfl (fun w' hS' => r_pick_t (H.ev rfl) (H.ev rfl)) ?_; refine kp H rfl fun a H => ?_
    refine pi_f0 _ rfl (fun w' hS' => r_move (H.ev rfl)) ?_; refine kp H rfl fun a H => ?_
    refine pi_f1 _ rfl rfl rfl (H.ev rfl) (fun w' hS' => r_build #[] (.agg #[.int .i64 0, .slice none 0 0]) (by simp [evc]) (fun w => by kernel_rfl)) ?_; refine kp H rfl fun a H => ?_
    refine pi_a1 rfl rfl rfl (H.ev rfl) (fun K hK => ?_); refine wpo_call _ _ _ (right_any _ 0 (.slice none 0 0) [] Row.nil (by simp)) (r_call1 cf16 (H.ev rfl)) ?_; rintro e w9 ⟨rfl, hb⟩; refine ⟨_, rfl, ?_⟩; rw [show rightF 0 [] = false from by kernel_rfl]; replace rs1 := Row.up rs1 hb; replace rs2 := Row.up rs2 hb; replace rs3 := Row.up rs3 hb; replace hS := hS.up hb; clear hb; refine hK _ _ ⟨hS, ?_⟩; clear hK; clear K; refine kp H rfl fun a H => ?_
    refine pi_f1 _ rfl rfl rfl (H.ev rfl) (fun w' hS' => r_not (H.ev rfl) rfl) ?_; refine kp H rfl fun a H => ?_
    refine pi_f0 _ rfl (fun w' hS' => r_pick_t (H.ev rfl) (H.ev rfl)) ?_; refine kp H rfl fun a H => ?_
    refine pi_f0 _ rfl (fun w' hS' => r_move (H.ev rfl)) ?_; refine kp H rfl fun a H => ?_
    refine pi_f1 _ rfl rfl rfl (H.ev rfl) (fun w' hS' => r_build #[(0, .int .i64 1)] (.agg #[.int .i64 1, .slice none 0 0]) (by simp [evc]) (fun w => by kernel_rfl)) ?_; refine kp H rfl fun a H => ?_
    refine pi_a1 rfl rfl rfl (H.ev rfl) (fun K hK => ?_); refine wpo_call _ _ _ (start_any _) (r_call0 cf19) ?_; rintro e w9 ⟨rfl, hb⟩; refine ⟨_, rfl, ?_⟩; replace rs1 := Row.up rs1 hb; replace rs2 := Row.up rs2 hb; replace rs3 := Row.up rs3 hb; replace hS := hS.up hb; clear hb; refine hK _ _ ⟨hS, ?_⟩; clear hK; clear K; refine kp H rfl fun a H => ?_
    refine pi_a1 rfl rfl rfl (H.ev rfl) (fun K hK => ?_); refine wpo_call _ _ _ (same_any _ 1 1 (.slice none 0 0) (.slice none 0 0) [] [] Row.nil Row.nil (by simp)) (r_call2 cf10 (H.ev rfl) (H.ev rfl)) ?_; rintro e w9 ⟨rfl, hb⟩; refine ⟨_, rfl, ?_⟩; rw [show sameB 1 [] 1 [] = true from by kernel_rfl]; replace rs1 := Row.up rs1 hb; replace rs2 := Row.up rs2 hb; replace rs3 := Row.up rs3 hb; replace hS := hS.up hb; clear hb; refine hK _ _ ⟨hS, ?_⟩; clear hK; clear K; refine kp H rfl fun a H => ?_
    refine pi_f0 _ rfl (fun w' hS' => r_pick_t (H.ev rfl) (H.ev rfl)) ?_; refine kp H rfl fun a H => ?_
    refine pi_f0 _ rfl (fun w' hS' => r_assign (H.ev rfl)) ?_; refine kp H rfl fun a H => ?_
    refine pi_nil (NoPanic.normal ?_)
    have hall := hS.1
    clear hS
    refine c_next ?_
    refine wp_ret ?_
    exact k_ret1 H rfl rfl ⟨rfl, hall⟩
end Go.Proofs.Ythfdjlhplcmicaa
