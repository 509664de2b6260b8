/- Client: part B of the proof. -/
import Derived.Test.YtbnmpoonkjlkjaaGreatXA
namespace Go.Proofs.YtbnmpoonkjlkjaaGreat
open Go.RowKit
set_option linter.unusedVariables false
set_option linter.unusedSimpArgs false
theorem k_ret_cell {P : Program} {a : Act} {w : World} {n : Nat} {l : List (Nat × Value)} {fn : Func} {R : Ending → World → Prop} {p : Tmp} {ty : TypeId} {g : Nat} {t : TypeId} {C : Array Value} {ds : TypeDesc} (H : Kn a n l) (hf : fn.results = #[.cell p ty]) (hp : lk l p = some (.pointer (some ⟨g, 0, none⟩)))
  (hg : Block w g t C) (hu : P.underlying ty = some ds) (hd : (match ds with | .struct _ | .array _ _ => true | _ => false) = true) (hi : (P.info? ty).map (·.size) = some C.size) (h : R (.returned (.agg C)) w) : bodyPost P fn R .ret a w :=
 ⟨H.defers, _, res_row hf a.tmps w g t C ds (H.at_ p _ hp) hg hu hd hi, h⟩
def BelowTo {B : Nat} {W w : World} (_ : Below B W w) : World := w
/-- an array of words -/
abbrev warr (l : List W32) : Array Value := (l.map u32v).toArray
theorem warr_one (l : List W32) : (warr l).all (·.oneCell') = true := by
 simp [warr, Value.oneCell']
theorem warr_cell {w : World} {b : Nat} {t : TypeId} {l : List W32} {i : Nat} {x : W32} (h : Block w b t (warr l)) (hx : l[i]? = some x) : w.cell? ⟨b, i, none⟩ = some (u32v x) := by
 rw [h.cell]
 simp [warr, hx]
theorem setL1 (C : Array Value) (o : Nat) (v : Value) : setL C o [v] = C.setIfInBounds o v := rfl
theorem warr_set {w : World} {b i : Nat} {t : TypeId} {l : List W32} {y : W32} (h : Block w b t (setL (warr l) i (u32v y).cells.toList)) : Block w b t (warr (l.set i y)) := by
 have e : setL (warr l) i (u32v y).cells.toList = warr (l.set i y) := by
  show setL (warr l) i [u32v y] = _
  rw [setL1]
  apply Array.ext'
  simp [warr, List.map_set]
 rw [← e]; exact h
def rotr (x : W32) (n : Nat) : W32 := x >>> n ||| x <<< (32 - n)
def KC : List W32 := [1116352408#32, 1899447441#32, 3049323471#32, 3921009573#32, 961987163#32, 1508970993#32, 2453635748#32, 2870763221#32, 3624381080#32, 310598401#32, 607225278#32, 1426881987#32, 1925078388#32, 2162078206#32, 2614888103#32, 3248222580#32, 3835390401#32, 4022224774#32, 264347078#32, 604807628#32, 770255983#32, 1249150122#32, 1555081692#32, 1996064986#32, 2554220882#32, 2821834349#32, 2952996808#32, 3210313671#32, 3336571891#32, 3584528711#32, 113926993#32, 338241895#32, 666307205#32, 773529912#32, 1294757372#32, 1396182291#32, 1695183700#32, 1986661051#32, 2177026350#32, 2456956037#32, 2730485921#32, 2820302411#32, 3259730800#32, 3345764771#32, 3516065817#32, 3600352804#32, 4094571909#32, 275423344#32, 430227734#32, 506948616#32, 659060556#32, 883997877#32, 958139571#32, 1322822218#32, 1537002063#32, 1747873779#32, 1955562222#32, 2024104815#32, 2227730452#32, 2361852424#32, 2428436474#32, 2756734187#32, 3204031479#32, 3329325298#32]
theorem z159 : (Tryz.prog.info? 159).map (·.zero) = some (some (.agg (warr (List.replicate 64 0)))) := by kernel_rfl
theorem right_any (x : W32) (n : Nat) (w : World) (h1 : 1 ≤ n) (h2 : n ≤ 31) :
  Calls Tryz.prog 148 #[u32v x, .int .i64 (n : Nat)] w fun e w' => e = .returned (u32v (rotr x n)) ∧ Below w.heap.size w w' := by
 have hall := Below.refl w.heap.size w
 refine K_enter 13 Tryz.func148 rfl rfl fun a H => ?_
 replace H := H.pick [0, 1]
 refine zC (zD ?_)
 refine kR 1 H rfl fun a H => ?_
 refine zA (zB (zC ?_))
 have hall1 := hall
 have hS : BelowOf (BelowTo hall1) _ := Below.drew (Below.refl _ (BelowTo hall1))
 refine region_tree (BelowOf (BelowTo hall1)) 9 (.fl 0 (.fl 1 (.fl 2 (.fl 3 (.fl 4 (.fl 5 (.fl 6 (.fl 7 (.fl 8 .done))))))))) (by kernel_rfl) (by kernel_rfl) rfl (by kernel_rfl) hS ?_
 refine kQ 2 H rfl fun a H => ?_
 refine kF H rfl rfl (fun w' hS' => r_shr32 (k := n) (by omega) U133 (H.ev rfl) (H.ev rfl)) rfl fun a H => ?_
 refine kQ 2 H rfl fun a H => ?_
 refine kF H rfl rfl (fun w' hS' => r_sub (q := ((32 - n : Nat) : Int)) U3 evc (H.ev rfl) (by omega) (by omega)) rfl fun a H => ?_
 refine kF H rfl rfl (fun w' hS' => r_shl32 (k := 32 - n) (by omega) U133 (H.ev rfl) (H.ev rfl)) rfl fun a H => ?_
 refine kF H rfl rfl (fun w' hS' => r_or32 U133 (H.ev rfl) (H.ev rfl)) rfl fun a H => ?_
 refine kQ 1 H rfl fun a H => ?_
 refine pt_done (NoPanic.normal ?_)
 replace hall := hall.trans (Below.mono hS hall.size)
 clear hS
 refine zB (zF ?_)
 exact k_ret1 H rfl rfl ⟨rfl, hall⟩
theorem right_lit (x : W32) (n : Nat) (q : Int) (w : World) (hq : q = (n : Int)) (h1 : 1 ≤ n) (h2 : n ≤ 31) :
  Calls Tryz.prog 148 #[u32v x, .int .i64 q] w fun e w' => e = .returned (u32v (rotr x n)) ∧ Below w.heap.size w w' := by
 subst hq
 exact right_any x n w h1 h2
theorem r_consts {a : Act} {w : World} {d : Option Tmp} {tt : TypeId} {ps : String} {af : Array Edge} {gd : Option (Nat × Bool)} : (execOp a.eval ⟨d, .build 159 #[(0, .const (.int .u32 1116352408)), (1, .const (.int .u32 1899447441)), (2, .const (.int .u32 3049323471)), (3, .const (.int .u32 3921009573)), (4, .const (.int .u32 961987163)), (5, .const (.int .u32 1508970993)), (6, .const (.int .u32 2453635748)), (7, .const (.int .u32 2870763221)), (8, .const (.int .u32 3624381080)), (9, .const (.int .u32 310598401)), (10, .const (.int .u32 607225278)), (11, .const (.int .u32 1426881987)), (12, .const (.int .u32 1925078388)), (13, .const (.int .u32 2162078206)), (14, .const (.int .u32 2614888103)), (15, .const (.int .u32 3248222580)), (16, .const (.int .u32 3835390401)), (17, .const (.int .u32 4022224774)), (18, .const (.int .u32 264347078)), (19, .const (.int .u32 604807628)), (20, .const (.int .u32 770255983)), (21, .const (.int .u32 1249150122)), (22, .const (.int .u32 1555081692)), (23, .const (.int .u32 1996064986)), (24, .const (.int .u32 2554220882)), (25, .const (.int .u32 2821834349)), (26, .const (.int .u32 2952996808)), (27, .const (.int .u32 3210313671)), (28, .const (.int .u32 3336571891)), (29, .const (.int .u32 3584528711)), (30, .const (.int .u32 113926993)), (31, .const (.int .u32 338241895)), (32, .const (.int .u32 666307205)), (33, .const (.int .u32 773529912)), (34, .const (.int .u32 1294757372)), (35, .const (.int .u32 1396182291)), (36, .const (.int .u32 1695183700)), (37, .const (.int .u32 1986661051)), (38, .const (.int .u32 2177026350)), (39, .const (.int .u32 2456956037)), (40, .const (.int .u32 2730485921)), (41, .const (.int .u32 2820302411)), (42, .const (.int .u32 3259730800)), (43, .const (.int .u32 3345764771)), (44, .const (.int .u32 3516065817)), (45, .const (.int .u32 3600352804)), (46, .const (.int .u32 4094571909)), (47, .const (.int .u32 275423344)), (48, .const (.int .u32 430227734)), (49, .const (.int .u32 506948616)), (50, .const (.int .u32 659060556)), (51, .const (.int .u32 883997877)), (52, .const (.int .u32 958139571)), (53, .const (.int .u32 1322822218)), (54, .const (.int .u32 1537002063)), (55, .const (.int .u32 1747873779)), (56, .const (.int .u32 1955562222)), (57, .const (.int .u32 2024104815)), (58, .const (.int .u32 2227730452)), (59, .const (.int .u32 2361852424)), (60, .const (.int .u32 2428436474)), (61, .const (.int .u32 2756734187)), (62, .const (.int .u32 3204031479)), (63, .const (.int .u32 3329325298))], tt, ps, af, gd⟩).run Tryz.prog w = .ok (.value (.agg (warr KC))) w := by
 kernel_rfl
theorem consts_any (w : World) : Calls Tryz.prog 146 #[] w fun e w' => e = .returned (.agg (warr KC)) ∧ Below w.heap.size w w' := by
 have hall := Below.refl w.heap.size w
 refine K_enter 2 Tryz.func146 rfl rfl fun a H => ?_
 replace H := H.pick []
 refine zC (zD ?_)
 refine op_alloc 159 (warr (List.replicate 64 0)) z159 fun w0 b0 hge hb k0 => ?_; have g0 := Nat.le_trans hall.size hge; replace hall := hall.tr hb; clear hb hge; refine kl H rfl fun a H => ?_
 refine zA (zB (zC (zD ?_)))
 refine wl_v (.agg (warr KC)) r_consts ?_; refine kl H rfl fun a H => ?_
 refine op_store 159 (.tmp 0) (.tmp 1) b0 159 (warr KC) _ (H.ev rfl) (H.ev rfl) k0 s159 rfl (warr_one _) fun w' hb ho kq => ?_; clear k0; replace hall := hall.trans (hb _ g0); clear hb ho; refine kl0 H fun a H => ?_
 refine zA (zB (zF ?_))
 exact k_ret_cell H rfl rfl kq U159 rfl s159 ⟨rfl, hall⟩
/-- a slice of bytes -/
def BRow (w : World) (v : Value) (bs : List B8) : Prop := ∃ A c, v = .slice A bs.length c ∧ bs.length ≤ c ∧ c ≤ maxLen ∧ (A = none → c = 0) ∧ Holds w A (bs.map u8v)
theorem BRow.up {w w' : World} {v : Value} {bs : List B8} (h : BRow w v bs) (hb : Below w.heap.size w w') : BRow w' v bs := by
 obtain ⟨A, c, a1, a2, a3, a4, a5⟩ := h
 exact ⟨A, c, a1, a2, a3, a4, a5.up hb⟩
theorem brow_cell {w : World} {x0 o n c p q : Nat} {bs : List B8} {y : B8} (h : BRow w (.slice (some ⟨x0, o, none⟩) n c) bs) (hy : bs[p]? = some y) (hq : q = o + p) : w.cell? ⟨x0, q, none⟩ = some (u8v y) := by
 subst hq
 obtain ⟨A', c', e, _, _, _, hh⟩ := h
 injection e with e1 e2 e3
 subst e1
 obtain ⟨b, o', he, hc⟩ := hh p (by have := (List.getElem?_eq_some_iff.1 hy).1; simpa using this)
 injection he with he
 injection he with e4 e5
 subst e4 e5
 rw [hc]
 simp [hy]
/-- a word of four bytes -/
def accB (l : List B8) : W32 := l.foldl (fun x c => x <<< 8 ||| c.setWidth 32) 0
def nxtW (l : List W32) (i : Nat) : W32 :=
 l.getD (i - 16) 0 + l.getD (i - 7) 0 + (rotr (l.getD (i - 15) 0) 7 ^^^ rotr (l.getD (i - 15) 0) 18 ^^^ l.getD (i - 15) 0 >>> 3) + (rotr (l.getD (i - 2) 0) 17 ^^^ rotr (l.getD (i - 2) 0) 19 ^^^ l.getD (i - 2) 0 >>> 10)
/-- the first n words of a block -/
def wl (b : List B8) : Nat → List W32
 | 0 => []
 | n + 1 => wl b n ++ [if n < 16 then accB ((b.drop (4 * n)).take 4) else nxtW (wl b n) n]
theorem wl_len (b : List B8) : ∀ n, (wl b n).length = n
 | 0 => rfl
 | n + 1 => by simp [wl, wl_len b n]
theorem warr_size {l : List W32} : (warr l).size = l.length := by simp [warr]
theorem wl_zero {b : List B8} {i : Nat} (hi : i < 16) : wl b i ++ List.replicate (64 - i) (0 : W32) = wl b i ++ accB ((b.drop (4 * i)).take 0) :: List.replicate (63 - i) (0 : W32) := by
 rw [show 64 - i = (63 - i) + 1 by omega, List.replicate_succ]
 rfl
theorem wl_zero2 {b : List B8} {i : Nat} (hi : i < 64) : wl b i ++ List.replicate (64 - i) (0 : W32) = wl b i ++ 0 :: List.replicate (63 - i) (0 : W32) := by
 rw [show 64 - i = (63 - i) + 1 by omega, List.replicate_succ]
theorem wl_word {b : List B8} {i : Nat} (hi : i < 16) : wl b i ++ accB ((b.drop (4 * i)).take 4) :: List.replicate (63 - i) (0 : W32) = wl b (i + 1) ++ List.replicate (64 - (i + 1)) (0 : W32) := by
 rw [show 64 - (i + 1) = 63 - i by omega]
 simp [wl, hi]
theorem wl_full {b : List B8} : wl b 64 ++ List.replicate (64 - 64) (0 : W32) = wl b 64 := by simp
theorem wl_next {b : List B8} {i : Nat} {x y z u : W32} (h0 : 16 ≤ i) (hi : i < 64) (hx : (wl b i).getD (i - 15) 0 = x) (hy : (wl b i).getD (i - 2) 0 = y) (hz : (wl b i).getD (i - 16) 0 = z) (hu : (wl b i).getD (i - 7) 0 = u) :
  wl b (i + 1) ++ List.replicate (64 - (i + 1)) (0 : W32) = wl b i ++ (((z + u) + ((rotr x 7 ^^^ rotr x 18) ^^^ (x >>> 3))) + ((rotr y 17 ^^^ rotr y 19) ^^^ (y >>> 10))) :: List.replicate (63 - i) (0 : W32) := by
 rw [show 64 - (i + 1) = 63 - i by omega]
 subst hx hy hz hu
 simp only [wl, if_neg (show ¬ i < 16 by omega), nxtW, List.append_assoc, List.singleton_append]
theorem u32_one (x : W32) : (u32v x).cells.all (·.oneCell') = true := by simp [Value.cells, Value.oneCell']
theorem mid_here {α : Type} {l m : List α} {i : Nat} {x : α} (h : l.length = i) : (l ++ x :: m)[i]? = some x := by
 subst h
 simp
theorem mid_set {α : Type} {l m : List α} {i : Nat} {x y : α} (h : l.length = i) : (l ++ x :: m).set i y = l ++ y :: m := by
 subst h
 simp
theorem mid_fit {l : List W32} {i : Nat} {x y : W32} (hi : i < 64) (h : l.length = i) : i + (u32v y).cells.size ≤ (warr (l ++ x :: List.replicate (63 - i) (0 : W32))).size := by
 rw [warr_size]
 show i + 1 ≤ _
 simp
 omega
theorem mid_back {l m : List W32} {i j : Nat} {x y : W32} (hx : l.getD j 0 = y) (hj : j < i) (h : l.length = i) : (l ++ x :: m)[j]? = some y := by
 rw [List.getElem?_append_left (by omega), ← hx, List.getD_eq_getElem?_getD, List.getElem?_eq_getElem (by omega)]
 rfl
theorem acc_next {bs : List B8} {i j : Nat} {y : B8} (hy : bs[4 * i + j]? = some y) : accB ((bs.drop (4 * i)).take (j + 1)) = (accB ((bs.drop (4 * i)).take j) <<< 8) ||| (y.setWidth 32) := by
 have h : (bs.drop (4 * i))[j]? = some y := by rw [List.getElem?_drop]; exact hy
 obtain ⟨hj, rfl⟩ := List.getElem?_eq_some_iff.1 h
 rw [List.take_succ_eq_append_getElem hj]
 unfold accB
 rw [List.foldl_append]
 rfl
def Sc1 (W : World) (x0 o c : Nat) (bs : List B8) (b0 : Nat) (a : Act) (w : World) : Prop :=
 ∃ i : Nat, Kn a 77 [(0, .slice (some ⟨x0, o, none⟩) 64 c), (2, .pointer (some ⟨b0, 0, none⟩)), (9, .int .i64 (i : Nat))] ∧ i ≤ 16 ∧ Block w b0 159 (warr (wl bs i ++ List.replicate (64 - i) (0 : W32))) ∧ Below W.heap.size W w
def Sc2 (W : World) (x0 o c : Nat) (bs : List B8) (b0 i : Nat) (a : Act) (w : World) : Prop :=
 ∃ j : Nat, Kn a 77 [(0, .slice (some ⟨x0, o, none⟩) 64 c), (2, .pointer (some ⟨b0, 0, none⟩)), (3, .int .i64 (i : Nat)), (9, .int .i64 (i : Nat)), (18, .slice (some ⟨x0, o + 4 * i, none⟩) 4 (c - 4 * i)), (19, .int .i64 4), (20, .int .i64 (j : Nat))] ∧ j ≤ 4 ∧ Block w b0 159 (warr (wl bs i ++ accB ((bs.drop (4 * i)).take j) :: List.replicate (63 - i) (0 : W32))) ∧ Below W.heap.size W w
def Sc3 (W : World) (x0 o c : Nat) (bs : List B8) (b0 : Nat) (a : Act) (w : World) : Prop :=
 ∃ i : Nat, Kn a 77 [(0, .slice (some ⟨x0, o, none⟩) 64 c), (2, .pointer (some ⟨b0, 0, none⟩)), (6, .int .i64 (i : Nat))] ∧ 16 ≤ i ∧ i ≤ 64 ∧ Block w b0 159 (warr (wl bs i ++ List.replicate (64 - i) (0 : W32))) ∧ Below W.heap.size W w
theorem s159' {bs : List B8} : (Tryz.prog.info? 159).map (·.size) = some (warr (wl bs 64)).size := by
 rw [warr_size, wl_len]; exact s159
set_option maxRecDepth 100000 in
set_option maxHeartbeats 4000000 in
theorem sched_any (w : World) (x0 o c : Nat) (bs : List B8) (h : BRow w (.slice (some ⟨x0, o, none⟩) 64 c) bs) (hl : bs.length = 64) (hc : 64 ≤ c) :
  Calls Tryz.prog 147 #[.slice (some ⟨x0, o, none⟩) 64 c] w fun e w' => e = .returned (.agg (warr (wl bs 64))) ∧ Below w.heap.size w w' := by
 have hlen := hl
 replace h := Lib.hid h
 have hall := Below.refl w.heap.size w
 refine K_enter 77 Tryz.func147 rfl rfl fun a H => ?_
 replace H := H.pick [0]
 refine zC (zD ?_)
 refine op_alloc 159 (warr (List.replicate 64 0)) z159 fun w0 b0 hge hb k0 => ?_; have g0 := Nat.le_trans hall.size hge; replace hall := hall.tr hb; clear hb hge; refine kl H rfl fun a H => ?_
 refine zA (zB (zC (zC (zD ?_))))
 refine kR 1 H rfl fun a H => ?_
 refine zA (zB ?_)
 refine wp_block ?_
 refine wp_loop (Sc1 w x0 o c bs b0) (fun a _ => 16 - (intOf (a.eval (.tmp 9))).toNat) ⟨0, H.pick [0, 2, 9], by omega, k0, hall⟩ ?_
 clear H hall k0
 rintro a w' ⟨i, H, hi, k0, hall⟩
 have H0 := H
 by_cases hlt : i < 16
 ·
  have H := H0
  refine zC (zD ?_)
  refine kV H (r_lt U3 (H.ev rfl) evc (dec_t (by omega))) rfl fun a H => ?_
  refine zA (zB (zC (zH H rfl (zE (zB (zC ?_))))))
  refine wp_block ?_
  refine zC (zD ?_)
  refine kR 2 H rfl fun a H => ?_
  refine zA (zB (zC (zD ?_)))
  refine kR 2 H rfl fun a H => ?_
  refine kV (v := .int .i64 (4 * i : Nat)) H (r_mul (r := ((4 * i : Nat) : Int)) U3 evc (H.ev rfl) (by omega) (by omega)) rfl fun a H => ?_
  refine kR 1 H rfl fun a H => ?_
  refine kV (v := .int .i64 (4 * i : Nat)) H (r_mul (r := ((4 * i : Nat) : Int)) U3 evc (H.ev rfl) (by omega) (by omega)) rfl fun a H => ?_
  refine kV H (r_add (q := ((4 * i + 4 : Nat) : Int)) U3 (H.ev rfl) evc (by omega) (by omega)) rfl fun a H => ?_
  refine kV (v := .slice (some ⟨x0, o + 4 * i, none⟩) 4 (c - 4 * i)) H (run_op_slice U30 (.slice (some ⟨x0, o, none⟩) 64 c) (some (.int .i64 (4 * i : Nat))) (some (.int .i64 (4 * i + 4 : Nat))) none (H.ev rfl) (congrArg some (H.ev rfl)) (congrArg some (H.ev rfl)) rfl (slice_any (4 * i) (4 * i + 4) U30 s5 _ _ (.inr rfl) (.inr rfl) (by omega) (by omega) (by rw [slAt_some (by omega), Nat.mul_one]) (by omega) rfl)) rfl fun a H => ?_
  refine kV H (r_len U30 (H.ev rfl)) rfl fun a H => ?_
  refine kR 1 H rfl fun a H => ?_
  refine zA (zB ?_)
  refine wp_block ?_
  rw [wl_zero (by omega)] at k0
  refine wp_loop (Sc2 w x0 o c bs b0 i) (fun a _ => 4 - (intOf (a.eval (.tmp 20))).toNat) ⟨0, H.pick [0, 2, 3, 9, 18, 19, 20], by omega, k0, hall⟩ ?_
  clear H hall k0
  rintro a w' ⟨j, H, hj, k0, hall⟩
  have H1 := H
  by_cases hlj : j < 4
  ·
   obtain ⟨y, hy⟩ : ∃ y, bs[4 * i + j]? = some y := ⟨_, List.getElem?_eq_getElem (by omega)⟩
   have HY := Lib.hid hy
   obtain ⟨x, hx⟩ : ∃ x, accB ((bs.drop (4 * i)).take j) = x := ⟨_, rfl⟩
   have HX := Lib.hid hx
   rw [hx] at k0
   clear hy hx
   have H := H1
   refine zC (zD ?_)
   refine kV H (r_lt U3 (H.ev rfl) (H.ev rfl) (dec_t (by omega))) rfl fun a H => ?_
   refine zA (zB (zC (zH H rfl (zE (zB (zC ?_))))))
   refine wp_block ?_
   refine zC (zD ?_)
   refine kV H (r_idx (j := j) (q := o + 4 * i + j) U30 s5 (H.ev rfl) (H.ev rfl) (by omega) (by omega)) rfl fun a H => ?_
   refine kV H (r_ld U5 rfl (H.ev rfl) (brow_cell (BRow.up h.out hall) HY.out (by omega))) rfl fun a H => ?_
   refine kR 1 H rfl fun a H => ?_
   refine zA (zB (zD ?_))
   refine kR 2 H rfl fun a H => ?_
   refine kV H (r_ixa (j := i) (q := i) U159 s133 (H.ev rfl) (H.ev rfl) (by omega) (by omega)) rfl fun a H => ?_
   refine kV H (r_ld U133 rfl (H.ev rfl) (warr_cell k0 (mid_here (wl_len _ _)))) rfl fun a H => ?_
   refine kV H (r_shl32u (k := 8) (by omega) U133 (H.ev rfl) evc) rfl fun a H => ?_
   refine kR 1 H rfl fun a H => ?_
   refine kV H (r_cv8_32 U5 U133 (H.ev rfl)) rfl fun a H => ?_
   refine kV H (r_or32 U133 (H.ev rfl) (H.ev rfl)) rfl fun a H => ?_
   refine kV H (r_ixa (j := i) (q := i) U159 s133 (H.ev rfl) (H.ev rfl) (by omega) (by omega)) rfl fun a H => ?_
   refine op_store1 133 (.tmp 32) (.tmp 31) b0 i 159 (u32v ((x <<< 8) ||| (y.setWidth 32))) _ (H.ev rfl) (H.ev rfl) k0 s133 (mid_fit (by omega) (wl_len _ _)) (u32_one _) fun w' hb ho kq => ?_; clear k0; have k0 := warr_set kq; rw [mid_set (wl_len _ _)] at k0; replace hall := hall.trans (hb _ g0); clear hb ho kq; refine kl0 H fun a H => ?_
   refine zA (n_block (zB (zD ?_)))
   refine kV H (r_add (q := ((j + 1 : Nat) : Int)) U3 (H.ev rfl) evc (by omega) (by omega)) rfl fun a H => ?_
   refine kR 1 H rfl fun a H => ?_
   refine zA ?_
   refine zI ⟨⟨j + 1, H.pick [0, 2, 3, 9, 18, 19, 20], by omega, by rw [acc_next HY.out, HX.out]; exact k0, hall⟩, ?_⟩
   rw [H.ev (j := 20) rfl, H1.ev (j := 20) rfl]
   simp only [intOf]
   omega
  ·
   obtain rfl : j = 4 := by omega
   rw [wl_word (by omega)] at k0
   refine zC (zD ?_)
   refine kV H (r_lt U3 (H.ev rfl) (H.ev rfl) (dec_f (by omega))) rfl fun a H => ?_
   refine zA (zB (zC (zG H rfl (wp_exit (e_then (e_then ?_))))))
   refine e_here ?_
   refine n_block (zB (zD ?_))
   refine kV H (r_add (q := ((i + 1 : Nat) : Int)) U3 (H.ev rfl) evc (by omega) (by omega)) rfl fun a H => ?_
   refine kR 1 H rfl fun a H => ?_
   refine zA ?_
   refine zI ⟨⟨i + 1, H.pick [0, 2, 9], by omega, k0, hall⟩, ?_⟩
   rw [H.ev (j := 9) rfl, H0.ev (j := 9) rfl]
   simp only [intOf]
   omega
 ·
  obtain rfl : i = 16 := by omega
  refine zC (zD ?_)
  refine kV H (r_lt U3 (H.ev rfl) evc (dec_f (by omega))) rfl fun a H => ?_
  refine zA (zB (zC (zG H rfl (wp_exit (e_then (e_then ?_))))))
  refine e_here ?_
  refine zB (zC (zC (zD ?_)))
  refine kR 1 H rfl fun a H => ?_
  refine zA (zB ?_)
  refine wp_block ?_
  refine wp_loop (Sc3 w x0 o c bs b0) (fun a _ => 64 - (intOf (a.eval (.tmp 6))).toNat) ⟨16, H.pick [0, 2, 6], by omega, by omega, k0, hall⟩ ?_
  clear H hall k0
  rintro a w' ⟨i, H, hi0, hi, k0, hall⟩
  have H0 := H
  by_cases hlt : i < 64
  ·
   rw [wl_zero2 (by omega)] at k0
   obtain ⟨x, hx⟩ : ∃ x, (wl bs i).getD (i - 15) 0 = x := ⟨_, rfl⟩
   obtain ⟨y, hy⟩ : ∃ y, (wl bs i).getD (i - 2) 0 = y := ⟨_, rfl⟩
   obtain ⟨z, hz⟩ : ∃ z, (wl bs i).getD (i - 16) 0 = z := ⟨_, rfl⟩
   obtain ⟨u, hu⟩ : ∃ u, (wl bs i).getD (i - 7) 0 = u := ⟨_, rfl⟩
   have HX := Lib.hid hx
   have HY := Lib.hid hy
   have HZ := Lib.hid hz
   have HU := Lib.hid hu
   clear hx hy hz hu
   have H := H0
   refine zC (zC (zD ?_))
   refine kR 1 H rfl fun a H => ?_
   refine kV H (r_lt U3 (H.ev rfl) evc (dec_t (by omega))) rfl fun a H => ?_
   refine zA (zB (zH H rfl (zE (zB (zC ?_)))))
   refine wp_block ?_
   refine zC ?_
   have hall13 := hall
   have hS : BelowOf (BelowTo hall13) _ := Below.drew (Below.refl _ (BelowTo hall13))
   refine region_tree (BelowOf (BelowTo hall13)) 10 (.fl 0 (.fl 1 (.fl 2 (.fl 3 (.fl 4 (.fl 5 (.fl 6 (.fl 7 (.fl 8 (.fl 9 .done)))))))))) (by kernel_rfl) (by kernel_rfl) rfl (by kernel_rfl) hS ?_
   refine kQ 1 H rfl fun a H => ?_
   refine kF H rfl rfl (fun w' hS' => r_sub (q := ((i - 15 : Nat) : Int)) U3 (H.ev rfl) evc (by omega) (by omega)) rfl fun a H => ?_
   refine kF H rfl rfl (fun w' hS' => r_ixa (j := i - 15) (q := i - 15) U159 s133 (H.ev rfl) (H.ev rfl) (by omega) (by omega)) rfl fun a H => ?_
   refine kF H rfl rfl (fun w' hS' => r_ld U133 rfl (H.ev rfl) (warr_cell (Block.ups k0 hS') (mid_back HX.out (by omega) (wl_len _ _)))) rfl fun a H => ?_
   refine kQ 1 H rfl fun a H => ?_
   refine kF H rfl rfl (fun w' hS' => r_sub (q := ((i - 2 : Nat) : Int)) U3 (H.ev rfl) evc (by omega) (by omega)) rfl fun a H => ?_
   refine kF H rfl rfl (fun w' hS' => r_ixa (j := i - 2) (q := i - 2) U159 s133 (H.ev rfl) (H.ev rfl) (by omega) (by omega)) rfl fun a H => ?_
   refine kF H rfl rfl (fun w' hS' => r_ld U133 rfl (H.ev rfl) (warr_cell (Block.ups k0 hS') (mid_back HY.out (by omega) (wl_len _ _)))) rfl fun a H => ?_
   refine kQ 2 H rfl fun a H => ?_
   refine pt_done (NoPanic.normal ?_)
   replace k0 := Block.ups k0 hS
   replace hall := hall.trans (Below.mono hS hall.size)
   clear hS
   refine zB ?_
   have hall14 := hall
   have hS : BelowOf (BelowTo hall14) _ := Below.drew (Below.refl _ (BelowTo hall14))
   refine region_tree (BelowOf (BelowTo hall14)) 29 (.fl 0 (.fl 1 (.fl 2 (.fl 3 (.fl 4 (.fl 5 (.fl 6 (.fl 7 (.fl 8 (.fl 9 (.fl 10 (.fl 12 (.fl 15 (.fl 16 (.fl 19 (.fl 21 (.fl 24 (.fl 25 (.one 11 (.one 13 (.fl 14 (.fl 17 (.fl 18 (.one 20 (.one 22 (.fl 23 (.fl 26 (.fl 27 (.fl 28 (.one 29 .done)))))))))))))))))))))))))))))) (by kernel_rfl) (by kernel_rfl) rfl (by kernel_rfl) hS ?_
   refine kQ 2 H rfl fun a H => ?_
   refine kF H rfl rfl (fun w' hS' => r_sub (q := ((i - 16 : Nat) : Int)) U3 (H.ev rfl) evc (by omega) (by omega)) rfl fun a H => ?_
   refine kF H rfl rfl (fun w' hS' => r_ixa (j := i - 16) (q := i - 16) U159 s133 (H.ev rfl) (H.ev rfl) (by omega) (by omega)) rfl fun a H => ?_
   refine kF H rfl rfl (fun w' hS' => r_ld U133 rfl (H.ev rfl) (warr_cell (Block.ups k0 hS') (mid_back HZ.out (by omega) (wl_len _ _)))) rfl fun a H => ?_
   refine kQ 1 H rfl fun a H => ?_
   refine kF H rfl rfl (fun w' hS' => r_sub (q := ((i - 7 : Nat) : Int)) U3 (H.ev rfl) evc (by omega) (by omega)) rfl fun a H => ?_
   refine kF H rfl rfl (fun w' hS' => r_ixa (j := i - 7) (q := i - 7) U159 s133 (H.ev rfl) (H.ev rfl) (by omega) (by omega)) rfl fun a H => ?_
   refine kF H rfl rfl (fun w' hS' => r_ld U133 rfl (H.ev rfl) (warr_cell (Block.ups k0 hS') (mid_back HU.out (by omega) (wl_len _ _)))) rfl fun a H => ?_
   refine kF H rfl rfl (fun w' hS' => r_add32 U133 (H.ev rfl) (H.ev rfl)) rfl fun a H => ?_
   refine kQ 3 H rfl fun a H => ?_
   refine kF H rfl rfl (fun w' hS' => r_shr32u (k := 3) (by omega) U133 (H.ev rfl) evc) rfl fun a H => ?_
   refine kQ 3 H rfl fun a H => ?_
   refine kF H rfl rfl (fun w' hS' => r_shr32u (k := 10) (by omega) U133 (H.ev rfl) evc) rfl fun a H => ?_
   refine pt_one (fun K hK => ?_)
   refine st_a0 rfl ?_; refine wpo_call _ _ _ (right_lit x 7 7 _ rfl (by omega) (by omega)) (r_call2 cf148 (H.ev rfl) evc) ?_; rintro e w9 ⟨rfl, hb⟩; refine ⟨_, rfl, ?_⟩; replace hS := Below.trans hS (Below.mono hb (Below.size hS)); clear hb; refine hK _ _ ⟨(fun _ => hS), ?_⟩; clear hK; clear K; refine kt H rfl fun a H => ?_
   refine pt_one (fun K hK => ?_)
   refine st_a0 rfl ?_; refine wpo_call _ _ _ (right_lit x 18 18 _ rfl (by omega) (by omega)) (r_call2 cf148 (H.ev rfl) evc) ?_; rintro e w9 ⟨rfl, hb⟩; refine ⟨_, rfl, ?_⟩; replace hS := Below.trans hS (Below.mono hb (Below.size hS)); clear hb; refine hK _ _ ⟨(fun _ => hS), ?_⟩; clear hK; clear K; refine kt H rfl fun a H => ?_
   refine kF H rfl rfl (fun w' hS' => r_xor32 U133 (H.ev rfl) (H.ev rfl)) rfl fun a H => ?_
   refine kF H rfl rfl (fun w' hS' => r_xor32 U133 (H.ev rfl) (H.ev rfl)) rfl fun a H => ?_
   refine kF H rfl rfl (fun w' hS' => r_add32 U133 (H.ev rfl) (H.ev rfl)) rfl fun a H => ?_
   refine pt_one (fun K hK => ?_)
   refine st_a0 rfl ?_; refine wpo_call _ _ _ (right_lit y 17 17 _ rfl (by omega) (by omega)) (r_call2 cf148 (H.ev rfl) evc) ?_; rintro e w9 ⟨rfl, hb⟩; refine ⟨_, rfl, ?_⟩; replace hS := Below.trans hS (Below.mono hb (Below.size hS)); clear hb; refine hK _ _ ⟨(fun _ => hS), ?_⟩; clear hK; clear K; refine kt H rfl fun a H => ?_
   refine pt_one (fun K hK => ?_)
   refine st_a0 rfl ?_; refine wpo_call _ _ _ (right_lit y 19 19 _ rfl (by omega) (by omega)) (r_call2 cf148 (H.ev rfl) evc) ?_; rintro e w9 ⟨rfl, hb⟩; refine ⟨_, rfl, ?_⟩; replace hS := Below.trans hS (Below.mono hb (Below.size hS)); clear hb; refine hK _ _ ⟨(fun _ => hS), ?_⟩; clear hK; clear K; refine kt H rfl fun a H => ?_
   refine kF H rfl rfl (fun w' hS' => r_xor32 U133 (H.ev rfl) (H.ev rfl)) rfl fun a H => ?_
   refine kF H rfl rfl (fun w' hS' => r_xor32 U133 (H.ev rfl) (H.ev rfl)) rfl fun a H => ?_
   refine kF H rfl rfl (fun w' hS' => r_add32 U133 (H.ev rfl) (H.ev rfl)) rfl fun a H => ?_
   refine kF H rfl rfl (fun w' hS' => r_ixa (j := i) (q := i) U159 s133 (H.ev rfl) (H.ev rfl) (by omega) (by omega)) rfl fun a H => ?_
   refine pt_one (fun K hK => ?_)
   replace k0 := Block.ups k0 hS
   replace hall := hall.trans (Below.mono hS hall.size)
   refine st_a0 rfl ?_; refine wpo_store1 133 (.tmp 75) (.tmp 74) b0 i 159 (u32v (((z + u) + (((rotr x 7) ^^^ (rotr x 18)) ^^^ (x >>> 3))) + (((rotr y 17) ^^^ (rotr y 19)) ^^^ (y >>> 10)))) _ (H.ev rfl) (H.ev rfl) k0 s133 (mid_fit (by omega) (wl_len _ _)) (u32_one _) fun w' hb ho kq => ?_; clear k0; have k0 := warr_set kq; rw [mid_set (wl_len _ _)] at k0; replace hall := hall.trans (hb _ g0); clear hb ho kq; refine hK _ _ ⟨(fun h => absurd rfl h), ?_⟩; clear hK; clear K; clear hS; skip
   refine pt_done (NoPanic.normal ?_)
   refine n_block (zB (zD ?_))
   refine kR 1 H rfl fun a H => ?_
   refine kV H (r_add (q := ((i + 1 : Nat) : Int)) U3 (H.ev rfl) evc (by omega) (by omega)) rfl fun a H => ?_
   refine kR 1 H rfl fun a H => ?_
   refine zA ?_
   refine zI ⟨⟨i + 1, H.pick [0, 2, 6], by omega, by omega, by rw [wl_next hi0 hlt HX.out HY.out HZ.out HU.out]; exact k0, hall⟩, ?_⟩
   rw [H.ev (j := 6) rfl, H0.ev (j := 6) rfl]
   simp only [intOf]
   omega
  ·
   obtain rfl : i = 64 := by omega
   rw [wl_full] at k0
   refine zC (zC (zD ?_))
   refine kR 1 H rfl fun a H => ?_
   refine kV H (r_lt U3 (H.ev rfl) evc (dec_f (by omega))) rfl fun a H => ?_
   refine zA (zB (zG H rfl (wp_exit (e_then (e_then ?_)))))
   refine e_here ?_
   refine zB (zC (zD ?_))
   refine op_load 159 (.tmp 2) b0 159 (warr (wl bs 64)) _ (H.ev rfl) k0 U159 rfl s159' ?_; refine kl H rfl fun a H => ?_
   refine op_store 159 (.tmp 2) (.tmp 76) b0 159 (warr (wl bs 64)) _ (H.ev rfl) (H.ev rfl) k0 s159' rfl (warr_one _) fun w' hb ho kq => ?_; clear k0; replace hall := hall.trans (hb _ g0); clear hb ho; refine kl0 H fun a H => ?_
   refine zA (zB (zF ?_))
   exact k_ret_cell H rfl rfl kq U159 rfl s159' ⟨rfl, hall⟩
section
theorem run_copy_blk {P : Program} (w : World) (dT sT ty e : TypeId) (size : Nat) (ht : P.underlying dT = some (.slice e)) (hi : (P.info? e).map (·.size) = some size) (hp : 0 < size)
  (g o dLen dCap : Nat) (cur : Array Value) (tb : TypeId) (hg : Block w g tb cur) (A : Option Addr) (sLen sCap : Nat) (cs : List Value) (hl : cs.length = Nat.min sLen dLen * size) (hr : Holds w A cs) (h1 : ∀ u ∈ cs, u.oneCell' = true)
  (hfit : o + cs.length ≤ cur.size) :
  (Builtin.copy_ #[dT, sT] ty #[.slice (some ⟨g, o, none⟩) dLen dCap, .slice A sLen sCap]).run P w = .ok (goInt (Nat.min sLen dLen)) (w.setRow g (spl cur o cs)) := by
 cases hq : P.info? e with
 | none => simp [hq] at hi
 | some i =>
  have hsz : i.size = size := by simpa [hq] using hi
  subst hsz
  have hst := run_storeCells_at P g o tb cs 0 cur w hg (by simpa using hfit) h1
  cases A with
  | some ad =>
   have hload := run_loadCells_list (P := P) w ad cs (fun j u hu => by
    obtain ⟨b, o, he, hc⟩ := hr j (List.getElem?_eq_some_iff.1 hu).1
    injection he with he
    subst he
    rw [add_flat, hc, hu])
   simp [Builtin.copy_, run_underlying ht, Builtin.lenOf, Builtin.firstCells, sizeOf, typeInfo, hq, ← hl, hload, hst, spl]
  | none =>
   have hn : cs = [] := by
    cases cs with
    | nil => rfl
    | cons x l =>
     obtain ⟨b, o, hc, _⟩ := hr 0 (by simp)
     cases hc
   subst hn
   have hs : spl cur o [] = cur := by simp [spl]
   rw [hs, setRow_self w g cur tb (0, 0) hg]
   simp [Builtin.copy_, run_underlying ht, Builtin.lenOf, Builtin.firstCells, sizeOf, typeInfo, hq, storeCells]
section
variable {P : Program} {d : Option Tmp} {tt : TypeId} {ps : String} {af : Array Edge} {gd : Option (Nat × Bool)} {a : Act} {w : World} {x : Operand}
theorem r_slice_low {T E : TypeId} {N b o : Nat} (hT : P.underlying T = some (.array N E)) (hs : (P.info? E).map (·.size) = some 1) (hx : a.eval x = .pointer (some ⟨b, o, none⟩)) (hN : 1 < N) :
  (execOp a.eval ⟨d, .slice T x (some (.const (.int .i64 1))) none none, tt, ps, af, gd⟩).run P w = .ok (.value (.slice (some ⟨b, o + 1, none⟩) (N - 1) (N - 1))) w := by
 cases hq : P.info? E with
 | none => simp [hq] at hs
 | some i0 =>
  have hsz : i0.size = 1 := by simpa [hq] using hs
  unfold execOp
  simp only [hx]
  have e1 : a.eval (.const (.int .i64 1)) = .int .i64 1 := rfl
  have h1 : (1 : Int) ≤ (N : Int) := by omega
  simp [Instr.sliceAt, Instr.sliceBounds, Instr.sliceBound, Instr.sureAddr, run_underlying hT, sizeOf, typeInfo, program, hq, hsz, asIntOf, e1, h1, add_flat, Sem.run, Sem.run_bind, Sem.run_pure, Result.andThen_ok]
  omega
theorem r_slice_high {T E : TypeId} {N b o : Nat} (hT : P.underlying T = some (.array N E)) (hs : (P.info? E).map (·.size) = some 1) (hx : a.eval x = .pointer (some ⟨b, o, none⟩)) (hN : 7 ≤ N) :
  (execOp a.eval ⟨d, .slice T x none (some (.const (.int .i64 7))) none, tt, ps, af, gd⟩).run P w = .ok (.value (.slice (some ⟨b, o, none⟩) 7 N)) w := by
 cases hq : P.info? E with
 | none => simp [hq] at hs
 | some i0 =>
  have hsz : i0.size = 1 := by simpa [hq] using hs
  unfold execOp
  simp only [hx]
  have e1 : a.eval (.const (.int .i64 7)) = .int .i64 7 := rfl
  have h1 : (7 : Int) ≤ (N : Int) := by omega
  simp [Instr.sliceAt, Instr.sliceBounds, Instr.sliceBound, Instr.sureAddr, run_underlying hT, sizeOf, typeInfo, program, hq, hsz, asIntOf, e1, h1, add_flat, Sem.run, Sem.run_bind, Sem.run_pure, Result.andThen_ok]
theorem r_index {T E : TypeId} {N j : Nat} {l : List W32} {y : W32} {p : Operand} (hT : P.underlying T = some (.array N E)) (hE : P.underlying E = some (.int .u32)) (hs : (P.info? E).map (·.size) = some 1) (hx : a.eval x = .agg (warr l)) (hp : a.eval p = .int .i64 (j : Nat)) (hj : j < N) (hy : l[j]? = some y) :
  (execOp a.eval ⟨d, .index T x p, tt, ps, af, gd⟩).run P w = .ok (.value (u32v y)) w := by
 cases hq : P.info? E with
 | none => simp [hq] at hs
 | some i0 =>
  have hsz : i0.size = 1 := by simpa [hq] using hs
  unfold execOp
  simp only [hx, hp]
  have hc : (warr l)[j]? = some (u32v y) := by simp [warr, hy]
  have h1 : (0 : Int) ≤ j ∧ (j : Int) < N := by omega
  simp [Instr.index, run_underlying hT, part, isAgg, run_underlying hE, sizeOf, typeInfo, program, hq, hsz, asIntOf, hj, hy, Sem.run, Sem.run_bind, Sem.run_pure, Result.andThen_ok]
end
theorem grown_below {w0 w w' : World} {r : Option Nat} (h : w0.grownBy w r) (hb : Below w.heap.size w w') : w0.grownBy w' r :=
 ⟨hb.os.trans h.os, hb.tape.trans h.tape, hb.output.trans h.output, Nat.le_trans h.size hb.size, fun k hk hne => (hb.block k (Nat.lt_of_lt_of_le hk h.size)).trans (h.block k hk hne)⟩
theorem grown_refl (w : World) (r : Option Nat) : w.grownBy w r := ⟨rfl, rfl, rfl, Nat.le_refl _, fun _ _ _ => rfl⟩
theorem grown_store {w0 w w' : World} {g b : Nat} (h : w0.grownBy w (some g)) (hb : ∀ B, B ≤ b → Below B w w') (ho : ∀ k, k ≠ b → w'.heap[k]? = w.heap[k]?) (hg : b = g ∨ w0.heap.size ≤ b) : w0.grownBy w' (some g) :=
 have h0 := hb 0 (Nat.zero_le _)
 ⟨h0.os.trans h.os, h0.tape.trans h.tape, h0.output.trans h.output, Nat.le_trans h.size h0.size, fun k hk hne => (ho k (fun e => by rcases hg with rfl | hg; exact hne (by rw [e]); omega)).trans (h.block k hk hne)⟩
def GrownTo {w w' : World} {r : Option Nat} (_ : w.grownBy w' r) : World := w'
end
theorem k_end0 {P : Program} {a : Act} {w : World} {n : Nat} {l : List (Nat × Value)} {fn : Func} {R : Ending → World → Prop} (H : Kn a n l) (hf : fn.results = #[]) (h : R (.returned (.tuple #[])) w) : bodyPost P fn R .normal a w :=
 ⟨H.defers, .tuple #[], by simp [results, hf], h⟩
/-- one round -/
def rnd : List W32 → W32 → W32 → List W32
 | [a, b, c, d, e, f, g, h], k, x =>
  let t := (((h + ((rotr e 6 ^^^ rotr e 11) ^^^ rotr e 25)) + (g ^^^ (e &&& (f ^^^ g)))) + k) + x
  let u := ((rotr a 2 ^^^ rotr a 13) ^^^ rotr a 22) + ((a &&& b) ||| (c &&& (a ||| b)))
  [t + u, a, b, c, d + t, e, f, g]
 | l, _, _ => l
def rndN (S : List W32) (bs : List B8) : Nat → List W32
 | 0 => S
 | n + 1 => rnd (rndN S bs n) (KC.getD n 0) ((wl bs 64).getD n 0)
/-- the sums of the first i words, the others as they are -/
def add8 (S R : List W32) (i : Nat) : List W32 := List.zipWith (fun x y => x + y) (R.take i) (S.take i) ++ R.drop i
def blockF (S : List W32) (bs : List B8) : List W32 := List.zipWith (fun x y => x + y) (rndN S bs 64) S
theorem eight {l : List W32} (h : l.length = 8) : ∃ a b c d e f g i, l = [a, b, c, d, e, f, g, i] := by
 match l, h with
 | [a, b, c, d, e, f, g, i], _ => exact ⟨a, b, c, d, e, f, g, i, rfl⟩
theorem rnd_len {l : List W32} (h : l.length = 8) (k x : W32) : (rnd l k x).length = 8 := by
 obtain ⟨a, b, c, d, e, f, g, i, rfl⟩ := eight h
 rfl
theorem rndN_len {S : List W32} (h : S.length = 8) (bs : List B8) : ∀ n, (rndN S bs n).length = 8
 | 0 => h
 | n + 1 => rnd_len (rndN_len h bs n) _ _
theorem rnd_next {S : List W32} {bs : List B8} {i : Nat} {va vb vc vd ve vf vg vh x kk tv uv : W32} (hr : rndN S bs i = [va, vb, vc, vd, ve, vf, vg, vh]) (hx : (wl bs 64)[i]? = some x) (hk : KC[i]? = some kk)
  (ht : (((vh + ((rotr ve 6 ^^^ rotr ve 11) ^^^ rotr ve 25)) + (vg ^^^ (ve &&& (vf ^^^ vg)))) + kk) + x = tv) (hu : ((rotr va 2 ^^^ rotr va 13) ^^^ rotr va 22) + ((va &&& vb) ||| (vc &&& (va ||| vb))) = uv) : rndN S bs (i + 1) = [tv + uv, va, vb, vc, vd + tv, ve, vf, vg] := by
 subst ht hu
 show rnd (rndN S bs i) (KC.getD i 0) ((wl bs 64).getD i 0) = _
 rw [hr, List.getD_eq_getElem?_getD, List.getD_eq_getElem?_getD, hx, hk]
 rfl
theorem add8_zero (S R : List W32) : add8 S R 0 = R := by simp [add8]
theorem add8_mid {S R : List W32} {i : Nat} {r : W32} (hr : R[i]? = some r) : add8 S R i = List.zipWith (fun x y => x + y) (R.take i) (S.take i) ++ r :: R.drop (i + 1) := by
 obtain ⟨hi, rfl⟩ := List.getElem?_eq_some_iff.1 hr
 unfold add8
 rw [List.drop_eq_getElem_cons hi]
theorem add8_len {S : List W32} {bs : List B8} {i : Nat} (hS : S.length = 8) (hi : i ≤ 8) : (List.zipWith (fun x y => x + y) ((rndN S bs 64).take i) (S.take i)).length = i := by
 simp [rndN_len hS, hS]
 omega
theorem add8_next {S : List W32} {bs : List B8} {i : Nat} {x r : W32} (hS : S.length = 8) (hx : S[i]? = some x) (hr : (rndN S bs 64)[i]? = some r) : List.zipWith (fun x y => x + y) ((rndN S bs 64).take i) (S.take i) ++ (r + x) :: (rndN S bs 64).drop (i + 1) = add8 S (rndN S bs 64) (i + 1) := by
 obtain ⟨hi, rfl⟩ := List.getElem?_eq_some_iff.1 hx
 obtain ⟨hj, rfl⟩ := List.getElem?_eq_some_iff.1 hr
 unfold add8
 rw [List.take_succ_eq_append_getElem hi, List.take_succ_eq_append_getElem hj, List.zipWith_append (by simp; omega)]
 simp
theorem add8_fit {S : List W32} {bs : List B8} {i : Nat} {r y : W32} (hS : S.length = 8) (hi : i ≤ 8) (hr : (rndN S bs 64)[i]? = some r) : i + (u32v y).cells.size ≤ (warr (List.zipWith (fun x y => x + y) ((rndN S bs 64).take i) (S.take i) ++ r :: (rndN S bs 64).drop (i + 1))).size := by
 rw [warr_size]
 show i + 1 ≤ _
 rw [List.length_append, add8_len hS hi]
 simp
theorem add8_full {S : List W32} (hS : S.length = 8) (bs : List B8) : add8 S (rndN S bs 64) 8 = blockF S bs := by
 unfold add8 blockF
 rw [List.take_of_length_le (by rw [rndN_len hS]; omega), List.take_of_length_le (by omega), List.drop_eq_nil_of_le (by rw [rndN_len hS]; omega), List.append_nil]
theorem z141 : (Tryz.prog.info? 141).map (·.zero) = some (some (.agg (warr (List.replicate 8 0)))) := by kernel_rfl
theorem s8' {S : List W32} (h : S.length = 8) : (Tryz.prog.info? 141).map (·.size) = some (warr S).size := by
 rw [warr_size, h]; exact s141
theorem u32s_one (l : List W32) : ∀ u ∈ l.map u32v, u.oneCell' = true := fun u hu => by
 obtain ⟨x, _, rfl⟩ := List.mem_map.1 hu
 rfl
theorem warr_holds {w : World} {b : Nat} {t : TypeId} {l : List W32} (h : Block w b t (warr l)) (n : Nat) : Holds w (some ⟨b, 0, none⟩) ((l.take n).map u32v) := by
 intro j hj
 refine ⟨b, 0, rfl, ?_⟩
 have hj' : j < n ∧ j < l.length := by have : j < min n l.length := (by simpa using hj); omega
 rw [Nat.zero_add, warr_cell h (List.getElem?_eq_getElem hj'.2)]
 simp [List.getElem?_take, hj'.1, hj'.2]
theorem brow_lt {w : World} {x0 o n c : Nat} {bs : List B8} (h : BRow w (.slice (some ⟨x0, o, none⟩) n c) bs) (hp : 0 < bs.length) : x0 < w.heap.size := by
 have := brow_cell h (List.getElem?_eq_getElem hp) (q := o) rfl
 exact World.block_lt_of_cell? w _ this
theorem BRow.far {w w' : World} {A : Option Addr} {n c b : Nat} {bs : List B8} (h : BRow w (.slice A n c) bs) (hb : Below b w w') (hlt : ∀ q o, A = some ⟨q, o, none⟩ → q < b) : BRow w' (.slice A n c) bs := by
 obtain ⟨A', c', e, a1, a2, a3, hh⟩ := h
 injection e with e1 e2 e3
 subst e1 e2 e3
 refine ⟨_, _, rfl, a1, a2, a3, fun j hj => ?_⟩
 obtain ⟨q, o, he, hc⟩ := hh j hj
 refine ⟨q, o, he, ?_⟩
 rw [← hc]
 exact hb.cell (p := ⟨q, o + j, none⟩) (hlt q o he)
def Bk1 (W : World) (sb : Nat) (S : List W32) (bs : List B8) (b0 b1 : Nat) (a : Act) (w : World) : Prop :=
 ∃ i : Nat, Kn a 134 [(0, .pointer (some ⟨sb, 0, none⟩)), (4, .pointer (some ⟨b0, 0, none⟩)), (5, .pointer (some ⟨b1, 0, none⟩)), (21, .agg (warr (wl bs 64))), (22, .int .i64 (i : Nat))] ∧ i ≤ 64 ∧ Block w sb 141 (warr (rndN S bs i)) ∧ Block w b0 141 (warr S) ∧ Block w b1 159 (warr KC) ∧ W.grownBy w (some sb)
def Bk2 (W : World) (sb : Nat) (S : List W32) (bs : List B8) (a : Act) (w : World) : Prop :=
 ∃ i : Nat, Kn a 134 [(0, .pointer (some ⟨sb, 0, none⟩)), (119, .agg (warr S)), (120, .int .i64 (i : Nat))] ∧ i ≤ 8 ∧ Block w sb 141 (warr (add8 S (rndN S bs 64) i)) ∧ W.grownBy w (some sb)
set_option maxRecDepth 100000 in
set_option maxHeartbeats 8000000 in
theorem block_any (w : World) (sb x0 o c : Nat) (S : List W32) (bs : List B8) (ks : Block w sb 141 (warr S)) (hS8 : S.length = 8) (hbr : BRow w (.slice (some ⟨x0, o, none⟩) 64 c) bs) (hbl : bs.length = 64) (hc : 64 ≤ c) :
  Calls Tryz.prog 131 #[.pointer (some ⟨sb, 0, none⟩), .slice (some ⟨x0, o, none⟩) 64 c] w fun e w' => e = .returned (.tuple #[]) ∧ Block w' sb 141 (warr (blockF S bs)) ∧ w.grownBy w' (some sb) := by
 have hall := grown_refl w (some sb)
 have hx0 : x0 < w.heap.size := brow_lt hbr (by omega)
 refine K_enter 134 Tryz.func131 rfl rfl fun a H => ?_
 replace H := H.pick [0, 1]
 refine zC (zD ?_)
 refine kR 2 H rfl fun a H => ?_
 refine op_load 141 (.tmp 16) sb 141 (warr S) _ (H.ev rfl) ks U141 rfl (s8' hS8) ?_; refine kl H rfl fun a H => ?_
 refine op_alloc 141 (warr (List.replicate 8 0)) z141 fun w0 b0 hge hb k0 => ?_; have g0 := Nat.le_trans hall.size hge; have hs0 : sb < b0 := Nat.lt_of_lt_of_le ks.lt hge; replace ks := Block.ups ks hb; replace hbr := BRow.up hbr hb; replace hall := grown_below hall hb; clear hb; clear hge; refine kl H rfl fun a H => ?_
 refine op_store 141 (.tmp 4) (.tmp 17) b0 141 (warr S) _ (H.ev rfl) (H.ev rfl) k0 (s8' hS8) (by rw [warr_size, warr_size, hS8]; rfl) (warr_one _) fun w' hb ho kq => ?_; clear k0; have k0 := kq; replace ks := block_same ks (ho _ (by omega)); replace hbr := BRow.far hbr (hb _ (Nat.le_refl _)) (fun q o e => by injection e with e; injection e with e; omega); replace hall := grown_store hall hb ho (.inr g0); clear hb ho kq; refine kl0 H fun a H => ?_
 refine zA (zB (zC (zD ?_)))
 refine wl_call _ _ _ (consts_any _) (r_call0 cf146) ?_; rintro e w9 ⟨rfl, hb⟩; refine ⟨_, rfl, ?_⟩; replace ks := Block.ups ks hb; replace hbr := BRow.up hbr hb; replace k0 := Block.ups k0 hb; replace hall := grown_below hall hb; clear hb; refine kl H rfl fun a H => ?_
 refine kR 1 H rfl fun a H => ?_
 refine wl_call _ _ _ (sched_any _ x0 o c bs hbr hbl hc) (r_call1 cf147 (H.ev rfl)) ?_; rintro e w9 ⟨rfl, hb⟩; refine ⟨_, rfl, ?_⟩; clear hbr; replace ks := Block.ups ks hb; replace k0 := Block.ups k0 hb; replace hall := grown_below hall hb; clear hb; refine kl H rfl fun a H => ?_
 refine op_alloc 159 (warr (List.replicate 64 0)) z159 fun w1 b1 hge hb k1 => ?_; have g1 := Nat.le_trans hall.size hge; have d0_1 : b0 < b1 := Nat.lt_of_lt_of_le k0.lt hge; have hs1 : sb < b1 := Nat.lt_of_lt_of_le ks.lt hge; replace ks := Block.ups ks hb; replace k0 := Block.ups k0 hb; replace hall := grown_below hall hb; clear hb; clear hge; refine kl H rfl fun a H => ?_
 refine op_alloc 159 (warr (List.replicate 64 0)) z159 fun w2 b2 hge hb k2 => ?_; have g2 := Nat.le_trans hall.size hge; have d0_2 : b0 < b2 := Nat.lt_of_lt_of_le k0.lt hge; have d1_2 : b1 < b2 := Nat.lt_of_lt_of_le k1.lt hge; have hs2 : sb < b2 := Nat.lt_of_lt_of_le ks.lt hge; replace ks := Block.ups ks hb; replace k0 := Block.ups k0 hb; replace k1 := Block.ups k1 hb; replace hall := grown_below hall hb; clear hb; clear hge; refine kl H rfl fun a H => ?_
 refine op_store 159 (.tmp 5) (.tmp 18) b1 159 (warr KC) _ (H.ev rfl) (H.ev rfl) k1 s159 rfl (warr_one _) fun w' hb ho kq => ?_; clear k1; have k1 := kq; replace ks := block_same ks (ho _ (by omega)); replace k0 := block_same k0 (ho _ (by omega)); replace k2 := block_same k2 (ho _ (by omega)); replace hall := grown_store hall hb ho (.inr g1); clear hb ho kq; refine kl0 H fun a H => ?_
 refine op_store 159 (.tmp 6) (.tmp 20) b2 159 (warr (wl bs 64)) _ (H.ev rfl) (H.ev rfl) k2 s159' (by rw [warr_size, warr_size, wl_len]; rfl) (warr_one _) fun w' hb ho kq => ?_; clear k2; have k2 := kq; replace ks := block_same ks (ho _ (by omega)); replace k0 := block_same k0 (ho _ (by omega)); replace k1 := block_same k1 (ho _ (by omega)); replace hall := grown_store hall hb ho (.inr g2); clear hb ho kq; refine kl0 H fun a H => ?_
 refine zA (zB (zC (zC (zD ?_))))
 refine op_load 159 (.tmp 6) b2 159 (warr (wl bs 64)) _ (H.ev rfl) k2 U159 rfl s159' ?_; clear k2; refine kl H rfl fun a H => ?_
 refine kR 1 H rfl fun a H => ?_
 refine zA (zB ?_)
 refine wp_block ?_
 refine wp_loop (Bk1 w sb S bs b0 b1) (fun a _ => 64 - (intOf (a.eval (.tmp 22))).toNat) ⟨0, H.pick [0, 4, 5, 21, 22], by omega, ks, k0, k1, hall⟩ ?_
 clear H hall k0 k1 ks
 rintro a w' ⟨i, H, hi, ks, k0, k1, hall⟩
 have H0 := H
 by_cases hlt : i < 64
 ·
  obtain ⟨va, vb, vc, vd, ve, vf, vg, vh, hrn⟩ := eight (rndN_len hS8 bs i)
  obtain ⟨x, hx⟩ : ∃ x, (wl bs 64)[i]? = some x := ⟨_, List.getElem?_eq_getElem (by rw [wl_len]; exact hlt)⟩
  obtain ⟨kk, hk⟩ : ∃ kk, KC[i]? = some kk := ⟨_, List.getElem?_eq_getElem hlt⟩
  rw [hrn] at ks
  have HRN := Lib.hid hrn
  have HX := Lib.hid hx
  have HK := Lib.hid hk
  clear hrn hx hk
  have H := H0
  refine zC (zD ?_)
  refine kV H (r_lt U3 (H.ev rfl) evc (dec_t (by omega))) rfl fun a H => ?_
  refine zA (zB (zC (zH H rfl (zE (zB (zC ?_))))))
  refine wp_block ?_
  refine zC (zD ?_)
  refine kR 1 H rfl fun a H => ?_
  refine kV (v := u32v (x)) H (r_index U159 U133 s133 (H.ev rfl) (H.ev rfl) hlt HX.out) rfl fun a H => ?_
  refine kR 2 H rfl fun a H => ?_
  refine zA (zB (zC ?_))
  have hall5 := hall
  have hS : BelowOf (GrownTo hall5) _ := Below.drew (Below.refl _ (GrownTo hall5))
  refine region_tree (BelowOf (GrownTo hall5)) 10 (.fl 0 (.fl 1 (.fl 2 (.fl 3 (.fl 4 (.fl 5 (.fl 6 (.fl 7 (.fl 8 (.fl 9 .done)))))))))) (by kernel_rfl) (by kernel_rfl) rfl (by kernel_rfl) hS ?_
  refine kQ 2 H rfl fun a H => ?_
  refine kF H rfl rfl (fun w' hS' => r_ixa (j := 0) (q := 0) U141 s133 (H.ev rfl) evc (by omega) (by omega)) rfl fun a H => ?_
  refine kF H rfl rfl (fun w' hS' => r_ld U133 rfl (H.ev rfl) (warr_cell (Block.ups ks hS') rfl)) rfl fun a H => ?_
  refine kQ 2 H rfl fun a H => ?_
  refine kF H rfl rfl (fun w' hS' => r_ixa (j := 4) (q := 4) U141 s133 (H.ev rfl) evc (by omega) (by omega)) rfl fun a H => ?_
  refine kF H rfl rfl (fun w' hS' => r_ld U133 rfl (H.ev rfl) (warr_cell (Block.ups ks hS') rfl)) rfl fun a H => ?_
  refine kQ 2 H rfl fun a H => ?_
  refine pt_done (NoPanic.normal ?_)
  replace ks := Block.ups ks hS
  replace k0 := Block.ups k0 hS
  replace k1 := Block.ups k1 hS
  replace hall := grown_below hall hS
  clear hS
  refine zB (zC ?_)
  have hall6 := hall
  have hS : BelowOf (GrownTo hall6) _ := Below.drew (Below.refl _ (GrownTo hall6))
  refine region_tree (BelowOf (GrownTo hall6)) 37 (.fl 0 (.fl 1 (.fl 2 (.fl 3 (.fl 4 (.fl 6 (.fl 9 (.fl 13 (.fl 14 (.fl 15 (.fl 16 (.fl 17 (.fl 18 (.fl 19 (.fl 20 (.fl 21 (.fl 22 (.fl 23 (.fl 24 (.fl 25 (.fl 26 (.fl 27 (.fl 28 (.fl 30 (.fl 31 (.fl 32 (.fl 34 (.one 5 (.one 7 (.fl 8 (.one 10 (.fl 11 (.fl 12 (.fl 29 (.fl 33 (.fl 35 (.fl 36 .done))))))))))))))))))))))))))))))))))))) (by kernel_rfl) (by kernel_rfl) rfl (by kernel_rfl) hS ?_
  refine kQ 2 H rfl fun a H => ?_
  refine kF H rfl rfl (fun w' hS' => r_ixa (j := 7) (q := 7) U141 s133 (H.ev rfl) evc (by omega) (by omega)) rfl fun a H => ?_
  refine kF H rfl rfl (fun w' hS' => r_ld U133 rfl (H.ev rfl) (warr_cell (Block.ups ks hS') rfl)) rfl fun a H => ?_
  refine kQ 5 H rfl fun a H => ?_
  refine kF H rfl rfl (fun w' hS' => r_ixa (j := 6) (q := 6) U141 s133 (H.ev rfl) evc (by omega) (by omega)) rfl fun a H => ?_
  refine kF H rfl rfl (fun w' hS' => r_ld U133 rfl (H.ev rfl) (warr_cell (Block.ups ks hS') rfl)) rfl fun a H => ?_
  refine kQ 3 H rfl fun a H => ?_
  refine kF H rfl rfl (fun w' hS' => r_ixa (j := 5) (q := 5) U141 s133 (H.ev rfl) evc (by omega) (by omega)) rfl fun a H => ?_
  refine kF H rfl rfl (fun w' hS' => r_ld U133 rfl (H.ev rfl) (warr_cell (Block.ups ks hS') rfl)) rfl fun a H => ?_
  refine kQ 2 H rfl fun a H => ?_
  refine kF H rfl rfl (fun w' hS' => r_ixa (j := 6) (q := 6) U141 s133 (H.ev rfl) evc (by omega) (by omega)) rfl fun a H => ?_
  refine kF H rfl rfl (fun w' hS' => r_ld U133 rfl (H.ev rfl) (warr_cell (Block.ups ks hS') rfl)) rfl fun a H => ?_
  refine kF H rfl rfl (fun w' hS' => r_xor32 U133 (H.ev rfl) (H.ev rfl)) rfl fun a H => ?_
  refine kF H rfl rfl (fun w' hS' => r_and32 U133 (H.ev rfl) (H.ev rfl)) rfl fun a H => ?_
  refine kF H rfl rfl (fun w' hS' => r_xor32 U133 (H.ev rfl) (H.ev rfl)) rfl fun a H => ?_
  refine kQ 1 H rfl fun a H => ?_
  refine kF H rfl rfl (fun w' hS' => r_ixa (j := i) (q := i) U159 s133 (H.ev rfl) (H.ev rfl) (by omega) (by omega)) rfl fun a H => ?_
  refine kF H rfl rfl (fun w' hS' => r_ld U133 rfl (H.ev rfl) (warr_cell (Block.ups k1 hS') HK.out)) rfl fun a H => ?_
  refine kQ 1 H rfl fun a H => ?_
  refine pt_one (fun K hK => ?_)
  refine st_a0 rfl ?_; refine wpo_call _ _ _ (right_lit ve 6 6 _ rfl (by omega) (by omega)) (r_call2 cf148 (H.ev rfl) evc) ?_; rintro e w9 ⟨rfl, hb⟩; refine ⟨_, rfl, ?_⟩; replace hS := Below.trans hS (Below.mono hb (Below.size hS)); clear hb; refine hK _ _ ⟨(fun _ => hS), ?_⟩; clear hK; clear K; refine kt H rfl fun a H => ?_
  refine pt_one (fun K hK => ?_)
  refine st_a0 rfl ?_; refine wpo_call _ _ _ (right_lit ve 11 11 _ rfl (by omega) (by omega)) (r_call2 cf148 (H.ev rfl) evc) ?_; rintro e w9 ⟨rfl, hb⟩; refine ⟨_, rfl, ?_⟩; replace hS := Below.trans hS (Below.mono hb (Below.size hS)); clear hb; refine hK _ _ ⟨(fun _ => hS), ?_⟩; clear hK; clear K; refine kt H rfl fun a H => ?_
  refine kF H rfl rfl (fun w' hS' => r_xor32 U133 (H.ev rfl) (H.ev rfl)) rfl fun a H => ?_
  refine pt_one (fun K hK => ?_)
  refine st_a0 rfl ?_; refine wpo_call _ _ _ (right_lit ve 25 25 _ rfl (by omega) (by omega)) (r_call2 cf148 (H.ev rfl) evc) ?_; rintro e w9 ⟨rfl, hb⟩; refine ⟨_, rfl, ?_⟩; replace hS := Below.trans hS (Below.mono hb (Below.size hS)); clear hb; refine hK _ _ ⟨(fun _ => hS), ?_⟩; clear hK; clear K; refine kt H rfl fun a H => ?_
  refine kF H rfl rfl (fun w' hS' => r_xor32 U133 (H.ev rfl) (H.ev rfl)) rfl fun a H => ?_
  refine kF H rfl rfl (fun w' hS' => r_add32 U133 (H.ev rfl) (H.ev rfl)) rfl fun a H => ?_
  refine kF H rfl rfl (fun w' hS' => r_add32 U133 (H.ev rfl) (H.ev rfl)) rfl fun a H => ?_
  refine kF H rfl rfl (fun w' hS' => r_add32 U133 (H.ev rfl) (H.ev rfl)) rfl fun a H => ?_
  refine kF H rfl rfl (fun w' hS' => r_add32 U133 (H.ev rfl) (H.ev rfl)) rfl fun a H => ?_
  refine kQ 1 H rfl fun a H => ?_
  refine pt_done (NoPanic.normal ?_)
  replace ks := Block.ups ks hS
  replace k0 := Block.ups k0 hS
  replace k1 := Block.ups k1 hS
  replace hall := grown_below hall hS
  clear hS
  refine zB (zC ?_)
  replace H : Kn _ 134 [(0, _), (4, _), (5, _), (9, _), (10, _), (11, _), (21, _), (22, _)] := H.pick [0, 4, 5, 9, 10, 11, 21, 22]
  obtain ⟨tv, htv⟩ : ∃ tv, (((vh + (((rotr ve 6) ^^^ (rotr ve 11)) ^^^ (rotr ve 25))) + (vg ^^^ (ve &&& (vf ^^^ vg)))) + kk) + x = tv := ⟨_, rfl⟩
  have HTV := Lib.hid htv
  rw [htv] at H
  clear htv
  have hall7 := hall
  have hS : BelowOf (GrownTo hall7) _ := Below.drew (Below.refl _ (GrownTo hall7))
  refine region_tree (BelowOf (GrownTo hall7)) 28 (.fl 0 (.fl 2 (.fl 5 (.fl 8 (.fl 9 (.fl 10 (.fl 11 (.fl 12 (.fl 13 (.fl 14 (.fl 15 (.fl 16 (.fl 17 (.fl 18 (.fl 19 (.fl 20 (.fl 21 (.fl 22 (.fl 23 (.fl 24 (.fl 25 (.one 1 (.one 3 (.fl 4 (.one 6 (.fl 7 (.fl 26 (.fl 27 .done)))))))))))))))))))))))))))) (by kernel_rfl) (by kernel_rfl) rfl (by kernel_rfl) hS ?_
  refine kQ 6 H rfl fun a H => ?_
  refine kF H rfl rfl (fun w' hS' => r_ixa (j := 1) (q := 1) U141 s133 (H.ev rfl) evc (by omega) (by omega)) rfl fun a H => ?_
  refine kF H rfl rfl (fun w' hS' => r_ld U133 rfl (H.ev rfl) (warr_cell (Block.ups ks hS') rfl)) rfl fun a H => ?_
  refine kF H rfl rfl (fun w' hS' => r_and32 U133 (H.ev rfl) (H.ev rfl)) rfl fun a H => ?_
  refine kQ 2 H rfl fun a H => ?_
  refine kF H rfl rfl (fun w' hS' => r_ixa (j := 2) (q := 2) U141 s133 (H.ev rfl) evc (by omega) (by omega)) rfl fun a H => ?_
  refine kF H rfl rfl (fun w' hS' => r_ld U133 rfl (H.ev rfl) (warr_cell (Block.ups ks hS') rfl)) rfl fun a H => ?_
  refine kQ 3 H rfl fun a H => ?_
  refine kF H rfl rfl (fun w' hS' => r_ixa (j := 1) (q := 1) U141 s133 (H.ev rfl) evc (by omega) (by omega)) rfl fun a H => ?_
  refine kF H rfl rfl (fun w' hS' => r_ld U133 rfl (H.ev rfl) (warr_cell (Block.ups ks hS') rfl)) rfl fun a H => ?_
  refine kF H rfl rfl (fun w' hS' => r_or32 U133 (H.ev rfl) (H.ev rfl)) rfl fun a H => ?_
  refine kF H rfl rfl (fun w' hS' => r_and32 U133 (H.ev rfl) (H.ev rfl)) rfl fun a H => ?_
  refine kF H rfl rfl (fun w' hS' => r_or32 U133 (H.ev rfl) (H.ev rfl)) rfl fun a H => ?_
  refine pt_one (fun K hK => ?_)
  refine st_a0 rfl ?_; refine wpo_call _ _ _ (right_lit va 2 2 _ rfl (by omega) (by omega)) (r_call2 cf148 (H.ev rfl) evc) ?_; rintro e w9 ⟨rfl, hb⟩; refine ⟨_, rfl, ?_⟩; replace hS := Below.trans hS (Below.mono hb (Below.size hS)); clear hb; refine hK _ _ ⟨(fun _ => hS), ?_⟩; clear hK; clear K; refine kt H rfl fun a H => ?_
  refine pt_one (fun K hK => ?_)
  refine st_a0 rfl ?_; refine wpo_call _ _ _ (right_lit va 13 13 _ rfl (by omega) (by omega)) (r_call2 cf148 (H.ev rfl) evc) ?_; rintro e w9 ⟨rfl, hb⟩; refine ⟨_, rfl, ?_⟩; replace hS := Below.trans hS (Below.mono hb (Below.size hS)); clear hb; refine hK _ _ ⟨(fun _ => hS), ?_⟩; clear hK; clear K; refine kt H rfl fun a H => ?_
  refine kF H rfl rfl (fun w' hS' => r_xor32 U133 (H.ev rfl) (H.ev rfl)) rfl fun a H => ?_
  refine pt_one (fun K hK => ?_)
  refine st_a0 rfl ?_; refine wpo_call _ _ _ (right_lit va 22 22 _ rfl (by omega) (by omega)) (r_call2 cf148 (H.ev rfl) evc) ?_; rintro e w9 ⟨rfl, hb⟩; refine ⟨_, rfl, ?_⟩; replace hS := Below.trans hS (Below.mono hb (Below.size hS)); clear hb; refine hK _ _ ⟨(fun _ => hS), ?_⟩; clear hK; clear K; refine kt H rfl fun a H => ?_
  refine kF H rfl rfl (fun w' hS' => r_xor32 U133 (H.ev rfl) (H.ev rfl)) rfl fun a H => ?_
  refine kF H rfl rfl (fun w' hS' => r_add32 U133 (H.ev rfl) (H.ev rfl)) rfl fun a H => ?_
  refine kQ 1 H rfl fun a H => ?_
  refine pt_done (NoPanic.normal ?_)
  replace ks := Block.ups ks hS
  replace k0 := Block.ups k0 hS
  replace k1 := Block.ups k1 hS
  replace hall := grown_below hall hS
  clear hS
  refine zB (zC ?_)
  replace H : Kn _ 134 [(0, _), (4, _), (5, _), (11, _), (12, _), (21, _), (22, _)] := H.pick [0, 4, 5, 11, 12, 21, 22]
  obtain ⟨uv, huv⟩ : ∃ uv, (((rotr va 2) ^^^ (rotr va 13)) ^^^ (rotr va 22)) + ((va &&& vb) ||| (vc &&& (va ||| vb))) = uv := ⟨_, rfl⟩
  have HUV := Lib.hid huv
  rw [huv] at H
  clear huv
  have hall8 := hall
  have hS : BelowOf (GrownTo hall8) _ := Below.drew (Below.refl _ (GrownTo hall8))
  refine region_tree (BelowOf (GrownTo hall8)) 6 (.fl 0 (.fl 1 (.fl 2 (.fl 3 (.fl 4 (.fl 5 (.one 6 .done))))))) (by kernel_rfl) (by kernel_rfl) rfl (by kernel_rfl) hS ?_
  refine kQ 2 H rfl fun a H => ?_
  refine kF (v := .slice (some ⟨sb, 1, none⟩) 7 7) H rfl rfl (fun w' hS' => r_slice_low (b := sb) (o := 0) U141 s133 (H.ev rfl) (by omega)) rfl fun a H => ?_
  refine kQ 2 H rfl fun a H => ?_
  refine kF (v := .slice (some ⟨sb, 0, none⟩) 7 8) H rfl rfl (fun w' hS' => r_slice_high (b := sb) (o := 0) U141 s133 (H.ev rfl) (by omega)) rfl fun a H => ?_
  refine pt_one (fun K hK => ?_)
  replace ks := Block.ups ks hS
  replace k0 := Block.ups k0 hS
  replace k1 := Block.ups k1 hS
  replace hall := grown_below hall hS
  refine st_a0 rfl ?_; refine wpo_row _ sb 141 (warr [va, vb, vc, vd, ve, vf, vg, vh]) _ ks (run_b2 (.slice (some ⟨sb, 1, none⟩) 7 7) (.slice (some ⟨sb, 0, none⟩) 7 8) (H.ev rfl) (H.ev rfl) (b_copy (run_copy_blk _ _ _ _ 133 1 U143 s133 (by omega) sb 1 7 7 _ 141 ks (some ⟨sb, 0, none⟩) 7 8 ([va, vb, vc, vd, ve, vf, vg].map u32v) rfl (warr_holds ks 7) (u32s_one _) (by simp [warr])))) fun w7 kq hb7 ho7 => ?_; clear ks; have ks : Block _ sb 141 (warr [va, va, vb, vc, vd, ve, vf, vg]) := kq; replace k0 := block_same k0 (ho7 _ (by omega)); replace k1 := block_same k1 (ho7 _ (by omega)); replace hall := grown_store hall hb7 ho7 (.inl rfl); clear hb7 ho7 kq; refine hK _ _ ⟨(fun h => absurd rfl h), ?_⟩; clear hK; clear K; clear hS; refine kt H rfl fun a H => ?_
  refine pt_done (NoPanic.normal ?_)
  refine zB (zC ?_)
  have hall9 := hall
  have hS : BelowOf (GrownTo hall9) _ := Below.drew (Below.refl _ (GrownTo hall9))
  refine region_tree (BelowOf (GrownTo hall9)) 8 (.fl 0 (.fl 1 (.fl 2 (.fl 3 (.fl 4 (.fl 5 (.fl 6 (.fl 7 (.one 8 .done))))))))) (by kernel_rfl) (by kernel_rfl) rfl (by kernel_rfl) hS ?_
  refine kQ 2 H rfl fun a H => ?_
  refine kF H rfl rfl (fun w' hS' => r_ixa (j := 4) (q := 4) U141 s133 (H.ev rfl) evc (by omega) (by omega)) rfl fun a H => ?_
  refine kF H rfl rfl (fun w' hS' => r_ld U133 rfl (H.ev rfl) (warr_cell (Block.ups ks hS') rfl)) rfl fun a H => ?_
  refine kQ 1 H rfl fun a H => ?_
  refine kF H rfl rfl (fun w' hS' => r_add32 U133 (H.ev rfl) (H.ev rfl)) rfl fun a H => ?_
  refine kQ 1 H rfl fun a H => ?_
  refine kF H rfl rfl (fun w' hS' => r_ixa (j := 4) (q := 4) U141 s133 (H.ev rfl) evc (by omega) (by omega)) rfl fun a H => ?_
  refine pt_one (fun K hK => ?_)
  replace ks := Block.ups ks hS
  replace k0 := Block.ups k0 hS
  replace k1 := Block.ups k1 hS
  replace hall := grown_below hall hS
  refine st_a0 rfl ?_; refine wpo_store1 133 (.tmp 111) (.tmp 109) sb 4 141 (u32v (vd + tv)) _ (H.ev rfl) (H.ev rfl) ks s133 (by show 4 + 1 ≤ (warr _).size; rw [warr_size]; simp) (u32_one _) fun w7 hb7 ho7 kq => ?_; clear ks; have ks : Block _ sb 141 (warr [va, va, vb, vc, vd + tv, ve, vf, vg]) := warr_set kq; replace k0 := block_same k0 (ho7 _ (by omega)); replace k1 := block_same k1 (ho7 _ (by omega)); replace hall := grown_store hall hb7 ho7 (.inl rfl); clear hb7 ho7 kq; refine hK _ _ ⟨(fun h => absurd rfl h), ?_⟩; clear hK; clear K; clear hS; skip
  refine pt_done (NoPanic.normal ?_)
  refine zB (zD ?_)
  refine kR 3 H rfl fun a H => ?_
  refine kV H (r_add32 U133 (H.ev rfl) (H.ev rfl)) rfl fun a H => ?_
  refine kR 1 H rfl fun a H => ?_
  refine kV H (r_ixa (j := 0) (q := 0) U141 s133 (H.ev rfl) evc (by omega) (by omega)) rfl fun a H => ?_
  refine op_store1 133 (.tmp 117) (.tmp 115) sb 0 141 (u32v (tv + uv)) _ (H.ev rfl) (H.ev rfl) ks s133 (by show 0 + 1 ≤ (warr _).size; rw [warr_size]; simp) (u32_one _) fun w7 hb7 ho7 kq => ?_; clear ks; have ks : Block _ sb 141 (warr [tv + uv, va, vb, vc, vd + tv, ve, vf, vg]) := warr_set kq; replace k0 := block_same k0 (ho7 _ (by omega)); replace k1 := block_same k1 (ho7 _ (by omega)); replace hall := grown_store hall hb7 ho7 (.inl rfl); clear hb7 ho7 kq; refine kl0 H fun a H => ?_
  refine zA (n_block (zB (zD ?_)))
  refine kV H (r_add (q := ((i + 1 : Nat) : Int)) U3 (H.ev rfl) evc (by omega) (by omega)) rfl fun a H => ?_
  refine kR 1 H rfl fun a H => ?_
  refine zA ?_
  refine zI ⟨⟨i + 1, H.pick [0, 4, 5, 21, 22], by omega, by rw [rnd_next HRN.out HX.out HK.out HTV.out HUV.out]; exact ks, k0, k1, hall⟩, ?_⟩
  rw [H.ev (j := 22) rfl, H0.ev (j := 22) rfl]
  simp only [intOf]
  omega
 ·
  obtain rfl : i = 64 := by omega
  clear k1
  refine zC (zD ?_)
  refine kV H (r_lt U3 (H.ev rfl) evc (dec_f (by omega))) rfl fun a H => ?_
  refine zA (zB (zC (zG H rfl (wp_exit (e_then (e_then ?_))))))
  refine e_here ?_
  refine zB (zC (zD ?_))
  refine op_load 141 (.tmp 4) b0 141 (warr S) _ (H.ev rfl) k0 U141 rfl (s8' hS8) ?_; clear k0; refine kl H rfl fun a H => ?_
  refine kR 1 H rfl fun a H => ?_
  refine zA (zB ?_)
  refine wp_block ?_
  rw [← add8_zero S (rndN S bs 64)] at ks
  refine wp_loop (Bk2 w sb S bs) (fun a _ => 8 - (intOf (a.eval (.tmp 120))).toNat) ⟨0, H.pick [0, 119, 120], by omega, ks, hall⟩ ?_
  clear H hall ks
  rintro a w' ⟨i, H, hi, ks, hall⟩
  have H1 := H
  by_cases hlj : i < 8
  ·
   obtain ⟨x, hx⟩ : ∃ x, S[i]? = some x := ⟨_, List.getElem?_eq_getElem (by omega)⟩
   obtain ⟨r, hr⟩ : ∃ r, (rndN S bs 64)[i]? = some r := ⟨_, List.getElem?_eq_getElem (by rw [rndN_len hS8]; omega)⟩
   have HX := Lib.hid hx
   have HR := Lib.hid hr
   rw [add8_mid hr] at ks
   clear hx hr
   have H := H1
   refine zC (zD ?_)
   refine kV H (r_lt U3 (H.ev rfl) evc (dec_t (by omega))) rfl fun a H => ?_
   refine zA (zB (zC (zH H rfl (zE (zB (zC ?_))))))
   refine wp_block ?_
   refine zC (zD ?_)
   refine kR 1 H rfl fun a H => ?_
   refine kV (v := u32v (x)) H (r_index U141 U133 s133 (H.ev rfl) (H.ev rfl) hlj HX.out) rfl fun a H => ?_
   refine kR 2 H rfl fun a H => ?_
   refine zA (zB ?_)
   have hall15 := hall
   have hS : BelowOf (GrownTo hall15) _ := Below.drew (Below.refl _ (GrownTo hall15))
   refine region_tree (BelowOf (GrownTo hall15)) 9 (.fl 0 (.fl 1 (.fl 2 (.fl 3 (.fl 4 (.fl 5 (.fl 6 (.fl 7 (.fl 8 (.one 9 .done)))))))))) (by kernel_rfl) (by kernel_rfl) rfl (by kernel_rfl) hS ?_
   refine kQ 3 H rfl fun a H => ?_
   refine kF H rfl rfl (fun w' hS' => r_ixa (j := i) (q := i) U141 s133 (H.ev rfl) (H.ev rfl) (by omega) (by omega)) rfl fun a H => ?_
   refine kF H rfl rfl (fun w' hS' => r_ld U133 rfl (H.ev rfl) (warr_cell (Block.ups ks hS') (mid_here (add8_len hS8 hi)))) rfl fun a H => ?_
   refine kQ 1 H rfl fun a H => ?_
   refine kF H rfl rfl (fun w' hS' => r_add32 U133 (H.ev rfl) (H.ev rfl)) rfl fun a H => ?_
   refine kQ 1 H rfl fun a H => ?_
   refine kF H rfl rfl (fun w' hS' => r_ixa (j := i) (q := i) U141 s133 (H.ev rfl) (H.ev rfl) (by omega) (by omega)) rfl fun a H => ?_
   refine pt_one (fun K hK => ?_)
   replace ks := Block.ups ks hS
   replace hall := grown_below hall hS
   refine st_a0 rfl ?_; refine wpo_store1 133 (.tmp 132) (.tmp 130) sb i 141 (u32v (r + x)) _ (H.ev rfl) (H.ev rfl) ks s133 (add8_fit hS8 hi HR.out) (u32_one _) fun w7 hb7 ho7 kq => ?_; clear ks; have ks := warr_set kq; rw [mid_set (add8_len hS8 hi), add8_next hS8 HX.out HR.out] at ks; replace hall := grown_store hall hb7 ho7 (.inl rfl); clear hb7 ho7 kq; refine hK _ _ ⟨(fun h => absurd rfl h), ?_⟩; clear hK; clear K; clear hS; skip
   refine pt_done (NoPanic.normal ?_)
   refine n_block (zB (zD ?_))
   refine kV H (r_add (q := ((i + 1 : Nat) : Int)) U3 (H.ev rfl) evc (by omega) (by omega)) rfl fun a H => ?_
   refine kR 1 H rfl fun a H => ?_
   refine zA ?_
   refine zI ⟨⟨i + 1, H.pick [0, 119, 120], by omega, ks, hall⟩, ?_⟩
   rw [H.ev (j := 120) rfl, H1.ev (j := 120) rfl]
   simp only [intOf]
   omega
  ·
   obtain rfl : i = 8 := by omega
   refine zC (zD ?_)
   refine kV H (r_lt U3 (H.ev rfl) evc (dec_f (by omega))) rfl fun a H => ?_
   refine zA (zB (zC (zG H rfl (wp_exit (e_then (e_then ?_))))))
   refine e_here ?_
   exact k_end0 H rfl ⟨rfl, by rw [← add8_full hS8 bs]; exact ks, hall⟩
section
/-- a slice of bytes in memory of the call's own -/
abbrev BOwn (w : World) (base : Nat) (v : Value) (bs : List B8) : Prop := w.ownsRow base 5 1 v bs.length (bs.map u8v)
theorem bown_app {w : World} {B : Nat} {v : Value} {bs cs : List B8} (h : w.ownsRow B 5 1 v (bs.length + cs.length) (bs.map u8v ++ cs.map u8v)) : BOwn w B v (bs ++ cs) := by
 unfold BOwn
 rw [List.length_append, List.map_append]
 exact h
theorem own_sliceB {w : World} {B e size n : Nat} {v : Value} {xs : List Value} (h : w.ownsRow B e size v n xs) : ∃ A c, v = .slice A n c := by
 obtain ⟨_, ⟨rfl, rfl⟩ | ⟨g, cap, cur, rfl, _⟩⟩ := h
 · exact ⟨none, 0, rfl⟩
 · exact ⟨_, cap, rfl⟩
theorem BOwn.row {w : World} {base : Nat} {v : Value} {bs : List B8} (h : BOwn w base v bs) : BRow w v bs := by
 obtain ⟨A, c, rfl, hh, h1, h2⟩ := own_slice h
 refine ⟨A, c, rfl, h1, h2, fun e => ?_, hh⟩
 subst e
 rcases h.2 with ⟨e, _⟩ | ⟨g, cap, cur, e, _⟩
 · injection e
 · cases e
/-- a slice of slices of bytes -/
def PRow (w : World) (v : Value) (ps : List (Value × List B8)) : Prop := (∃ A c, v = .slice A ps.length c ∧ ps.length ≤ c ∧ c ≤ maxLen ∧ (A = none → c = 0) ∧ Holds w A (ps.map (·.1))) ∧ ∀ p ∈ ps, BRow w p.1 p.2
theorem PRow.up {w w' : World} {v : Value} {ps : List (Value × List B8)} (h : PRow w v ps) (hb : Below w.heap.size w w') : PRow w' v ps := by
 obtain ⟨⟨A, c, a1, a2, a3, a4, a5⟩, h2⟩ := h
 exact ⟨⟨A, c, a1, a2, a3, a4, a5.up hb⟩, fun p hp => (h2 p hp).up hb⟩
theorem prow_at {w : World} {A : Option Addr} {c k : Nat} {ps : List (Value × List B8)} (h : PRow w (.slice A ps.length c) ps) (hk : k < ps.length) : ∃ b o, A = some ⟨b, o, none⟩ ∧ ∀ p, ps[k]? = some p → w.cell? ⟨b, o + k, none⟩ = some p.1 := by
 obtain ⟨⟨A', c', e, _, _, _, hh⟩, _⟩ := h
 injection e with e1 e2 e3
 subst e1
 obtain ⟨b, o, he, hc⟩ := hh k (by simpa using hk)
 refine ⟨b, o, he, fun p hp => ?_⟩
 rw [hc]
 simp [hp]
theorem holds_cellup {w w' : World} {b o : Nat} {v : Value} (h : w.cell? ⟨b, o, none⟩ = some v) (hb : Below w.heap.size w w') : w'.cell? ⟨b, o, none⟩ = some v := cell_ups h hb
def tot (ps : List (Value × List B8)) : Nat := (ps.map fun p => p.2.length).sum
def cat (ps : List (Value × List B8)) : List B8 := ps.flatMap (·.2)
theorem tot_next {ps : List (Value × List B8)} {k : Nat} {p : Value × List B8} (h : ps[k]? = some p) : tot (ps.take (k + 1)) = tot (ps.take k) + p.2.length := by
 obtain ⟨hk, rfl⟩ := List.getElem?_eq_some_iff.1 h
 unfold tot
 rw [List.take_succ_eq_append_getElem hk, List.map_append, List.sum_append]
 simp
theorem cat_next {ps : List (Value × List B8)} {k : Nat} {p : Value × List B8} (h : ps[k]? = some p) : cat (ps.take (k + 1)) = cat (ps.take k) ++ p.2 := by
 obtain ⟨hk, rfl⟩ := List.getElem?_eq_some_iff.1 h
 unfold cat
 rw [List.take_succ_eq_append_getElem hk, List.flatMap_append]
 simp
theorem tot_len : ∀ ps : List (Value × List B8), (cat ps).length = tot ps
 | [] => rfl
 | p :: ps => by
  have := tot_len ps
  unfold cat tot at *
  simp only [List.flatMap_cons, List.length_append, List.map_cons, List.sum_cons, this]
theorem tot_split (ps : List (Value × List B8)) (k : Nat) : tot ps = tot (ps.take k) + tot (ps.drop k) := by
 unfold tot
 rw [← List.sum_append, ← List.map_append, List.take_append_drop]
theorem tot_le {ps : List (Value × List B8)} {k : Nat} {p : Value × List B8} (h : ps[k]? = some p) : tot (ps.take k) + p.2.length ≤ tot ps := by
 rw [← tot_next h, tot_split ps (k + 1)]
 exact Nat.le_add_right _ _
theorem u8s_one (l : List B8) : ∀ u ∈ l.map u8v, u.oneCell' = true := fun u hu => by
 obtain ⟨x, _, rfl⟩ := List.mem_map.1 hu
 rfl
section
variable {P : Program} {ops : Array Oper} {rest : List Oper} {d : Option Tmp} {tt : TypeId} {ps : String} {af : Array Edge} {gd : Option (Nat × Bool)} {a : Act} {w : World} {Q : Exit → Act → World → Prop}
theorem r_cap0 {T E : TypeId} (hT : P.underlying T = some (.slice E)) {x : Operand} {A : Option Addr} {n : Nat} (hx : a.eval x = .slice A n 0) : (execOp a.eval ⟨d, .call { callee := .builtin .cap, args := #[x], argTypes := #[T] }, tt, ps, af, gd⟩).run P w = .ok (.value (.int .i64 0)) w := by
 unfold execOp
 simp [resolve, invoke, hx, builtin, Builtin.cap_, run_underlying hT, goInt]
theorem r_len0 {T E : TypeId} (hT : P.underlying T = some (.slice E)) {x : Operand} {A : Option Addr} {c : Nat} (hx : a.eval x = .slice A 0 c) : (execOp a.eval ⟨d, .call { callee := .builtin .len, args := #[x], argTypes := #[T] }, tt, ps, af, gd⟩).run P w = .ok (.value (.int .i64 0)) w := r_len hT hx
theorem run_append_zeros (w : World) (t u ty e : TypeId) (i : TypeInfo) (z : Value) (ht : P.underlying t = some (.slice e)) (hu : P.underlying u = some (.int .i64)) (hi : P.info? e = some i) (hz : i.zero = some z) (hsz : i.size = 1) (hby : i.bytes = 1) (n : Nat) (h0 : 0 < n) (hn : n ≤ 1000000) :
  (Builtin.append_ #[t, u] ty #[.slice none 0 0, .int .i64 (n : Nat)]).run P w = .ok (.slice (some ⟨w.heap.size, 0, none⟩) n (grownCap w n 0 e)) (w.drew.alloc (.cells (Builtin.zeroCells z.cells n ++ Builtin.zeroCells z.cells (grownCap w n 0 e - n)) e)) := by
 have h1 : n ≠ 0 := by omega
 have h63' : ¬ (9223372036854775807 < (n : Int)) := by omega
 have h48' : ¬ (281474976710656 < Builtin.nextslicecap n 0) := by rw [nextslicecap_zero h0]; omega
 have hw : IntKind.i64.wrap (n : Int) = (n : Int) := IntWalk.i64_in _ (by omega)
 have hneg : ¬ ((n : Int) < 0) := by omega
 have h3 : ¬ (281474976710656 < (n : Int)) := by omega
 simp [Builtin.append_, run_underlying ht, run_underlying hu, sizeOf, typeInfo, zeroValue, hi, hz, hsz, hby, asInt, asIntOf, hw, hneg, h3, h1, h63', h48', Question.forced, run_firstCells_none, newRow, grownCap, Builtin.firstCells]
theorem op_append_zeros (t u e : TypeId) (s x : Operand) (n : Nat) (ht : P.underlying t = some (.slice e)) (hu : P.underlying u = some (.int .i64)) (hi : (P.info? e).map (fun i => (i.zero, i.size, i.bytes)) = some (some (.int .u8 0), 1, 1))
  (hs : a.eval s = .slice none 0 0) (hx : a.eval x = .int .i64 (n : Nat)) (h0 : 0 < n) (hn : n ≤ 1000000)
  (h : ∀ g cap w' cur, w.heap.size ≤ g → Below w.heap.size w w' → w'.heap[g]? = some (.cells cur e (0, 0)) → n ≤ cap → cap ≤ maxLen → cur.size = cap → wpList P ops Q rest (a.put d (.slice (some ⟨g, 0, none⟩) n cap)) w') :
  wpList P ops Q (⟨d, .call { callee := .builtin .append, args := #[s, x], argTypes := #[t, u] }, tt, ps, af, none⟩ :: rest) a w :=
 wpList_plain rfl fun _ hK => by
  cases hq : P.info? e with
  | none => simp [hq] at hi
  | some i =>
   have hi' : i.zero = some (.int .u8 0) ∧ i.size = 1 ∧ i.bytes = 1 := by simpa [hq] using hi
   have hrun := run_append_zeros (P := P) w t u tt e i _ ht hu hq hi'.1 hi'.2.1 hi'.2.2 n h0 hn
   unfold Oper.wp execOp
   simp only [resolve, invoke, builtin, Sem.run_bind, Sem.run_pure, Result.andThen_ok, List.map_toArray, List.map_cons, List.map_nil, hs, hx, hrun]
   refine hK _ _ (h w.heap.size _ _ _ (Nat.le_refl _) ?_ (heap_alloc_new w.drew _) (grownCap_ge w n 0 e) (grownCap_le_maxLen w n 0 e (by unfold maxLen; omega)) ?_)
   · exact ((Below.refl _ _).drew).alloc (Nat.le_refl _) _
   ·
    have := grownCap_ge w n 0 e
    simp [Builtin.zeroCells, Value.cells]
    omega
end
theorem grow_any (w : World) (n : Nat) (hn : n ≤ 1000000) :
  Calls Tryz.prog 145 #[.slice none 0 0, .int .i64 (n : Nat)] w fun e w' => (∃ A c, e = .returned (.slice A 0 c) ∧ w'.ownsRow w.heap.size 5 1 (.slice A 0 c) 0 []) ∧ Below w.heap.size w w' := by
 have hall := Below.refl w.heap.size w
 refine K_enter 27 Tryz.func145 rfl rfl fun a H => ?_
 replace H := H.pick [0, 1]
 refine zC (zD ?_)
 refine kR 1 H rfl fun a H => ?_
 refine zA (zB (zC (zC (zD ?_))))
 refine kR 1 H rfl fun a H => ?_
 refine kV H (r_lt U3 (H.ev rfl) evc (dec_f (by omega))) rfl fun a H => ?_
 refine zA (zB (zG H rfl (zE (zB (zC (zC (zD ?_)))))))
 refine kR 2 H rfl fun a H => ?_
 refine kV (v := .int .i64 0) H (r_cap0 U30 (H.ev rfl)) rfl fun a H => ?_
 refine kR 1 H rfl fun a H => ?_
 refine kV (v := .int .i64 0) H (r_len0 U30 (H.ev rfl)) rfl fun a H => ?_
 refine kV (v := .int .i64 0) H (r_sub (q := (0 : Int)) U3 (H.ev rfl) (H.ev rfl) (by omega) (by omega)) rfl fun a H => ?_
 refine kV (v := .int .i64 (n : Nat)) H (r_sub (q := ((n : Nat) : Int)) U3 (H.ev rfl) (H.ev rfl) (by omega) (by omega)) rfl fun a H => ?_
 refine kR 1 H rfl fun a H => ?_
 refine zA (zB (zC (zD ?_)))
 refine kR 1 H rfl fun a H => ?_
 by_cases hcc0 : ((n : Nat) : Int) > 0
 ·
  refine kV H (r_gt U3 (H.ev rfl) evc (dec_t (hcc0))) rfl fun a H => ?_
  refine zA (zB (zH H rfl (zD ?_)))
  refine kR 2 H rfl fun a H => ?_
  refine kV (v := .int .i64 0) H (r_cap0 U30 (H.ev rfl)) rfl fun a H => ?_
  refine kV (v := .slice none 0 0) H (run_op_slice U30 (.slice none 0 0) none (some (.int .i64 0)) none (H.ev rfl) rfl (congrArg some (H.ev rfl)) rfl (slice_any 0 0 U30 s5 _ _ (.inl ⟨rfl, rfl⟩) (.inr rfl) (by omega) (by omega) (by simp [slAt]) rfl rfl)) rfl fun a H => ?_
  refine kR 1 H rfl fun a H => ?_
  refine op_append_zeros 30 3 5 (.tmp 20) (.tmp 21) n U30 U3 i5 (H.ev rfl) (H.ev rfl) (by omega) (by omega) fun g cap w1 cur hg hb hk hcap hcm hcs => ?_; replace hall := hall.tr hb; clear hb; refine kl H rfl fun a H => ?_
  refine kR 1 H rfl fun a H => ?_
  refine kV (v := .int .i64 0) H (r_len0 U30 (H.ev rfl)) rfl fun a H => ?_
  refine kV (v := .slice (some ⟨g, 0, none⟩) 0 cap) H (run_op_slice U30 (.slice (some ⟨g, 0, none⟩) n cap) none (some (.int .i64 0)) none (H.ev rfl) rfl (congrArg some (H.ev rfl)) rfl (slice_any 0 0 U30 s5 _ _ (.inl ⟨rfl, rfl⟩) (.inr rfl) (by omega) (by omega) (by simp [slAt, add_flat]) rfl rfl)) rfl fun a H => ?_
  refine kR 1 H rfl fun a H => ?_
  refine zA (zB (zC (zD ?_)))
  refine kR 2 H rfl fun a H => ?_
  refine zA (zB (zF ?_))
  exact k_ret1 H rfl rfl ⟨⟨_, _, rfl, by simp, .inr ⟨g, cap, cur, rfl, hg, hk, Nat.zero_le _, hcm, by rw [hcs, Nat.mul_one], by simp⟩⟩, hall⟩
 ·
  refine kV H (r_gt U3 (H.ev rfl) evc (dec_f (hcc0))) rfl fun a H => ?_
  refine zA (zB (zG H rfl (zE (zB (zC (zD ?_))))))
  refine kR 2 H rfl fun a H => ?_
  refine zA (zB (zF ?_))
  exact k_ret1 H rfl rfl ⟨⟨_, _, rfl, World.ownsRow_nil _ _ _ _⟩, hall⟩
def Cc1 (W : World) (A : Option Addr) (c : Nat) (ps : List (Value × List B8)) (a : Act) (w : World) : Prop :=
 ∃ k : Nat, Kn a 36 [(0, .slice A ps.length c), (3, .int .i64 (tot (ps.take k) : Nat)), (9, .slice A ps.length c), (10, .int .i64 (ps.length : Nat)), (11, .int .i64 (k : Nat))] ∧ k ≤ ps.length ∧ Below W.heap.size W w
def Cc2 (W : World) (A : Option Addr) (c : Nat) (ps : List (Value × List B8)) (a : Act) (w : World) : Prop :=
 ∃ (k : Nat) (A1 : Option Addr) (c1 : Nat) (bs : List B8), Kn a 36 [(0, .slice A ps.length c), (6, .slice A1 bs.length c1), (25, .slice A ps.length c), (26, .int .i64 (ps.length : Nat)), (27, .int .i64 (k : Nat))] ∧ k ≤ ps.length ∧ cat (ps.take k) = bs ∧ BOwn w W.heap.size (.slice A1 bs.length c1) bs ∧ Below W.heap.size W w
set_option maxHeartbeats 4000000 in
theorem concat_any (w : World) (v : Value) (ps : List (Value × List B8)) (hp : PRow w v ps) (hn : tot ps ≤ 1000000) (hl : ps.length ≤ 1000000) :
  Calls Tryz.prog 130 #[v] w fun e w' => (∃ A c, e = .returned (.slice A (cat ps).length c) ∧ BOwn w' w.heap.size (.slice A (cat ps).length c) (cat ps)) ∧ Below w.heap.size w w' := by
 obtain ⟨⟨A, c, rfl, h1, h2, h3, hh⟩, hbr⟩ := hp
 have hp : PRow w (.slice A ps.length c) ps := ⟨⟨A, c, rfl, h1, h2, h3, hh⟩, hbr⟩
 clear hh hbr
 have hall := Below.refl w.heap.size w
 refine K_enter 36 Tryz.func130 rfl rfl fun a H => ?_
 replace H := H.pick [0]
 refine zC (zD ?_)
 refine kR 1 H rfl fun a H => ?_
 refine zA (zB (zC (zD ?_)))
 refine kR 1 H rfl fun a H => ?_
 refine zA (zB (zC (zC (zD ?_))))
 refine kR 1 H rfl fun a H => ?_
 refine kV H (r_len U29 (H.ev rfl)) rfl fun a H => ?_
 refine kR 1 H rfl fun a H => ?_
 refine zA (zB ?_)
 refine wp_block ?_
 refine wp_loop (Cc1 w A c ps) (fun a _ => ps.length - (intOf (a.eval (.tmp 11))).toNat) ⟨0, H.pick [0, 3, 9, 10, 11], by omega, hall⟩ ?_
 clear H hall
 rintro a w' ⟨k, H, hk, hall⟩
 have H0 := H
 by_cases hlt : k < ps.length
 ·
  obtain ⟨b, o, hA, hcl⟩ := prow_at hp hlt
  subst hA
  obtain ⟨p, hpk⟩ : ∃ p, ps[k]? = some p := ⟨_, List.getElem?_eq_getElem hlt⟩
  have hcl2 := hcl p hpk
  have hbr := hp.2 p (List.mem_of_getElem? hpk)
  have HP := Lib.hid hpk
  obtain ⟨Ap, cp, hpv, q1, q2, q3, q4⟩ := hbr
  have HQ := Lib.hid q4
  rw [hpv] at hcl2
  have HCL := Lib.hid hcl2
  have htl := tot_le (ps := ps) (k := k) hpk
  clear hpk hcl hcl2 q4
  have H := H0
  refine zC (zD ?_)
  refine kV H (r_lt U3 (H.ev rfl) (H.ev rfl) (dec_t (by omega))) rfl fun a H => ?_
  refine zA (zB (zC (zH H rfl (zE (zB (zC ?_))))))
  refine wp_block ?_
  refine zC (zD ?_)
  refine kV H (r_idx (j := k) (q := o + k) U29 s30 (H.ev rfl) (H.ev rfl) (by omega) (by omega)) rfl fun a H => ?_
  refine kV H (r_ld U30 rfl (H.ev rfl) (holds_cellup HCL.out hall)) rfl fun a H => ?_
  refine kR 1 H rfl fun a H => ?_
  refine zA (zB (zC (zD ?_)))
  refine kR 2 H rfl fun a H => ?_
  refine kV H (r_len U30 (H.ev rfl)) rfl fun a H => ?_
  refine kV (v := .int .i64 (tot (ps.take k) + p.2.length : Nat)) H (r_add (q := ((tot (ps.take k) + p.2.length : Nat) : Int)) U3 (H.ev rfl) (H.ev rfl) (by omega) (by omega)) rfl fun a H => ?_
  refine kR 1 H rfl fun a H => ?_
  refine zA (zB (zC (zD ?_)))
  refine kR 1 H rfl fun a H => ?_
  refine kV H (r_lt U3 (H.ev rfl) evc (dec_f (by omega))) rfl fun a H => ?_
  refine zA (zB (zG H rfl (zE (n_block (zB (zD ?_))))))
  refine kV H (r_add (q := ((k + 1 : Nat) : Int)) U3 (H.ev rfl) evc (by omega) (by omega)) rfl fun a H => ?_
  refine kR 1 H rfl fun a H => ?_
  refine zA ?_
  replace H := H.pick [0, 3, 9, 10, 11]
  rw [← tot_next HP.out] at H
  refine zI ⟨⟨k + 1, H, by omega, hall⟩, ?_⟩
  rw [H.ev (j := 11) rfl, H0.ev (j := 11) rfl]
  simp only [intOf]
  omega
 ·
  obtain rfl : k = ps.length := by omega
  refine zC (zD ?_)
  refine kV H (r_lt U3 (H.ev rfl) (H.ev rfl) (dec_f (by omega))) rfl fun a H => ?_
  refine zA (zB (zC (zG H rfl (wp_exit (e_then (e_then ?_))))))
  refine e_here ?_
  refine zB (zC (zD ?_))
  refine kR 1 H rfl fun a H => ?_
  refine wl_call _ _ _ (grow_any _ _ (by rw [List.take_length]; omega)) (r_call2 cf145 evc (H.ev rfl)) ?_; rintro e w9 ⟨⟨A1, c1, rfl, hown⟩, hb⟩; refine ⟨_, rfl, ?_⟩; have hD := hall.size; replace hall := hall.tr hb; clear hb; replace hown := own_base hown hD; refine kl H rfl fun a H => ?_
  refine kR 1 H rfl fun a H => ?_
  refine zA (zB (zC (zC (zD ?_))))
  refine kR 1 H rfl fun a H => ?_
  refine kV H (r_len U29 (H.ev rfl)) rfl fun a H => ?_
  refine kR 1 H rfl fun a H => ?_
  refine zA (zB ?_)
  refine wp_block ?_
  have hDs := hall.size
  refine wp_loop (Cc2 w A c ps) (fun a _ => ps.length - (intOf (a.eval (.tmp 27))).toNat) ⟨0, A1, c1, [], H.pick [0, 6, 25, 26, 27], by omega, rfl, hown, hall⟩ ?_
  clear H hall hown hDs hD
  rintro a w' ⟨k, A1, c1, bs, H, hk, hbs, hown, hall⟩
  have H0 := H
  have hDs := hall.size
  by_cases hlt : k < ps.length
  ·
   obtain ⟨b, o, hA, hcl⟩ := prow_at hp hlt
   subst hA
   obtain ⟨p, hpk⟩ : ∃ p, ps[k]? = some p := ⟨_, List.getElem?_eq_getElem hlt⟩
   have hcl2 := hcl p hpk
   have hbr := hp.2 p (List.mem_of_getElem? hpk)
   have HP := Lib.hid hpk
   obtain ⟨Ap, cp, hpv, q1, q2, q3, q4⟩ := hbr
   have HQ := Lib.hid q4
   rw [hpv] at hcl2
   have HCL := Lib.hid hcl2
   have htl := tot_le (ps := ps) (k := k) hpk
   clear hpk hcl hcl2 q4
   have H := H0
   have hbl : bs.length = tot (ps.take k) := by rw [← hbs]; exact tot_len _
   have HBS := Lib.hid hbs
   clear hbs
   refine zC (zD ?_)
   refine kV H (r_lt U3 (H.ev rfl) (H.ev rfl) (dec_t (by omega))) rfl fun a H => ?_
   refine zA (zB (zC (zH H rfl (zE (zB (zC ?_))))))
   refine wp_block ?_
   refine zC (zD ?_)
   refine kV H (r_idx (j := k) (q := o + k) U29 s30 (H.ev rfl) (H.ev rfl) (by omega) (by omega)) rfl fun a H => ?_
   refine kV H (r_ld U30 rfl (H.ev rfl) (holds_cellup HCL.out hall)) rfl fun a H => ?_
   refine kR 1 H rfl fun a H => ?_
   refine zA (zB (zD ?_))
   refine kR 2 H rfl fun a H => ?_
   refine op_append 30 5 (.tmp 31) (.tmp 32) w.heap.size (.int .u8 0) 1 1 _ _ _ Ap p.2.length cp (p.2.map u8v) (H.ev rfl) (H.ev rfl) U30 i5 rfl (by omega) hown (by simp) (HQ.out.up hall) (u8s_one _) (by unfold maxLen; omega) (by omega) hDs fun o2 w9 hown2 hg9 hv9 hb2 => ?_; have hown3 := bown_app hown2; replace hall := hall.trans hb2; clear hown hown2 hg9 hv9 hb2; have hown := hown3; clear hown3; obtain ⟨A2, c2, hov⟩ := own_sliceB hown; subst hov; refine kl H rfl fun a H => ?_
   refine kR 1 H rfl fun a H => ?_
   refine zA (n_block (zB (zD ?_)))
   refine kV H (r_add (q := ((k + 1 : Nat) : Int)) U3 (H.ev rfl) evc (by omega) (by omega)) rfl fun a H => ?_
   refine kR 1 H rfl fun a H => ?_
   refine zA ?_
   refine zI ⟨⟨k + 1, A2, c2, bs ++ p.2, H.pick [0, 6, 25, 26, 27], by omega, by rw [cat_next HP.out, HBS.out], hown, hall⟩, ?_⟩
   rw [H.ev (j := 27) rfl, H0.ev (j := 27) rfl]
   simp only [intOf]
   omega
  ·
   obtain rfl : k = ps.length := by omega
   refine zC (zD ?_)
   refine kV H (r_lt U3 (H.ev rfl) (H.ev rfl) (dec_f (by omega))) rfl fun a H => ?_
   refine zA (zB (zC (zG H rfl (wp_exit (e_then (e_then ?_))))))
   refine e_here ?_
   refine zB (zC (zD ?_))
   refine kR 2 H rfl fun a H => ?_
   refine zA (zB (zF ?_))
   rw [List.take_length] at hbs
   exact k_ret1 H rfl rfl ⟨⟨A1, c1, by rw [hbs], by rw [hbs]; exact hown⟩, hall⟩
end
section
abbrev barr (l : List B8) : Array Value := (l.map u8v).toArray
theorem barr_size {l : List B8} : (barr l).size = l.length := by simp [barr]
theorem barr_one (l : List B8) : (barr l).all (·.oneCell') = true := by simp [barr, Value.oneCell']
theorem barr_cell {w : World} {b : Nat} {t : TypeId} {l : List B8} {i : Nat} {x : B8} (h : Block w b t (barr l)) (hx : l[i]? = some x) : w.cell? ⟨b, i, none⟩ = some (u8v x) := by
 rw [h.cell]
 simp [barr, hx]
theorem barr_set {w : World} {b i : Nat} {t : TypeId} {l : List B8} {y : B8} (h : Block w b t (setL (barr l) i (u8v y).cells.toList)) : Block w b t (barr (l.set i y)) := by
 have e : setL (barr l) i (u8v y).cells.toList = barr (l.set i y) := by
  show setL (barr l) i [u8v y] = _
  rw [setL1]
  apply Array.ext'
  simp [barr, List.map_set]
 rw [← e]; exact h
theorem u8_one (x : B8) : (u8v x).cells.all (·.oneCell') = true := by simp [Value.cells, Value.oneCell']
theorem z105 : (Tryz.prog.info? 105).map (·.zero) = some (some (.agg (barr (List.replicate 32 0)))) := by kernel_rfl
/-- how many zeros are laid -/
def zc (n : Nat) : Nat := (119 - n % 64) % 64
def pad0 (bs : List B8) (j : Nat) : List B8 := bs ++ [128#8] ++ List.replicate j 0#8
def lenAt (n j : Nat) : B8 := BitVec.ofNat 8 (n / 2 ^ (8 * (7 - j)))
def lenB (n : Nat) (j : Nat) : List B8 := (List.range j).map (lenAt n)
def padF (bs : List B8) : List B8 := pad0 bs (zc bs.length) ++ lenB (bs.length * 8) 8
def SHA0 : List W32 := [1779033703#32, 3144134277#32, 1013904242#32, 2773480762#32, 1359893119#32, 2600822924#32, 528734635#32, 1541459225#32]
def runB (S : List W32) (bs : List B8) : Nat → List W32
 | 0 => S
 | k + 1 => blockF (runB S bs k) ((bs.drop (64 * k)).take 64)
def outF (S : List W32) : List B8 := (List.range 32).map fun i => ((S.getD (i / 4) 0) >>> (24 - 8 * (i % 4))).setWidth 8
/-- the digest -/
def sumF (bs : List B8) : List B8 := outF (runB SHA0 (padF bs) ((padF bs).length / 64))
theorem sum_eq {bs cs : List B8} {k : Nat} (h : bs = cs) (hk : (padF bs).length = 64 * k) : outF (runB SHA0 (padF bs) k) = sumF cs := by
 subst h
 unfold sumF
 rw [hk, Nat.mul_div_cancel_left _ (by omega)]
theorem pad_zero {bs : List B8} : bs ++ [128#8] = pad0 bs 0 := by simp [pad0]
theorem pad_next {bs : List B8} {j : Nat} : pad0 bs j ++ [0#8] = pad0 bs (j + 1) := by
 unfold pad0
 rw [List.append_assoc, List.replicate_succ']
theorem pad_len (bs : List B8) (j : Nat) : (pad0 bs j).length = bs.length + 1 + j := by simp [pad0]; omega
theorem zc_more {n j : Nat} (h : j < zc n) : (n + 1 + j) % 64 ≠ 56 := by unfold zc at h; omega
theorem zc_end (n : Nat) : (n + 1 + zc n) % 64 = 56 := by unfold zc; omega
theorem zc_len (n : Nat) : zc n ≤ 63 := by unfold zc; omega
theorem lenB_len (n j : Nat) : (lenB n j).length = j := by simp [lenB]
theorem lenB_next {n j : Nat} : lenB n (j + 1) = lenB n j ++ [lenAt n j] := by simp [lenB, List.range_succ]
def lenOf : Value → Nat
 | .slice _ n _ => n
 | _ => 0
theorem blockF_len {S : List W32} (h : S.length = 8) (bs : List B8) : (blockF S bs).length = 8 := by
 unfold blockF
 rw [List.length_zipWith, rndN_len h, h]
 rfl
theorem runB_len (bs : List B8) : ∀ k, (runB SHA0 bs k).length = 8
 | 0 => rfl
 | k + 1 => blockF_len (runB_len bs k) _
theorem outF_len {S : List W32} : (outF S).length = 32 := by simp [outF]
theorem out_zero (S : List W32) : (outF S).take 0 ++ List.replicate (32 - 0) (0 : B8) = List.replicate 32 0 := rfl
theorem out_full {S : List W32} : (outF S).take 32 ++ List.replicate (32 - 32) (0 : B8) = outF S := by
 rw [List.take_of_length_le (by rw [outF_len]; omega)]
 simp
theorem out_fit {S : List W32} {i : Nat} {y : B8} (h : i < 32) : i + (u8v y).cells.size ≤ (barr ((outF S).take i ++ List.replicate (32 - i) 0)).size := by
 rw [barr_size]
 show i + 1 ≤ _
 simp [outF_len]
 omega
theorem out_set {S : List W32} {i : Nat} {x : W32} (h : i < 32) (hx : S[i / 4]? = some x) : ((outF S).take i ++ List.replicate (32 - i) 0).set i ((x >>> (24 - (8 * (i % 4)))).setWidth 8) = (outF S).take (i + 1) ++ List.replicate (32 - (i + 1)) 0 := by
 rw [show 32 - i = (32 - (i + 1)) + 1 by omega, List.replicate_succ, mid_set (by simp [outF_len]; omega), List.take_succ_eq_append_getElem (by rw [outF_len]; exact h)]
 simp [outF, List.getD_eq_getElem?_getD, hx]
theorem concatB_any (w : World) (v : Value) (ps : List (Value × List B8)) (hp : PRow w v ps) (hn : tot ps ≤ 1000000) (hl : ps.length ≤ 1000000) :
  Calls Tryz.prog 130 #[v] w fun e w' => (∃ D A c bs, D = w.heap.size ∧ bs = cat ps ∧ e = .returned (.slice A bs.length c) ∧ BOwn w' D (.slice A bs.length c) bs) ∧ Below w.heap.size w w' :=
 (concat_any w v ps hp hn hl).mono fun e w' ⟨⟨A, c, he, ho⟩, hb⟩ => ⟨⟨_, A, c, _, rfl, rfl, he, ho⟩, hb⟩
theorem le_upS {D : Nat} {w w' : World} (h : D ≤ w.heap.size) (hb : Below w.heap.size w w') : D ≤ w'.heap.size := Nat.le_trans h hb.size
theorem own_ltB {w : World} {D n b : Nat} {v : Value} {xs : List Value} (h : w.ownsRow D 5 1 v n xs) (hge : w.heap.size ≤ b) : ∀ q, v.ownBlock = some q → q < b := fun q hq => Nat.lt_of_lt_of_le (h.lt q hq).2 hge
theorem brow_addr {w : World} {A : Option Addr} {n c : Nat} {bs : List B8} (h : BRow w (.slice A n c) bs) (hp : 0 < bs.length) : ∃ b o, A = some ⟨b, o, none⟩ := by
 obtain ⟨A', c', e, _, _, _, hh⟩ := h
 injection e with e1 e2 e3
 obtain ⟨b, o, he, _⟩ := hh 0 (by simpa using hp)
 exact ⟨b, o, by rw [e1, he]⟩
theorem brow_cap {w : World} {A : Option Addr} {n c : Nat} {bs : List B8} (h : BRow w (.slice A n c) bs) : bs.length ≤ c := by
 obtain ⟨A', c', e, h1, _, _, hh⟩ := h
 injection e with e1 e2 e3
 omega
theorem BRow.take {w : World} {A : Option Addr} {m n c : Nat} {bs : List B8} (h : BRow w (.slice A m c) bs) (hn : n ≤ bs.length) : BRow w (.slice A n c) (bs.take n) := by
 obtain ⟨A', c', e, h1, h2, h3, hh⟩ := h
 injection e with e1 e2 e3
 subst e1 e3
 have hl : (bs.take n).length = n := by simp; omega
 refine ⟨_, _, by rw [hl], by rw [hl]; omega, h2, h3, fun j hj => ?_⟩
 have hj' : j < n := by have : j < min n bs.length := (by simpa [hl] using hj); omega
 obtain ⟨b, o, he, hc⟩ := hh j (by simp; omega)
 refine ⟨b, o, he, ?_⟩
 rw [hc, List.getElem?_map, List.getElem?_map, List.getElem?_take, if_pos hj']
theorem BRow.next {w : World} {x0 o n k c : Nat} {bs : List B8} (h : BRow w (.slice (some ⟨x0, o, none⟩) n c) (bs.drop (64 * k))) (hn : 64 ≤ (bs.drop (64 * k)).length) : BRow w (.slice (slAt (some ⟨x0, o, none⟩) c 64 1) (bs.drop (64 * (k + 1))).length (c - 64)) (bs.drop (64 * (k + 1))) := by
 obtain ⟨A', c', e, h1, h2, h3, hh⟩ := h
 injection e with e1 e2 e3
 subst e1 e3
 have hd : bs.drop (64 * (k + 1)) = (bs.drop (64 * k)).drop 64 := by rw [List.drop_drop, Nat.mul_add]
 rw [hd]
 generalize bs.drop (64 * k) = cs at *
 refine ⟨_, _, rfl, by rw [List.length_drop]; omega, by omega, fun e => ?_, fun j hj => ?_⟩
 ·
  unfold slAt at e
  split at e
  · omega
  · simp at e
 ·
  have hj' : j < cs.length - 64 := by simpa using hj
  obtain ⟨b, o', he, hc⟩ := hh (64 + j) (by simp; omega)
  injection he with he
  injection he with e4 e5
  subst e4 e5
  refine ⟨x0, o + 64 * 1, ?_, ?_⟩
  · rw [slAt_some (by omega)]
  · rw [Nat.mul_one, Nat.add_assoc, hc, List.getElem?_map, List.getElem?_map, List.getElem?_drop]
theorem BRow.grown {w w' : World} {A : Option Addr} {n c : Nat} {bs : List B8} {r : Option Nat} (h : BRow w (.slice A n c) bs) (hg : w.grownBy w' r) (hne : ∀ b o, A = some ⟨b, o, none⟩ → some b ≠ r) : BRow w' (.slice A n c) bs := by
 obtain ⟨A', c', e, h1, h2, h3, hh⟩ := h
 injection e with e1 e2 e3
 subst e1 e2 e3
 refine ⟨_, _, rfl, h1, h2, h3, fun j hj => ?_⟩
 obtain ⟨b, o, he, hc⟩ := hh j hj
 refine ⟨b, o, he, ?_⟩
 have hj2 : (bs.map u8v)[j]? = some (bs.map u8v)[j] := List.getElem?_eq_getElem hj
 rw [hj2] at hc ⊢
 exact hg.cell hc (hne b o he)
theorem slAt_blk {b o c lo size b' o' : Nat} (h : slAt (some ⟨b, o, none⟩) c lo size = some ⟨b', o', none⟩) : b' = b := by
 unfold slAt at h
 split at h
 · injection h with h; injection h with h; exact h.symm
 · simp [add_flat] at h; exact h.1.symm
section
variable {P : Program} {d : Option Tmp} {tt : TypeId} {ps : String} {af : Array Edge} {gd : Option (Nat × Bool)} {a : Act} {w : World} {x y : Operand} {t t2 s : TypeId}
theorem r_cvi_u64 {n : Nat} (hs : P.underlying s = some (.int .i64)) (ht : P.underlying t = some (.int .u64)) (hx : a.eval x = .int .i64 (n : Nat)) (hn : n ≤ 18446744073709551615) : (execOp a.eval ⟨d, .convert s t x, tt, ps, af, gd⟩).run P w = .ok (.value (.int .u64 (n : Nat))) w := by
 unfold execOp
 simp only [hx]
 go_simp
 simp [IntKind.wrap, IntKind.bits, IntKind.signed]
 omega
theorem r_mul_u64 {n m : Nat} (ht : P.underlying t = some (.int .u64)) (hx : a.eval x = .int .u64 (n : Nat)) (hy : a.eval y = .int .u64 (m : Nat)) (hn : n * m ≤ 18446744073709551615) : (execOp a.eval ⟨d, .binOp .mul t x y t2, tt, ps, af, gd⟩).run P w = .ok (.value (.int .u64 (n * m : Nat))) w := by
 have h : IntKind.u64.wrap ((n : Int) * (m : Int)) = ((n * m : Nat) : Int) := by
  rw [← Int.natCast_mul]
  simp [IntKind.wrap, IntKind.bits, IntKind.signed]
  rw [← Int.natCast_mul]
  omega
 unfold execOp
 simp only [hx, hy]
 go_simp
theorem r_shr_u64 {n k : Nat} (ht : P.underlying t = some (.int .u64)) (hx : a.eval x = .int .u64 (n : Nat)) (hy : a.eval y = .int .i64 (k : Nat)) (hk : k ≤ 64) : (execOp a.eval ⟨d, .binOp .shr t x y t2, tt, ps, af, gd⟩).run P w = .ok (.value (.int .u64 (n / 2 ^ k : Nat))) w := by
 unfold execOp
 simp only [hx, hy]
 go_simp
theorem r_cvu64_8 {n j : Nat} (hs : P.underlying s = some (.int .u64)) (ht : P.underlying t = some (.int .u8)) (hx : a.eval x = .int .u64 (n / 2 ^ (8 * (7 - j)) : Nat)) : (execOp a.eval ⟨d, .convert s t x, tt, ps, af, gd⟩).run P w = .ok (.value (u8v (lenAt n j))) w := by
 have h : IntKind.u8.wrap (((n / 2 ^ (8 * (7 - j)) : Nat)) : Int) = (((lenAt n j).toNat : Nat) : Int) := by
  rw [wrap_u8]
  simp [lenAt]
 have h3 : IntKind.u8.wrap ((n : Int) / 2 ^ (8 * (7 - j))) = (((lenAt n j).toNat : Nat) : Int) := by
  have e : ((n : Int) / 2 ^ (8 * (7 - j))) = ((n / 2 ^ (8 * (7 - j)) : Nat) : Int) := by simp
  rw [e]; exact h
 unfold execOp
 simp only [hx]
 go_simp
theorem r_h0 : (execOp a.eval ⟨d, .build 141 #[(0, .const (.int .u32 1779033703)), (1, .const (.int .u32 3144134277)), (2, .const (.int .u32 1013904242)), (3, .const (.int .u32 2773480762)), (4, .const (.int .u32 1359893119)), (5, .const (.int .u32 2600822924)), (6, .const (.int .u32 528734635)), (7, .const (.int .u32 1541459225))], tt, ps, af, gd⟩).run Tryz.prog w = .ok (.value (.agg (warr SHA0))) w := by
 kernel_rfl
end
def Su1 (W : World) (D b0 : Nat) (bs : List B8) (a : Act) (w : World) : Prop :=
 ∃ (j : Nat) (A1 : Option Addr) (c1 : Nat), Kn a 62 [(2, .pointer (some ⟨b0, 0, none⟩)), (3, .slice A1 (pad0 bs j).length c1), (4, .int .u64 (bs.length * 8 : Nat))] ∧ j ≤ zc bs.length ∧ BOwn w D (.slice A1 (pad0 bs j).length c1) (pad0 bs j) ∧ Block w b0 105 (barr (List.replicate 32 0)) ∧ D ≤ w.heap.size ∧ Below W.heap.size W w
def Su2 (W : World) (D b0 : Nat) (bs q : List B8) (a : Act) (w : World) : Prop :=
 ∃ (j : Nat) (A1 : Option Addr) (c1 : Nat), Kn a 62 [(2, .pointer (some ⟨b0, 0, none⟩)), (3, .slice A1 (q ++ lenB (bs.length * 8) j).length c1), (4, .int .u64 (bs.length * 8 : Nat)), (5, .int .i64 (7 - ((j : Nat) : Int)))] ∧ j ≤ 8 ∧ BOwn w D (.slice A1 (q ++ lenB (bs.length * 8) j).length c1) (q ++ lenB (bs.length * 8) j) ∧ Block w b0 105 (barr (List.replicate 32 0)) ∧ D ≤ w.heap.size ∧ Below W.heap.size W w
def Su3 (W : World) (sb b0 : Nat) (pd : List B8) (a : Act) (w : World) : Prop :=
 ∃ (k : Nat) (A1 : Option Addr) (c1 : Nat), Kn a 62 [(2, .pointer (some ⟨b0, 0, none⟩)), (3, .slice A1 (pd.drop (64 * k)).length c1), (6, .pointer (some ⟨sb, 0, none⟩))] ∧ 64 * k ≤ pd.length ∧ BRow w (.slice A1 (pd.drop (64 * k)).length c1) (pd.drop (64 * k)) ∧ (∀ b o, A1 = some ⟨b, o, none⟩ → b < sb) ∧ Block w b0 105 (barr (List.replicate 32 0)) ∧ Block w sb 141 (warr (runB SHA0 pd k)) ∧ Below W.heap.size W w
def Su4 (W : World) (sb b0 : Nat) (S : List W32) (a : Act) (w : World) : Prop :=
 ∃ i : Nat, Kn a 62 [(2, .pointer (some ⟨b0, 0, none⟩)), (6, .pointer (some ⟨sb, 0, none⟩)), (45, .int .i64 (i : Nat))] ∧ i ≤ 32 ∧ Block w b0 105 (barr ((outF S).take i ++ List.replicate (32 - i) 0)) ∧ Block w sb 141 (warr S) ∧ Below W.heap.size W w
theorem s105' {S : List W32} : (Tryz.prog.info? 105).map (·.size) = some (barr (outF S)).size := by
 rw [barr_size, outF_len]; exact s105
set_option maxHeartbeats 8000000 in
theorem sum_any (w : World) (v : Value) (ps : List (Value × List B8)) (hp : PRow w v ps) (hn : tot ps ≤ 1000000) (hl : ps.length ≤ 1000000) :
  Calls Tryz.prog 123 #[v] w fun e w' => e = .returned (.agg (barr (sumF (cat ps)))) ∧ Below w.heap.size w w' := by
 have hlp := hl
 have hall := Below.refl w.heap.size w
 refine K_enter 62 Tryz.func123 rfl rfl fun a H => ?_
 replace H := H.pick [0]
 refine zC (zD ?_)
 refine op_alloc 105 (barr (List.replicate 32 0)) z105 fun w0 b0 hge hb k0 => ?_; have g0 := Nat.le_trans hall.size hge; replace hp := PRow.up hp hb; replace hall := hall.tr hb; clear hb hge; refine kl H rfl fun a H => ?_
 refine zA (zB (zC (zD ?_)))
 refine kR 1 H rfl fun a H => ?_
 refine wl_call _ _ _ (concatB_any _ _ ps hp hn hl) (r_call1 cf130 (H.ev rfl)) ?_; rintro e w9 ⟨⟨D, A1, c1, bs, hDe, hbs, rfl, hown⟩, hb⟩; refine ⟨_, rfl, ?_⟩; have hD0 := k0.lt; have hDW := hall.size; have hDs := hb.size; replace k0 := Block.ups k0 hb; replace hall := hall.tr hb; clear hb hp; rw [← hDe] at hD0 hDW hDs; clear hDe; have hbn : bs.length = tot ps := (by rw [hbs]; exact tot_len _); replace hbs := Lib.hid hbs; refine kl H rfl fun a H => ?_
 refine kR 1 H rfl fun a H => ?_
 refine zA (zB (zC (zD ?_)))
 refine kR 1 H rfl fun a H => ?_
 refine kV H (r_len U30 (H.ev rfl)) rfl fun a H => ?_
 refine kV (v := .int .u64 (bs.length : Nat)) H (r_cvi_u64 U3 U140 (H.ev rfl) (by omega)) rfl fun a H => ?_
 refine kV (v := .int .u64 (bs.length * 8 : Nat)) H (r_mul_u64 U140 (H.ev rfl) evc (by omega)) rfl fun a H => ?_
 refine kR 1 H rfl fun a H => ?_
 refine zA (zB (zC (zD ?_)))
 refine kR 1 H rfl fun a H => ?_
 refine op_litv 30 1 #[(0, u8v (128#8))] 5 #[u8v (128#8)] (by simp [evc]) (fun w => by kernel_rfl) fun w1 b1 hge hb k1 => ?_; have g1 := Nat.le_trans hall.size hge; replace k0 := Block.ups k0 hb; replace hown := own_ups hown hb; replace hDs := le_upS hDs hb; replace hall := hall.tr hb; clear hb; clear hge; refine kl H rfl fun a H => ?_
 refine op_append 30 5 (.tmp 14) (.tmp 15) D (.int .u8 0) 1 1 _ _ _ (some ⟨b1, 0, none⟩) 1 1 ([128#8].map u8v) (H.ev rfl) (H.ev rfl) U30 i5 rfl (by omega) hown rfl (Block.holds k1) (u8s_one _) (by unfold maxLen; omega) (by omega) hDs fun o2 w9 hown2 hg9 hv9 hb2 => ?_; have hown3 := bown_app hown2; replace k0 := Block.up k0 hb2 hD0; replace hall := hall.trans (hb2.mono hDW); replace hDs := Nat.le_trans hDs hb2.size; clear hown hown2 hg9 hv9 hb2 k1; have hown := hown3; clear hown3; obtain ⟨A2, c2, hov⟩ := own_sliceB hown; subst hov; refine kl H rfl fun a H => ?_
 refine kR 1 H rfl fun a H => ?_
 refine zA (zB (zC ?_))
 refine wp_block ?_
 rw [pad_zero] at hown H
 refine wp_loop (Su1 w D b0 bs) (fun a _ => zc bs.length - (lenOf (a.eval (.tmp 3)) - (bs.length + 1))) ⟨0, A2, c2, H.pick [2, 3, 4], by omega, hown, k0, hDs, hall⟩ ?_
 clear H hall hown k0 hDs
 rintro a w' ⟨j, A1, c1, H, hj, hown, k0, hDs, hall⟩
 have H0 := H
 have hpl := pad_len bs j
 have hql := zc_len bs.length
 by_cases hlt : j < zc bs.length
 ·
  have hzc := zc_more hlt
  rw [← hpl] at hzc
  refine zC (zC (zD ?_))
  refine kR 1 H rfl fun a H => ?_
  refine kV H (r_len U30 (H.ev rfl)) rfl fun a H => ?_
  refine kV H (r_rem (p := (pad0 bs j).length) (q := 64) U3 (H.ev rfl) evc (by omega)) rfl fun a H => ?_
  refine kV H (r_ne U3 (H.ev rfl) evc (dec_t (by omega))) rfl fun a H => ?_
  refine zA (zB (zH H rfl (zE (zB ?_))))
  refine wp_block ?_
  refine zD ?_
  refine kR 1 H rfl fun a H => ?_
  refine op_litv 30 1 #[(0, u8v (0#8))] 5 #[u8v (0#8)] (by simp [evc]) (fun w => by kernel_rfl) fun w2 b2 hge hb k2 => ?_; have g2 := Nat.le_trans hall.size hge; replace k0 := Block.ups k0 hb; replace hown := own_ups hown hb; replace hDs := le_upS hDs hb; replace hall := hall.tr hb; clear hb; clear hge; refine kl H rfl fun a H => ?_
  refine op_append 30 5 (.tmp 21) (.tmp 22) D (.int .u8 0) 1 1 _ _ _ (some ⟨b2, 0, none⟩) 1 1 ([0#8].map u8v) (H.ev rfl) (H.ev rfl) U30 i5 rfl (by omega) hown rfl (Block.holds k2) (u8s_one _) (by unfold maxLen; omega) (by omega) hDs fun o2 w9 hown2 hg9 hv9 hb2 => ?_; have hown3 := bown_app hown2; replace k0 := Block.up k0 hb2 hD0; replace hall := hall.trans (hb2.mono hDW); replace hDs := Nat.le_trans hDs hb2.size; clear hown hown2 hg9 hv9 hb2 k2; have hown := hown3; clear hown3; obtain ⟨A2, c2, hov⟩ := own_sliceB hown; subst hov; refine kl H rfl fun a H => ?_
  refine kR 1 H rfl fun a H => ?_
  refine zA (n_block ?_)
  rw [pad_next] at H hown
  replace H := H.pick [2, 3, 4]
  have hpl2 := pad_len bs (j + 1)
  refine zI ⟨⟨j + 1, _, _, H, by omega, hown, k0, hDs, hall⟩, ?_⟩
  rw [H.ev (j := 3) rfl, H0.ev (j := 3) rfl]
  simp only [lenOf]
  omega
 ·
  obtain rfl : j = zc bs.length := by omega
  have hzc := zc_end bs.length
  rw [← hpl] at hzc
  refine zC (zC (zD ?_))
  refine kR 1 H rfl fun a H => ?_
  refine kV H (r_len U30 (H.ev rfl)) rfl fun a H => ?_
  refine kV H (r_rem (p := (pad0 bs (zc bs.length)).length) (q := 64) U3 (H.ev rfl) evc (by omega)) rfl fun a H => ?_
  refine kV H (r_ne U3 (H.ev rfl) evc (dec_f (by omega))) rfl fun a H => ?_
  refine zA (zB (zG H rfl (wp_exit (e_then (e_then ?_)))))
  refine e_here ?_
  refine zB (zC (zC (zD ?_)))
  refine kR 1 H rfl fun a H => ?_
  refine zA (zB ?_)
  refine wp_block ?_
  obtain ⟨q, hq⟩ : ∃ q, pad0 bs (zc bs.length) = q := ⟨_, rfl⟩
  rw [hq] at H hown hpl hzc
  have HQ := Lib.hid hq
  rw [← List.append_nil q] at H hown
  refine wp_loop (Su2 w D b0 bs q) (fun a _ => (intOf (a.eval (.tmp 5)) + 1).toNat) ⟨0, A1, c1, H.pick [2, 3, 4, 5], by omega, hown, k0, hDs, hall⟩ ?_
  clear H hall hown k0 hDs hlt
  rintro a w' ⟨j, A1, c1, H, hj, hown, k0, hDs, hall⟩
  have H0 := H
  by_cases hlt : j < 8
  ·
   refine zC (zC (zD ?_))
   refine kR 1 H rfl fun a H => ?_
   refine kV H (r_ge U3 (H.ev rfl) evc (dec_t (by omega))) rfl fun a H => ?_
   refine zA (zB (zH H rfl (zE (zB (zC ?_)))))
   refine wp_block ?_
   refine zD ?_
   refine kR 3 H rfl fun a H => ?_
   refine kV (v := .int .i64 (8 * (7 - j) : Nat)) H (r_mul (r := ((8 * (7 - j) : Nat) : Int)) U3 evc (H.ev rfl) (by omega) (by omega)) rfl fun a H => ?_
   refine kV (v := .int .u64 (bs.length * 8 / 2 ^ (8 * (7 - j)) : Nat)) H (r_shr_u64 U140 (H.ev rfl) (H.ev rfl) (by omega)) rfl fun a H => ?_
   refine kV (v := u8v (lenAt (bs.length * 8) j)) H (r_cvu64_8 U140 U5 (H.ev rfl)) rfl fun a H => ?_
   refine op_litv 30 1 #[(0, u8v (lenAt (bs.length * 8) j))] 5 #[u8v (lenAt (bs.length * 8) j)] (by simp [evc, H.ev (j := 33) rfl]) (fun w => by kernel_rfl) fun w3 b3 hge hb k3 => ?_; have g3 := Nat.le_trans hall.size hge; replace k0 := Block.ups k0 hb; replace hown := own_ups hown hb; replace hDs := le_upS hDs hb; replace hall := hall.tr hb; clear hb; clear hge; refine kl H rfl fun a H => ?_
   refine op_append 30 5 (.tmp 28) (.tmp 34) D (.int .u8 0) 1 1 _ _ _ (some ⟨b3, 0, none⟩) 1 1 ([lenAt (bs.length * 8) j].map u8v) (H.ev rfl) (H.ev rfl) U30 i5 rfl (by omega) hown rfl (Block.holds k3) (u8s_one _) (by unfold maxLen; (rw [List.length_append, lenB_len]; omega)) (by (rw [List.length_append, lenB_len]; omega)) hDs fun o2 w9 hown2 hg9 hv9 hb2 => ?_; have hown3 := bown_app hown2; replace k0 := Block.up k0 hb2 hD0; replace hall := hall.trans (hb2.mono hDW); replace hDs := Nat.le_trans hDs hb2.size; clear hown hown2 hg9 hv9 hb2 k3; have hown := hown3; clear hown3; obtain ⟨A2, c2, hov⟩ := own_sliceB hown; subst hov; refine kl H rfl fun a H => ?_
   refine kR 1 H rfl fun a H => ?_
   refine zA (n_block (zB (zD ?_)))
   refine kR 1 H rfl fun a H => ?_
   refine kV H (r_sub (q := 7 - ((j + 1 : Nat) : Int)) U3 (H.ev rfl) evc (by omega) (by omega)) rfl fun a H => ?_
   refine kR 1 H rfl fun a H => ?_
   refine zA ?_
   rw [List.append_assoc, ← lenB_next] at H hown
   replace H := H.pick [2, 3, 4, 5]
   refine zI ⟨⟨j + 1, _, _, H, by omega, hown, k0, hDs, hall⟩, ?_⟩
   rw [H.ev (j := 5) rfl, H0.ev (j := 5) rfl]
   simp only [intOf]
   omega
  ·
   obtain rfl : j = 8 := by omega
   refine zC (zC (zD ?_))
   refine kR 1 H rfl fun a H => ?_
   refine kV H (r_ge U3 (H.ev rfl) evc (dec_f (by omega))) rfl fun a H => ?_
   refine zA (zB (zG H rfl (wp_exit (e_then (e_then ?_)))))
   refine e_here ?_
   refine zB (zC (zD ?_))
   refine wl_v (.agg (warr SHA0)) r_h0 ?_; refine kl H rfl fun a H => ?_
   refine op_alloc 141 (warr (List.replicate 8 0)) z141 fun w1 sb hge hb ks => ?_; have gs := Nat.le_trans hall.size hge; have hd0 : b0 < sb := Nat.lt_of_lt_of_le k0.lt hge; have hqs := own_ltB hown hge; replace k0 := Block.ups k0 hb; replace hown := own_ups hown hb; replace hall := hall.tr hb; clear hb hge; refine kl H rfl fun a H => ?_
   refine op_store 141 (.tmp 6) (.tmp 36) sb 141 (warr SHA0) _ (H.ev rfl) (H.ev rfl) ks s141 rfl (warr_one _) fun w' hb ho kq => ?_; clear ks; have ks := kq; replace k0 := block_same k0 (ho _ (by omega)); replace hown := own_block hown (fun q hq => ho _ (fun e => by have := hqs q hq; omega)); replace hall := hall.trans (hb _ gs); clear hb ho kq; refine kl0 H fun a H => ?_
   refine zA (zB (zC ?_))
   refine wp_block ?_
   obtain ⟨pd, hpd⟩ : ∃ pd, q ++ lenB (bs.length * 8) 8 = pd := ⟨_, rfl⟩
   rw [hpd] at H hown hqs
   have HPD : Hid (pd = padF bs) := Lib.hid (by rw [← hpd, ← HQ.out]; rfl)
   have hpdl : pd.length = bs.length + 1 + zc bs.length + 8 := by rw [← hpd, List.length_append, lenB_len]; omega
   have hrow := BOwn.row hown
   obtain ⟨nb, hnb⟩ : ∃ nb, pd.length = 64 * nb := ⟨pd.length / 64, by omega⟩
   clear hpd hown hDs
   refine wp_loop (Su3 w sb b0 pd) (fun a _ => lenOf (a.eval (.tmp 3))) ⟨0, A1, c1, H.pick [2, 3, 6], by omega, hrow, (fun b o e => hqs b (by rw [e]; rfl)), k0, ks, hall⟩ ?_
   clear H hall hrow k0 ks hqs
   rintro a w' ⟨k, A1, c1, H, hk, hrow, hA, k0, ks, hall⟩
   have H0 := H
   by_cases hlt : k < nb
   ·
    have hdl : (pd.drop (64 * k)).length = pd.length - 64 * k := List.length_drop
    obtain ⟨x0, o, hAe⟩ := brow_addr hrow (by omega)
    subst hAe
    have hx0 := hA x0 o rfl
    have hc1 := brow_cap hrow
    have hrow2 := BRow.take hrow (n := 64) (by omega)
    have H := H0
    refine zC (zC (zD ?_))
    refine kR 1 H rfl fun a H => ?_
    refine kV H (r_len U30 (H.ev rfl)) rfl fun a H => ?_
    refine kV H (r_gt U3 (H.ev rfl) evc (dec_t (by omega))) rfl fun a H => ?_
    refine zA (zB (zH H rfl (zE (zB (zC ?_)))))
    refine wp_block ?_
    refine zD ?_
    refine kR 1 H rfl fun a H => ?_
    refine kV (v := .slice (some ⟨x0, o, none⟩) 64 c1) H (run_op_slice U30 (.slice (some ⟨x0, o, none⟩) (pd.drop (64 * k)).length c1) none (some (.int .i64 64)) none (H.ev rfl) rfl rfl rfl (slice_any 0 64 U30 s5 _ _ (.inl ⟨rfl, rfl⟩) (.inr rfl) (by omega) (by omega) (by simp [slAt, add_flat]) rfl rfl)) rfl fun a H => ?_
    refine wl_call _ _ _ (block_any _ sb x0 o c1 (runB SHA0 pd k) ((pd.drop (64 * k)).take 64) ks (runB_len _ _) hrow2 (by rw [List.length_take]; omega) (by omega)) (r_call2 cf131 (H.ev rfl) (H.ev rfl)) ?_; rintro e w9 ⟨rfl, ks2, hg⟩; refine ⟨_, rfl, ?_⟩; clear hrow2; replace k0 := Block.grown k0 hg (by simp; omega); replace hrow := BRow.grown hrow hg (fun b o' e => by have := hA b o' e; simp; omega); replace hall := hall.grown hg hall.size (fun k' e => by injection e with e; omega); clear ks hg; have ks := ks2; clear ks2; refine kl H rfl fun a H => ?_
    refine zA (n_block (zB (zD ?_)))
    refine kR 1 H rfl fun a H => ?_
    refine wl_v (.slice (slAt (some ⟨x0, o, none⟩) c1 64 1) (pd.drop (64 * (k + 1))).length (c1 - 64)) (run_op_slice U30 (.slice (some ⟨x0, o, none⟩) (pd.drop (64 * k)).length c1) (some (.int .i64 64)) none none (H.ev rfl) rfl rfl rfl (slice_any 64 (pd.drop (64 * k)).length U30 s5 _ _ (.inr rfl) (.inl ⟨rfl, rfl⟩) (by omega) (by omega) rfl (by rw [List.length_drop, List.length_drop]; omega) rfl)) ?_; refine kl H rfl fun a H => ?_
    refine kR 1 H rfl fun a H => ?_
    refine zA ?_
    have hrow3 := BRow.next hrow (by omega)
    have hdl2 : (pd.drop (64 * (k + 1))).length = pd.length - 64 * (k + 1) := List.length_drop
    refine zI ⟨⟨k + 1, _, _, H.pick [2, 3, 6], by omega, hrow3, (fun b o' e => by rw [slAt_blk e]; exact hx0), k0, ks, hall⟩, ?_⟩
    rw [H.ev (j := 3) rfl, H0.ev (j := 3) rfl]
    simp only [lenOf]
    omega
   ·
    obtain rfl : k = nb := by omega
    have hdl : (pd.drop (64 * k)).length = 0 := by rw [List.length_drop]; omega
    refine zC (zC (zD ?_))
    refine kR 1 H rfl fun a H => ?_
    refine kV H (r_len U30 (H.ev rfl)) rfl fun a H => ?_
    refine kV H (r_gt U3 (H.ev rfl) evc (dec_f (by omega))) rfl fun a H => ?_
    refine zA (zB (zG H rfl (wp_exit (e_then (e_then ?_)))))
    refine e_here ?_
    refine zB (zC (zC (zD ?_)))
    refine kR 1 H rfl fun a H => ?_
    refine zA (zB ?_)
    refine wp_block ?_
    obtain ⟨S, hSe⟩ : ∃ S, runB SHA0 pd k = S := ⟨_, rfl⟩
    have hS8 : S.length = 8 := by rw [← hSe]; exact runB_len _ _
    rw [hSe] at ks
    have HS := Lib.hid hSe
    rw [← out_zero S] at k0
    refine wp_loop (Su4 w sb b0 S) (fun a _ => 32 - (intOf (a.eval (.tmp 45))).toNat) ⟨0, H.pick [2, 6, 45], by omega, k0, ks, hall⟩ ?_
    clear H hall k0 ks hrow hA hlt hSe
    rintro a w' ⟨i, H, hi, k0, ks, hall⟩
    have H0 := H
    by_cases hlt : i < 32
    ·
     obtain ⟨x, hx⟩ : ∃ x, S[i / 4]? = some x := ⟨_, List.getElem?_eq_getElem (by omega)⟩
     have HX := Lib.hid hx
     clear hx
     have H := H0
     refine zC (zD ?_)
     refine kV H (r_lt U3 (H.ev rfl) evc (dec_t (by omega))) rfl fun a H => ?_
     refine zA (zB (zC (zH H rfl (zE (zB (zC ?_))))))
     refine wp_block ?_
     refine zC (zD ?_)
     refine kR 2 H rfl fun a H => ?_
     refine zA (zB (zD ?_))
     refine kR 2 H rfl fun a H => ?_
     refine kV H (r_quo (p := i) (q := 4) U3 (H.ev rfl) evc (by omega) (by omega)) rfl fun a H => ?_
     refine kV H (r_ixa (j := i / 4) (q := i / 4) U141 s133 (H.ev rfl) (H.ev rfl) (by omega) (by omega)) rfl fun a H => ?_
     refine kV H (r_ld U133 rfl (H.ev rfl) (warr_cell ks HX.out)) rfl fun a H => ?_
     refine kR 1 H rfl fun a H => ?_
     refine kV H (r_rem (p := i) (q := 4) U3 (H.ev rfl) evc (by omega)) rfl fun a H => ?_
     refine kV H (r_mul (r := ((8 * (i % 4) : Nat) : Int)) U3 evc (H.ev rfl) (by omega) (by omega)) rfl fun a H => ?_
     refine kV H (r_sub (q := ((24 - (8 * (i % 4)) : Nat) : Int)) U3 evc (H.ev rfl) (by omega) (by omega)) rfl fun a H => ?_
     refine kV H (r_shr32 (k := 24 - (8 * (i % 4))) (by omega) U133 (H.ev rfl) (H.ev rfl)) rfl fun a H => ?_
     refine kV H (r_cv32_8 U133 U5 (H.ev rfl)) rfl fun a H => ?_
     refine kV H (r_ixa (j := i) (q := i) U105 s5 (H.ev rfl) (H.ev rfl) (by omega) (by omega)) rfl fun a H => ?_
     refine op_store1 5 (.tmp 59) (.tmp 58) b0 i 105 (u8v ((x >>> (24 - (8 * (i % 4)))).setWidth 8)) _ (H.ev rfl) (H.ev rfl) k0 s5 (out_fit hlt) (u8_one _) fun w' hb ho kq => ?_; clear k0; have k0 := barr_set kq; rw [out_set hlt HX.out] at k0; replace ks := block_same ks (ho _ (by omega)); replace hall := hall.trans (hb _ g0); clear hb ho kq; refine kl0 H fun a H => ?_
     refine zA (n_block (zB (zD ?_)))
     refine kV H (r_add (q := ((i + 1 : Nat) : Int)) U3 (H.ev rfl) evc (by omega) (by omega)) rfl fun a H => ?_
     refine kR 1 H rfl fun a H => ?_
     refine zA ?_
     refine zI ⟨⟨i + 1, H.pick [2, 6, 45], by omega, k0, ks, hall⟩, ?_⟩
     rw [H.ev (j := 45) rfl, H0.ev (j := 45) rfl]
     simp only [intOf]
     omega
    ·
     obtain rfl : i = 32 := by omega
     rw [out_full] at k0
     refine zC (zD ?_)
     refine kV H (r_lt U3 (H.ev rfl) evc (dec_f (by omega))) rfl fun a H => ?_
     refine zA (zB (zC (zG H rfl (wp_exit (e_then (e_then ?_))))))
     refine e_here ?_
     refine zB (zC (zD ?_))
     refine op_load 105 (.tmp 2) b0 105 (barr (outF S)) _ (H.ev rfl) k0 U105 rfl s105' ?_; refine kl H rfl fun a H => ?_
     refine op_store 105 (.tmp 2) (.tmp 61) b0 105 (barr (outF S)) _ (H.ev rfl) (H.ev rfl) k0 s105' rfl (barr_one _) fun w' hb ho kq => ?_; clear k0; replace hall := hall.trans (hb _ g0); clear hb ho; refine kl0 H fun a H => ?_
     refine zA (zB (zF ?_))
     exact k_ret_cell H rfl rfl kq U105 rfl s105' ⟨by rw [← HS.out, HPD.out, sum_eq hbs.out (by rw [← HPD.out]; exact hnb)], hall⟩
end
theorem r_xor8 {P : Program} {d : Option Tmp} {tt : TypeId} {ps : String} {af : Array Edge} {gd : Option (Nat × Bool)} {a : Act} {w : World} {x y : Operand} {m n : B8} {t t2 : TypeId} (ht : P.underlying t = some (.int .u8)) (hx : a.eval x = u8v m) (hy : a.eval y = u8v n) : (execOp a.eval ⟨d, .binOp .xor t x y t2, tt, ps, af, gd⟩).run P w = .ok (.value (u8v (m ^^^ n))) w := by
 have h := xor8 m n
 unfold execOp
 simp only [hx, hy]
 go_simp
theorem op_mk64 {ops : Array Oper} {rest : List Oper} {d : Option Tmp} {tt : TypeId} {ps : String} {af : Array Edge} {a : Act} {w : World} {Q : Exit → Act → World → Prop}
  (h : ∀ w' g, w.heap.size ≤ g → Below w.heap.size w w' → Block w' g 5 (barr (List.replicate 64 0)) → wpList Tryz.prog ops Q rest (a.put d (.slice (some ⟨g, 0, none⟩) 64 64)) w') :
  wpList Tryz.prog ops Q (⟨d, .makeSlice 30 (.const (.int .i64 64)) (.const (.int .i64 64)), tt, ps, af, none⟩ :: rest) a w :=
 wpList_plain rfl fun _ hK => by
  have hi := i5
  cases hq : Tryz.prog.info? 5 with
  | none => simp [hq] at hi
  | some i =>
   have hi' : i.zero = some (.int .u8 0) ∧ i.size = 1 ∧ i.bytes = 1 := by simpa [hq] using hi
   have hrun := run_makeSlice (P := Tryz.prog) w 30 5 i (.int .u8 0) U30 hq hi'.1 .i64 .i64 64 64 (by omega) (by omega) (by rw [hi'.2.1]; decide) (by rw [hi'.2.2]; decide) (by omega)
   rw [hi'.2.1] at hrun
   have e1 : a.eval (.const (.int .i64 64)) = .int .i64 64 := rfl
   unfold Oper.wp execOp
   simp only [e1, hrun, Sem.run_bind, Sem.run_pure, Result.andThen_ok]
   refine hK _ _ (h _ w.heap.size (Nat.le_refl _) ((Below.refl _ _).alloc (Nat.le_refl _) _) ?_)
   have e : madeCells (Value.int .u8 0).cells (Int.toNat 64 * 1) = barr (List.replicate 64 0) := by kernel_rfl
   rw [e]
   exact heap_alloc_new w _
def padK (kb : List B8) : List B8 := kb ++ List.replicate (64 - kb.length) 0
/-- the first i of them turned -/
def xorT (l : List B8) (y : B8) (i : Nat) : List B8 := (l.take i).map (fun x => x ^^^ y) ++ l.drop i
/-- a key's block, turned -/
def blkF (kb : List B8) (y : B8) : List B8 := (padK kb).map fun x => x ^^^ y
theorem padK_len {kb : List B8} (h : kb.length ≤ 64) : (padK kb).length = 64 := by simp [padK]; omega
theorem pad_spl (n : Nat) (kb : List B8) : spl (barr (List.replicate n 0)) 0 (kb.map u8v) = barr (kb ++ List.replicate (n - kb.length) 0) := by
 unfold spl barr
 apply Array.ext'
 simp [List.drop_replicate, List.map_replicate]
theorem padK_spl {kb : List B8} (h : kb.length ≤ 64) : spl (barr (List.replicate 64 0)) 0 (kb.map u8v) = barr (padK kb) := by
 exact pad_spl 64 kb
theorem xorT_zero (l : List B8) (y : B8) : xorT l y 0 = l := by simp [xorT]
theorem xorT_mid {l : List B8} {y x : B8} {i : Nat} (h : l[i]? = some x) : xorT l y i = (l.take i).map (fun x => x ^^^ y) ++ x :: l.drop (i + 1) := by
 obtain ⟨hi, rfl⟩ := List.getElem?_eq_some_iff.1 h
 unfold xorT
 rw [List.drop_eq_getElem_cons hi]
theorem xorT_len {kb : List B8} {y : B8} {i : Nat} (h : kb.length ≤ 64) (hi : i ≤ 64) : (((padK kb).take i).map (fun x => x ^^^ y)).length = i := by
 rw [List.length_map, List.length_take, padK_len h]
 omega
theorem xorT_next {kb : List B8} {x y : B8} {i : Nat} (h : kb.length ≤ 64) (hi : i < 64) (hx : (padK kb)[i]? = some x) : ((padK kb).take i).map (fun x => x ^^^ y) ++ (x ^^^ y) :: (padK kb).drop (i + 1) = xorT (padK kb) y (i + 1) := by
 obtain ⟨hj, rfl⟩ := List.getElem?_eq_some_iff.1 hx
 unfold xorT
 rw [List.take_succ_eq_append_getElem hj, List.map_append]
 simp only [List.append_assoc, List.map_cons, List.map_nil, List.cons_append, List.nil_append]
theorem xorT_fit {kb : List B8} {x y z : B8} {i : Nat} (h : kb.length ≤ 64) (hi : i ≤ 64) (hlt : i < 64) (hx : (padK kb)[i]? = some x) : 0 + i + (u8v z).cells.size ≤ (barr (((padK kb).take i).map (fun x => x ^^^ y) ++ x :: (padK kb).drop (i + 1))).size := by
 rw [barr_size]
 show 0 + i + 1 ≤ _
 rw [List.length_append, xorT_len h hi]
 simp
theorem xorT_full {kb : List B8} {y : B8} (h : kb.length ≤ 64) : xorT (padK kb) y 64 = blkF kb y := by
 unfold xorT blkF
 rw [List.take_of_length_le (by rw [padK_len h]; omega), List.drop_eq_nil_of_le (by rw [padK_len h]; omega), List.append_nil]
theorem barr_cell0 {w : World} {b : Nat} {t : TypeId} {l : List B8} {i : Nat} {x : B8} (h : Block w b t (barr l)) (hx : l[i]? = some x) : w.cell? ⟨b, 0 + i, none⟩ = some (u8v x) := by
 rw [Nat.zero_add]
 exact barr_cell h hx
def Mb1 (W : World) (g : Nat) (kb : List B8) (by_ : B8) (a : Act) (w : World) : Prop :=
 ∃ i : Nat, Kn a 33 [(1, u8v by_), (5, .slice (some ⟨g, 0, none⟩) 64 64), (19, .slice (some ⟨g, 0, none⟩) 64 64), (20, .int .i64 64), (21, .int .i64 (i : Nat))] ∧ i ≤ 64 ∧ Block w g 5 (barr (xorT (padK kb) by_ i)) ∧ Below W.heap.size W w
set_option maxHeartbeats 4000000 in
theorem mblock_any (w : World) (v : Value) (kb : List B8) (by_ : B8) (hr : BRow w v kb) (hk : kb.length ≤ 64) :
  Calls Tryz.prog 124 #[v, u8v by_] w fun e w' => (∃ g, e = .returned (.slice (some ⟨g, 0, none⟩) 64 64) ∧ w.heap.size ≤ g ∧ Block w' g 5 (barr (blkF kb by_))) ∧ Below w.heap.size w w' := by
 obtain ⟨A, c, rfl, h1, h2, h3, hh⟩ := hr
 replace hh := Lib.hid hh
 have hall := Below.refl w.heap.size w
 refine K_enter 33 Tryz.func124 rfl rfl fun a H => ?_
 replace H := H.pick [0, 1]
 refine zC (zD ?_)
 refine kR 1 H rfl fun a H => ?_
 refine zA (zB (zC (zD ?_)))
 refine op_mk64 fun w1 g hge hb kg => ?_; have gg := Nat.le_trans hall.size hge; replace hall := hall.tr hb; clear hb hge; refine kl H rfl fun a H => ?_
 refine kR 1 H rfl fun a H => ?_
 refine zA (zB (zC (zC (zD ?_))))
 refine kR 1 H rfl fun a H => ?_
 refine kV H (r_len U30 (H.ev rfl)) rfl fun a H => ?_
 refine kV H (r_gt U3 (H.ev rfl) evc (dec_f (by omega))) rfl fun a H => ?_
 refine zA (zB (zG H rfl (zE (zB (zC (zD ?_))))))
 refine kR 2 H rfl fun a H => ?_
 refine wl_row _ g 5 (barr (List.replicate 64 0)) _ kg (run_b2 (.slice (some ⟨g, 0, none⟩) 64 64) (.slice A kb.length c) (H.ev rfl) (H.ev rfl) (b_copy (run_copy_blk _ _ _ _ 5 1 U30 s5 (by omega) g 0 64 64 _ 5 kg A kb.length c (kb.map u8v) (by rw [List.length_map, Nat.mul_one]; exact (Nat.min_eq_left hk).symm) (hh.out.up hall) (u8s_one _) (by rw [barr_size]; simp; omega)))) fun w7 kq hb7 ho7 => ?_; clear kg; rw [padK_spl hk] at kq; have kg := kq; replace hall := hall.trans (hb7 _ gg); clear hb7 ho7 kq; refine kl H rfl fun a H => ?_
 refine zA (zB (zC (zC (zD ?_))))
 refine kR 1 H rfl fun a H => ?_
 refine kV H (r_len U30 (H.ev rfl)) rfl fun a H => ?_
 refine kR 1 H rfl fun a H => ?_
 refine zA (zB ?_)
 refine wp_block ?_
 rw [← xorT_zero (padK kb) by_] at kg
 refine wp_loop (Mb1 w g kb by_) (fun a _ => 64 - (intOf (a.eval (.tmp 21))).toNat) ⟨0, H.pick [1, 5, 19, 20, 21], by omega, kg, hall⟩ ?_
 clear H hall kg
 rintro a w' ⟨i, H, hi, kg, hall⟩
 have H0 := H
 by_cases hlt : i < 64
 ·
  obtain ⟨x, hx⟩ : ∃ x, (padK kb)[i]? = some x := ⟨_, List.getElem?_eq_getElem (by rw [padK_len hk]; exact hlt)⟩
  have HX := Lib.hid hx
  rw [xorT_mid hx] at kg
  clear hx
  have H := H0
  refine zC (zD ?_)
  refine kV H (r_lt U3 (H.ev rfl) (H.ev rfl) (dec_t (by omega))) rfl fun a H => ?_
  refine zA (zB (zC (zH H rfl (zE (zB (zC ?_))))))
  refine wp_block ?_
  refine zC (zD ?_)
  refine kR 2 H rfl fun a H => ?_
  refine zA (zB (zD ?_))
  refine kR 2 H rfl fun a H => ?_
  refine kV H (r_idx (j := i) (q := 0 + i) U30 s5 (H.ev rfl) (H.ev rfl) (by omega) (by omega)) rfl fun a H => ?_
  refine kV H (r_ld U5 rfl (H.ev rfl) (barr_cell0 kg (mid_here (xorT_len hk hi)))) rfl fun a H => ?_
  refine kR 1 H rfl fun a H => ?_
  refine kV H (r_xor8 U5 (H.ev rfl) (H.ev rfl)) rfl fun a H => ?_
  refine kV H (r_idx (j := i) (q := 0 + i) U30 s5 (H.ev rfl) (H.ev rfl) (by omega) (by omega)) rfl fun a H => ?_
  refine op_store1 5 (.tmp 30) (.tmp 29) g (0 + i) 5 (u8v (x ^^^ by_)) _ (H.ev rfl) (H.ev rfl) kg s5 (xorT_fit hk hi hlt HX.out) (u8_one _) fun w' hb ho kq => ?_; clear kg; have kg := barr_set kq; rw [Nat.zero_add, mid_set (xorT_len hk hi), xorT_next hk hlt HX.out] at kg; replace hall := hall.trans (hb _ gg); clear hb ho kq; refine kl0 H fun a H => ?_
  refine zA (n_block (zB (zD ?_)))
  refine kV H (r_add (q := ((i + 1 : Nat) : Int)) U3 (H.ev rfl) evc (by omega) (by omega)) rfl fun a H => ?_
  refine kR 1 H rfl fun a H => ?_
  refine zA ?_
  refine zI ⟨⟨i + 1, H.pick [1, 5, 19, 20, 21], by omega, kg, hall⟩, ?_⟩
  rw [H.ev (j := 21) rfl, H0.ev (j := 21) rfl]
  simp only [intOf]
  omega
 ·
  obtain rfl : i = 64 := by omega
  refine zC (zD ?_)
  refine kV H (r_lt U3 (H.ev rfl) (H.ev rfl) (dec_f (by omega))) rfl fun a H => ?_
  refine zA (zB (zC (zG H rfl (wp_exit (e_then (e_then ?_))))))
  refine e_here ?_
  refine zB (zC (zD ?_))
  refine kR 2 H rfl fun a H => ?_
  refine zA (zB (zF ?_))
  rw [xorT_full hk] at kg
  exact k_ret1 H rfl rfl ⟨⟨g, rfl, gg, kg⟩, hall⟩
/-- a digest by a key -/
def macF (k m : List B8) : List B8 := sumF (blkF k 92#8 ++ sumF (blkF k 54#8 ++ m))
theorem i30 : (Tryz.prog.info? 30).map (fun i => (i.zero, i.size, i.bytes)) = some (some (.slice none 0 0), 1, 24) := by kernel_rfl
theorem blkF_len {kb : List B8} {y : B8} (h : kb.length ≤ 64) : (blkF kb y).length = 64 := by rw [blkF, List.length_map, padK_len h]
theorem sumF_len {bs : List B8} : (sumF bs).length = 32 := outF_len
theorem s105s {bs : List B8} : (Tryz.prog.info? 105).map (·.size) = some (barr (sumF bs)).size := by
 rw [barr_size, sumF_len]; exact s105
theorem s105m {bs : List B8} : (Tryz.prog.info? 105).map (·.size) = some (Value.agg (barr (sumF bs))).cells.size := by
 show _ = some (barr (sumF bs)).size
 rw [barr_size, sumF_len]; exact s105
theorem barr_fit {l : List B8} (h : l.length = 32) : 0 + (Value.agg (barr l)).cells.size ≤ (barr (List.replicate 32 0)).size := by
 show 0 + (barr l).size ≤ _
 rw [barr_size, barr_size, h]
 simp
theorem setL_all : ∀ (vs : List Value) (pre old : List Value), old.length = vs.length → setL (pre ++ old).toArray pre.length vs = (pre ++ vs).toArray
 | [], pre, old, h => by
  have : old = [] := List.eq_nil_of_length_eq_zero h
  subst this
  rfl
 | v :: vs, pre, [], h => by cases h
 | v :: vs, pre, o :: old, h => by
  rw [setL]
  have e : (pre ++ o :: old).toArray.setIfInBounds pre.length v = ((pre ++ [v]) ++ old).toArray := by
   apply Array.ext'
   simp
  rw [e]
  have := setL_all vs (pre ++ [v]) old (by simpa using h)
  simp only [List.length_append, List.length_cons, List.length_nil] at this
  rw [this]
  simp
theorem barr_all {w : World} {b : Nat} {t : TypeId} {l m : List B8} (hl : l.length = m.length) (h : Block w b t (setL (barr l) 0 (Value.agg (barr m)).cells.toList)) : Block w b t (barr m) := by
 have e := setL_all (m.map u8v) [] (l.map u8v) (by simpa using hl)
 simp only [List.nil_append, List.length_nil] at e
 have e2 : (Value.agg (barr m)).cells.toList = m.map u8v := rfl
 rw [e2] at h
 rw [e] at h
 exact h
theorem brow_block {w : World} {g n : Nat} {t : TypeId} {l : List B8} (k : Block w g t (barr l)) (hl : l.length = n) (hm : n ≤ maxLen) : BRow w (.slice (some ⟨g, 0, none⟩) n n) l := by
 subst hl
 exact ⟨_, _, rfl, Nat.le_refl _, hm, (fun e => by cases e), fun j hj => ⟨g, 0, rfl, by rw [Nat.zero_add, k.cell]; simp⟩⟩
theorem own_one {w : World} {b : Nat} {x : Value} (k : Block w b 30 #[x]) : w.ownsRow b 30 1 (.slice (some ⟨b, 0, none⟩) 1 1) 1 [x] := ⟨rfl, .inr ⟨b, 1, _, rfl, Nat.le_refl _, k, Nat.le_refl _, by simp [maxLen], rfl, rfl⟩⟩
theorem prow_one {w : World} {ps : List (Value × List B8)} (h : ∀ p ∈ ps, BRow w p.1 p.2) : ∀ u ∈ ps.map (·.1), u.oneCell' = true := fun u hu => by
 obtain ⟨p, hp, rfl⟩ := List.mem_map.1 hu
 obtain ⟨A, c, e, _⟩ := h p hp
 rw [e]
 rfl
theorem prow_cons {w : World} {B : Nat} {v s : Value} {ps : List (Value × List B8)} {bs : List B8} (hown : w.ownsRow B 30 1 v (1 + ps.length) ([s] ++ ps.map (·.1))) (hs : BRow w s bs) (hps : ∀ p ∈ ps, BRow w p.1 p.2) : PRow w v ((s, bs) :: ps) := by
 have h' := hown
 obtain ⟨A, c, rfl, hh, h1, h2⟩ := own_slice hown
 refine ⟨⟨A, c, by rw [List.length_cons, Nat.add_comm], by rw [List.length_cons]; omega, h2, fun e => ?_, hh⟩, fun p hp => ?_⟩
 ·
  subst e
  rcases h'.2 with ⟨e, _⟩ | ⟨g, cap, cur, e, _⟩
  · injection e
  · cases e
 ·
  rcases List.mem_cons.1 hp with rfl | hp
  · exact hs
  · exact hps p hp
theorem tot_cons {p : Value × List B8} {ps : List (Value × List B8)} : tot (p :: ps) = p.2.length + tot ps := by simp [tot]
theorem sum1_any (w : World) (v s : Value) (bs : List B8) (ps : List (Value × List B8)) (hp : PRow w v ((s, bs) :: ps)) (hn : bs.length + tot ps ≤ 1000000) (hl : ps.length ≤ 900000) :
  Calls Tryz.prog 123 #[v] w fun e w' => e = .returned (.agg (barr (sumF (bs ++ cat ps)))) ∧ Below w.heap.size w w' :=
 sum_any w v ((s, bs) :: ps) hp (by rw [tot_cons]; exact hn) (by simp only [List.length_cons]; omega)
theorem sum2_any (w : World) (s t : Value) (b : Nat) (bs cs : List B8) (k : Block w b 30 #[s, t]) (hs : BRow w s bs) (ht : BRow w t cs) (hn : bs.length + cs.length ≤ 1000000) :
  Calls Tryz.prog 123 #[.slice (some ⟨b, 0, none⟩) 2 2] w fun e w' => e = .returned (.agg (barr (sumF (bs ++ cs)))) ∧ Below w.heap.size w w' := by
 have h := sum_any w (.slice (some ⟨b, 0, none⟩) 2 2) [(s, bs), (t, cs)] ⟨⟨_, 2, rfl, Nat.le_refl _, by simp [maxLen], (fun e => by cases e), fun j hj => ⟨b, 0, rfl, by rw [Nat.zero_add, k.cell]; simp⟩⟩, fun p hp => by
  simp only [List.mem_cons, List.mem_nil_iff, or_false] at hp
  rcases hp with rfl | rfl
  · exact hs
  · exact ht⟩ (by simp [tot]; omega) (by simp)
 have e : cat [(s, bs), (t, cs)] = bs ++ cs := by simp [cat]
 rw [e] at h
 exact h
theorem r_slice_all {P : Program} {d : Option Tmp} {tt : TypeId} {ps : String} {af : Array Edge} {gd : Option (Nat × Bool)} {a : Act} {w : World} {x : Operand} {T E : TypeId} {N b o : Nat} (hT : P.underlying T = some (.array N E)) (hs : (P.info? E).map (·.size) = some 1) (hx : a.eval x = .pointer (some ⟨b, o, none⟩)) (hN : 0 < N) :
  (execOp a.eval ⟨d, .slice T x none none none, tt, ps, af, gd⟩).run P w = .ok (.value (.slice (some ⟨b, o, none⟩) N N)) w := by
 cases hq : P.info? E with
 | none => simp [hq] at hs
 | some i0 =>
  have hsz : i0.size = 1 := by simpa [hq] using hs
  unfold execOp
  simp only [hx]
  simp [Instr.sliceAt, Instr.sliceBounds, Instr.sureAddr, run_underlying hT, sizeOf, typeInfo, program, hq, hsz, add_flat, Sem.run, Sem.run_bind, Sem.run_pure, Result.andThen_ok]
set_option maxRecDepth 100000 in
set_option maxHeartbeats 4000000 in
theorem mac_any (w : World) (v u : Value) (kb : List B8) (ps : List (Value × List B8)) (hr : BRow w v kb) (hp : PRow w u ps) (hk : kb.length ≤ 64) (hn : tot ps ≤ 900000) (hl : ps.length ≤ 900000) :
  Calls Tryz.prog 108 #[v, u] w fun e w' => e = .returned (.agg (barr (macF kb (cat ps)))) ∧ Below w.heap.size w w' := by
 have hp0 := Lib.hid hp
 replace hp := Lib.hid hp
 replace hr := Lib.hid hr
 have hall := Below.refl w.heap.size w
 refine K_enter 17 Tryz.func108 rfl rfl fun a H => ?_
 replace H := H.pick [0, 1]
 refine zC (zD ?_)
 refine op_alloc 105 (barr (List.replicate 32 0)) z105 fun w0 b0 hge hb k0 => ?_; have g0 := Nat.le_trans hall.size hge; replace hall := hall.tr hb; clear hb; clear hge; refine kl H rfl fun a H => ?_
 refine zA (zB (zC (zD ?_)))
 refine kR 1 H rfl fun a H => ?_
 refine wl_call _ _ _ (mblock_any _ _ kb 54#8 (BRow.up hr.out hall) hk) (r_call2 cf124 (H.ev rfl) evc) ?_; rintro e w9 ⟨⟨g, rfl, hg, kg⟩, hb⟩; refine ⟨_, rfl, ?_⟩; have gg := Nat.le_trans hall.size hg; have hg0 : b0 < g := Nat.lt_of_lt_of_le k0.lt hg; clear hg; replace k0 := Block.ups k0 hb; replace hall := hall.tr hb; clear hb; refine kl H rfl fun a H => ?_
 refine op_litv 29 1 #[(0, .slice (some ⟨g, 0, none⟩) 64 64)] 30 #[.slice (some ⟨g, 0, none⟩) 64 64] (by simp [evc, H.ev (j := 7) rfl]) (fun w => by kernel_rfl) fun w1 b1 hge hb k1 => ?_; have g1 := Nat.le_trans hall.size hge; have hgl1 : g < b1 := Nat.lt_of_lt_of_le kg.lt hge; have hd01 : b0 < b1 := Nat.lt_of_lt_of_le k0.lt hge; replace k0 := Block.ups k0 hb; replace kg := Block.ups kg hb; replace hall := hall.tr hb; clear hb; clear hge; refine kl H rfl fun a H => ?_
 refine kR 1 H rfl fun a H => ?_
 have hown0 := own_one k1; obtain ⟨⟨Ap, cp, hv, q1, q2, q3, q4⟩, q5⟩ := PRow.up hp.out hall; subst hv; have hkb := k1.lt; refine op_append 29 30 (.tmp 8) (.tmp 9) b1 (.slice none 0 0) 1 24 _ _ _ Ap ps.length cp (ps.map (·.1)) (H.ev rfl) (H.ev rfl) U29 i30 rfl (by omega) hown0 (by simp) q4 (prow_one q5) (by unfold maxLen; omega) (by omega) (by omega) fun o2 w9 hown2 hg9 hv9 hb2 => ?_; replace kg := Block.up kg hb2 hgl1; replace k0 := Block.up k0 hb2 hd01; replace hall := hall.trans (hb2.mono g1); have hprow := prow_cons hown2 (brow_block kg (blkF_len hk) (by unfold maxLen; omega)) (fun p hq => (hp0.out.2 p hq).up hall); clear kg hown0 hown2 hg9 hv9 hb2 q4 q5 k1; refine kl H rfl fun a H => ?_
 refine wl_call _ _ _ (sum1_any _ _ _ _ ps hprow (by rw [blkF_len hk]; omega) (by omega)) (r_call1 cf123 (H.ev rfl)) ?_; rintro e w9 ⟨rfl, hb⟩; refine ⟨_, rfl, ?_⟩; clear hprow; replace k0 := Block.ups k0 hb; replace hall := hall.tr hb; clear hb; refine kl H rfl fun a H => ?_
 refine op_alloc 105 (barr (List.replicate 32 0)) z105 fun w2 b2 hge hb k2 => ?_; have g2 := Nat.le_trans hall.size hge; have hd02 : b0 < b2 := Nat.lt_of_lt_of_le k0.lt hge; replace k0 := Block.ups k0 hb; replace hall := hall.tr hb; clear hb; clear hge; refine kl H rfl fun a H => ?_
 refine op_store 105 (.tmp 5) (.tmp 11) b2 105 (barr (sumF (blkF kb 54#8 ++ cat ps))) _ (H.ev rfl) (H.ev rfl) k2 s105s (by rw [barr_size, barr_size, sumF_len]; rfl) (barr_one _) fun w' hb ho kq => ?_; clear k2; have k2 := kq; replace k0 := block_same k0 (ho _ (by omega)); replace hall := hall.trans (hb _ g2); clear hb ho kq; refine kl0 H fun a H => ?_
 refine zA (zB (zC ?_))
 have hall2 := hall
 have hS : BelowOf (BelowTo hall2) _ := Below.drew (Below.refl _ (BelowTo hall2))
 refine region_tree (BelowOf (BelowTo hall2)) 5 (.fl 0 (.fl 2 (.one 1 (.one 3 (.one 4 (.one 5 .done)))))) (by kernel_rfl) (by kernel_rfl) rfl (by kernel_rfl) hS ?_
 refine kQ 1 H rfl fun a H => ?_
 refine kF (v := .slice (some ⟨b2, 0, none⟩) 32 32) H rfl rfl (fun w' hS' => r_slice_all (b := b2) (o := 0) U105 s5 (H.ev rfl) (by omega)) rfl fun a H => ?_
 refine pt_one (fun K hK => ?_)
 refine st_a0 rfl ?_; refine wpo_call _ _ _ (mblock_any _ _ kb 92#8 (BRow.up hr.out (hall2.trans (Below.mono hS hall2.size))) hk) (r_call2 cf124 (H.ev rfl) evc) ?_; rintro e w9 ⟨⟨g2, rfl, hg2, kg2⟩, hb⟩; refine ⟨_, rfl, ?_⟩; replace hS := Below.trans hS (Below.mono hb (Below.size hS)); clear hb hg2; refine hK _ _ ⟨(fun _ => hS), ?_⟩; clear hK; clear K; refine kt H rfl fun a H => ?_
 refine pt_one (fun K hK => ?_)
 refine st_a0 rfl ?_; refine wpo_litv 29 2 #[(0, .slice (some ⟨g2, 0, none⟩) 64 64), (1, .slice (some ⟨b2, 0, none⟩) 32 32)] 30 #[.slice (some ⟨g2, 0, none⟩) 64 64, .slice (some ⟨b2, 0, none⟩) 32 32] (by simp [H.ev (j := 13) rfl, H.ev (j := 14) rfl]) (fun w => by kernel_rfl) fun w10 b10 hge hb k10 => ?_; replace kg2 := Block.ups kg2 hb; replace hS := Below.trans hS (Below.mono hb (Below.size hS)); clear hb hge; refine hK _ _ ⟨(fun _ => hS), ?_⟩; clear hK; clear K; refine kt H rfl fun a H => ?_
 refine pt_one (fun K hK => ?_)
 refine st_a0 rfl ?_; refine wpo_call _ _ _ (sum2_any _ _ _ _ _ _ k10 (brow_block kg2 (blkF_len hk) (by unfold maxLen; omega)) (brow_block (Block.ups k2 hS) sumF_len (by unfold maxLen; omega)) (by rw [blkF_len hk, sumF_len]; omega)) (r_call1 cf123 (H.ev rfl)) ?_; rintro e w9 ⟨rfl, hb⟩; refine ⟨_, rfl, ?_⟩; replace hS := Below.trans hS (Below.mono hb (Below.size hS)); clear hb kg2 k10; refine hK _ _ ⟨(fun _ => hS), ?_⟩; clear hK; clear K; refine kt H rfl fun a H => ?_
 refine pt_one (fun K hK => ?_)
 replace k0 := Block.ups k0 hS
 replace k2 := Block.ups k2 hS
 replace hall := hall.trans (Below.mono hS hall.size)
 refine st_a0 rfl ?_; refine wpo_store1 105 (.tmp 4) (.tmp 16) b0 0 105 (.agg (barr (macF kb (cat ps)))) _ (H.ev rfl) (H.ev rfl) k0 s105m (barr_fit sumF_len) (barr_one _) fun w' hb ho kq => ?_; clear k0; have k0 := barr_all (by show _ = (sumF _).length; rw [sumF_len]; rfl) kq; replace hall := hall.trans (hb _ g0); clear hb ho kq; refine hK _ _ ⟨(fun h => absurd rfl h), ?_⟩; clear hK; clear K; clear hS; skip
 refine pt_done (NoPanic.normal ?_)
 refine zB (zF ?_)
 exact k_ret_cell H rfl rfl k0 U105 rfl s105s ⟨rfl, hall⟩
end Go.Proofs.YtbnmpoonkjlkjaaGreat
