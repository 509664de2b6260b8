/- Client: part B of the proof. -/
import Derived.Test.YtbnmpoonkjlkjaaGreatXA
namespace Go.Proofs.YtbnmpoonkjlkjaaGreat
open Go.RowKit
set_option linter.unusedVariables false
set_option linter.unusedSimpArgs false
set_option maxRecDepth 100000
set_option maxHeartbeats 8000000
theorem Cw {P : Program} {a : Act} {w : World} {n : Nat} {l : List (Nat × Value)} {fn : Func} {R : Ending → World → Prop} {p : Tmp} {ty : TypeId} {g : Nat} {t : TypeId} {C : Array Value} {ds : TypeDesc} (H : Kn a n l) (hf : fn.results = #[.cell p ty]) (hp : lk l p = some (.pointer (some ⟨g, 0, none⟩)))
  (hg : Ad w g t C) (hu : P.underlying ty = some ds) (hd : (match ds with | .struct _ | .array _ _ => true | _ => false) = true) (hi : (P.info? ty).map (·.size) = some C.size) (h : R (.returned (.agg C)) w) : bodyPost P fn R .ret a w :=
 ⟨H.defers, _, Tm hf a.tmps w g t C ds (H.at_ p _ hp) hg hu hd hi, h⟩
def E4 {B : Nat} {W w : World} (_ : Below B W w) : World := w
/-- an array of words -/
abbrev Ci (l : List D6) : Array Value := (l.map u32v).toArray
theorem EO (l : List D6) : (Ci l).all (·.oneCell') = true := by
 simp [Ci, Value.oneCell']
theorem Bt {w : World} {b : Nat} {t : TypeId} {l : List D6} {i : Nat} {x : D6} (h : Ad w b t (Ci l)) (hx : l[i]? = some x) : w.cell? ⟨b, i, none⟩ = some (u32v x) := by
 rw [h.cell]
 simp [Ci, hx]
theorem FL (C : Array Value) (o : Nat) (v : Value) : C3 C o [v] = C.setIfInBounds o v := rfl
theorem Hu {w : World} {b i : Nat} {t : TypeId} {l : List D6} {y : D6} (h : Ad w b t (C3 (Ci l) i (u32v y).cells.toList)) : Ad w b t (Ci (l.set i y)) := by
 have e : C3 (Ci l) i (u32v y).cells.toList = Ci (l.set i y) := by
  show C3 (Ci l) i [u32v y] = _
  rw [FL]
  apply Array.ext'
  simp [Ci, List.map_set]
 rw [← e]; exact h
def Dd (x : D6) (n : Nat) : D6 := x >>> n ||| x <<< (32 - n)
def KC : List D6 := [1116352408#32, 1899447441#32, 3049323471#32, 3921009573#32, 961987163#32, 1508970993#32, 2453635748#32, 2870763221#32, 3624381080#32, 310598401#32, 607225278#32, 1426881987#32, 1925078388#32, 2162078206#32, 2614888103#32, 3248222580#32, 3835390401#32, 4022224774#32, 264347078#32, 604807628#32, 770255983#32, 1249150122#32, 1555081692#32, 1996064986#32, 2554220882#32, 2821834349#32, 2952996808#32, 3210313671#32, 3336571891#32, 3584528711#32, 113926993#32, 338241895#32, 666307205#32, 773529912#32, 1294757372#32, 1396182291#32, 1695183700#32, 1986661051#32, 2177026350#32, 2456956037#32, 2730485921#32, 2820302411#32, 3259730800#32, 3345764771#32, 3516065817#32, 3600352804#32, 4094571909#32, 275423344#32, 430227734#32, 506948616#32, 659060556#32, 883997877#32, 958139571#32, 1322822218#32, 1537002063#32, 1747873779#32, 1955562222#32, 2024104815#32, 2227730452#32, 2361852424#32, 2428436474#32, 2756734187#32, 3204031479#32, 3329325298#32]
theorem Ye : (Tryz.prog.info? 159).map (·.zero) = some (some (.agg (Ci (List.replicate 64 0)))) := by kernel_rfl
theorem UC (x : D6) (n : Nat) (w : World) (h1 : 1 ≤ n) (h2 : n ≤ 31) :
  Calls Tryz.prog 148 #[u32v x, J (n : Nat)] w fun e w' => e = .returned (u32v (Dd x n)) ∧ Below w.heap.size w w' := by
 have Aa := Below.refl w.heap.size w
 refine Az 13 Tryz.func148 R R λ a H => zC (zD (kR 1 H R λ a H => zA (zB (zC (rB 9 (Dn [0, 1, 2, 3, 4, 5, 6, 7, 8] .done) fun hS => kQ 2 H R λ a H => kE 2 H R R (fun w' Aj => Mc (k := n) (by omega) BC (H.e R) (H.e R)) R λ a H => kF H R R (fun w' Aj => Dl (q := ((32 - n : Nat) : Int)) U3 Am (H.e R) (by omega) (by omega)) R λ a H => kF H R R (fun w' Aj => Tp (k := 32 - n) (by omega) BC (H.e R) (H.e R)) R λ a H => kE 1 H R R (fun w' Aj => IR BC (H.e R) (H.e R)) R λ a H => Aw (NoPanic.normal ?_))))))
 replace Aa := Aa.trans (Below.mono hS Aa.size)
 clear hS
 exact zB (zF (Ag H R R ⟨R, Aa⟩))
theorem EA (x : D6) (n : Nat) (q : Int) (w : World) (hq : q = (n : Int)) (h1 : 1 ≤ n) (h2 : n ≤ 31) :
  Calls Tryz.prog 148 #[u32v x, J q] w fun e w' => e = .returned (u32v (Dd x n)) ∧ Below w.heap.size w w' := by
 subst hq
 exact UC x n w h1 h2
theorem WG {a : Act} {w : World} {d : Option Tmp} {tt : TypeId} {ps : String} {af : Array Edge} {gd : Option (Nat × Bool)} : (execOp a.eval ⟨d, .build 159 #[(0, .const (.int .u32 1116352408)), (1, .const (.int .u32 1899447441)), (2, .const (.int .u32 3049323471)), (3, .const (.int .u32 3921009573)), (4, .const (.int .u32 961987163)), (5, .const (.int .u32 1508970993)), (6, .const (.int .u32 2453635748)), (7, .const (.int .u32 2870763221)), (8, .const (.int .u32 3624381080)), (9, .const (.int .u32 310598401)), (10, .const (.int .u32 607225278)), (11, .const (.int .u32 1426881987)), (12, .const (.int .u32 1925078388)), (13, .const (.int .u32 2162078206)), (14, .const (.int .u32 2614888103)), (15, .const (.int .u32 3248222580)), (16, .const (.int .u32 3835390401)), (17, .const (.int .u32 4022224774)), (18, .const (.int .u32 264347078)), (19, .const (.int .u32 604807628)), (20, .const (.int .u32 770255983)), (21, .const (.int .u32 1249150122)), (22, .const (.int .u32 1555081692)), (23, .const (.int .u32 1996064986)), (24, .const (.int .u32 2554220882)), (25, .const (.int .u32 2821834349)), (26, .const (.int .u32 2952996808)), (27, .const (.int .u32 3210313671)), (28, .const (.int .u32 3336571891)), (29, .const (.int .u32 3584528711)), (30, .const (.int .u32 113926993)), (31, .const (.int .u32 338241895)), (32, .const (.int .u32 666307205)), (33, .const (.int .u32 773529912)), (34, .const (.int .u32 1294757372)), (35, .const (.int .u32 1396182291)), (36, .const (.int .u32 1695183700)), (37, .const (.int .u32 1986661051)), (38, .const (.int .u32 2177026350)), (39, .const (.int .u32 2456956037)), (40, .const (.int .u32 2730485921)), (41, .const (.int .u32 2820302411)), (42, .const (.int .u32 3259730800)), (43, .const (.int .u32 3345764771)), (44, .const (.int .u32 3516065817)), (45, .const (.int .u32 3600352804)), (46, .const (.int .u32 4094571909)), (47, .const (.int .u32 275423344)), (48, .const (.int .u32 430227734)), (49, .const (.int .u32 506948616)), (50, .const (.int .u32 659060556)), (51, .const (.int .u32 883997877)), (52, .const (.int .u32 958139571)), (53, .const (.int .u32 1322822218)), (54, .const (.int .u32 1537002063)), (55, .const (.int .u32 1747873779)), (56, .const (.int .u32 1955562222)), (57, .const (.int .u32 2024104815)), (58, .const (.int .u32 2227730452)), (59, .const (.int .u32 2361852424)), (60, .const (.int .u32 2428436474)), (61, .const (.int .u32 2756734187)), (62, .const (.int .u32 3204031479)), (63, .const (.int .u32 3329325298))], tt, ps, af, gd⟩).run Tryz.prog w = .ok (.value (.agg (Ci KC))) w := by
 kernel_rfl
theorem SL (w : World) : Calls Tryz.prog 146 #[] w fun e w' => e = .returned (.agg (Ci KC)) ∧ Below w.heap.size w w' := by
 have Aa := Below.refl w.heap.size w
 refine Az 2 Tryz.func146 R R λ a H => zC (zD (Bj 159 (Ci (List.replicate 64 0)) Ye fun w0 b0 Ak hb k0 => ?_))
 have g0 := Nat.le_trans Aa.size Ak; replace Aa := Aa.tr hb; clear hb Ak; refine kl H rfl λ a H => zA (zB (zC (zD (Fr (.agg (Ci KC)) WG (kl H rfl λ a H => AT 159 (.tmp 0) (.tmp 1) b0 159 (Ci KC) _ (H.ev rfl) (H.ev rfl) k0 Ys rfl (EO _) fun w' hb ho kq => ?_)))))
 clear k0; replace Aa := Aa.trans (hb _ g0); clear hb ho; exact Dz H λ a H => zA (zB (zF (Cw H rfl rfl kq Lv rfl Ys ⟨rfl, Aa⟩)))
/-- a slice of bytes -/
def B9 (w : World) (v : Value) (bs : List B8) : Prop := ∃ A c, v = .slice A bs.length c ∧ bs.length ≤ c ∧ c ≤ maxLen ∧ (A = none → c = 0) ∧ BJ w A (bs.map u8v)
theorem B9.up {w w' : World} {v : Value} {bs : List B8} (h : B9 w v bs) (hb : Below w.heap.size w w') : B9 w' v bs := by
 obtain ⟨A, c, a1, a2, a3, a4, a5⟩ := h
 exact ⟨A, c, a1, a2, a3, a4, a5.up hb⟩
theorem Ew {w : World} {x0 o n c p q : Nat} {bs : List B8} {y : B8} (h : B9 w (.slice (some ⟨x0, o, none⟩) n c) bs) (hy : bs[p]? = some y) (hq : q = o + p) : w.cell? ⟨x0, q, none⟩ = some (u8v y) := by
 subst hq
 obtain ⟨A', c', e, _, _, _, hh⟩ := h
 injection e with e1 e2 e3
 subst e1
 obtain ⟨b, o', he, hc⟩ := hh p (by have := (List.getElem?_eq_some_iff.1 hy).1; simpa using this)
 injection he with he
 injection he with e4 e5
 subst e4 e5
 rw [hc]
 simp [hy]
/-- a word of four bytes -/
def NC (l : List B8) : D6 := l.foldl (fun x c => x <<< 8 ||| c.setWidth 32) 0
def cK (l : List D6) (i : Nat) : D6 :=
 l.getD (i - 16) 0 + l.getD (i - 7) 0 + (Dd (l.getD (i - 15) 0) 7 ^^^ Dd (l.getD (i - 15) 0) 18 ^^^ l.getD (i - 15) 0 >>> 3) + (Dd (l.getD (i - 2) 0) 17 ^^^ Dd (l.getD (i - 2) 0) 19 ^^^ l.getD (i - 2) 0 >>> 10)
/-- the first n words of a block -/
def wl (b : List B8) : Nat → List D6
 | 0 => []
 | n + 1 => wl b n ++ [if n < 16 then NC ((b.drop (4 * n)).take 4) else cK (wl b n) n]
theorem wl_len (b : List B8) : ∀ n, (wl b n).length = n
 | 0 => rfl
 | n + 1 => by simp [wl, wl_len b n]
theorem CX {l : List D6} : (Ci l).size = l.length := by simp [Ci]
theorem Yf {b : List B8} {i : Nat} (hi : i < 16) : wl b i ++ List.replicate (64 - i) (0 : D6) = wl b i ++ NC ((b.drop (4 * i)).take 0) :: List.replicate (63 - i) (0 : D6) := by
 rw [show 64 - i = (63 - i) + 1 by omega, List.replicate_succ]
 rfl
theorem VJ {b : List B8} {i : Nat} (hi : i < 64) : wl b i ++ List.replicate (64 - i) (0 : D6) = wl b i ++ 0 :: List.replicate (63 - i) (0 : D6) := by
 rw [show 64 - i = (63 - i) + 1 by omega, List.replicate_succ]
theorem Yg {b : List B8} {i : Nat} (hi : i < 16) : wl b i ++ NC ((b.drop (4 * i)).take 4) :: List.replicate (63 - i) (0 : D6) = wl b (i + 1) ++ List.replicate (64 - (i + 1)) (0 : D6) := by
 rw [show 64 - (i + 1) = 63 - i by omega]
 simp [wl, hi]
theorem Yj {b : List B8} : wl b 64 ++ List.replicate (64 - 64) (0 : D6) = wl b 64 := by simp
theorem Yi {b : List B8} {i : Nat} {x y z u : D6} (h0 : 16 ≤ i) (hi : i < 64) (hx : (wl b i).getD (i - 15) 0 = x) (hy : (wl b i).getD (i - 2) 0 = y) (hz : (wl b i).getD (i - 16) 0 = z) (hu : (wl b i).getD (i - 7) 0 = u) :
  wl b (i + 1) ++ List.replicate (64 - (i + 1)) (0 : D6) = wl b i ++ (((z + u) + ((Dd x 7 ^^^ Dd x 18) ^^^ (x >>> 3))) + ((Dd y 17 ^^^ Dd y 19) ^^^ (y >>> 10))) :: List.replicate (63 - i) (0 : D6) := by
 rw [show 64 - (i + 1) = 63 - i by omega]
 subst hx hy hz hu
 simp only [wl, if_neg (show ¬ i < 16 by omega), cK, List.append_assoc, List.singleton_append]
theorem u32_one (x : D6) : (u32v x).cells.all (·.oneCell') = true := by simp [Value.cells, Value.oneCell']
theorem K2 {α : Type} {l m : List α} {i : Nat} {x : α} (h : l.length = i) : (l ++ x :: m)[i]? = some x := by
 subst h
 simp
theorem Jx {α : Type} {l m : List α} {i : Nat} {x y : α} (h : l.length = i) : (l ++ x :: m).set i y = l ++ y :: m := by
 subst h
 simp
theorem mid_fit {l : List D6} {i : Nat} {x y : D6} (hi : i < 64) (h : l.length = i) : i + (u32v y).cells.size ≤ (Ci (l ++ x :: List.replicate (63 - i) (0 : D6))).size := by
 rw [CX]
 show i + 1 ≤ _
 simp
 omega
theorem K3 {l m : List D6} {i j : Nat} {x y : D6} (hx : l.getD j 0 = y) (hj : j < i) (h : l.length = i) : (l ++ x :: m)[j]? = some y := by
 rw [List.getElem?_append_left (by omega), ← hx, List.getD_eq_getElem?_getD, List.getElem?_eq_getElem (by omega)]
 rfl
theorem XT {bs : List B8} {i j : Nat} {y : B8} (hy : bs[4 * i + j]? = some y) : NC ((bs.drop (4 * i)).take (j + 1)) = (NC ((bs.drop (4 * i)).take j) <<< 8) ||| (y.setWidth 32) := by
 have h : (bs.drop (4 * i))[j]? = some y := by rw [List.getElem?_drop]; exact hy
 obtain ⟨hj, rfl⟩ := List.getElem?_eq_some_iff.1 h
 rw [List.take_succ_eq_append_getElem hj]
 unfold NC
 rw [List.foldl_append]
 rfl
def Sc1 (W : World) (x0 o c : Nat) (bs : List B8) (b0 : Nat) (a : Act) (w : World) : Prop :=
 ∃ i : Nat, Kn a 77 [(0, .slice (some ⟨x0, o, none⟩) 64 c), (2, .pointer (some ⟨b0, 0, none⟩)), (9, J (i : Nat))] ∧ i ≤ 16 ∧ Ad w b0 159 (Ci (wl bs i ++ List.replicate (64 - i) (0 : D6))) ∧ Below W.heap.size W w
def Sc2 (W : World) (x0 o c : Nat) (bs : List B8) (b0 i : Nat) (a : Act) (w : World) : Prop :=
 ∃ j : Nat, Kn a 77 [(0, .slice (some ⟨x0, o, none⟩) 64 c), (2, .pointer (some ⟨b0, 0, none⟩)), (3, J (i : Nat)), (9, J (i : Nat)), (18, .slice (some ⟨x0, o + 4 * i, none⟩) 4 (c - 4 * i)), (19, J 4), (20, J (j : Nat))] ∧ j ≤ 4 ∧ Ad w b0 159 (Ci (wl bs i ++ NC ((bs.drop (4 * i)).take j) :: List.replicate (63 - i) (0 : D6))) ∧ Below W.heap.size W w
def Sc3 (W : World) (x0 o c : Nat) (bs : List B8) (b0 : Nat) (a : Act) (w : World) : Prop :=
 ∃ i : Nat, Kn a 77 [(0, .slice (some ⟨x0, o, none⟩) 64 c), (2, .pointer (some ⟨b0, 0, none⟩)), (6, J (i : Nat))] ∧ 16 ≤ i ∧ i ≤ 64 ∧ Ad w b0 159 (Ci (wl bs i ++ List.replicate (64 - i) (0 : D6))) ∧ Below W.heap.size W w
theorem Qf {bs : List B8} : (Tryz.prog.info? 159).map (·.size) = some (Ci (wl bs 64)).size := by
 rw [CX, wl_len]; exact Ys
theorem Ux (w : World) (x0 o c : Nat) (bs : List B8) (h : B9 w (.slice (some ⟨x0, o, none⟩) 64 c) bs) (hl : bs.length = 64) (hc : 64 ≤ c) :
  Calls Tryz.prog 147 #[.slice (some ⟨x0, o, none⟩) 64 c] w fun e w' => e = .returned (.agg (Ci (wl bs 64))) ∧ Below w.heap.size w w' := by
 have J8 := hl
 replace h := Lib.hid h
 have Aa := Below.refl w.heap.size w
 refine Az 77 Tryz.func147 R R λ a H => zC (zD (Bj 159 (Ci (List.replicate 64 0)) Ye fun w0 b0 Ak hb k0 => ?_))
 have g0 := Nat.le_trans Aa.size Ak; replace Aa := Aa.tr hb; clear hb Ak; refine kl H rfl λ a H => zA (zB (zC (zC (zD (kR 1 H rfl λ a H => zA (zB (wp_block (wp_loop (Sc1 w x0 o c bs b0) (fun a _ => 16 - (intOf (a.eval (.tmp 9))).toNat) ⟨0, H.pick [0, 2, 9], by omega, k0, Aa⟩ ?_))))))))
 clear H Aa k0
 rintro a w' ⟨i, H, hi, k0, Aa⟩
 have H0 := H
 by_cases CM : i < 16
 ·
  have H := H0
  refine zC (zD (kV H (By U3 (H.e R) Am dT) R λ a H => zA (zB (zC (zH H R (zE (zB (zC (wp_block (zC (zD (kR 2 H R λ a H => zA (zB (zC (zD (kR 2 H R λ a H => kX 1 (v := J (4 * i : Nat)) H (H8 (r := ((4 * i : Nat) : Int)) U3 Am (H.e R) (by omega) (by omega)) R λ a H => kV (v := J (4 * i : Nat)) H (H8 (r := ((4 * i : Nat) : Int)) U3 Am (H.e R) (by omega) (by omega)) R λ a H => kV H (Bm (q := ((4 * i + 4 : Nat) : Int)) U3 (H.e R) Am) R λ a H => kV (v := .slice (some ⟨x0, o + 4 * i, none⟩) 4 (c - 4 * i)) H (BS CO (.slice (some ⟨x0, o, none⟩) 64 c) (some (J (4 * i : Nat))) (some (J (4 * i + 4 : Nat))) none (H.e R) (congrArg some (H.e R)) (congrArg some (H.e R)) R (CF (4 * i) (4 * i + 4) CO s5 _ _ (.inr R) (.inr R) (by omega) (by omega) (by rw [Jq (by omega), Nat.mul_one]) (by omega) R)) R λ a H => kX 1 H (Ba CO (H.e R)) R λ a H => zA (zB (wp_block ?_))))))))))))))))))
  rw [Yf (by omega)] at k0
  refine wp_loop (Sc2 w x0 o c bs b0 i) (fun a _ => 4 - (intOf (a.eval (.tmp 20))).toNat) ⟨0, H.pick [0, 2, 3, 9, 18, 19, 20], by omega, k0, Aa⟩ ?_
  clear H Aa k0
  rintro a w' ⟨j, H, hj, k0, Aa⟩
  have H1 := H
  by_cases qD : j < 4
  ·
   obtain ⟨y, hy⟩ : ∃ y, bs[4 * i + j]? = some y := ⟨_, List.getElem?_eq_getElem (by omega)⟩
   have HY := Lib.hid hy
   obtain ⟨x, hx⟩ : ∃ x, NC ((bs.drop (4 * i)).take j) = x := ⟨_, rfl⟩
   have HX := Lib.hid hx
   rw [hx] at k0
   clear hy hx
   have H := H1
   refine zC (zD (kV H (By U3 (H.e R) (H.e R) dT) R λ a H => zA (zB (zC (zH H R (zE (zB (zC (wp_block (zC (zD (kV H (Bq (j := j) (q := o + 4 * i + j) CO s5 (H.e R) (H.e R) (by omega) (by omega)) R λ a H => kX 1 H (Ai U5 R (H.e R) (Ew (B9.up h.out Aa) HY.out (by omega))) R λ a H => zA (zB (zD (kR 2 H R λ a H => kV H (C2 (j := i) (q := i) Lv s133 (H.e R) (H.e R) (by omega) (by omega)) R λ a H => kV H (Ai BC R (H.e R) (Bt k0 (K2 (wl_len _ _)))) R λ a H => kX 1 H (Kp (k := 8) (by omega) BC (H.e R) Am) R λ a H => kV H (IU U5 BC (H.e R)) R λ a H => kV H (IR BC (H.e R) (H.e R)) R λ a H => kV H (C2 (j := i) (q := i) Lv s133 (H.e R) (H.e R) (by omega) (by omega)) R λ a H => AP 133 (.tmp 32) (.tmp 31) b0 i 159 (u32v ((x <<< 8) ||| (y.setWidth 32))) _ (H.e R) (H.e R) k0 s133 (mid_fit (by omega) (wl_len _ _)) (u32_one _) fun w' hb ho kq => ?_)))))))))))))))
   clear k0; have k0 := Hu kq; rw [Jx (wl_len _ _)] at k0; replace Aa := Aa.trans (hb _ g0); clear hb ho kq; refine Dz H λ a H => zA (AC (zB (zD (kX 1 H (Bm (q := ((j + 1 : Nat) : Int)) U3 (H.ev rfl) Am) rfl λ a H => zA (zI ⟨⟨j + 1, H.pick [0, 2, 3, 9, 18, 19, 20], by omega, by rw [XT HY.out, HX.out]; exact k0, Aa⟩, ?_⟩)))))
   rw [H.ev (j := 20) rfl, H1.ev (j := 20) rfl]
   simp only [intOf]
   omega
  ·
   obtain rfl : j = 4 := by omega
   rw [Yg (by omega)] at k0
   refine zC (zD (kV H (By U3 (H.e R) (H.e R) dF) R λ a H => zA (zB (zC (zG H R (wp_exit (AJ (AJ (BD (AC (zB (zD (kX 1 H (Bm (q := ((i + 1 : Nat) : Int)) U3 (H.e R) Am) R λ a H => zA (zI ⟨⟨i + 1, H.pick [0, 2, 9], by omega, k0, Aa⟩, ?_⟩))))))))))))))
   rw [H.ev (j := 9) rfl, H0.ev (j := 9) rfl]
   simp only [intOf]
   omega
 ·
  obtain rfl : i = 16 := by omega
  refine zC (zD (kV H (By U3 (H.e R) Am dF) R λ a H => zA (zB (zC (zG H R (wp_exit (AJ (AJ (BD (zB (zC (zC (zD (kR 1 H R λ a H => zA (zB (wp_block (wp_loop (Sc3 w x0 o c bs b0) (fun a _ => 64 - (intOf (a.eval (.tmp 6))).toNat) ⟨16, H.pick [0, 2, 6], by omega, by omega, k0, Aa⟩ ?_)))))))))))))))))
  clear H Aa k0
  rintro a w' ⟨i, H, mP, hi, k0, Aa⟩
  have H0 := H
  by_cases CM : i < 64
  ·
   rw [VJ (by omega)] at k0
   obtain ⟨x, hx⟩ : ∃ x, (wl bs i).getD (i - 15) 0 = x := ⟨_, rfl⟩
   obtain ⟨y, hy⟩ : ∃ y, (wl bs i).getD (i - 2) 0 = y := ⟨_, rfl⟩
   obtain ⟨z, hz⟩ : ∃ z, (wl bs i).getD (i - 16) 0 = z := ⟨_, rfl⟩
   obtain ⟨u, hu⟩ : ∃ u, (wl bs i).getD (i - 7) 0 = u := ⟨_, rfl⟩
   have HX := Lib.hid hx
   have HY := Lib.hid hy
   have HZ := Lib.hid hz
   have HU := Lib.hid hu
   clear hx hy hz hu
   have H := H0
   refine zC (zC (zD (kR 1 H R λ a H => kV H (By U3 (H.e R) Am dT) R λ a H => zA (zB (zH H R (zE (zB (zC (wp_block (zC (rB 10 (Dn [0, 1, 2, 3, 4, 5, 6, 7, 8, 9] .done) fun hS => kQ 1 H R λ a H => kF H R R (fun w' Aj => Dl (q := ((i - 15 : Nat) : Int)) U3 (H.e R) Am (by omega) (by omega)) R λ a H => kF H R R (fun w' Aj => C2 (j := i - 15) (q := i - 15) Lv s133 (H.e R) (H.e R) (by omega) (by omega)) R λ a H => kE 1 H R R (fun w' Aj => Ai BC R (H.e R) (Bt (Ad.ups k0 Aj) (K3 HX.out (by omega) (wl_len _ _)))) R λ a H => kF H R R (fun w' Aj => Dl (q := ((i - 2 : Nat) : Int)) U3 (H.e R) Am (by omega) (by omega)) R λ a H => kF H R R (fun w' Aj => C2 (j := i - 2) (q := i - 2) Lv s133 (H.e R) (H.e R) (by omega) (by omega)) R λ a H => kE 2 H R R (fun w' Aj => Ai BC R (H.e R) (Bt (Ad.ups k0 Aj) (K3 HY.out (by omega) (wl_len _ _)))) R λ a H => Aw (NoPanic.normal ?_))))))))))))
   replace k0 := Ad.ups k0 hS
   replace Aa := Aa.trans (Below.mono hS Aa.size)
   clear hS
   refine zB (rB 29 (Dn [0, 1, 2, 3, 4, 5, 6, 7, 8, 9, 10, 12, 15, 16, 19, 21, 24, 25] (.one 11 (.one 13 (Dn [14, 17, 18] (.one 20 (.one 22 (Dn [23, 26, 27, 28] (.one 29 .done)))))))) fun hS => kQ 2 H R λ a H => kF H R R (fun w' Aj => Dl (q := ((i - 16 : Nat) : Int)) U3 (H.e R) Am (by omega) (by omega)) R λ a H => kF H R R (fun w' Aj => C2 (j := i - 16) (q := i - 16) Lv s133 (H.e R) (H.e R) (by omega) (by omega)) R λ a H => kE 1 H R R (fun w' Aj => Ai BC R (H.e R) (Bt (Ad.ups k0 Aj) (K3 HZ.out (by omega) (wl_len _ _)))) R λ a H => kF H R R (fun w' Aj => Dl (q := ((i - 7 : Nat) : Int)) U3 (H.e R) Am (by omega) (by omega)) R λ a H => kF H R R (fun w' Aj => C2 (j := i - 7) (q := i - 7) Lv s133 (H.e R) (H.e R) (by omega) (by omega)) R λ a H => kF H R R (fun w' Aj => Ai BC R (H.e R) (Bt (Ad.ups k0 Aj) (K3 HU.out (by omega) (wl_len _ _)))) R λ a H => kE 3 H R R (fun w' Aj => Do BC (H.e R) (H.e R)) R λ a H => kE 3 H R R (fun w' Aj => Ko (k := 3) (by omega) BC (H.e R) Am) R λ a H => kF H R R (fun w' Aj => Ko (k := 10) (by omega) BC (H.e R) Am) R λ a H => Al (fun K hK => A7 R (kD (EA x 7 7 _ R (by omega) (by omega)) (AA JF (H.e R) Am) fun w9 hb => ?_)))
   replace hS := Below.trans hS (Below.mono hb (Below.size hS)); clear hb; refine kS 0 hK hS H rfl λ a H => ?_; clear hK K
   refine Al (fun K hK => A7 R (kD (EA x 18 18 _ R (by omega) (by omega)) (AA JF (H.e R) Am) fun w9 hb => ?_))
   replace hS := Below.trans hS (Below.mono hb (Below.size hS)); clear hb; refine kS 0 hK hS H rfl λ a H => ?_; clear hK K
   refine kF H R R (fun w' Aj => Dx BC (H.e R) (H.e R)) R λ a H => kF H R R (fun w' Aj => Dx BC (H.e R) (H.e R)) R λ a H => kF H R R (fun w' Aj => Do BC (H.e R) (H.e R)) R λ a H => Al (fun K hK => A7 R (kD (EA y 17 17 _ R (by omega) (by omega)) (AA JF (H.e R) Am) fun w9 hb => ?_))
   replace hS := Below.trans hS (Below.mono hb (Below.size hS)); clear hb; refine kS 0 hK hS H rfl λ a H => ?_; clear hK K
   refine Al (fun K hK => A7 R (kD (EA y 19 19 _ R (by omega) (by omega)) (AA JF (H.e R) Am) fun w9 hb => ?_))
   replace hS := Below.trans hS (Below.mono hb (Below.size hS)); clear hb; refine kS 0 hK hS H rfl λ a H => ?_; clear hK K
   refine kF H R R (fun w' Aj => Dx BC (H.e R) (H.e R)) R λ a H => kF H R R (fun w' Aj => Dx BC (H.e R) (H.e R)) R λ a H => kF H R R (fun w' Aj => Do BC (H.e R) (H.e R)) R λ a H => kF H R R (fun w' Aj => C2 (j := i) (q := i) Lv s133 (H.e R) (H.e R) (by omega) (by omega)) R λ a H => Al (fun K hK => ?_)
   replace k0 := Ad.ups k0 hS
   replace Aa := Aa.trans (Below.mono hS Aa.size)
   refine A7 R (AX 133 (.tmp 75) (.tmp 74) b0 i 159 (u32v (((z + u) + (((Dd x 7) ^^^ (Dd x 18)) ^^^ (x >>> 3))) + (((Dd y 17) ^^^ (Dd y 19)) ^^^ (y >>> 10)))) _ (H.e R) (H.e R) k0 s133 (mid_fit (by omega) (wl_len _ _)) (u32_one _) fun w' hb ho kq => ?_); clear k0; have k0 := Hu kq; rw [Jx (wl_len _ _)] at k0; replace Aa := Aa.trans (hb _ g0); clear hb ho kq; refine hK _ _ ⟨(fun h => absurd R h), ?_⟩; clear hK K hS
   refine Aw (NoPanic.normal (AC (zB (zD (kR 1 H R λ a H => kX 1 H (Bm (q := ((i + 1 : Nat) : Int)) U3 (H.e R) Am) R λ a H => zA (zI ⟨⟨i + 1, H.pick [0, 2, 6], by omega, by omega, by rw [Yi mP CM HX.out HY.out HZ.out HU.out]; exact k0, Aa⟩, ?_⟩))))))
   rw [H.ev (j := 6) rfl, H0.ev (j := 6) rfl]
   simp only [intOf]
   omega
  ·
   obtain rfl : i = 64 := by omega
   rw [Yj] at k0
   refine zC (zC (zD (kR 1 H R λ a H => kV H (By U3 (H.e R) Am dF) R λ a H => zA (zB (zG H R (wp_exit (AJ (AJ (BD (zB (zC (zD (Hc 159 (.tmp 2) b0 159 (Ci (wl bs 64)) _ (H.e R) k0 Lv R Qf (kl H R λ a H => AT 159 (.tmp 2) (.tmp 76) b0 159 (Ci (wl bs 64)) _ (H.e R) (H.e R) k0 Qf R (EO _) fun w' hb ho kq => ?_))))))))))))))
   clear k0; replace Aa := Aa.trans (hb _ g0); clear hb ho; exact Dz H λ a H => zA (zB (zF (Cw H rfl rfl kq Lv rfl Qf ⟨rfl, Aa⟩)))
section
theorem EW {P : Program} (w : World) (dT sT ty e : TypeId) (size : Nat) (ht : P.underlying dT = some (.slice e)) (hi : (P.info? e).map (·.size) = some size) (hp : 0 < size)
  (g o eE rR : Nat) (cur : Array Value) (tb : TypeId) (hg : Ad w g tb cur) (A : Option Addr) (sLen sCap : Nat) (cs : List Value) (hl : cs.length = Nat.min sLen eE * size) (hr : BJ w A cs) (h1 : ∀ u ∈ cs, u.oneCell' = true)
  (dJ : o + cs.length ≤ cur.size) :
  (Builtin.copy_ #[dT, sT] ty #[.slice (some ⟨g, o, none⟩) eE rR, .slice A sLen sCap]).run P w = .ok (goInt (Nat.min sLen eE)) (w.setRow g (We cur o cs)) := by
 cases hq : P.info? e with
 | none => simp [hq] at hi
 | some i =>
  have If : i.size = size := by simpa [hq] using hi
  subst If
  have zQ := run_storeCells_at P g o tb cs 0 cur w hg (by simpa using dJ) h1
  cases A with
  | some ad =>
   have hG := run_loadCells_list (P := P) w ad cs (fun j u hu => by
    obtain ⟨b, o, he, hc⟩ := hr j (List.getElem?_eq_some_iff.1 hu).1
    injection he with he
    subst he
    rw [CT, hc, hu])
   simp [Builtin.copy_, run_underlying ht, Builtin.lenOf, Builtin.firstCells, sizeOf, typeInfo, hq, ← hl, hG, zQ, We]
  | none =>
   have hn : cs = [] := by
    cases cs with
    | nil => rfl
    | cons x l =>
     obtain ⟨b, o, hc, _⟩ := hr 0 (by simp)
     cases hc
   subst hn
   have hs : We cur o [] = cur := by simp [We]
   rw [hs, setRow_self w g cur tb (0, 0) hg]
   simp [Builtin.copy_, run_underlying ht, Builtin.lenOf, Builtin.firstCells, sizeOf, typeInfo, hq, storeCells]
section
variable {P : Program} {d : Option Tmp} {tt : TypeId} {ps : String} {af : Array Edge} {gd : Option (Nat × Bool)} {a : Act} {w : World} {x : Operand}
theorem Qx {T E : TypeId} {N b o : Nat} (hT : P.underlying T = some (.array N E)) (hs : (P.info? E).map (·.size) = some 1) (hx : a.eval x = .pointer (some ⟨b, o, none⟩)) (hN : 1 < N) :
  (execOp a.eval ⟨d, .slice T x (some (.const (J 1))) none none, tt, ps, af, gd⟩).run P w = .ok (.value (.slice (some ⟨b, o + 1, none⟩) (N - 1) (N - 1))) w := by
 cases hq : P.info? E with
 | none => simp [hq] at hs
 | some i0 =>
  have If : i0.size = 1 := by simpa [hq] using hs
  unfold execOp
  simp only [hx]
  have e1 : a.eval (.const (J 1)) = J 1 := rfl
  have h1 : (1 : Int) ≤ (N : Int) := by omega
  simp [Instr.sliceAt, Instr.sliceBounds, Instr.sliceBound, Instr.sureAddr, run_underlying hT, sizeOf, typeInfo, program, hq, If, asIntOf, e1, h1, CT, Sem.run, Sem.run_bind, Sem.run_pure, Result.andThen_ok]
  omega
theorem Pc {T E : TypeId} {N b o : Nat} (hT : P.underlying T = some (.array N E)) (hs : (P.info? E).map (·.size) = some 1) (hx : a.eval x = .pointer (some ⟨b, o, none⟩)) (hN : 7 ≤ N) :
  (execOp a.eval ⟨d, .slice T x none (some (.const (J 7))) none, tt, ps, af, gd⟩).run P w = .ok (.value (.slice (some ⟨b, o, none⟩) 7 N)) w := by
 cases hq : P.info? E with
 | none => simp [hq] at hs
 | some i0 =>
  have If : i0.size = 1 := by simpa [hq] using hs
  unfold execOp
  simp only [hx]
  have e1 : a.eval (.const (J 7)) = J 7 := rfl
  have h1 : (7 : Int) ≤ (N : Int) := by omega
  simp [Instr.sliceAt, Instr.sliceBounds, Instr.sliceBound, Instr.sureAddr, run_underlying hT, sizeOf, typeInfo, program, hq, If, asIntOf, e1, h1, CT, Sem.run, Sem.run_bind, Sem.run_pure, Result.andThen_ok]
theorem Tq {T E : TypeId} {N j : Nat} {l : List D6} {y : D6} {p : Operand} (hT : P.underlying T = some (.array N E)) (hE : P.underlying E = some (.int .u32)) (hs : (P.info? E).map (·.size) = some 1) (hx : a.eval x = .agg (Ci l)) (hp : a.eval p = J (j : Nat)) (hj : j < N) (hy : l[j]? = some y) :
  (execOp a.eval ⟨d, .index T x p, tt, ps, af, gd⟩).run P w = .ok (.value (u32v y)) w := by
 cases hq : P.info? E with
 | none => simp [hq] at hs
 | some i0 =>
  have If : i0.size = 1 := by simpa [hq] using hs
  unfold execOp
  simp only [hx, hp]
  have hc : (Ci l)[j]? = some (u32v y) := by simp [Ci, hy]
  have h1 : (0 : Int) ≤ j ∧ (j : Int) < N := by omega
  simp [Instr.index, run_underlying hT, part, isAgg, run_underlying hE, sizeOf, typeInfo, program, hq, If, asIntOf, hj, hy, Sem.run, Sem.run_bind, Sem.run_pure, Result.andThen_ok]
end
theorem CA {w0 w w' : World} {r : Option Nat} (h : w0.grownBy w r) (hb : Below w.heap.size w w') : w0.grownBy w' r :=
 ⟨hb.os.trans h.os, hb.tape.trans h.tape, hb.output.trans h.output, Nat.le_trans h.size hb.size, fun k hk Fh => (hb.block k (Nat.lt_of_lt_of_le hk h.size)).trans (h.block k hk Fh)⟩
theorem E2 (w : World) (r : Option Nat) : w.grownBy w r := ⟨rfl, rfl, rfl, Nat.le_refl _, fun _ _ _ => rfl⟩
theorem C9 {w0 w w' : World} {g b : Nat} (h : w0.grownBy w (some g)) (hb : ∀ B, B ≤ b → Below B w w') (ho : ∀ k, k ≠ b → w'.heap[k]? = w.heap[k]?) (hg : b = g ∨ w0.heap.size ≤ b) : w0.grownBy w' (some g) :=
 have h0 := hb 0 (Nat.zero_le _)
 ⟨h0.os.trans h.os, h0.tape.trans h.tape, h0.output.trans h.output, Nat.le_trans h.size h0.size, fun k hk Fh => (ho k (fun e => by rcases hg with rfl | hg; exact Fh (by rw [e]); omega)).trans (h.block k hk Fh)⟩
def DO {w w' : World} {r : Option Nat} (_ : w.grownBy w' r) : World := w'
end
theorem EF {P : Program} {a : Act} {w : World} {n : Nat} {l : List (Nat × Value)} {fn : Func} {R : Ending → World → Prop} (H : Kn a n l) (hf : fn.results = #[]) (h : R (.returned (.tuple #[])) w) : bodyPost P fn R .normal a w :=
 ⟨H.defers, .tuple #[], by simp [results, hf], h⟩
/-- one round -/
def oX : List D6 → D6 → D6 → List D6
 | [a, b, c, d, e, f, g, h], k, x =>
  let t := (((h + ((Dd e 6 ^^^ Dd e 11) ^^^ Dd e 25)) + (g ^^^ (e &&& (f ^^^ g)))) + k) + x
  let u := ((Dd a 2 ^^^ Dd a 13) ^^^ Dd a 22) + ((a &&& b) ||| (c &&& (a ||| b)))
  [t + u, a, b, c, d + t, e, f, g]
 | l, _, _ => l
def Gi (S : List D6) (bs : List B8) : Nat → List D6
 | 0 => S
 | n + 1 => oX (Gi S bs n) (KC.getD n 0) ((wl bs 64).getD n 0)
/-- the sums of the first i words, the others as they are -/
def NA (S R : List D6) (i : Nat) : List D6 := List.zipWith (fun x y => x + y) (R.take i) (S.take i) ++ R.drop i
def Iz (S : List D6) (bs : List B8) : List D6 := List.zipWith (fun x y => x + y) (Gi S bs 64) S
theorem X5 {l : List D6} (h : l.length = 8) : ∃ a b c d e f g i, l = [a, b, c, d, e, f, g, i] := by
 match l, h with
 | [a, b, c, d, e, f, g, i], _ => exact ⟨a, b, c, d, e, f, g, i, rfl⟩
theorem Yv {l : List D6} (h : l.length = 8) (k x : D6) : (oX l k x).length = 8 := by
 obtain ⟨a, b, c, d, e, f, g, i, rfl⟩ := X5 h
 rfl
theorem F8 {S : List D6} (h : S.length = 8) (bs : List B8) : ∀ n, (Gi S bs n).length = 8
 | 0 => h
 | n + 1 => Yv (F8 h bs n) _ _
theorem Ql {S : List D6} {bs : List B8} {i : Nat} {va vb vc vd ve vf vg vh x kk tv uv : D6} (hr : Gi S bs i = [va, vb, vc, vd, ve, vf, vg, vh]) (hx : (wl bs 64)[i]? = some x) (hk : KC[i]? = some kk)
  (ht : (((vh + ((Dd ve 6 ^^^ Dd ve 11) ^^^ Dd ve 25)) + (vg ^^^ (ve &&& (vf ^^^ vg)))) + kk) + x = tv) (hu : ((Dd va 2 ^^^ Dd va 13) ^^^ Dd va 22) + ((va &&& vb) ||| (vc &&& (va ||| vb))) = uv) : Gi S bs (i + 1) = [tv + uv, va, vb, vc, vd + tv, ve, vf, vg] := by
 subst ht hu
 show oX (Gi S bs i) (KC.getD i 0) ((wl bs 64).getD i 0) = _
 rw [hr, List.getD_eq_getElem?_getD, List.getD_eq_getElem?_getD, hx, hk]
 rfl
theorem O4 (S R : List D6) : NA S R 0 = R := by simp [NA]
theorem R4 {S R : List D6} {i : Nat} {r : D6} (hr : R[i]? = some r) : NA S R i = List.zipWith (fun x y => x + y) (R.take i) (S.take i) ++ r :: R.drop (i + 1) := by
 obtain ⟨hi, rfl⟩ := List.getElem?_eq_some_iff.1 hr
 unfold NA
 rw [List.drop_eq_getElem_cons hi]
theorem Jk {S : List D6} {bs : List B8} {i : Nat} (hS : S.length = 8) (hi : i ≤ 8) : (List.zipWith (fun x y => x + y) ((Gi S bs 64).take i) (S.take i)).length = i := by
 simp [F8 hS, hS]
 omega
theorem O5 {S : List D6} {bs : List B8} {i : Nat} {x r : D6} (hS : S.length = 8) (hx : S[i]? = some x) (hr : (Gi S bs 64)[i]? = some r) : List.zipWith (fun x y => x + y) ((Gi S bs 64).take i) (S.take i) ++ (r + x) :: (Gi S bs 64).drop (i + 1) = NA S (Gi S bs 64) (i + 1) := by
 obtain ⟨hi, rfl⟩ := List.getElem?_eq_some_iff.1 hx
 obtain ⟨hj, rfl⟩ := List.getElem?_eq_some_iff.1 hr
 unfold NA
 rw [List.take_succ_eq_append_getElem hi, List.take_succ_eq_append_getElem hj, List.zipWith_append (by simp; omega)]
 simp
theorem R5 {S : List D6} {bs : List B8} {i : Nat} {r y : D6} (hS : S.length = 8) (hi : i ≤ 8) (hr : (Gi S bs 64)[i]? = some r) : i + (u32v y).cells.size ≤ (Ci (List.zipWith (fun x y => x + y) ((Gi S bs 64).take i) (S.take i) ++ r :: (Gi S bs 64).drop (i + 1))).size := by
 rw [CX]
 show i + 1 ≤ _
 rw [List.length_append, Jk hS hi]
 simp
theorem O6 {S : List D6} (hS : S.length = 8) (bs : List B8) : NA S (Gi S bs 64) 8 = Iz S bs := by
 unfold NA Iz
 rw [List.take_of_length_le (by rw [F8 hS]; omega), List.take_of_length_le (by omega), List.drop_eq_nil_of_le (by rw [F8 hS]; omega), List.append_nil]
theorem fF : (Tryz.prog.info? 141).map (·.zero) = some (some (.agg (Ci (List.replicate 8 0)))) := by kernel_rfl
theorem oW {S : List D6} (h : S.length = 8) : (Tryz.prog.info? 141).map (·.size) = some (Ci S).size := by
 rw [CX, h]; exact fN
theorem u32s_one (l : List D6) : ∀ u ∈ l.map u32v, u.oneCell' = true := fun u hu => by
 obtain ⟨x, _, rfl⟩ := List.mem_map.1 hu
 rfl
theorem RI {w : World} {b : Nat} {t : TypeId} {l : List D6} (h : Ad w b t (Ci l)) (n : Nat) : BJ w (some ⟨b, 0, none⟩) ((l.take n).map u32v) := by
 intro j hj
 refine ⟨b, 0, R, ?_⟩
 have LS : j < n ∧ j < l.length := by have : j < min n l.length := (by simpa using hj); omega
 rw [Nat.zero_add, Bt h (List.getElem?_eq_getElem LS.2)]
 simp [List.getElem?_take, LS.1, LS.2]
theorem Z5 {w : World} {x0 o n c : Nat} {bs : List B8} (h : B9 w (.slice (some ⟨x0, o, none⟩) n c) bs) (hp : 0 < bs.length) : x0 < w.heap.size := by
 have := Ew h (List.getElem?_eq_getElem hp) (q := o) rfl
 exact World.block_lt_of_cell? w _ this
theorem B9.far {w w' : World} {A : Option Addr} {n c b : Nat} {bs : List B8} (h : B9 w (.slice A n c) bs) (hb : Below b w w') (CM : ∀ q o, A = some ⟨q, o, none⟩ → q < b) : B9 w' (.slice A n c) bs := by
 obtain ⟨A', c', e, a1, a2, a3, hh⟩ := h
 injection e with e1 e2 e3
 subst e1 e2 e3
 refine ⟨_, _, R, a1, a2, a3, fun j hj => ?_⟩
 obtain ⟨q, o, he, hc⟩ := hh j hj
 refine ⟨q, o, he, ?_⟩
 rw [← hc]
 exact hb.cell (p := ⟨q, o + j, none⟩) (CM q o he)
def Bk1 (W : World) (sb : Nat) (S : List D6) (bs : List B8) (b0 b1 : Nat) (a : Act) (w : World) : Prop :=
 ∃ i : Nat, Kn a 134 [(0, .pointer (some ⟨sb, 0, none⟩)), (4, .pointer (some ⟨b0, 0, none⟩)), (5, .pointer (some ⟨b1, 0, none⟩)), (21, .agg (Ci (wl bs 64))), (22, J (i : Nat))] ∧ i ≤ 64 ∧ Ad w sb 141 (Ci (Gi S bs i)) ∧ Ad w b0 141 (Ci S) ∧ Ad w b1 159 (Ci KC) ∧ W.grownBy w (some sb)
def Bk2 (W : World) (sb : Nat) (S : List D6) (bs : List B8) (a : Act) (w : World) : Prop :=
 ∃ i : Nat, Kn a 134 [(0, .pointer (some ⟨sb, 0, none⟩)), (119, .agg (Ci S)), (120, J (i : Nat))] ∧ i ≤ 8 ∧ Ad w sb 141 (Ci (NA S (Gi S bs 64) i)) ∧ W.grownBy w (some sb)
theorem Vp (w : World) (sb x0 o c : Nat) (S : List D6) (bs : List B8) (ks : Ad w sb 141 (Ci S)) (KR : S.length = 8) (LU : B9 w (.slice (some ⟨x0, o, none⟩) 64 c) bs) (mS : bs.length = 64) (hc : 64 ≤ c) :
  Calls Tryz.prog 131 #[.pointer (some ⟨sb, 0, none⟩), .slice (some ⟨x0, o, none⟩) 64 c] w fun e w' => e = .returned (.tuple #[]) ∧ Ad w' sb 141 (Ci (Iz S bs)) ∧ w.grownBy w' (some sb) := by
 have Aa := E2 w (some sb)
 have V9 : x0 < w.heap.size := Z5 LU (by omega)
 refine Az 134 Tryz.func131 R R λ a H => zC (zD (kR 2 H R λ a H => Hc 141 (.tmp 16) sb 141 (Ci S) _ (H.e R) ks Ic R (oW KR) (kl H R λ a H => Bj 141 (Ci (List.replicate 8 0)) fF fun w0 b0 Ak hb k0 => ?_)))
 have g0 := Nat.le_trans Aa.size Ak; have Hf : sb < b0 := Nat.lt_of_lt_of_le ks.lt Ak; replace ks := ks.ups hb; replace LU := B9.up LU hb; replace Aa := CA Aa hb; clear hb; clear Ak; refine kl H rfl λ a H => AT 141 (.tmp 4) (.tmp 17) b0 141 (Ci S) _ (H.ev rfl) (H.ev rfl) k0 (oW KR) (by rw [CX, CX, KR]; rfl) (EO _) fun w' hb ho kq => ?_
 clear k0; have k0 := kq; replace ks := Ae ks (ho _ (by omega)); replace LU := B9.far LU (hb _ (Nat.le_refl _)) (fun q o e => by injection e with e; injection e with e; omega); replace Aa := C9 Aa hb ho (.inr g0); clear hb ho kq; refine Dz H λ a H => zA (zB (zC (zD (kC 0 (SL _) (Kt lB) H rfl fun w9 a hb H => ?_))))
 replace ks := ks.ups hb; replace LU := B9.up LU hb; replace k0 := k0.ups hb; replace Aa := CA Aa hb; clear hb
 refine kR 1 H R λ a H => kC 0 (Ux _ x0 o c bs LU mS hc) (Av lA (H.e R)) H R fun w9 a hb H => ?_
 clear LU; replace ks := ks.ups hb; replace k0 := k0.ups hb; replace Aa := CA Aa hb; clear hb
 refine Bj 159 (Ci (List.replicate 64 0)) Ye fun w1 b1 Ak hb k1 => ?_; have g1 := Nat.le_trans Aa.size Ak; have N7 : b0 < b1 := Nat.lt_of_lt_of_le k0.lt Ak; have zR : sb < b1 := Nat.lt_of_lt_of_le ks.lt Ak; replace ks := ks.ups hb; replace k0 := k0.ups hb; replace Aa := CA Aa hb; clear hb; clear Ak; refine kl H R λ a H => Bj 159 (Ci (List.replicate 64 0)) Ye fun w2 b2 Ak hb k2 => ?_
 have g2 := Nat.le_trans Aa.size Ak; have Ro : b0 < b2 := Nat.lt_of_lt_of_le k0.lt Ak; have N6 : b1 < b2 := Nat.lt_of_lt_of_le k1.lt Ak; have hs2 : sb < b2 := Nat.lt_of_lt_of_le ks.lt Ak; replace ks := ks.ups hb; replace k0 := k0.ups hb; replace k1 := k1.ups hb; replace Aa := CA Aa hb; clear hb; clear Ak; refine kl H rfl λ a H => AT 159 (.tmp 5) (.tmp 18) b1 159 (Ci KC) _ (H.ev rfl) (H.ev rfl) k1 Ys rfl (EO _) fun w' hb ho kq => ?_
 clear k1; have k1 := kq; replace ks := Ae ks (ho _ (by omega)); replace k0 := Ae k0 (ho _ (by omega)); replace k2 := Ae k2 (ho _ (by omega)); replace Aa := C9 Aa hb ho (.inr g1); clear hb ho kq; refine Dz H λ a H => AT 159 (.tmp 6) (.tmp 20) b2 159 (Ci (wl bs 64)) _ (H.ev rfl) (H.ev rfl) k2 Qf (by rw [CX, CX, wl_len]; rfl) (EO _) fun w' hb ho kq => ?_
 clear k2; have k2 := kq; replace ks := Ae ks (ho _ (by omega)); replace k0 := Ae k0 (ho _ (by omega)); replace k1 := Ae k1 (ho _ (by omega)); replace Aa := C9 Aa hb ho (.inr g2); clear hb ho kq; refine Dz H λ a H => zA (zB (zC (zC (zD (Hc 159 (.tmp 6) b2 159 (Ci (wl bs 64)) _ (H.ev rfl) k2 Lv rfl Qf ?_)))))
 clear k2; refine kL 1 H rfl λ a H => zA (zB (wp_block (wp_loop (Bk1 w sb S bs b0 b1) (fun a _ => 64 - (intOf (a.eval (.tmp 22))).toNat) ⟨0, H.pick [0, 4, 5, 21, 22], by omega, ks, k0, k1, Aa⟩ ?_)))
 clear H Aa k0 k1 ks
 rintro a w' ⟨i, H, hi, ks, k0, k1, Aa⟩
 have H0 := H
 by_cases CM : i < 64
 ·
  obtain ⟨va, vb, vc, vd, ve, vf, vg, vh, DK⟩ := X5 (F8 KR bs i)
  obtain ⟨x, hx⟩ : ∃ x, (wl bs 64)[i]? = some x := ⟨_, List.getElem?_eq_getElem (by rw [wl_len]; exact CM)⟩
  obtain ⟨kk, hk⟩ : ∃ kk, KC[i]? = some kk := ⟨_, List.getElem?_eq_getElem CM⟩
  rw [DK] at ks
  have HRN := Lib.hid DK
  have HX := Lib.hid hx
  have HK := Lib.hid hk
  clear DK hx hk
  have H := H0
  refine zC (zD (kV H (By U3 (H.e R) Am dT) R λ a H => zA (zB (zC (zH H R (zE (zB (zC (wp_block (zC (zD (kR 1 H R λ a H => kX 2 (v := u32v (x)) H (Tq Lv BC s133 (H.e R) (H.e R) CM HX.out) R λ a H => zA (zB (zC ?_))))))))))))))
  have EK := Aa
  have hS : AV (DO EK) _ := Below.drew (Below.refl _ (DO EK))
  refine rT (AV (DO EK)) 10 (Dn [0, 1, 2, 3, 4, 5, 6, 7, 8, 9] .done) hS (kQ 2 H R λ a H => kF H R R (fun w' Aj => C2 (j := 0) (q := 0) Ic s133 (H.e R) Am (by omega) (by omega)) R λ a H => kE 2 H R R (fun w' Aj => Ai BC R (H.e R) (Bt (Ad.ups ks Aj) R)) R λ a H => kF H R R (fun w' Aj => C2 (j := 4) (q := 4) Ic s133 (H.e R) Am (by omega) (by omega)) R λ a H => kE 2 H R R (fun w' Aj => Ai BC R (H.e R) (Bt (Ad.ups ks Aj) R)) R λ a H => Aw (NoPanic.normal ?_))
  replace ks := Ad.ups ks hS
  replace k0 := Ad.ups k0 hS
  replace k1 := Ad.ups k1 hS
  replace Aa := CA Aa hS
  clear hS
  refine zB (zC ?_)
  have Fp := Aa
  have hS : AV (DO Fp) _ := Below.drew (Below.refl _ (DO Fp))
  refine rT (AV (DO Fp)) 37 (Dn [0, 1, 2, 3, 4, 6, 9, 13, 14, 15, 16, 17, 18, 19, 20, 21, 22, 23, 24, 25, 26, 27, 28, 30, 31, 32, 34] (.one 5 (.one 7 (.fl 8 (.one 10 (Dn [11, 12, 29, 33, 35, 36] .done)))))) hS (kQ 2 H R λ a H => kF H R R (fun w' Aj => C2 (j := 7) (q := 7) Ic s133 (H.e R) Am (by omega) (by omega)) R λ a H => kE 5 H R R (fun w' Aj => Ai BC R (H.e R) (Bt (Ad.ups ks Aj) R)) R λ a H => kF H R R (fun w' Aj => C2 (j := 6) (q := 6) Ic s133 (H.e R) Am (by omega) (by omega)) R λ a H => kE 3 H R R (fun w' Aj => Ai BC R (H.e R) (Bt (Ad.ups ks Aj) R)) R λ a H => kF H R R (fun w' Aj => C2 (j := 5) (q := 5) Ic s133 (H.e R) Am (by omega) (by omega)) R λ a H => kE 2 H R R (fun w' Aj => Ai BC R (H.e R) (Bt (Ad.ups ks Aj) R)) R λ a H => kF H R R (fun w' Aj => C2 (j := 6) (q := 6) Ic s133 (H.e R) Am (by omega) (by omega)) R λ a H => kF H R R (fun w' Aj => Ai BC R (H.e R) (Bt (Ad.ups ks Aj) R)) R λ a H => kF H R R (fun w' Aj => Dx BC (H.e R) (H.e R)) R λ a H => kF H R R (fun w' Aj => Hb BC (H.e R) (H.e R)) R λ a H => kE 1 H R R (fun w' Aj => Dx BC (H.e R) (H.e R)) R λ a H => kF H R R (fun w' Aj => C2 (j := i) (q := i) Lv s133 (H.e R) (H.e R) (by omega) (by omega)) R λ a H => kE 1 H R R (fun w' Aj => Ai BC R (H.e R) (Bt (Ad.ups k1 Aj) HK.out)) R λ a H => ?_)
  refine Al (fun K hK => A7 R (kD (EA ve 6 6 _ R (by omega) (by omega)) (AA JF (H.e R) Am) fun w9 hb => ?_))
  replace hS := Below.trans hS (Below.mono hb (Below.size hS)); clear hb; refine kS 0 hK hS H rfl λ a H => ?_; clear hK K
  refine Al (fun K hK => A7 R (kD (EA ve 11 11 _ R (by omega) (by omega)) (AA JF (H.e R) Am) fun w9 hb => ?_))
  replace hS := Below.trans hS (Below.mono hb (Below.size hS)); clear hb; refine kS 0 hK hS H rfl λ a H => ?_; clear hK K
  refine kF H R R (fun w' Aj => Dx BC (H.e R) (H.e R)) R λ a H => Al (fun K hK => A7 R (kD (EA ve 25 25 _ R (by omega) (by omega)) (AA JF (H.e R) Am) fun w9 hb => ?_))
  replace hS := Below.trans hS (Below.mono hb (Below.size hS)); clear hb; refine kS 0 hK hS H rfl λ a H => ?_; clear hK K
  refine kF H R R (fun w' Aj => Dx BC (H.e R) (H.e R)) R λ a H => kF H R R (fun w' Aj => Do BC (H.e R) (H.e R)) R λ a H => kF H R R (fun w' Aj => Do BC (H.e R) (H.e R)) R λ a H => kF H R R (fun w' Aj => Do BC (H.e R) (H.e R)) R λ a H => kE 1 H R R (fun w' Aj => Do BC (H.e R) (H.e R)) R λ a H => Aw (NoPanic.normal ?_)
  replace ks := Ad.ups ks hS
  replace k0 := Ad.ups k0 hS
  replace k1 := Ad.ups k1 hS
  replace Aa := CA Aa hS
  clear hS
  refine zB (zC ?_)
  replace H : Kn _ 134 [(0, _), (4, _), (5, _), (9, _), (10, _), (11, _), (21, _), (22, _)] := H.pick [0, 4, 5, 9, 10, 11, 21, 22]
  obtain ⟨tv, cX⟩ : ∃ tv, (((vh + (((Dd ve 6) ^^^ (Dd ve 11)) ^^^ (Dd ve 25))) + (vg ^^^ (ve &&& (vf ^^^ vg)))) + kk) + x = tv := ⟨_, rfl⟩
  have HTV := Lib.hid cX
  rw [cX] at H
  clear cX
  have Gs := Aa
  have hS : AV (DO Gs) _ := Below.drew (Below.refl _ (DO Gs))
  refine rT (AV (DO Gs)) 28 (Dn [0, 2, 5, 8, 9, 10, 11, 12, 13, 14, 15, 16, 17, 18, 19, 20, 21, 22, 23, 24, 25] (.one 1 (.one 3 (.fl 4 (.one 6 (Dn [7, 26, 27] .done)))))) hS (kQ 6 H R λ a H => kF H R R (fun w' Aj => C2 (j := 1) (q := 1) Ic s133 (H.e R) Am (by omega) (by omega)) R λ a H => kF H R R (fun w' Aj => Ai BC R (H.e R) (Bt (Ad.ups ks Aj) R)) R λ a H => kE 2 H R R (fun w' Aj => Hb BC (H.e R) (H.e R)) R λ a H => kF H R R (fun w' Aj => C2 (j := 2) (q := 2) Ic s133 (H.e R) Am (by omega) (by omega)) R λ a H => kE 3 H R R (fun w' Aj => Ai BC R (H.e R) (Bt (Ad.ups ks Aj) R)) R λ a H => kF H R R (fun w' Aj => C2 (j := 1) (q := 1) Ic s133 (H.e R) Am (by omega) (by omega)) R λ a H => kF H R R (fun w' Aj => Ai BC R (H.e R) (Bt (Ad.ups ks Aj) R)) R λ a H => kF H R R (fun w' Aj => IR BC (H.e R) (H.e R)) R λ a H => kF H R R (fun w' Aj => Hb BC (H.e R) (H.e R)) R λ a H => kF H R R (fun w' Aj => IR BC (H.e R) (H.e R)) R λ a H => Al (fun K hK => A7 R (kD (EA va 2 2 _ R (by omega) (by omega)) (AA JF (H.e R) Am) fun w9 hb => ?_)))
  replace hS := Below.trans hS (Below.mono hb (Below.size hS)); clear hb; refine kS 0 hK hS H rfl λ a H => ?_; clear hK K
  refine Al (fun K hK => A7 R (kD (EA va 13 13 _ R (by omega) (by omega)) (AA JF (H.e R) Am) fun w9 hb => ?_))
  replace hS := Below.trans hS (Below.mono hb (Below.size hS)); clear hb; refine kS 0 hK hS H rfl λ a H => ?_; clear hK K
  refine kF H R R (fun w' Aj => Dx BC (H.e R) (H.e R)) R λ a H => Al (fun K hK => A7 R (kD (EA va 22 22 _ R (by omega) (by omega)) (AA JF (H.e R) Am) fun w9 hb => ?_))
  replace hS := Below.trans hS (Below.mono hb (Below.size hS)); clear hb; refine kS 0 hK hS H rfl λ a H => ?_; clear hK K
  refine kF H R R (fun w' Aj => Dx BC (H.e R) (H.e R)) R λ a H => kE 1 H R R (fun w' Aj => Do BC (H.e R) (H.e R)) R λ a H => Aw (NoPanic.normal ?_)
  replace ks := Ad.ups ks hS
  replace k0 := Ad.ups k0 hS
  replace k1 := Ad.ups k1 hS
  replace Aa := CA Aa hS
  clear hS
  refine zB (zC ?_)
  replace H : Kn _ 134 [(0, _), (4, _), (5, _), (11, _), (12, _), (21, _), (22, _)] := H.pick [0, 4, 5, 11, 12, 21, 22]
  obtain ⟨uv, cW⟩ : ∃ uv, (((Dd va 2) ^^^ (Dd va 13)) ^^^ (Dd va 22)) + ((va &&& vb) ||| (vc &&& (va ||| vb))) = uv := ⟨_, rfl⟩
  have HUV := Lib.hid cW
  rw [cW] at H
  clear cW
  have Bc := Aa
  have hS : AV (DO Bc) _ := Below.drew (Below.refl _ (DO Bc))
  refine rT (AV (DO Bc)) 6 (Dn [0, 1, 2, 3, 4, 5] (.one 6 .done)) hS (kQ 2 H R λ a H => kE 2 (v := .slice (some ⟨sb, 1, none⟩) 7 7) H R R (fun w' Aj => Qx (b := sb) (o := 0) Ic s133 (H.e R) (by omega)) R λ a H => kF (v := .slice (some ⟨sb, 0, none⟩) 7 8) H R R (fun w' Aj => Pc (b := sb) (o := 0) Ic s133 (H.e R) (by omega)) R λ a H => Al (fun K hK => ?_))
  replace ks := Ad.ups ks hS
  replace k0 := Ad.ups k0 hS
  replace k1 := Ad.ups k1 hS
  replace Aa := CA Aa hS
  refine A7 R (Ka _ sb 141 (Ci [va, vb, vc, vd, ve, vf, vg, vh]) _ ks (Lb (.slice (some ⟨sb, 1, none⟩) 7 7) (.slice (some ⟨sb, 0, none⟩) 7 8) (H.e R) (H.e R) (Lr (EW _ _ _ _ 133 1 U143 s133 (by omega) sb 1 7 7 _ 141 ks (some ⟨sb, 0, none⟩) 7 8 ([va, vb, vc, vd, ve, vf, vg].map u32v) R (RI ks 7) (u32s_one _) (by simp [Ci])))) fun w7 kq HI GV => ?_); clear ks; have ks : Ad _ sb 141 (Ci [va, va, vb, vc, vd, ve, vf, vg]) := kq; replace k0 := Ae k0 (GV _ (by omega)); replace k1 := Ae k1 (GV _ (by omega)); replace Aa := C9 Aa HI GV (.inl rfl); clear HI GV kq; refine hK _ _ ⟨(fun h => absurd R h), ?_⟩; clear hK K hS; refine kt H R λ a H => Aw (NoPanic.normal (zB (zC ?_)))
  have On := Aa
  have hS : AV (DO On) _ := Below.drew (Below.refl _ (DO On))
  refine rT (AV (DO On)) 8 (Dn [0, 1, 2, 3, 4, 5, 6, 7] (.one 8 .done)) hS (kQ 2 H R λ a H => kF H R R (fun w' Aj => C2 (j := 4) (q := 4) Ic s133 (H.e R) Am (by omega) (by omega)) R λ a H => kE 1 H R R (fun w' Aj => Ai BC R (H.e R) (Bt (Ad.ups ks Aj) R)) R λ a H => kE 1 H R R (fun w' Aj => Do BC (H.e R) (H.e R)) R λ a H => kF H R R (fun w' Aj => C2 (j := 4) (q := 4) Ic s133 (H.e R) Am (by omega) (by omega)) R λ a H => Al (fun K hK => ?_))
  replace ks := Ad.ups ks hS
  replace k0 := Ad.ups k0 hS
  replace k1 := Ad.ups k1 hS
  replace Aa := CA Aa hS
  refine A7 R (AX 133 (.tmp 111) (.tmp 109) sb 4 141 (u32v (vd + tv)) _ (H.e R) (H.e R) ks s133 (by show 4 + 1 ≤ (Ci _).size; rw [CX]; simp) (u32_one _) fun w7 HI GV kq => ?_); clear ks; have ks : Ad _ sb 141 (Ci [va, va, vb, vc, vd + tv, ve, vf, vg]) := Hu kq; replace k0 := Ae k0 (GV _ (by omega)); replace k1 := Ae k1 (GV _ (by omega)); replace Aa := C9 Aa HI GV (.inl rfl); clear HI GV kq; refine hK _ _ ⟨(fun h => absurd R h), ?_⟩; clear hK K hS
  refine Aw (NoPanic.normal (zB (zD (kR 3 H R λ a H => kX 1 H (Do BC (H.e R) (H.e R)) R λ a H => kV H (C2 (j := 0) (q := 0) Ic s133 (H.e R) Am (by omega) (by omega)) R λ a H => AP 133 (.tmp 117) (.tmp 115) sb 0 141 (u32v (tv + uv)) _ (H.e R) (H.e R) ks s133 (by show 0 + 1 ≤ (Ci _).size; rw [CX]; simp) (u32_one _) fun w7 HI GV kq => ?_))))
  clear ks; have ks : Ad _ sb 141 (Ci [tv + uv, va, vb, vc, vd + tv, ve, vf, vg]) := Hu kq; replace k0 := Ae k0 (GV _ (by omega)); replace k1 := Ae k1 (GV _ (by omega)); replace Aa := C9 Aa HI GV (.inl rfl); clear HI GV kq; refine Dz H λ a H => zA (AC (zB (zD (kX 1 H (Bm (q := ((i + 1 : Nat) : Int)) U3 (H.ev rfl) Am) rfl λ a H => zA (zI ⟨⟨i + 1, H.pick [0, 4, 5, 21, 22], by omega, by rw [Ql HRN.out HX.out HK.out HTV.out HUV.out]; exact ks, k0, k1, Aa⟩, ?_⟩)))))
  rw [H.ev (j := 22) rfl, H0.ev (j := 22) rfl]
  simp only [intOf]
  omega
 ·
  obtain rfl : i = 64 := by omega
  clear k1
  refine zC (zD (kV H (By U3 (H.e R) Am dF) R λ a H => zA (zB (zC (zG H R (wp_exit (AJ (AJ (BD (zB (zC (zD (Hc 141 (.tmp 4) b0 141 (Ci S) _ (H.e R) k0 Ic R (oW KR) ?_)))))))))))))
  clear k0; refine kL 1 H rfl λ a H => zA (zB (wp_block ?_))
  rw [← O4 S (Gi S bs 64)] at ks
  refine wp_loop (Bk2 w sb S bs) (fun a _ => 8 - (intOf (a.eval (.tmp 120))).toNat) ⟨0, H.pick [0, 119, 120], by omega, ks, Aa⟩ ?_
  clear H Aa ks
  rintro a w' ⟨i, H, hi, ks, Aa⟩
  have H1 := H
  by_cases qD : i < 8
  ·
   obtain ⟨x, hx⟩ : ∃ x, S[i]? = some x := ⟨_, List.getElem?_eq_getElem (by omega)⟩
   obtain ⟨r, hr⟩ : ∃ r, (Gi S bs 64)[i]? = some r := ⟨_, List.getElem?_eq_getElem (by rw [F8 KR]; omega)⟩
   have HX := Lib.hid hx
   have HR := Lib.hid hr
   rw [R4 hr] at ks
   clear hx hr
   have H := H1
   refine zC (zD (kV H (By U3 (H.e R) Am dT) R λ a H => zA (zB (zC (zH H R (zE (zB (zC (wp_block (zC (zD (kR 1 H R λ a H => kX 2 (v := u32v (x)) H (Tq Ic BC s133 (H.e R) (H.e R) qD HX.out) R λ a H => zA (zB ?_)))))))))))))
   have SF := Aa
   have hS : AV (DO SF) _ := Below.drew (Below.refl _ (DO SF))
   refine rT (AV (DO SF)) 9 (Dn [0, 1, 2, 3, 4, 5, 6, 7, 8] (.one 9 .done)) hS (kQ 3 H R λ a H => kF H R R (fun w' Aj => C2 (j := i) (q := i) Ic s133 (H.e R) (H.e R) (by omega) (by omega)) R λ a H => kE 1 H R R (fun w' Aj => Ai BC R (H.e R) (Bt (Ad.ups ks Aj) (K2 (Jk KR hi)))) R λ a H => kE 1 H R R (fun w' Aj => Do BC (H.e R) (H.e R)) R λ a H => kF H R R (fun w' Aj => C2 (j := i) (q := i) Ic s133 (H.e R) (H.e R) (by omega) (by omega)) R λ a H => Al (fun K hK => ?_))
   replace ks := Ad.ups ks hS
   replace Aa := CA Aa hS
   refine A7 R (AX 133 (.tmp 132) (.tmp 130) sb i 141 (u32v (r + x)) _ (H.e R) (H.e R) ks s133 (R5 KR hi HR.out) (u32_one _) fun w7 HI GV kq => ?_); clear ks; have ks := Hu kq; rw [Jx (Jk KR hi), O5 KR HX.out HR.out] at ks; replace Aa := C9 Aa HI GV (.inl rfl); clear HI GV kq; refine hK _ _ ⟨(fun h => absurd R h), ?_⟩; clear hK K hS
   refine Aw (NoPanic.normal (AC (zB (zD (kX 1 H (Bm (q := ((i + 1 : Nat) : Int)) U3 (H.e R) Am) R λ a H => zA (zI ⟨⟨i + 1, H.pick [0, 119, 120], by omega, ks, Aa⟩, ?_⟩))))))
   rw [H.ev (j := 120) rfl, H1.ev (j := 120) rfl]
   simp only [intOf]
   omega
  ·
   obtain rfl : i = 8 := by omega
   exact zC (zD (kV H (By U3 (H.e R) Am dF) R λ a H => zA (zB (zC (zG H R (wp_exit (AJ (AJ (BD (EF H R ⟨R, by rw [← O6 KR bs]; exact ks, Aa⟩))))))))))
section
/-- a slice of bytes in memory of the call's eY -/
abbrev Dg (w : World) (base : Nat) (v : Value) (bs : List B8) : Prop := w.ownsRow base 5 1 v bs.length (bs.map u8v)
theorem DF {w : World} {B : Nat} {v : Value} {bs cs : List B8} (h : w.ownsRow B 5 1 v (bs.length + cs.length) (bs.map u8v ++ cs.map u8v)) : Dg w B v (bs ++ cs) := by
 unfold Dg
 rw [List.length_append, List.map_append]
 exact h
theorem BZ {w : World} {B e size n : Nat} {v : Value} {xs : List Value} (h : w.ownsRow B e size v n xs) : ∃ A c, v = .slice A n c := by
 obtain ⟨_, ⟨rfl, rfl⟩ | ⟨g, cap, cur, rfl, _⟩⟩ := h
 · exact ⟨none, 0, rfl⟩
 · exact ⟨_, cap, rfl⟩
theorem Dg.row {w : World} {base : Nat} {v : Value} {bs : List B8} (h : Dg w base v bs) : B9 w v bs := by
 obtain ⟨A, c, rfl, hh, h1, h2⟩ := Et h
 refine ⟨A, c, R, h1, h2, fun e => ?_, hh⟩
 subst e
 rcases h.2 with ⟨e, _⟩ | ⟨g, cap, cur, e, _⟩
 · injection e
 · cases e
/-- a slice of slices of bytes -/
def KK (w : World) (v : Value) (ps : List (Value × List B8)) : Prop := (∃ A c, v = .slice A ps.length c ∧ ps.length ≤ c ∧ c ≤ maxLen ∧ (A = none → c = 0) ∧ BJ w A (ps.map (·.1))) ∧ ∀ p ∈ ps, B9 w p.1 p.2
theorem KK.up {w w' : World} {v : Value} {ps : List (Value × List B8)} (h : KK w v ps) (hb : Below w.heap.size w w') : KK w' v ps := by
 obtain ⟨⟨A, c, a1, a2, a3, a4, a5⟩, h2⟩ := h
 exact ⟨⟨A, c, a1, a2, a3, a4, a5.up hb⟩, fun p hp => (h2 p hp).up hb⟩
theorem Tv {w : World} {A : Option Addr} {c k : Nat} {ps : List (Value × List B8)} (h : KK w (.slice A ps.length c) ps) (hk : k < ps.length) : ∃ b o, A = some ⟨b, o, none⟩ ∧ ∀ p, ps[k]? = some p → w.cell? ⟨b, o + k, none⟩ = some p.1 := by
 obtain ⟨⟨A', c', e, _, _, _, hh⟩, _⟩ := h
 injection e with e1 e2 e3
 subst e1
 obtain ⟨b, o, he, hc⟩ := hh k (by simpa using hk)
 refine ⟨b, o, he, fun p hp => ?_⟩
 rw [hc]
 simp [hp]
theorem K7 {w w' : World} {b o : Nat} {v : Value} (h : w.cell? ⟨b, o, none⟩ = some v) (hb : Below w.heap.size w w') : w'.cell? ⟨b, o, none⟩ = some v := XH h hb
def Lz (ps : List (Value × List B8)) : Nat := (ps.map fun p => p.2.length).sum
def PG (ps : List (Value × List B8)) : List B8 := ps.flatMap (·.2)
theorem PK {ps : List (Value × List B8)} {k : Nat} {p : Value × List B8} (h : ps[k]? = some p) : Lz (ps.take (k + 1)) = Lz (ps.take k) + p.2.length := by
 obtain ⟨hk, rfl⟩ := List.getElem?_eq_some_iff.1 h
 unfold Lz
 rw [List.take_succ_eq_append_getElem hk, List.map_append, List.sum_append]
 simp
theorem XI {ps : List (Value × List B8)} {k : Nat} {p : Value × List B8} (h : ps[k]? = some p) : PG (ps.take (k + 1)) = PG (ps.take k) ++ p.2 := by
 obtain ⟨hk, rfl⟩ := List.getElem?_eq_some_iff.1 h
 unfold PG
 rw [List.take_succ_eq_append_getElem hk, List.flatMap_append]
 simp
theorem OE : ∀ ps : List (Value × List B8), (PG ps).length = Lz ps
 | [] => rfl
 | p :: ps => by
  have := OE ps
  unfold PG Lz at *
  simp only [List.flatMap_cons, List.length_append, List.map_cons, List.sum_cons, this]
theorem Uq (ps : List (Value × List B8)) (k : Nat) : Lz ps = Lz (ps.take k) + Lz (ps.drop k) := by
 unfold Lz
 rw [← List.sum_append, ← List.map_append, List.take_append_drop]
theorem VM {ps : List (Value × List B8)} {k : Nat} {p : Value × List B8} (h : ps[k]? = some p) : Lz (ps.take k) + p.2.length ≤ Lz ps := by
 rw [← PK h, Uq ps (k + 1)]
 exact Nat.le_add_right _ _
theorem CC (l : List B8) : ∀ u ∈ l.map u8v, u.oneCell' = true := fun u hu => by
 obtain ⟨x, _, rfl⟩ := List.mem_map.1 hu
 rfl
section
variable {P : Program} {ops : Array Oper} {rest : List Oper} {d : Option Tmp} {tt : TypeId} {ps : String} {af : Array Edge} {gd : Option (Nat × Bool)} {a : Act} {w : World} {Q : Exit → Act → World → Prop}
theorem WH {T E : TypeId} (hT : P.underlying T = some (.slice E)) {x : Operand} {A : Option Addr} {n : Nat} (hx : a.eval x = .slice A n 0) : (execOp a.eval ⟨d, .call { callee := .builtin .cap, args := #[x], argTypes := #[T] }, tt, ps, af, gd⟩).run P w = .ok (.value (J 0)) w := by
 unfold execOp
 simp [resolve, invoke, hx, builtin, Builtin.cap_, run_underlying hT, goInt]
theorem WD {T E : TypeId} (hT : P.underlying T = some (.slice E)) {x : Operand} {A : Option Addr} {c : Nat} (hx : a.eval x = .slice A 0 c) : (execOp a.eval ⟨d, .call { callee := .builtin .len, args := #[x], argTypes := #[T] }, tt, ps, af, gd⟩).run P w = .ok (.value (J 0)) w := Ba hT hx
theorem Lc (w : World) (t u ty e : TypeId) (i : TypeInfo) (z : Value) (ht : P.underlying t = some (.slice e)) (hu : P.underlying u = some (.int .i64)) (hi : P.info? e = some i) (hz : i.zero = some z) (If : i.size = 1) (aO : i.bytes = 1) (n : Nat) (h0 : 0 < n) (hn : n ≤ 1000000) :
  (Builtin.append_ #[t, u] ty #[.slice none 0 0, J (n : Nat)]).run P w = .ok (.slice (some ⟨w.heap.size, 0, none⟩) n (grownCap w n 0 e)) (w.drew.alloc (.cells (Builtin.zeroCells z.cells n ++ Builtin.zeroCells z.cells (grownCap w n 0 e - n)) e)) := by
 have h1 : n ≠ 0 := by omega
 have h63' : ¬ (9223372036854775807 < (n : Int)) := by omega
 have h48' : ¬ (281474976710656 < Builtin.nextslicecap n 0) := by rw [nextslicecap_zero h0]; omega
 have hw : IntKind.i64.wrap (n : Int) = (n : Int) := IntWalk.i64_in _ (by omega)
 have pV : ¬ ((n : Int) < 0) := by omega
 have h3 : ¬ (281474976710656 < (n : Int)) := by omega
 simp [Builtin.append_, run_underlying ht, run_underlying hu, sizeOf, typeInfo, zeroValue, hi, hz, If, aO, asInt, asIntOf, hw, pV, h3, h1, h63', h48', Question.forced, run_firstCells_none, newRow, grownCap, Builtin.firstCells]
theorem LQ (t u e : TypeId) (s x : Operand) (n : Nat) (ht : P.underlying t = some (.slice e)) (hu : P.underlying u = some (.int .i64)) (hi : (P.info? e).map (fun i => (i.zero, i.size, i.bytes)) = some (some (.int .u8 0), 1, 1))
  (hs : a.eval s = .slice none 0 0) (hx : a.eval x = J (n : Nat)) (h0 : 0 < n) (hn : n ≤ 1000000)
  (h : ∀ g cap w' cur, w.heap.size ≤ g → Below w.heap.size w w' → w'.heap[g]? = some (.cells cur e (0, 0)) → n ≤ cap → cap ≤ maxLen → cur.size = cap → wpList P ops Q rest (a.put d (.slice (some ⟨g, 0, none⟩) n cap)) w') :
  wpList P ops Q (⟨d, .call { callee := .builtin .append, args := #[s, x], argTypes := #[t, u] }, tt, ps, af, none⟩ :: rest) a w :=
 wpList_plain rfl fun _ hK => by
  cases hq : P.info? e with
  | none => simp [hq] at hi
  | some i =>
   have Pp : i.zero = some (.int .u8 0) ∧ i.size = 1 ∧ i.bytes = 1 := by simpa [hq] using hi
   have Df := Lc (P := P) w t u tt e i _ ht hu hq Pp.1 Pp.2.1 Pp.2.2 n h0 hn
   unfold Oper.wp execOp
   simp only [resolve, invoke, builtin, Sem.run_bind, Sem.run_pure, Result.andThen_ok, List.map_toArray, List.map_cons, List.map_nil, hs, hx, Df]
   refine hK _ _ (h w.heap.size _ _ _ (Nat.le_refl _) ?_ (heap_alloc_new w.drew _) (grownCap_ge w n 0 e) (grownCap_le_maxLen w n 0 e (by unfold maxLen; omega)) ?_)
   · exact ((Below.refl _ _).drew).alloc (Nat.le_refl _) _
   ·
    have := grownCap_ge w n 0 e
    simp [Builtin.zeroCells, Value.cells]
    omega
end
theorem Xy (w : World) (n : Nat) (hn : n ≤ 1000000) :
  Calls Tryz.prog 145 #[.slice none 0 0, J (n : Nat)] w fun e w' => (∃ A c, e = .returned (.slice A 0 c) ∧ w'.ownsRow w.heap.size 5 1 (.slice A 0 c) 0 []) ∧ Below w.heap.size w w' := by
 have Aa := Below.refl w.heap.size w
 refine Az 27 Tryz.func145 R R λ a H => zC (zD (kR 1 H R λ a H => zA (zB (zC (zC (zD (kR 1 H R λ a H => kV H (By U3 (H.e R) Am dF) R λ a H => zA (zB (zG H R (zE (zB (zC (zC (zD (kR 2 H R λ a H => kX 1 (v := J 0) H (WH CO (H.e R)) R λ a H => kV (v := J 0) H (WD CO (H.e R)) R λ a H => kV (v := J 0) H (Dl (q := (0 : Int)) U3 (H.e R) (H.e R)) R λ a H => kX 1 (v := J (n : Nat)) H (Dl (q := ((n : Nat) : Int)) U3 (H.e R) (H.e R)) R λ a H => zA (zB (zC (zD (kR 1 H R λ a H => ?_)))))))))))))))))))
 by_cases BE : ((n : Nat) : Int) > 0
 ·
  refine kV H (CU U3 (H.e R) Am (AE (BE))) R λ a H => zA (zB (zH H R (zD (kR 2 H R λ a H => kV (v := J 0) H (WH CO (H.e R)) R λ a H => kX 1 (v := .slice none 0 0) H (BS CO (.slice none 0 0) none (some (J 0)) none (H.e R) R (congrArg some (H.e R)) R (CF 0 0 CO s5 _ _ (.inl ⟨R, R⟩) (.inr R) (by omega) (by omega) (by simp [C6]) R R)) R λ a H => LQ 30 3 5 (.tmp 20) (.tmp 21) n CO U3 i5 (H.e R) (H.e R) (by omega) (by omega) fun g cap w1 cur hg hb hk iA aL Gu => ?_))))
  replace Aa := Aa.tr hb; clear hb; exact kL 1 H rfl λ a H => kV (v := J 0) H (WD CO (H.ev rfl)) rfl λ a H => kX 1 (v := .slice (some ⟨g, 0, none⟩) 0 cap) H (BS CO (.slice (some ⟨g, 0, none⟩) n cap) none (some (J 0)) none (H.ev rfl) rfl (congrArg some (H.ev rfl)) rfl (CF 0 0 CO s5 _ _ (.inl ⟨rfl, rfl⟩) (.inr rfl) (by omega) (by omega) (by simp [C6, CT]) rfl rfl)) rfl λ a H => zA (zB (zC (zD (kR 2 H rfl λ a H => zA (zB (zF (Ag H rfl rfl ⟨⟨_, _, rfl, by simp, .inr ⟨g, cap, cur, rfl, hg, hk, Nat.zero_le _, aL, by rw [Gu, Nat.mul_one], by simp⟩⟩, Aa⟩)))))))
 ·
  exact kV H (CU U3 (H.e R) Am (AF (BE))) R λ a H => zA (zB (zG H R (zE (zB (zC (zD (kR 2 H R λ a H => zA (zB (zF (Ag H R R ⟨⟨_, _, R, World.ownsRow_nil _ _ _ _⟩, Aa⟩))))))))))
def Cc1 (W : World) (A : Option Addr) (c : Nat) (ps : List (Value × List B8)) (a : Act) (w : World) : Prop :=
 ∃ k : Nat, Kn a 36 [(0, .slice A ps.length c), (3, J (Lz (ps.take k) : Nat)), (9, .slice A ps.length c), (10, J (ps.length : Nat)), (11, J (k : Nat))] ∧ k ≤ ps.length ∧ Below W.heap.size W w
def Cc2 (W : World) (A : Option Addr) (c : Nat) (ps : List (Value × List B8)) (a : Act) (w : World) : Prop :=
 ∃ (k : Nat) (A1 : Option Addr) (c1 : Nat) (bs : List B8), Kn a 36 [(0, .slice A ps.length c), (6, .slice A1 bs.length c1), (25, .slice A ps.length c), (26, J (ps.length : Nat)), (27, J (k : Nat))] ∧ k ≤ ps.length ∧ PG (ps.take k) = bs ∧ Dg w W.heap.size (.slice A1 bs.length c1) bs ∧ Below W.heap.size W w
theorem SM (w : World) (v : Value) (ps : List (Value × List B8)) (hp : KK w v ps) (hn : Lz ps ≤ 1000000) (hl : ps.length ≤ 1000000) :
  Calls Tryz.prog 130 #[v] w fun e w' => (∃ A c, e = .returned (.slice A (PG ps).length c) ∧ Dg w' w.heap.size (.slice A (PG ps).length c) (PG ps)) ∧ Below w.heap.size w w' := by
 obtain ⟨⟨A, c, rfl, h1, h2, h3, hh⟩, LU⟩ := hp
 have hp : KK w (.slice A ps.length c) ps := ⟨⟨A, c, rfl, h1, h2, h3, hh⟩, LU⟩
 clear hh LU
 have Aa := Below.refl w.heap.size w
 refine Az 36 Tryz.func130 R R λ a H => zC (zD (kR 1 H R λ a H => zA (zB (zC (zD (kR 1 H R λ a H => zA (zB (zC (zC (zD (kR 1 H R λ a H => kX 1 H (Ba Lu (H.e R)) R λ a H => zA (zB (wp_block (wp_loop (Cc1 w A c ps) (fun a _ => ps.length - (intOf (a.eval (.tmp 11))).toNat) ⟨0, H.pick [0, 3, 9, 10, 11], by omega, Aa⟩ ?_))))))))))))))
 clear H Aa
 rintro a w' ⟨k, H, hk, Aa⟩
 have H0 := H
 by_cases CM : k < ps.length
 ·
  obtain ⟨b, o, hA, Be⟩ := Tv hp CM
  subst hA
  obtain ⟨p, RC⟩ : ∃ p, ps[k]? = some p := ⟨_, List.getElem?_eq_getElem CM⟩
  have GN := Be p RC
  have LU := hp.2 p (List.mem_of_getElem? RC)
  have HP := Lib.hid RC
  obtain ⟨Ap, cp, pQ, q1, q2, q3, q4⟩ := LU
  have HQ := Lib.hid q4
  rw [pQ] at GN
  have HCL := Lib.hid GN
  have zO := VM (ps := ps) (k := k) RC
  clear RC Be GN q4
  have H := H0
  refine zC (zD (kV H (By U3 (H.e R) (H.e R) dT) R λ a H => zA (zB (zC (zH H R (zE (zB (zC (wp_block (zC (zD (kV H (Bq (j := k) (q := o + k) Lu PD (H.e R) (H.e R) (by omega) (by omega)) R λ a H => kX 1 H (Ai CO R (H.e R) (K7 HCL.out Aa)) R λ a H => zA (zB (zC (zD (kR 2 H R λ a H => kV H (Ba CO (H.e R)) R λ a H => kX 1 (v := J (Lz (ps.take k) + p.2.length : Nat)) H (Bm (q := ((Lz (ps.take k) + p.2.length : Nat) : Int)) U3 (H.e R) (H.e R)) R λ a H => zA (zB (zC (zD (kR 1 H R λ a H => kV H (By U3 (H.e R) Am dF) R λ a H => zA (zB (zG H R (zE (AC (zB (zD (kX 1 H (Bm (q := ((k + 1 : Nat) : Int)) U3 (H.e R) Am) R λ a H => zA ?_)))))))))))))))))))))))))))
  replace H := H.pick [0, 3, 9, 10, 11]
  rw [← PK HP.out] at H
  refine zI ⟨⟨k + 1, H, by omega, Aa⟩, ?_⟩
  rw [H.ev (j := 11) rfl, H0.ev (j := 11) rfl]
  simp only [intOf]
  omega
 ·
  obtain rfl : k = ps.length := by omega
  refine zC (zD (kV H (By U3 (H.e R) (H.e R) dF) R λ a H => zA (zB (zC (zG H R (wp_exit (AJ (AJ (BD (zB (zC (zD (kR 1 H R λ a H => A8 _ _ _ (Xy _ _ (by rw [List.take_length]; omega)) (AA lC Am (H.e R)) ?_)))))))))))))
  rintro e w9 ⟨⟨A1, c1, rfl, Ah⟩, hb⟩; refine ⟨_, rfl, ?_⟩; have hD := Aa.size; replace Aa := Aa.tr hb; clear hb; replace Ah := GG Ah hD; refine kL 1 H rfl λ a H => zA (zB (zC (zC (zD (kR 1 H rfl λ a H => kX 1 H (Ba Lu (H.ev rfl)) rfl λ a H => zA (zB (wp_block ?_)))))))
  have Gl := Aa.size
  refine wp_loop (Cc2 w A c ps) (fun a _ => ps.length - (intOf (a.eval (.tmp 27))).toNat) ⟨0, A1, c1, [], H.pick [0, 6, 25, 26, 27], by omega, R, Ah, Aa⟩ ?_
  clear H Aa Ah Gl hD
  rintro a w' ⟨k, A1, c1, bs, H, hk, Jh, Ah, Aa⟩
  have H0 := H
  have Gl := Aa.size
  by_cases CM : k < ps.length
  ·
   obtain ⟨b, o, hA, Be⟩ := Tv hp CM
   subst hA
   obtain ⟨p, RC⟩ : ∃ p, ps[k]? = some p := ⟨_, List.getElem?_eq_getElem CM⟩
   have GN := Be p RC
   have LU := hp.2 p (List.mem_of_getElem? RC)
   have HP := Lib.hid RC
   obtain ⟨Ap, cp, pQ, q1, q2, q3, q4⟩ := LU
   have HQ := Lib.hid q4
   rw [pQ] at GN
   have HCL := Lib.hid GN
   have zO := VM (ps := ps) (k := k) RC
   clear RC Be GN q4
   have H := H0
   have mS : bs.length = Lz (ps.take k) := by rw [← Jh]; exact OE _
   have HBS := Lib.hid Jh
   clear Jh
   refine zC (zD (kV H (By U3 (H.e R) (H.e R) dT) R λ a H => zA (zB (zC (zH H R (zE (zB (zC (wp_block (zC (zD (kV H (Bq (j := k) (q := o + k) Lu PD (H.e R) (H.e R) (by omega) (by omega)) R λ a H => kX 1 H (Ai CO R (H.e R) (K7 HCL.out Aa)) R λ a H => zA (zB (zD (kR 2 H R λ a H => BX 30 5 (.tmp 31) (.tmp 32) w.heap.size (.int .u8 0) 1 1 _ _ _ Ap p.2.length cp (p.2.map u8v) (H.e R) (H.e R) CO i5 R (by omega) Ah (by simp) (HQ.out.up Aa) (CC _) (by unfold maxLen; omega) (by omega) Gl fun o2 w9 AU F0 Fz Cb => ?_)))))))))))))))
   have Bv := DF AU; replace Aa := Aa.trans Cb; clear Ah AU F0 Fz Cb; have Ah := Bv; clear Bv; obtain ⟨A2, c2, GK⟩ := BZ Ah; subst GK; refine kL 1 H rfl λ a H => zA (AC (zB (zD (kX 1 H (Bm (q := ((k + 1 : Nat) : Int)) U3 (H.ev rfl) Am) rfl λ a H => zA (zI ⟨⟨k + 1, A2, c2, bs ++ p.2, H.pick [0, 6, 25, 26, 27], by omega, by rw [XI HP.out, HBS.out], Ah, Aa⟩, ?_⟩)))))
   rw [H.ev (j := 27) rfl, H0.ev (j := 27) rfl]
   simp only [intOf]
   omega
  ·
   obtain rfl : k = ps.length := by omega
   refine zC (zD (kV H (By U3 (H.e R) (H.e R) dF) R λ a H => zA (zB (zC (zG H R (wp_exit (AJ (AJ (BD (zB (zC (zD (kR 2 H R λ a H => zA (zB (zF ?_)))))))))))))))
   rw [List.take_length] at Jh
   exact Ag H R R ⟨⟨A1, c1, by rw [Jh], by rw [Jh]; exact Ah⟩, Aa⟩
end
section
abbrev BL (l : List B8) : Array Value := (l.map u8v).toArray
theorem Bk {l : List B8} : (BL l).size = l.length := by simp [BL]
theorem D5 (l : List B8) : (BL l).all (·.oneCell') = true := by simp [BL, Value.oneCell']
theorem O2 {w : World} {b : Nat} {t : TypeId} {l : List B8} {i : Nat} {x : B8} (h : Ad w b t (BL l)) (hx : l[i]? = some x) : w.cell? ⟨b, i, none⟩ = some (u8v x) := by
 rw [h.cell]
 simp [BL, hx]
theorem Nn {w : World} {b i : Nat} {t : TypeId} {l : List B8} {y : B8} (h : Ad w b t (C3 (BL l) i (u8v y).cells.toList)) : Ad w b t (BL (l.set i y)) := by
 have e : C3 (BL l) i (u8v y).cells.toList = BL (l.set i y) := by
  show C3 (BL l) i [u8v y] = _
  rw [FL]
  apply Array.ext'
  simp [BL, List.map_set]
 rw [← e]; exact h
theorem KT (x : B8) : (u8v x).cells.all (·.oneCell') = true := by simp [Value.cells, Value.oneCell']
theorem OA : (Tryz.prog.info? 105).map (·.zero) = some (some (.agg (BL (List.replicate 32 0)))) := by kernel_rfl
/-- how many zeros are laid -/
def zc (n : Nat) : Nat := (119 - n % 64) % 64
def HA (bs : List B8) (j : Nat) : List B8 := bs ++ [128#8] ++ List.replicate j 0#8
def Hd (n j : Nat) : B8 := BitVec.ofNat 8 (n / 2 ^ (8 * (7 - j)))
def K4 (n : Nat) (j : Nat) : List B8 := (List.range j).map (Hd n)
def MN (bs : List B8) : List B8 := HA bs (zc bs.length) ++ K4 (bs.length * 8) 8
def Jm : List D6 := [1779033703#32, 3144134277#32, 1013904242#32, 2773480762#32, 1359893119#32, 2600822924#32, 528734635#32, 1541459225#32]
def LO (S : List D6) (bs : List B8) : Nat → List D6
 | 0 => S
 | k + 1 => Iz (LO S bs k) ((bs.drop (64 * k)).take 64)
def IA (S : List D6) : List B8 := (List.range 32).map fun i => ((S.getD (i / 4) 0) >>> (24 - 8 * (i % 4))).setWidth 8
/-- the digest -/
def I7 (bs : List B8) : List B8 := IA (LO Jm (MN bs) ((MN bs).length / 64))
theorem VR {bs cs : List B8} {k : Nat} (h : bs = cs) (hk : (MN bs).length = 64 * k) : IA (LO Jm (MN bs) k) = I7 cs := by
 subst h
 unfold I7
 rw [hk, Nat.mul_div_cancel_left _ (by omega)]
theorem Q9 {bs : List B8} : bs ++ [128#8] = HA bs 0 := by simp [HA]
theorem QA {bs : List B8} {j : Nat} : HA bs j ++ [0#8] = HA bs (j + 1) := by
 unfold HA
 rw [List.append_assoc, List.replicate_succ']
theorem Kx (bs : List B8) (j : Nat) : (HA bs j).length = bs.length + 1 + j := by simp [HA]; omega
theorem SV {n j : Nat} (h : j < zc n) : (n + 1 + j) % 64 ≠ 56 := by unfold zc at h; omega
theorem VF (n : Nat) : (n + 1 + zc n) % 64 = 56 := by unfold zc; omega
theorem RH (n : Nat) : zc n ≤ 63 := by unfold zc; omega
theorem HC (n j : Nat) : (K4 n j).length = j := by simp [K4]
theorem Og {n j : Nat} : K4 n (j + 1) = K4 n j ++ [Hd n j] := by simp [K4, List.range_succ]
def Of : Value → Nat
 | .slice _ n _ => n
 | _ => 0
theorem GU {S : List D6} (h : S.length = 8) (bs : List B8) : (Iz S bs).length = 8 := by
 unfold Iz
 rw [List.length_zipWith, F8 h, h]
 rfl
theorem F7 (bs : List B8) : ∀ k, (LO Jm bs k).length = 8
 | 0 => rfl
 | k + 1 => GU (F7 bs k) _
theorem GH {S : List D6} : (IA S).length = 32 := by simp [IA]
theorem QE (S : List D6) : (IA S).take 0 ++ List.replicate (32 - 0) (0 : B8) = List.replicate 32 0 := rfl
theorem QF {S : List D6} : (IA S).take 32 ++ List.replicate (32 - 32) (0 : B8) = IA S := by
 rw [List.take_of_length_le (by rw [GH]; omega)]
 simp
theorem Tz {S : List D6} {i : Nat} {y : B8} (h : i < 32) : i + (u8v y).cells.size ≤ (BL ((IA S).take i ++ List.replicate (32 - i) 0)).size := by
 rw [Bk]
 show i + 1 ≤ _
 simp [GH]
 omega
theorem Ty {S : List D6} {i : Nat} {x : D6} (h : i < 32) (hx : S[i / 4]? = some x) : ((IA S).take i ++ List.replicate (32 - i) 0).set i ((x >>> (24 - (8 * (i % 4)))).setWidth 8) = (IA S).take (i + 1) ++ List.replicate (32 - (i + 1)) 0 := by
 rw [show 32 - i = (32 - (i + 1)) + 1 by omega, List.replicate_succ, Jx (by simp [GH]; omega), List.take_succ_eq_append_getElem (by rw [GH]; exact h)]
 simp [IA, List.getD_eq_getElem?_getD, hx]
theorem Rr (w : World) (v : Value) (ps : List (Value × List B8)) (hp : KK w v ps) (hn : Lz ps ≤ 1000000) (hl : ps.length ≤ 1000000) :
  Calls Tryz.prog 130 #[v] w fun e w' => (∃ D A c bs, D = w.heap.size ∧ bs = PG ps ∧ e = .returned (.slice A bs.length c) ∧ Dg w' D (.slice A bs.length c) bs) ∧ Below w.heap.size w w' :=
 (SM w v ps hp hn hl).mono fun e w' ⟨⟨A, c, he, ho⟩, hb⟩ => ⟨⟨_, A, c, _, rfl, rfl, he, ho⟩, hb⟩
theorem MS {D : Nat} {w w' : World} (h : D ≤ w.heap.size) (hb : Below w.heap.size w w') : D ≤ w'.heap.size := Nat.le_trans h hb.size
theorem YE {w : World} {D n b : Nat} {v : Value} {xs : List Value} (h : w.ownsRow D 5 1 v n xs) (Ak : w.heap.size ≤ b) : ∀ q, v.ownBlock = some q → q < b := fun q hq => Nat.lt_of_lt_of_le (h.lt q hq).2 Ak
theorem G4 {w : World} {A : Option Addr} {n c : Nat} {bs : List B8} (h : B9 w (.slice A n c) bs) (hp : 0 < bs.length) : ∃ b o, A = some ⟨b, o, none⟩ := by
 obtain ⟨A', c', e, _, _, _, hh⟩ := h
 injection e with e1 e2 e3
 obtain ⟨b, o, he, _⟩ := hh 0 (by simpa using hp)
 exact ⟨b, o, by rw [e1, he]⟩
theorem KH {w : World} {A : Option Addr} {n c : Nat} {bs : List B8} (h : B9 w (.slice A n c) bs) : bs.length ≤ c := by
 obtain ⟨A', c', e, h1, _, _, hh⟩ := h
 injection e with e1 e2 e3
 omega
theorem B9.take {w : World} {A : Option Addr} {m n c : Nat} {bs : List B8} (h : B9 w (.slice A m c) bs) (hn : n ≤ bs.length) : B9 w (.slice A n c) (bs.take n) := by
 obtain ⟨A', c', e, h1, h2, h3, hh⟩ := h
 injection e with e1 e2 e3
 subst e1 e3
 have hl : (bs.take n).length = n := by simp; omega
 refine ⟨_, _, by rw [hl], by rw [hl]; omega, h2, h3, fun j hj => ?_⟩
 have LS : j < n := by have : j < min n bs.length := (by simpa [hl] using hj); omega
 obtain ⟨b, o, he, hc⟩ := hh j (by simp; omega)
 refine ⟨b, o, he, ?_⟩
 rw [hc, List.getElem?_map, List.getElem?_map, List.getElem?_take, if_pos LS]
theorem B9.next {w : World} {x0 o n k c : Nat} {bs : List B8} (h : B9 w (.slice (some ⟨x0, o, none⟩) n c) (bs.drop (64 * k))) (hn : 64 ≤ (bs.drop (64 * k)).length) : B9 w (.slice (C6 (some ⟨x0, o, none⟩) c 64 1) (bs.drop (64 * (k + 1))).length (c - 64)) (bs.drop (64 * (k + 1))) := by
 obtain ⟨A', c', e, h1, h2, h3, hh⟩ := h
 injection e with e1 e2 e3
 subst e1 e3
 have hd : bs.drop (64 * (k + 1)) = (bs.drop (64 * k)).drop 64 := by rw [List.drop_drop, Nat.mul_add]
 rw [hd]
 generalize bs.drop (64 * k) = cs at *
 refine ⟨_, _, R, by rw [List.length_drop]; omega, by omega, fun e => ?_, fun j hj => ?_⟩
 ·
  unfold C6 at e
  split at e
  · omega
  · simp at e
 ·
  have LS : j < cs.length - 64 := by simpa using hj
  obtain ⟨b, o', he, hc⟩ := hh (64 + j) (by simp; omega)
  injection he with he
  injection he with e4 e5
  subst e4 e5
  refine ⟨x0, o + 64 * 1, ?_, ?_⟩
  · rw [Jq (by omega)]
  · rw [Nat.mul_one, Nat.add_assoc, hc, List.getElem?_map, List.getElem?_map, List.getElem?_drop]
theorem B9.grown {w w' : World} {A : Option Addr} {n c : Nat} {bs : List B8} {r : Option Nat} (h : B9 w (.slice A n c) bs) (hg : w.grownBy w' r) (Fh : ∀ b o, A = some ⟨b, o, none⟩ → some b ≠ r) : B9 w' (.slice A n c) bs := by
 obtain ⟨A', c', e, h1, h2, h3, hh⟩ := h
 injection e with e1 e2 e3
 subst e1 e2 e3
 refine ⟨_, _, R, h1, h2, h3, fun j hj => ?_⟩
 obtain ⟨b, o, he, hc⟩ := hh j hj
 refine ⟨b, o, he, ?_⟩
 have hj2 : (bs.map u8v)[j]? = some (bs.map u8v)[j] := List.getElem?_eq_getElem hj
 rw [hj2] at hc ⊢
 exact hg.cell hc (Fh b o he)
theorem PY {b o c lo size b' o' : Nat} (h : C6 (some ⟨b, o, none⟩) c lo size = some ⟨b', o', none⟩) : b' = b := by
 unfold C6 at h
 split at h
 · injection h with h; injection h with h; exact h.symm
 · simp [CT] at h; exact h.1.symm
section
variable {P : Program} {d : Option Tmp} {tt : TypeId} {ps : String} {af : Array Edge} {gd : Option (Nat × Bool)} {a : Act} {w : World} {x y : Operand} {t t2 s : TypeId}
theorem NT {n : Nat} (hs : P.underlying s = some (.int .i64)) (ht : P.underlying t = some (.int .u64)) (hx : a.eval x = J (n : Nat)) (hn : n ≤ 18446744073709551615) : (execOp a.eval ⟨d, .convert s t x, tt, ps, af, gd⟩).run P w = .ok (.value (.int .u64 (n : Nat))) w := by
 unfold execOp
 simp only [hx]
 go_simp
 simp [IntKind.wrap, IntKind.bits, IntKind.signed]
 omega
theorem NQ {n m : Nat} (ht : P.underlying t = some (.int .u64)) (hx : a.eval x = .int .u64 (n : Nat)) (hy : a.eval y = .int .u64 (m : Nat)) (hn : n * m ≤ 18446744073709551615) : (execOp a.eval ⟨d, .binOp .mul t x y t2, tt, ps, af, gd⟩).run P w = .ok (.value (.int .u64 (n * m : Nat))) w := by
 have h : IntKind.u64.wrap ((n : Int) * (m : Int)) = ((n * m : Nat) : Int) := by
  rw [← Int.natCast_mul]
  simp [IntKind.wrap, IntKind.bits, IntKind.signed]
  rw [← Int.natCast_mul]
  omega
 unfold execOp
 simp only [hx, hy]
 go_simp
theorem NP {n k : Nat} (ht : P.underlying t = some (.int .u64)) (hx : a.eval x = .int .u64 (n : Nat)) (hy : a.eval y = J (k : Nat)) (hk : k ≤ 64) : (execOp a.eval ⟨d, .binOp .shr t x y t2, tt, ps, af, gd⟩).run P w = .ok (.value (.int .u64 (n / 2 ^ k : Nat))) w := by
 unfold execOp
 simp only [hx, hy]
 go_simp
theorem NR {n j : Nat} (hs : P.underlying s = some (.int .u64)) (ht : P.underlying t = some (.int .u8)) (hx : a.eval x = .int .u64 (n / 2 ^ (8 * (7 - j)) : Nat)) : (execOp a.eval ⟨d, .convert s t x, tt, ps, af, gd⟩).run P w = .ok (.value (u8v (Hd n j))) w := by
 have h : IntKind.u8.wrap (((n / 2 ^ (8 * (7 - j)) : Nat)) : Int) = (((Hd n j).toNat : Nat) : Int) := by
  rw [OC]
  simp [Hd]
 have h3 : IntKind.u8.wrap ((n : Int) / 2 ^ (8 * (7 - j))) = (((Hd n j).toNat : Nat) : Int) := by
  have e : ((n : Int) / 2 ^ (8 * (7 - j))) = ((n / 2 ^ (8 * (7 - j)) : Nat) : Int) := by simp
  rw [e]; exact h
 unfold execOp
 simp only [hx]
 go_simp
theorem oY : (execOp a.eval ⟨d, .build 141 #[(0, .const (.int .u32 1779033703)), (1, .const (.int .u32 3144134277)), (2, .const (.int .u32 1013904242)), (3, .const (.int .u32 2773480762)), (4, .const (.int .u32 1359893119)), (5, .const (.int .u32 2600822924)), (6, .const (.int .u32 528734635)), (7, .const (.int .u32 1541459225))], tt, ps, af, gd⟩).run Tryz.prog w = .ok (.value (.agg (Ci Jm))) w := by
 kernel_rfl
end
def Su1 (W : World) (D b0 : Nat) (bs : List B8) (a : Act) (w : World) : Prop :=
 ∃ (j : Nat) (A1 : Option Addr) (c1 : Nat), Kn a 62 [(2, .pointer (some ⟨b0, 0, none⟩)), (3, .slice A1 (HA bs j).length c1), (4, .int .u64 (bs.length * 8 : Nat))] ∧ j ≤ zc bs.length ∧ Dg w D (.slice A1 (HA bs j).length c1) (HA bs j) ∧ Ad w b0 105 (BL (List.replicate 32 0)) ∧ D ≤ w.heap.size ∧ Below W.heap.size W w
def Su2 (W : World) (D b0 : Nat) (bs q : List B8) (a : Act) (w : World) : Prop :=
 ∃ (j : Nat) (A1 : Option Addr) (c1 : Nat), Kn a 62 [(2, .pointer (some ⟨b0, 0, none⟩)), (3, .slice A1 (q ++ K4 (bs.length * 8) j).length c1), (4, .int .u64 (bs.length * 8 : Nat)), (5, J (7 - ((j : Nat) : Int)))] ∧ j ≤ 8 ∧ Dg w D (.slice A1 (q ++ K4 (bs.length * 8) j).length c1) (q ++ K4 (bs.length * 8) j) ∧ Ad w b0 105 (BL (List.replicate 32 0)) ∧ D ≤ w.heap.size ∧ Below W.heap.size W w
def Su3 (W : World) (sb b0 : Nat) (pd : List B8) (a : Act) (w : World) : Prop :=
 ∃ (k : Nat) (A1 : Option Addr) (c1 : Nat), Kn a 62 [(2, .pointer (some ⟨b0, 0, none⟩)), (3, .slice A1 (pd.drop (64 * k)).length c1), (6, .pointer (some ⟨sb, 0, none⟩))] ∧ 64 * k ≤ pd.length ∧ B9 w (.slice A1 (pd.drop (64 * k)).length c1) (pd.drop (64 * k)) ∧ (∀ b o, A1 = some ⟨b, o, none⟩ → b < sb) ∧ Ad w b0 105 (BL (List.replicate 32 0)) ∧ Ad w sb 141 (Ci (LO Jm pd k)) ∧ Below W.heap.size W w
def Su4 (W : World) (sb b0 : Nat) (S : List D6) (a : Act) (w : World) : Prop :=
 ∃ i : Nat, Kn a 62 [(2, .pointer (some ⟨b0, 0, none⟩)), (6, .pointer (some ⟨sb, 0, none⟩)), (45, J (i : Nat))] ∧ i ≤ 32 ∧ Ad w b0 105 (BL ((IA S).take i ++ List.replicate (32 - i) 0)) ∧ Ad w sb 141 (Ci S) ∧ Below W.heap.size W w
theorem NJ {S : List D6} : (Tryz.prog.info? 105).map (·.size) = some (BL (IA S)).size := by
 rw [Bk, GH]; exact Ws
theorem Te (w : World) (v : Value) (ps : List (Value × List B8)) (hp : KK w v ps) (hn : Lz ps ≤ 1000000) (hl : ps.length ≤ 1000000) :
  Calls Tryz.prog 123 #[v] w fun e w' => e = .returned (.agg (BL (I7 (PG ps)))) ∧ Below w.heap.size w w' := by
 have hlp := hl
 have Aa := Below.refl w.heap.size w
 refine Az 62 Tryz.func123 R R λ a H => zC (zD (Bj 105 (BL (List.replicate 32 0)) OA fun w0 b0 Ak hb k0 => ?_))
 have g0 := Nat.le_trans Aa.size Ak; replace hp := KK.up hp hb; replace Aa := Aa.tr hb; clear hb Ak; refine kl H rfl λ a H => zA (zB (zC (zD (kR 1 H rfl λ a H => A8 _ _ _ (Rr _ _ ps hp hn hl) (Av lI (H.ev rfl)) ?_))))
 rintro e w9 ⟨⟨D, A1, c1, bs, I5, Jh, rfl, Ah⟩, hb⟩; refine ⟨_, rfl, ?_⟩; have aR := k0.lt; have aQ := Aa.size; have Gl := hb.size; replace k0 := k0.ups hb; replace Aa := Aa.tr hb; clear hb hp; rw [← I5] at aR aQ Gl; clear I5; have fE : bs.length = Lz ps := (by rw [Jh]; exact OE _); replace Jh := Lib.hid Jh; refine kL 1 H rfl λ a H => zA (zB (zC (zD (kR 1 H rfl λ a H => kV H (Ba CO (H.ev rfl)) rfl λ a H => kV (v := .int .u64 (bs.length : Nat)) H (NT U3 R7 (H.ev rfl) (by omega)) rfl λ a H => kX 1 (v := .int .u64 (bs.length * 8 : Nat)) H (NQ R7 (H.ev rfl) Am (by omega)) rfl λ a H => zA (zB (zC (zD (kR 1 H rfl λ a H => BP 30 1 #[(0, u8v (128#8))] 5 #[u8v (128#8)] (by simp [Am]) (fun w => by kernel_rfl) fun w1 b1 Ak hb k1 => ?_))))))))
 have g1 := Nat.le_trans Aa.size Ak; replace k0 := k0.ups hb; replace Ah := Bh Ah hb; replace Gl := MS Gl hb; replace Aa := Aa.tr hb; clear hb; clear Ak; refine kl H rfl λ a H => BX 30 5 (.tmp 14) (.tmp 15) D (.int .u8 0) 1 1 _ _ _ (some ⟨b1, 0, none⟩) 1 1 ([128#8].map u8v) (H.ev rfl) (H.ev rfl) CO i5 rfl (by omega) Ah rfl (Ad.holds k1) (CC _) (by unfold maxLen; omega) (by omega) Gl fun o2 w9 AU F0 Fz Cb => ?_
 have Bv := DF AU; replace k0 := Ad.up k0 Cb aR; replace Aa := Aa.trans (Cb.mono aQ); replace Gl := Nat.le_trans Gl Cb.size; clear Ah AU F0 Fz Cb k1; have Ah := Bv; clear Bv; obtain ⟨A2, c2, GK⟩ := BZ Ah; subst GK; refine kL 1 H rfl λ a H => zA (zB (zC (wp_block ?_)))
 rw [Q9] at Ah H
 refine wp_loop (Su1 w D b0 bs) (fun a _ => zc bs.length - (Of (a.eval (.tmp 3)) - (bs.length + 1))) ⟨0, A2, c2, H.pick [2, 3, 4], by omega, Ah, k0, Gl, Aa⟩ ?_
 clear H Aa Ah k0 Gl
 rintro a w' ⟨j, A1, c1, H, hj, Ah, k0, Gl, Aa⟩
 have H0 := H
 have YV := Kx bs j
 have zT := RH bs.length
 by_cases CM : j < zc bs.length
 ·
  have YS := SV CM
  rw [← YV] at YS
  refine zC (zC (zD (kR 1 H R λ a H => kV H (Ba CO (H.e R)) R λ a H => kV H (MI (p := (HA bs j).length) (q := 64) U3 (H.e R) Am (by omega)) R λ a H => kV H (E6 U3 (H.e R) Am dT) R λ a H => zA (zB (zH H R (zE (zB (wp_block (zD (kR 1 H R λ a H => BP 30 1 #[(0, u8v (0#8))] 5 #[u8v (0#8)] (by simp [Am]) (fun w => by kernel_rfl) fun w2 b2 Ak hb k2 => ?_))))))))))
  have g2 := Nat.le_trans Aa.size Ak; replace k0 := k0.ups hb; replace Ah := Bh Ah hb; replace Gl := MS Gl hb; replace Aa := Aa.tr hb; clear hb; clear Ak; refine kl H rfl λ a H => BX 30 5 (.tmp 21) (.tmp 22) D (.int .u8 0) 1 1 _ _ _ (some ⟨b2, 0, none⟩) 1 1 ([0#8].map u8v) (H.ev rfl) (H.ev rfl) CO i5 rfl (by omega) Ah rfl (Ad.holds k2) (CC _) (by unfold maxLen; omega) (by omega) Gl fun o2 w9 AU F0 Fz Cb => ?_
  have Bv := DF AU; replace k0 := Ad.up k0 Cb aR; replace Aa := Aa.trans (Cb.mono aQ); replace Gl := Nat.le_trans Gl Cb.size; clear Ah AU F0 Fz Cb k2; have Ah := Bv; clear Bv; obtain ⟨A2, c2, GK⟩ := BZ Ah; subst GK; refine kL 1 H rfl λ a H => zA (AC ?_)
  rw [QA] at H Ah
  replace H := H.pick [2, 3, 4]
  have pR := Kx bs (j + 1)
  refine zI ⟨⟨j + 1, _, _, H, by omega, Ah, k0, Gl, Aa⟩, ?_⟩
  rw [H.ev (j := 3) rfl, H0.ev (j := 3) rfl]
  simp only [Of]
  omega
 ·
  obtain rfl : j = zc bs.length := by omega
  have YS := VF bs.length
  rw [← YV] at YS
  refine zC (zC (zD (kR 1 H R λ a H => kV H (Ba CO (H.e R)) R λ a H => kV H (MI (p := (HA bs (zc bs.length)).length) (q := 64) U3 (H.e R) Am (by omega)) R λ a H => kV H (E6 U3 (H.e R) Am dF) R λ a H => zA (zB (zG H R (wp_exit (AJ (AJ (BD (zB (zC (zC (zD (kR 1 H R λ a H => zA (zB (wp_block ?_))))))))))))))))
  obtain ⟨q, hq⟩ : ∃ q, HA bs (zc bs.length) = q := ⟨_, rfl⟩
  rw [hq] at H Ah YV YS
  have HQ := Lib.hid hq
  rw [← List.append_nil q] at H Ah
  refine wp_loop (Su2 w D b0 bs q) (fun a _ => (intOf (a.eval (.tmp 5)) + 1).toNat) ⟨0, A1, c1, H.pick [2, 3, 4, 5], by omega, Ah, k0, Gl, Aa⟩ ?_
  clear H Aa Ah k0 Gl CM
  rintro a w' ⟨j, A1, c1, H, hj, Ah, k0, Gl, Aa⟩
  have H0 := H
  by_cases CM : j < 8
  ·
   refine zC (zC (zD (kR 1 H R λ a H => kV H (CV U3 (H.e R) Am dT) R λ a H => zA (zB (zH H R (zE (zB (zC (wp_block (zD (kR 3 H R λ a H => kV (v := J (8 * (7 - j) : Nat)) H (H8 (r := ((8 * (7 - j) : Nat) : Int)) U3 Am (H.e R) (by omega) (by omega)) R λ a H => kV (v := .int .u64 (bs.length * 8 / 2 ^ (8 * (7 - j)) : Nat)) H (NP R7 (H.e R) (H.e R) (by omega)) R λ a H => kV (v := u8v (Hd (bs.length * 8) j)) H (NR R7 U5 (H.e R)) R λ a H => BP 30 1 #[(0, u8v (Hd (bs.length * 8) j))] 5 #[u8v (Hd (bs.length * 8) j)] (by simp [Am, H.ev (j := 33) R]) (fun w => by kernel_rfl) fun w3 b3 Ak hb k3 => ?_)))))))))))
   have g3 := Nat.le_trans Aa.size Ak; replace k0 := k0.ups hb; replace Ah := Bh Ah hb; replace Gl := MS Gl hb; replace Aa := Aa.tr hb; clear hb; clear Ak; refine kl H rfl λ a H => BX 30 5 (.tmp 28) (.tmp 34) D (.int .u8 0) 1 1 _ _ _ (some ⟨b3, 0, none⟩) 1 1 ([Hd (bs.length * 8) j].map u8v) (H.ev rfl) (H.ev rfl) CO i5 rfl (by omega) Ah rfl (Ad.holds k3) (CC _) (by unfold maxLen; (rw [List.length_append, HC]; omega)) (by (rw [List.length_append, HC]; omega)) Gl fun o2 w9 AU F0 Fz Cb => ?_
   have Bv := DF AU; replace k0 := Ad.up k0 Cb aR; replace Aa := Aa.trans (Cb.mono aQ); replace Gl := Nat.le_trans Gl Cb.size; clear Ah AU F0 Fz Cb k3; have Ah := Bv; clear Bv; obtain ⟨A2, c2, GK⟩ := BZ Ah; subst GK; refine kL 1 H rfl λ a H => zA (AC (zB (zD (kR 1 H rfl λ a H => kX 1 H (Dl (q := 7 - ((j + 1 : Nat) : Int)) U3 (H.ev rfl) Am) rfl λ a H => zA ?_))))
   rw [List.append_assoc, ← Og] at H Ah
   replace H := H.pick [2, 3, 4, 5]
   refine zI ⟨⟨j + 1, _, _, H, by omega, Ah, k0, Gl, Aa⟩, ?_⟩
   rw [H.ev (j := 5) rfl, H0.ev (j := 5) rfl]
   simp only [intOf]
   omega
  ·
   obtain rfl : j = 8 := by omega
   refine zC (zC (zD (kR 1 H R λ a H => kV H (CV U3 (H.e R) Am dF) R λ a H => zA (zB (zG H R (wp_exit (AJ (AJ (BD (zB (zC (zD (Fr (.agg (Ci Jm)) oY (kl H R λ a H => Bj 141 (Ci (List.replicate 8 0)) fF fun w1 sb Ak hb ks => ?_))))))))))))))
   have gs := Nat.le_trans Aa.size Ak; have hd0 : b0 < sb := Nat.lt_of_lt_of_le k0.lt Ak; have mM := YE Ah Ak; replace k0 := k0.ups hb; replace Ah := Bh Ah hb; replace Aa := Aa.tr hb; clear hb Ak; refine kl H rfl λ a H => AT 141 (.tmp 6) (.tmp 36) sb 141 (Ci Jm) _ (H.ev rfl) (H.ev rfl) ks fN rfl (EO _) fun w' hb ho kq => ?_
   clear ks; have ks := kq; replace k0 := Ae k0 (ho _ (by omega)); replace Ah := D9 Ah (fun q hq => ho _ (fun e => by have := mM q hq; omega)); replace Aa := Aa.trans (hb _ gs); clear hb ho kq; refine Dz H λ a H => zA (zB (zC (wp_block ?_)))
   obtain ⟨pd, YW⟩ : ∃ pd, q ++ K4 (bs.length * 8) 8 = pd := ⟨_, rfl⟩
   rw [YW] at H Ah mM
   have HPD : Hid (pd = MN bs) := Lib.hid (by rw [← YW, ← HQ.out]; rfl)
   have gW : pd.length = bs.length + 1 + zc bs.length + 8 := by rw [← YW, List.length_append, HC]; omega
   have AY := Dg.row Ah
   obtain ⟨nb, pX⟩ : ∃ nb, pd.length = 64 * nb := ⟨pd.length / 64, by omega⟩
   clear YW Ah Gl
   refine wp_loop (Su3 w sb b0 pd) (fun a _ => Of (a.eval (.tmp 3))) ⟨0, A1, c1, H.pick [2, 3, 6], by omega, AY, (fun b o e => mM b (by rw [e]; rfl)), k0, ks, Aa⟩ ?_
   clear H Aa AY k0 ks mM
   rintro a w' ⟨k, A1, c1, H, hk, AY, hA, k0, ks, Aa⟩
   have H0 := H
   by_cases CM : k < nb
   ·
    have Dy : (pd.drop (64 * k)).length = pd.length - 64 * k := List.length_drop
    obtain ⟨x0, o, Vd⟩ := G4 AY (by omega)
    subst Vd
    have V9 := hA x0 o rfl
    have AM := KH AY
    have LB := B9.take AY (n := 64) (by omega)
    have H := H0
    refine zC (zC (zD (kR 1 H R λ a H => kV H (Ba CO (H.e R)) R λ a H => kV H (CU U3 (H.e R) Am dT) R λ a H => zA (zB (zH H R (zE (zB (zC (wp_block (zD (kR 1 H R λ a H => kV (v := .slice (some ⟨x0, o, none⟩) 64 c1) H (BS CO (.slice (some ⟨x0, o, none⟩) (pd.drop (64 * k)).length c1) none (some (J 64)) none (H.e R) R R R (CF 0 64 CO s5 _ _ (.inl ⟨R, R⟩) (.inr R) (by omega) (by omega) (by simp [C6, CT]) R R)) R λ a H => kC 0 (Vp _ sb x0 o c1 (LO Jm pd k) ((pd.drop (64 * k)).take 64) ks (F7 _ _) LB (by rw [List.length_take]; omega) (by omega)) (AA lH (H.e R) (H.e R)) H R fun w9 a ⟨uT, hg⟩ H => ?_)))))))))))
    clear LB; replace k0 := Ad.grown k0 hg (by simp; omega); replace AY := B9.grown AY hg (fun b o' e => by have := hA b o' e; simp; omega); replace Aa := Aa.grown hg Aa.size (fun k' e => by injection e with e; omega); clear ks hg; have ks := uT; clear uT
    refine zA (AC (zB (zD (kR 1 H R λ a H => Fr (.slice (C6 (some ⟨x0, o, none⟩) c1 64 1) (pd.drop (64 * (k + 1))).length (c1 - 64)) (BS CO (.slice (some ⟨x0, o, none⟩) (pd.drop (64 * k)).length c1) (some (J 64)) none none (H.e R) R R R (CF 64 (pd.drop (64 * k)).length CO s5 _ _ (.inr R) (.inl ⟨R, R⟩) (by omega) (by omega) R (by rw [List.length_drop, List.length_drop]; omega) R)) (kL 1 H R λ a H => zA ?_)))))
    have gQ := B9.next AY (by omega)
    have qai : (pd.drop (64 * (k + 1))).length = pd.length - 64 * (k + 1) := List.length_drop
    refine zI ⟨⟨k + 1, _, _, H.pick [2, 3, 6], by omega, gQ, (fun b o' e => by rw [PY e]; exact V9), k0, ks, Aa⟩, ?_⟩
    rw [H.ev (j := 3) rfl, H0.ev (j := 3) rfl]
    simp only [Of]
    omega
   ·
    obtain rfl : k = nb := by omega
    have Dy : (pd.drop (64 * k)).length = 0 := by rw [List.length_drop]; omega
    refine zC (zC (zD (kR 1 H R λ a H => kV H (Ba CO (H.e R)) R λ a H => kV H (CU U3 (H.e R) Am dF) R λ a H => zA (zB (zG H R (wp_exit (AJ (AJ (BD (zB (zC (zC (zD (kR 1 H R λ a H => zA (zB (wp_block ?_))))))))))))))))
    obtain ⟨S, Zd⟩ : ∃ S, LO Jm pd k = S := ⟨_, rfl⟩
    have KR : S.length = 8 := by rw [← Zd]; exact F7 _ _
    rw [Zd] at ks
    have HS := Lib.hid Zd
    rw [← QE S] at k0
    refine wp_loop (Su4 w sb b0 S) (fun a _ => 32 - (intOf (a.eval (.tmp 45))).toNat) ⟨0, H.pick [2, 6, 45], by omega, k0, ks, Aa⟩ ?_
    clear H Aa k0 ks AY hA CM Zd
    rintro a w' ⟨i, H, hi, k0, ks, Aa⟩
    have H0 := H
    by_cases CM : i < 32
    ·
     obtain ⟨x, hx⟩ : ∃ x, S[i / 4]? = some x := ⟨_, List.getElem?_eq_getElem (by omega)⟩
     have HX := Lib.hid hx
     clear hx
     have H := H0
     refine zC (zD (kV H (By U3 (H.e R) Am dT) R λ a H => zA (zB (zC (zH H R (zE (zB (zC (wp_block (zC (zD (kR 2 H R λ a H => zA (zB (zD (kR 2 H R λ a H => kV H (ZQ (p := i) (q := 4) U3 (H.e R) Am (by omega) (by omega)) R λ a H => kV H (C2 (j := i / 4) (q := i / 4) Ic s133 (H.e R) (H.e R) (by omega) (by omega)) R λ a H => kX 1 H (Ai BC R (H.e R) (Bt ks HX.out)) R λ a H => kV H (MI (p := i) (q := 4) U3 (H.e R) Am (by omega)) R λ a H => kV H (H8 (r := ((8 * (i % 4) : Nat) : Int)) U3 Am (H.e R) (by omega) (by omega)) R λ a H => kV H (Dl (q := ((24 - (8 * (i % 4)) : Nat) : Int)) U3 Am (H.e R)) R λ a H => kV H (Mc (k := 24 - (8 * (i % 4))) (by omega) BC (H.e R) (H.e R)) R λ a H => kV H (Q2 BC U5 (H.e R)) R λ a H => kV H (C2 (j := i) (q := i) LY s5 (H.e R) (H.e R) (by omega) (by omega)) R λ a H => AP 5 (.tmp 59) (.tmp 58) b0 i 105 (u8v ((x >>> (24 - (8 * (i % 4)))).setWidth 8)) _ (H.e R) (H.e R) k0 s5 (Tz CM) (KT _) fun w' hb ho kq => ?_)))))))))))))))
     clear k0; have k0 := Nn kq; rw [Ty CM HX.out] at k0; replace ks := Ae ks (ho _ (by omega)); replace Aa := Aa.trans (hb _ g0); clear hb ho kq; refine Dz H λ a H => zA (AC (zB (zD (kX 1 H (Bm (q := ((i + 1 : Nat) : Int)) U3 (H.ev rfl) Am) rfl λ a H => zA (zI ⟨⟨i + 1, H.pick [2, 6, 45], by omega, k0, ks, Aa⟩, ?_⟩)))))
     rw [H.ev (j := 45) rfl, H0.ev (j := 45) rfl]
     simp only [intOf]
     omega
    ·
     obtain rfl : i = 32 := by omega
     rw [QF] at k0
     refine zC (zD (kV H (By U3 (H.e R) Am dF) R λ a H => zA (zB (zC (zG H R (wp_exit (AJ (AJ (BD (zB (zC (zD (Hc 105 (.tmp 2) b0 105 (BL (IA S)) _ (H.e R) k0 LY R NJ (kl H R λ a H => AT 105 (.tmp 2) (.tmp 61) b0 105 (BL (IA S)) _ (H.e R) (H.e R) k0 NJ R (D5 _) fun w' hb ho kq => ?_))))))))))))))
     clear k0; replace Aa := Aa.trans (hb _ g0); clear hb ho; exact Dz H λ a H => zA (zB (zF (Cw H rfl rfl kq LY rfl NJ ⟨by rw [← HS.out, HPD.out, VR Jh.out (by rw [← HPD.out]; exact pX)], Aa⟩)))
end
theorem Sg {P : Program} {d : Option Tmp} {tt : TypeId} {ps : String} {af : Array Edge} {gd : Option (Nat × Bool)} {a : Act} {w : World} {x y : Operand} {m n : B8} {t t2 : TypeId} (ht : P.underlying t = some (.int .u8)) (hx : a.eval x = u8v m) (hy : a.eval y = u8v n) : (execOp a.eval ⟨d, .binOp .xor t x y t2, tt, ps, af, gd⟩).run P w = .ok (.value (u8v (m ^^^ n))) w := by
 have h := oV m n
 unfold execOp
 simp only [hx, hy]
 go_simp
theorem YI {ops : Array Oper} {rest : List Oper} {d : Option Tmp} {tt : TypeId} {ps : String} {af : Array Edge} {a : Act} {w : World} {Q : Exit → Act → World → Prop}
  (h : ∀ w' g, w.heap.size ≤ g → Below w.heap.size w w' → Ad w' g 5 (BL (List.replicate 64 0)) → wpList Tryz.prog ops Q rest (a.put d (.slice (some ⟨g, 0, none⟩) 64 64)) w') :
  wpList Tryz.prog ops Q (⟨d, .makeSlice 30 (.const (J 64)) (.const (J 64)), tt, ps, af, none⟩ :: rest) a w :=
 wpList_plain rfl fun _ hK => by
  have hi := i5
  cases hq : Tryz.prog.info? 5 with
  | none => simp [hq] at hi
  | some i =>
   have Pp : i.zero = some (.int .u8 0) ∧ i.size = 1 ∧ i.bytes = 1 := by simpa [hq] using hi
   have Df := run_makeSlice (P := Tryz.prog) w 30 5 i (.int .u8 0) CO hq Pp.1 .i64 .i64 64 64 (by omega) (by omega) (by rw [Pp.2.1]; decide) (by rw [Pp.2.2]; decide) (by omega)
   rw [Pp.2.1] at Df
   have e1 : a.eval (.const (J 64)) = J 64 := rfl
   unfold Oper.wp execOp
   simp only [e1, Df, Sem.run_bind, Sem.run_pure, Result.andThen_ok]
   refine hK _ _ (h _ w.heap.size (Nat.le_refl _) ((Below.refl _ _).alloc (Nat.le_refl _) _) ?_)
   have e : madeCells (Value.int .u8 0).cells (Int.toNat 64 * 1) = BL (List.replicate 64 0) := by kernel_rfl
   rw [e]
   exact heap_alloc_new w _
def Hj (kb : List B8) : List B8 := kb ++ List.replicate (64 - kb.length) 0
/-- the first i of them turned -/
def OB (l : List B8) (y : B8) (i : Nat) : List B8 := (l.take i).map (fun x => x ^^^ y) ++ l.drop i
/-- a key's block, turned -/
def Gw (kb : List B8) (y : B8) : List B8 := (Hj kb).map fun x => x ^^^ y
theorem Jb {kb : List B8} (h : kb.length ≤ 64) : (Hj kb).length = 64 := by simp [Hj]; omega
theorem YA (n : Nat) (kb : List B8) : We (BL (List.replicate n 0)) 0 (kb.map u8v) = BL (kb ++ List.replicate (n - kb.length) 0) := by
 unfold We BL
 apply Array.ext'
 simp [List.drop_replicate, List.map_replicate]
theorem WP {kb : List B8} (h : kb.length ≤ 64) : We (BL (List.replicate 64 0)) 0 (kb.map u8v) = BL (Hj kb) := by
 exact YA 64 kb
theorem Um (l : List B8) (y : B8) : OB l y 0 = l := by simp [OB]
theorem VH {l : List B8} {y x : B8} {i : Nat} (h : l[i]? = some x) : OB l y i = (l.take i).map (fun x => x ^^^ y) ++ x :: l.drop (i + 1) := by
 obtain ⟨hi, rfl⟩ := List.getElem?_eq_some_iff.1 h
 unfold OB
 rw [List.drop_eq_getElem_cons hi]
theorem Mo {kb : List B8} {y : B8} {i : Nat} (h : kb.length ≤ 64) (hi : i ≤ 64) : (((Hj kb).take i).map (fun x => x ^^^ y)).length = i := by
 rw [List.length_map, List.length_take, Jb h]
 omega
theorem Un {kb : List B8} {x y : B8} {i : Nat} (h : kb.length ≤ 64) (hi : i < 64) (hx : (Hj kb)[i]? = some x) : ((Hj kb).take i).map (fun x => x ^^^ y) ++ (x ^^^ y) :: (Hj kb).drop (i + 1) = OB (Hj kb) y (i + 1) := by
 obtain ⟨hj, rfl⟩ := List.getElem?_eq_some_iff.1 hx
 unfold OB
 rw [List.take_succ_eq_append_getElem hj, List.map_append]
 simp only [List.append_assoc, List.map_cons, List.map_nil, List.cons_append, List.nil_append]
theorem VI {kb : List B8} {x y z : B8} {i : Nat} (h : kb.length ≤ 64) (hi : i ≤ 64) (CM : i < 64) (hx : (Hj kb)[i]? = some x) : 0 + i + (u8v z).cells.size ≤ (BL (((Hj kb).take i).map (fun x => x ^^^ y) ++ x :: (Hj kb).drop (i + 1))).size := by
 rw [Bk]
 show 0 + i + 1 ≤ _
 rw [List.length_append, Mo h hi]
 simp
theorem Uo {kb : List B8} {y : B8} (h : kb.length ≤ 64) : OB (Hj kb) y 64 = Gw kb y := by
 unfold OB Gw
 rw [List.take_of_length_le (by rw [Jb h]; omega), List.drop_eq_nil_of_le (by rw [Jb h]; omega), List.append_nil]
theorem SP {w : World} {b : Nat} {t : TypeId} {l : List B8} {i : Nat} {x : B8} (h : Ad w b t (BL l)) (hx : l[i]? = some x) : w.cell? ⟨b, 0 + i, none⟩ = some (u8v x) := by
 rw [Nat.zero_add]
 exact O2 h hx
def Mb1 (W : World) (g : Nat) (kb : List B8) (by_ : B8) (a : Act) (w : World) : Prop :=
 ∃ i : Nat, Kn a 33 [(1, u8v by_), (5, .slice (some ⟨g, 0, none⟩) 64 64), (19, .slice (some ⟨g, 0, none⟩) 64 64), (20, J 64), (21, J (i : Nat))] ∧ i ≤ 64 ∧ Ad w g 5 (BL (OB (Hj kb) by_ i)) ∧ Below W.heap.size W w
theorem MR (w : World) (v : Value) (kb : List B8) (by_ : B8) (hr : B9 w v kb) (hk : kb.length ≤ 64) :
  Calls Tryz.prog 124 #[v, u8v by_] w fun e w' => (∃ g, e = .returned (.slice (some ⟨g, 0, none⟩) 64 64) ∧ w.heap.size ≤ g ∧ Ad w' g 5 (BL (Gw kb by_))) ∧ Below w.heap.size w w' := by
 obtain ⟨A, c, rfl, h1, h2, h3, hh⟩ := hr
 replace hh := Lib.hid hh
 have Aa := Below.refl w.heap.size w
 refine Az 33 Tryz.func124 R R λ a H => zC (zD (kR 1 H R λ a H => zA (zB (zC (zD (YI fun w1 g Ak hb kg => ?_))))))
 have gg := Nat.le_trans Aa.size Ak; replace Aa := Aa.tr hb; clear hb Ak; refine kL 1 H rfl λ a H => zA (zB (zC (zC (zD (kR 1 H rfl λ a H => kV H (Ba CO (H.ev rfl)) rfl λ a H => kV H (CU U3 (H.ev rfl) Am dF) rfl λ a H => zA (zB (zG H rfl (zE (zB (zC (zD (kR 2 H rfl λ a H => bK _ g 5 (BL (List.replicate 64 0)) _ kg (Lb (.slice (some ⟨g, 0, none⟩) 64 64) (.slice A kb.length c) (H.ev rfl) (H.ev rfl) (Lr (EW _ _ _ _ 5 1 CO s5 (by omega) g 0 64 64 _ 5 kg A kb.length c (kb.map u8v) (by rw [List.length_map, Nat.mul_one]; exact (Nat.min_eq_left hk).symm) (hh.out.up Aa) (CC _) (by rw [Bk]; simp; omega)))) fun w7 kq HI GV => ?_))))))))))))
 clear kg; rw [WP hk] at kq; have kg := kq; replace Aa := Aa.trans (HI _ gg); clear HI GV kq; refine kl H rfl λ a H => zA (zB (zC (zC (zD (kR 1 H rfl λ a H => kX 1 H (Ba CO (H.ev rfl)) rfl λ a H => zA (zB (wp_block ?_)))))))
 rw [← Um (Hj kb) by_] at kg
 refine wp_loop (Mb1 w g kb by_) (fun a _ => 64 - (intOf (a.eval (.tmp 21))).toNat) ⟨0, H.pick [1, 5, 19, 20, 21], by omega, kg, Aa⟩ ?_
 clear H Aa kg
 rintro a w' ⟨i, H, hi, kg, Aa⟩
 have H0 := H
 by_cases CM : i < 64
 ·
  obtain ⟨x, hx⟩ : ∃ x, (Hj kb)[i]? = some x := ⟨_, List.getElem?_eq_getElem (by rw [Jb hk]; exact CM)⟩
  have HX := Lib.hid hx
  rw [VH hx] at kg
  clear hx
  have H := H0
  refine zC (zD (kV H (By U3 (H.e R) (H.e R) dT) R λ a H => zA (zB (zC (zH H R (zE (zB (zC (wp_block (zC (zD (kR 2 H R λ a H => zA (zB (zD (kR 2 H R λ a H => kV H (Bq (j := i) (q := 0 + i) CO s5 (H.e R) (H.e R) (by omega) (by omega)) R λ a H => kX 1 H (Ai U5 R (H.e R) (SP kg (K2 (Mo hk hi)))) R λ a H => kV H (Sg U5 (H.e R) (H.e R)) R λ a H => kV H (Bq (j := i) (q := 0 + i) CO s5 (H.e R) (H.e R) (by omega) (by omega)) R λ a H => AP 5 (.tmp 30) (.tmp 29) g (0 + i) 5 (u8v (x ^^^ by_)) _ (H.e R) (H.e R) kg s5 (VI hk hi CM HX.out) (KT _) fun w' hb ho kq => ?_)))))))))))))))
  clear kg; have kg := Nn kq; rw [Nat.zero_add, Jx (Mo hk hi), Un hk CM HX.out] at kg; replace Aa := Aa.trans (hb _ gg); clear hb ho kq; refine Dz H λ a H => zA (AC (zB (zD (kX 1 H (Bm (q := ((i + 1 : Nat) : Int)) U3 (H.ev rfl) Am) rfl λ a H => zA (zI ⟨⟨i + 1, H.pick [1, 5, 19, 20, 21], by omega, kg, Aa⟩, ?_⟩)))))
  rw [H.ev (j := 21) rfl, H0.ev (j := 21) rfl]
  simp only [intOf]
  omega
 ·
  obtain rfl : i = 64 := by omega
  refine zC (zD (kV H (By U3 (H.e R) (H.e R) dF) R λ a H => zA (zB (zC (zG H R (wp_exit (AJ (AJ (BD (zB (zC (zD (kR 2 H R λ a H => zA (zB (zF ?_)))))))))))))))
  rw [Uo hk] at kg
  exact Ag H R R ⟨⟨g, R, gg, kg⟩, Aa⟩
/-- a digest by a key -/
def Pn (k m : List B8) : List B8 := I7 (Gw k 92#8 ++ I7 (Gw k 54#8 ++ m))
theorem uV : (Tryz.prog.info? 30).map (fun i => (i.zero, i.size, i.bytes)) = some (some (.slice none 0 0), 1, 24) := by kernel_rfl
theorem Ef {kb : List B8} {y : B8} (h : kb.length ≤ 64) : (Gw kb y).length = 64 := by rw [Gw, List.length_map, Jb h]
theorem DE {bs : List B8} : (I7 bs).length = 32 := GH
theorem Ti {bs : List B8} : (Tryz.prog.info? 105).map (·.size) = some (BL (I7 bs)).size := by
 rw [Bk, DE]; exact Ws
theorem ZL {bs : List B8} : (Tryz.prog.info? 105).map (·.size) = some (Value.agg (BL (I7 bs))).cells.size := by
 show _ = some (BL (I7 bs)).size
 rw [Bk, DE]; exact Ws
theorem Rx {l : List B8} (h : l.length = 32) : 0 + (Value.agg (BL l)).cells.size ≤ (BL (List.replicate 32 0)).size := by
 show 0 + (BL l).size ≤ _
 rw [Bk, Bk, h]
 simp
theorem Qa : ∀ (vs : List Value) (pre old : List Value), old.length = vs.length → C3 (pre ++ old).toArray pre.length vs = (pre ++ vs).toArray
 | [], pre, old, h => by
  have : old = [] := List.eq_nil_of_length_eq_zero h
  subst this
  rfl
 | v :: vs, pre, [], h => by cases h
 | v :: vs, pre, o :: old, h => by
  rw [C3]
  have e : (pre ++ o :: old).toArray.setIfInBounds pre.length v = ((pre ++ [v]) ++ old).toArray := by
   apply Array.ext'
   simp
  rw [e]
  have := Qa vs (pre ++ [v]) old (by simpa using h)
  simp only [List.length_append, List.length_cons, List.length_nil] at this
  rw [this]
  simp
theorem Ry {w : World} {b : Nat} {t : TypeId} {l m : List B8} (hl : l.length = m.length) (h : Ad w b t (C3 (BL l) 0 (Value.agg (BL m)).cells.toList)) : Ad w b t (BL m) := by
 have e := Qa (m.map u8v) [] (l.map u8v) (by simpa using hl)
 simp only [List.nil_append, List.length_nil] at e
 have e2 : (Value.agg (BL m)).cells.toList = m.map u8v := rfl
 rw [e2] at h
 rw [e] at h
 exact h
theorem GT {w : World} {g n : Nat} {t : TypeId} {l : List B8} (k : Ad w g t (BL l)) (hl : l.length = n) (hm : n ≤ maxLen) : B9 w (.slice (some ⟨g, 0, none⟩) n n) l := by
 subst hl
 exact ⟨_, _, R, Nat.le_refl _, hm, (fun e => by cases e), fun j hj => ⟨g, 0, R, by rw [Nat.zero_add, k.cell]; simp⟩⟩
theorem Tx {w : World} {b : Nat} {x : Value} (k : Ad w b 30 #[x]) : w.ownsRow b 30 1 (.slice (some ⟨b, 0, none⟩) 1 1) 1 [x] := ⟨rfl, .inr ⟨b, 1, _, rfl, Nat.le_refl _, k, Nat.le_refl _, by simp [maxLen], rfl, rfl⟩⟩
theorem WL {w : World} {ps : List (Value × List B8)} (h : ∀ p ∈ ps, B9 w p.1 p.2) : ∀ u ∈ ps.map (·.1), u.oneCell' = true := fun u hu => by
 obtain ⟨p, hp, rfl⟩ := List.mem_map.1 hu
 obtain ⟨A, c, e, _⟩ := h p hp
 rw [e]
 rfl
theorem UH {w : World} {B : Nat} {v s : Value} {ps : List (Value × List B8)} {bs : List B8} (Ah : w.ownsRow B 30 1 v (1 + ps.length) ([s] ++ ps.map (·.1))) (hs : B9 w s bs) (dA : ∀ p ∈ ps, B9 w p.1 p.2) : KK w v ((s, bs) :: ps) := by
 have h' := Ah
 obtain ⟨A, c, rfl, hh, h1, h2⟩ := Et Ah
 refine ⟨⟨A, c, by rw [List.length_cons, Nat.add_comm], by rw [List.length_cons]; omega, h2, fun e => ?_, hh⟩, fun p hp => ?_⟩
 ·
  subst e
  rcases h'.2 with ⟨e, _⟩ | ⟨g, cap, cur, e, _⟩
  · injection e
  · cases e
 ·
  rcases List.mem_cons.1 hp with rfl | hp
  · exact hs
  · exact dA p hp
theorem VN {p : Value × List B8} {ps : List (Value × List B8)} : Lz (p :: ps) = p.2.length + Lz ps := by simp [Lz]
theorem VT (w : World) (v s : Value) (bs : List B8) (ps : List (Value × List B8)) (hp : KK w v ((s, bs) :: ps)) (hn : bs.length + Lz ps ≤ 1000000) (hl : ps.length ≤ 900000) :
  Calls Tryz.prog 123 #[v] w fun e w' => e = .returned (.agg (BL (I7 (bs ++ PG ps)))) ∧ Below w.heap.size w w' :=
 Te w v ((s, bs) :: ps) hp (by rw [VN]; exact hn) (by simp only [List.length_cons]; omega)
theorem VS (w : World) (s t : Value) (b : Nat) (bs cs : List B8) (k : Ad w b 30 #[s, t]) (hs : B9 w s bs) (ht : B9 w t cs) (hn : bs.length + cs.length ≤ 1000000) :
  Calls Tryz.prog 123 #[.slice (some ⟨b, 0, none⟩) 2 2] w fun e w' => e = .returned (.agg (BL (I7 (bs ++ cs)))) ∧ Below w.heap.size w w' := by
 have h := Te w (.slice (some ⟨b, 0, none⟩) 2 2) [(s, bs), (t, cs)] ⟨⟨_, 2, rfl, Nat.le_refl _, by simp [maxLen], (fun e => by cases e), fun j hj => ⟨b, 0, rfl, by rw [Nat.zero_add, k.cell]; simp⟩⟩, fun p hp => by
  simp only [List.mem_cons, List.mem_nil_iff, or_false] at hp
  rcases hp with rfl | rfl
  · exact hs
  · exact ht⟩ (by simp [Lz]; omega) (by simp)
 have e : PG [(s, bs), (t, cs)] = bs ++ cs := by simp [PG]
 rw [e] at h
 exact h
theorem CN {P : Program} {d : Option Tmp} {tt : TypeId} {ps : String} {af : Array Edge} {gd : Option (Nat × Bool)} {a : Act} {w : World} {x : Operand} {T E : TypeId} {N b o : Nat} (hT : P.underlying T = some (.array N E)) (hs : (P.info? E).map (·.size) = some 1) (hx : a.eval x = .pointer (some ⟨b, o, none⟩)) (hN : 0 < N) :
  (execOp a.eval ⟨d, .slice T x none none none, tt, ps, af, gd⟩).run P w = .ok (.value (.slice (some ⟨b, o, none⟩) N N)) w := by
 cases hq : P.info? E with
 | none => simp [hq] at hs
 | some i0 =>
  have If : i0.size = 1 := by simpa [hq] using hs
  unfold execOp
  simp only [hx]
  simp [Instr.sliceAt, Instr.sliceBounds, Instr.sureAddr, run_underlying hT, sizeOf, typeInfo, program, hq, If, CT, Sem.run, Sem.run_bind, Sem.run_pure, Result.andThen_ok]
theorem YJ (w : World) (v u : Value) (kb : List B8) (ps : List (Value × List B8)) (hr : B9 w v kb) (hp : KK w u ps) (hk : kb.length ≤ 64) (hn : Lz ps ≤ 900000) (hl : ps.length ≤ 900000) :
  Calls Tryz.prog 108 #[v, u] w fun e w' => e = .returned (.agg (BL (Pn kb (PG ps)))) ∧ Below w.heap.size w w' := by
 have Xf := Lib.hid hp
 replace hp := Lib.hid hp
 replace hr := Lib.hid hr
 have Aa := Below.refl w.heap.size w
 refine Az 17 Tryz.func108 R R λ a H => zC (zD (Bj 105 (BL (List.replicate 32 0)) OA fun w0 b0 Ak hb k0 => ?_))
 have g0 := Nat.le_trans Aa.size Ak; replace Aa := Aa.tr hb; clear hb; clear Ak; refine kl H rfl λ a H => zA (zB (zC (zD (kR 1 H rfl λ a H => A8 _ _ _ (MR _ _ kb 54#8 (B9.up hr.out Aa) hk) (AA aX (H.ev rfl) Am) ?_))))
 rintro e w9 ⟨⟨g, rfl, hg, kg⟩, hb⟩; refine ⟨_, rfl, ?_⟩; have gg := Nat.le_trans Aa.size hg; have hg0 : b0 < g := Nat.lt_of_lt_of_le k0.lt hg; clear hg; replace k0 := k0.ups hb; replace Aa := Aa.tr hb; clear hb; refine kl H rfl λ a H => BP 29 1 #[(0, .slice (some ⟨g, 0, none⟩) 64 64)] 30 #[.slice (some ⟨g, 0, none⟩) 64 64] (by simp [Am, H.ev (j := 7) rfl]) (fun w => by kernel_rfl) fun w1 b1 Ak hb k1 => ?_
 have g1 := Nat.le_trans Aa.size Ak; have qN : g < b1 := Nat.lt_of_lt_of_le kg.lt Ak; have Zb : b0 < b1 := Nat.lt_of_lt_of_le k0.lt Ak; replace k0 := k0.ups hb; replace kg := kg.ups hb; replace Aa := Aa.tr hb; clear hb; clear Ak; refine kL 1 H rfl λ a H => ?_
 have aF := Tx k1; obtain ⟨⟨Ap, cp, hv, q1, q2, q3, q4⟩, q5⟩ := KK.up hp.out Aa; subst hv; have YZ := k1.lt; refine BX 29 30 (.tmp 8) (.tmp 9) b1 (.slice none 0 0) 1 24 _ _ _ Ap ps.length cp (ps.map (·.1)) (H.ev rfl) (H.ev rfl) Lu uV rfl (by omega) aF (by simp) q4 (WL q5) (by unfold maxLen; omega) (by omega) (by omega) fun o2 w9 AU F0 Fz Cb => ?_; replace kg := Ad.up kg Cb qN; replace k0 := Ad.up k0 Cb Zb; replace Aa := Aa.trans (Cb.mono g1); have aE := UH AU (GT kg (Ef hk) (by unfold maxLen; omega)) (fun p hq => (Xf.out.2 p hq).up Aa); clear kg aF AU F0 Fz Cb q4 q5 k1; refine kl H rfl λ a H => ?_
 refine kC 0 (VT _ _ _ _ ps aE (by rw [Ef hk]; omega) (by omega)) (Av aY (H.e R)) H R fun w9 a hb H => ?_; clear aE; replace k0 := k0.ups hb; replace Aa := Aa.tr hb; clear hb
 refine Bj 105 (BL (List.replicate 32 0)) OA fun w2 b2 Ak hb k2 => ?_; have g2 := Nat.le_trans Aa.size Ak; have hO : b0 < b2 := Nat.lt_of_lt_of_le k0.lt Ak; replace k0 := k0.ups hb; replace Aa := Aa.tr hb; clear hb; clear Ak; refine kl H R λ a H => AT 105 (.tmp 5) (.tmp 11) b2 105 (BL (I7 (Gw kb 54#8 ++ PG ps))) _ (H.e R) (H.e R) k2 Ti (by rw [Bk, Bk, DE]; rfl) (D5 _) fun w' hb ho kq => ?_
 clear k2; have k2 := kq; replace k0 := Ae k0 (ho _ (by omega)); replace Aa := Aa.trans (hb _ g2); clear hb ho kq; refine Dz H λ a H => zA (zB (zC ?_))
 have Gf := Aa
 refine rB 5 (.fl 0 (.fl 2 (.one 1 (.one 3 (.one 4 (.one 5 .done)))))) fun hS => kQ 1 H R λ a H => kF (v := .slice (some ⟨b2, 0, none⟩) 32 32) H R R (fun w' Aj => CN (b := b2) (o := 0) LY s5 (H.e R) (by omega)) R λ a H => Al (fun K hK => A7 R (CQ _ _ _ (MR _ _ kb 92#8 (B9.up hr.out (Gf.trans (Below.mono hS Gf.size))) hk) (AA aX (H.e R) Am) ?_))
 rintro e w9 ⟨⟨g2, rfl, FK, mI⟩, hb⟩; refine ⟨_, rfl, ?_⟩; replace hS := Below.trans hS (Below.mono hb (Below.size hS)); clear hb FK; refine kS 0 hK hS H rfl λ a H => ?_; clear hK K
 refine Al (fun K hK => A7 R (Co 29 2 #[(0, .slice (some ⟨g2, 0, none⟩) 64 64), (1, .slice (some ⟨b2, 0, none⟩) 32 32)] 30 #[.slice (some ⟨g2, 0, none⟩) 64 64, .slice (some ⟨b2, 0, none⟩) 32 32] (by simp [H.ev (j := 13) R, H.ev (j := 14) R]) (fun w => by kernel_rfl) fun w10 b10 Ak hb FH => ?_))
 replace mI := mI.ups hb; replace hS := Below.trans hS (Below.mono hb (Below.size hS)); clear hb Ak; refine kS 0 hK hS H rfl λ a H => ?_; clear hK K
 refine Al (fun K hK => A7 R (kD (VS _ _ _ _ _ _ FH (GT mI (Ef hk) (by unfold maxLen; omega)) (GT (Ad.ups k2 hS) DE (by unfold maxLen; omega)) (by rw [Ef hk, DE]; omega)) (Av aY (H.e R)) fun w9 hb => ?_))
 replace hS := Below.trans hS (Below.mono hb (Below.size hS)); clear hb mI FH; refine kS 0 hK hS H rfl λ a H => ?_; clear hK K
 refine Al (fun K hK => ?_)
 replace k0 := Ad.ups k0 hS
 replace k2 := Ad.ups k2 hS
 replace Aa := Aa.trans (Below.mono hS Aa.size)
 refine A7 R (AX 105 (.tmp 4) (.tmp 16) b0 0 105 (.agg (BL (Pn kb (PG ps)))) _ (H.e R) (H.e R) k0 ZL (Rx DE) (D5 _) fun w' hb ho kq => ?_); clear k0; have k0 := Ry (by show _ = (I7 _).length; rw [DE]; rfl) kq; replace Aa := Aa.trans (hb _ g0); clear hb ho kq; refine hK _ _ ⟨(fun h => absurd R h), ?_⟩; clear hK K hS
 exact Aw (NoPanic.normal (zB (zF (Cw H R R k0 LY R Ti ⟨R, Aa⟩))))
end Go.Proofs.YtbnmpoonkjlkjaaGreat
