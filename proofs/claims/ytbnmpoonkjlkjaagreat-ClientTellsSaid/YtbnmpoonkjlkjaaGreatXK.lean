/- Client: part K of the proof. -/
import Derived.Test.YtbnmpoonkjlkjaaGreatXJ
namespace Go.Proofs.YtbnmpoonkjlkjaaGreat
open Go.RowKit
set_option linter.unusedVariables false
set_option linter.unusedSimpArgs false
set_option maxRecDepth 100000
set_option maxHeartbeats 8000000
section
theorem J6 (c : Cl) : (D4 c).os = c.os := by unfold D4; split <;> rfl
theorem Ia (c : Cl) : (KJ c).length ≤ 1 := by
 unfold KJ
 split
 · simp
 ·
  unfold I8 JO
  split
  · split <;> simp
  · simp
theorem Ki (c : Cl) : (Kj c).length ≤ 1 := by
 unfold Kj
 split
 · simp
 ·
  split
  · simp
  ·
   unfold I8 JO
   split
   · split <;> simp
   · simp
theorem Hw {c : Cl} (h : ¬ c.state = 3 ∧ (c.now < c.ask ∨ (¬ c.state = 1 ∧ ¬ c.state = 2))) : EC c = c ∧ Fs c = [] := by
 unfold EC Fs
 rw [if_neg h.1, if_neg h.1]
 by_cases h1 : c.now < c.ask
 ·
  rw [if_pos h1, if_pos h1]
  exact ⟨R, R⟩
 ·
  rw [if_neg h1, if_neg h1, if_neg (by omega), if_neg (by omega), if_neg (by omega)]
  exact ⟨R, R⟩
theorem Vr (c : Cl) : (D4 c).items = c.items ∧ (D4 c).os = c.os ∧ (D4 c).vw = c.vw := by unfold D4; split <;> exact ⟨rfl, rfl, rfl⟩
theorem Wo (c : Cl) : (I9 c).items = c.items ∧ (I9 c).os = c.os ∧ (I9 c).vw = c.vw := by
 unfold I9
 split
 · exact ⟨rfl, rfl, rfl⟩
 · split <;> exact ⟨rfl, rfl, rfl⟩
theorem Hv (c : Cl) : (DD c).items = c.items ∧ (DD c).os = c.os ∧ (DD c).vw = c.vw := by
 unfold DD
 split
 · exact ⟨rfl, rfl, rfl⟩
 ·
  unfold EC
  split
  ·
   obtain ⟨a1, a2, a3⟩ := Wo (D4 (G8 c))
   obtain ⟨b1, b2, b3⟩ := Vr (G8 c)
   exact ⟨a1.trans b1, a2.trans b2, a3.trans b3⟩
  ·
   split
   · exact ⟨rfl, rfl, rfl⟩
   · split <;> exact ⟨rfl, rfl, rfl⟩
theorem NW {w : World} {B B' n n' : Nat} {v x : Value} {xs ys : List Value} (h : w.ownsRow B 30 1 v n xs) (h2 : w.ownsRow B' 5 1 x n' ys) {q : Nat} (hq : x.ownBlock = some q) : v.ownBlock ≠ some q := fun e => by
 obtain ⟨_, ⟨e1, _⟩ | ⟨g, cap, cur, e1, _, hg, _⟩⟩ := h
 · rw [e1] at e; cases e
 ·
  obtain ⟨_, ⟨e2, _⟩ | ⟨g2, cap2, cur2, e2, _, FK, _⟩⟩ := h2
  · rw [e2] at hq; cases hq
  ·
   rw [e1] at e
   rw [e2] at hq
   simp only [Value.ownBlock, Option.some.injEq] at e hq
   subst e hq
   rw [hg] at FK
   injection FK with FK
   injection FK with _ h3
   cases h3
section
variable {ops : Array Oper} {rest : List Oper} {d : Option Tmp} {tt : TypeId} {ps : String} {af : Array Edge} {gd : Option (Nat × Bool)} {a : Act} {w : World} {Q : Exit → Act → World → Prop} {K : Act → World → Prop} {x y z : Operand}
theorem Ii {w1 w2 : World} {B b : Nat} {v1 v2 : Value} {L1 L2 : List (List B8)} {s : Operand} (h1 : AK w1 B v1 L1) (CD : Bi b none w1 w2) (hb : b < B) (h2 : AK w2 w1.heap.size v2 L2) (hl : L1.length + L2.length ≤ 2) (hB : B ≤ w1.heap.size)
  (hs : a.eval s = v1) (hx : a.eval x = v2) (h : ∀ v' w', AK w' B v' (L1 ++ L2) → Below B w2 w' → K (a.put d v') w') :
  Oper.wp Tryz.prog ⟨d, .call { callee := .builtin .append, args := #[s, x], argTypes := #[29, 29] }, tt, ps, af, none⟩ a w2 K Q := by
 obtain ⟨vs1, l1, o1, e1, d1⟩ := h1
 obtain ⟨vs2, l2, o2, e2, d2⟩ := h2
 have XY : ∀ (i : Nat) u, vs1[i]? = some u → ∃ y, L1[i]? = some y := fun i u hu => ⟨_, List.getElem?_eq_getElem (by have := (List.getElem?_eq_some_iff.1 hu).1; omega)⟩
 have UT : ∀ (i : Nat) u, vs2[i]? = some u → ∃ y, L2[i]? = some y := fun i u hu => ⟨_, List.getElem?_eq_getElem (by have := (List.getElem?_eq_some_iff.1 hu).1; omega)⟩
 have aH : ∀ q, B ≤ q → q < w1.heap.size → w2.heap[q]? = w1.heap[q]? := fun q hq hl => CD.block q hl (by omega) (by simp)
 have o1' := D9 o1 (fun q hq => aH q (World.ownsRow.lt o1 q hq).1 (World.ownsRow.lt o1 q hq).2)
 have e1' : ∀ (i : Nat) u y, vs1[i]? = some u → L1[i]? = some y → Dg w2 B u y := fun i u y hu hy => D9 (e1 i u y hu hy) (fun q hq => aH q (World.ownsRow.lt (e1 i u y hu hy) q hq).1 (World.ownsRow.lt (e1 i u y hu hy) q hq).2)
 obtain ⟨A, c, Xd, hh, _, _⟩ := Et o2
 subst Xd
 have pT : ∀ u ∈ vs2, u.oneCell' = true := fun u hu => by
  obtain ⟨i, hi, he⟩ := List.getElem_of_mem hu
  have hu' : vs2[i]? = some u := by rw [← he]; exact List.getElem?_eq_getElem hi
  obtain ⟨y, hy⟩ := UT i u hu'
  obtain ⟨A', c', e'⟩ := BZ (e2 i u y hu' hy)
  rw [e']
  rfl
 refine BA 29 30 s x B (.slice none 0 0) 1 24 v1 L1.length vs1 A L2.length c vs2 hs hx Lu uV R (by omega) o1' (by omega) hh pT (by unfold maxLen; omega) (by omega) (Nat.le_trans hB CD.size) fun v' w' Ah hg hv Cb => h v' w' ⟨vs1 ++ vs2, by simp only [List.length_append]; omega, by rw [List.length_append]; exact Ah, fun i u y hu hy => ?_, fun i j u t hu ht vD q hq => ?_⟩ Cb
 ·
  by_cases hi : i < vs1.length
  ·
   rw [List.getElem?_append_left hi] at hu
   rw [List.getElem?_append_left (by omega)] at hy
   have h3 := e1' i u y hu hy
   exact D9 h3 (fun q hq => hg.block q (World.ownsRow.lt h3 q hq).2 (fun e => NW o1' h3 hq e.symm))
  ·
   rw [List.getElem?_append_right (by omega)] at hu
   rw [List.getElem?_append_right (by omega), ← l1] at hy
   have h3 := e2 _ u y hu hy
   refine DA (D9 h3 (fun q hq => hg.block q (World.ownsRow.lt h3 q hq).2 (fun e => NW o1' h3 hq e.symm))) hB
 ·
  by_cases hi : i < vs1.length
  ·
   rw [List.getElem?_append_left hi] at hu
   by_cases hj : j < vs1.length
   ·
    rw [List.getElem?_append_left hj] at ht
    exact d1 i j u t hu ht vD q hq
   ·
    rw [List.getElem?_append_right (by omega)] at ht
    obtain ⟨y, hy⟩ := XY i u hu
    obtain ⟨y2, pJ⟩ := UT _ t ht
    intro e
    have h3 := World.ownsRow.lt (e1 i u y hu hy) q hq
    have h4 := World.ownsRow.lt (e2 _ t y2 ht pJ) q e
    omega
  ·
   rw [List.getElem?_append_right (by omega)] at hu
   by_cases hj : j < vs1.length
   ·
    rw [List.getElem?_append_left hj] at ht
    obtain ⟨y, hy⟩ := XY j t ht
    obtain ⟨y2, pJ⟩ := UT _ u hu
    intro e
    have h3 := World.ownsRow.lt (e1 j t y ht hy) q e
    have h4 := World.ownsRow.lt (e2 _ u y2 hu pJ) q hq
    omega
   ·
    rw [List.getElem?_append_right (by omega)] at ht
    exact d2 _ _ u t hu ht (by omega) q hq
theorem Ga {w1 w2 : World} {B b : Nat} {v1 v2 : Value} {L1 L2 : List (List B8)} {s : Operand} (h1 : AK w1 B v1 L1) (CD : Bi b none w1 w2) (hb : b < B) (h2 : AK w2 w1.heap.size v2 L2) (hl : L1.length + L2.length ≤ 2) (hB : B ≤ w1.heap.size)
  (hs : a.eval s = v1) (hx : a.eval x = v2) (h : ∀ v' w', AK w' B v' (L1 ++ L2) → Below B w2 w' → wpList Tryz.prog ops Q rest (a.put d v') w') :
  wpList Tryz.prog ops Q (⟨d, .call { callee := .builtin .append, args := #[s, x], argTypes := #[29, 29] }, tt, ps, af, none⟩ :: rest) a w2 :=
 wpList_plain rfl fun _ hK => Ii h1 CD hb h2 hl hB hs hx fun v' w' p q => hK _ _ (h v' w' p q)
theorem Qz {m : Option Nat} {vw : Int → Option Nt} {u : Int} (h : AW w m vw) (hu : (Lit.int .i64 u).wf = true) (hv : vw u = none) (hx : a.eval x = .map m) (hy : a.eval y = .int .i64 u) :
  (execOp a.eval ⟨d, .lookup 74 x y true, tt, ps, af, gd⟩).run Tryz.prog w = .ok (.value (.tuple #[.agg (cN CH), .bool false])) w := by
 have := Si (d := d) (tt := tt) (ps := ps) (af := af) (gd := gd) h hu hx hy
 rwa [hv] at this
theorem Qy {m : Option Nat} {vw : Int → Option Nt} {u : Int} {n : Nt} (h : AW w m vw) (hu : (Lit.int .i64 u).wf = true) (hv : vw u = some n) (hx : a.eval x = .map m) (hy : a.eval y = .int .i64 u) :
  (execOp a.eval ⟨d, .lookup 74 x y true, tt, ps, af, gd⟩).run Tryz.prog w = .ok (.value (.tuple #[.agg (cN n), .bool true])) w := by
 have := Si (d := d) (tt := tt) (ps := ps) (af := af) (gd := gd) h hu hx hy
 rwa [hv] at this
theorem QH (h : ∀ w' bm, w.heap.size ≤ bm → Below w.heap.size w w' → En w' bm (fun _ => none) → wpList Tryz.prog ops Q rest (a.put d (.map (some bm))) w') : wpList Tryz.prog ops Q (⟨d, .makeMap 74 none, tt, ps, af, none⟩ :: rest) a w :=
 wpList_plain rfl fun _ hK => by
  unfold Oper.wp execOp
  simp only [Option.map_none, run_makeMap, Sem.run_bind, Sem.run_pure, Result.andThen_ok]
  exact hK _ _ (h _ w.heap.size (Nat.le_refl _) ((Below.refl _ _).alloc (Nat.le_refl _) _) (En.made w))
theorem SX {P : Program} {op : Op} (w' : World) (hv : (execOp a.eval ⟨d, op, tt, ps, af, gd⟩).run P w = .ok .skip w') (h : K (a.put d undef) w') : Oper.wp P ⟨d, op, tt, ps, af, gd⟩ a w K Q := by
 unfold Oper.wp
 rw [hv]
 exact h
theorem Md {w' : World} {q : Nat} {u : Int} {n : Nt} (Df : (Instr.mapUpdate 74 (.map (some q)) (J u) (.agg (cN n))).run Tryz.prog w = .ok () w') (hx : a.eval x = .map (some q)) (hy : a.eval y = J u) (hz : a.eval z = .agg (cN n)) :
  (execOp a.eval ⟨d, .mapUpdate 74 x y z, tt, ps, af, gd⟩).run Tryz.prog w = .ok .skip w' := by
 unfold execOp
 simp only [hx, hy, hz, Df, Sem.run_bind, Sem.run_pure, Result.andThen_ok]
end
theorem AG.offmap {α : Type} {enc : α → List Int} {w w' : World} {v : Value} {L : List α} {q : Nat} {vw : Int → Option Nt} (h : AG enc w v L) (hm : AW w (some q) vw) (hg : w.grownBy w' (some q)) : AG enc w' v L := by
 obtain ⟨A, c, rfl, h1, h2, h3, hh⟩ := h
 refine ⟨A, c, R, h1, h2, h3, fun j hj => ?_⟩
 obtain ⟨g, o, e, hc⟩ := hh j hj
 refine ⟨g, o, e, ?_⟩
 have hs := hc.trans (List.getElem?_eq_getElem hj)
 have CM := World.block_lt_of_cell? w _ hs
 have Fh : g ≠ q := fun e2 => by
  subst e2
  have := En.no_cell (show En w g vw from hm) (o + j)
  rw [this] at hs
  cases hs
 rw [← hc]
 unfold World.cell?
 rw [hg.block g CM (by simpa using Fh)]
theorem Bi.grownm {b : Nat} {m : Option Nat} {W w w' : World} {q : Nat} (h : Bi b m W w) (hg : w.grownBy w' (some q)) (hq : m = some q ∨ W.heap.size ≤ q) : Bi b m W w' :=
 ⟨hg.os.trans h.os, hg.tape.trans h.tape, hg.output.trans h.output, Nat.le_trans h.size hg.size, fun k hk hb hn => (hg.block k (Nat.lt_of_lt_of_le hk h.size) (fun e => by
  rcases hq with hq | hq
  · exact hn (by rw [hq]; exact e)
  · injection e with e; omega)).trans (h.block k hk hb hn)⟩
theorem Ur [Dw] (w : World) (b : Nat) (m : Option Nat) (c : Cl) (vi vo : Value) (hc : Dc c) (k : Ad w b 76 (Dm c vi vo m)) (AD : Id w vo c.os) (BM : Ct (Dw.lim b) vo) : Calls Tryz.prog 15 #[.pointer (some ⟨b, 0, none⟩)] w fun e w' => (∃ v, e = .returned v ∧ AK w' w.heap.size v (Eo c)) ∧ Ad w' b 76 (Dm (DD c) vi vo m) ∧ Bi b none w w' := by
 have AM := hc.ck
 have AO := hc.key
 have IF := hc.now
 have Gu := hc.seq
 have Jf := hc.beats
 have IE := hc.nonce
 have Aa := Bi.refl b none w
 have SD := k.lt
 refine Az 60 Tryz.func15 R R λ a H => zC (zD (kR 1 H R λ a H => zA (zB (zC (zC (zD (kR 3 H R λ a H => kV H (Ai U3 R (H.e R) ((show _ = some (J (c.state)) from CS (c := c) AM AO k))) R λ a H => ?_)))))))
 by_cases BE : (c.state) = 0
 ·
  exact kV H (A9 U3 (H.e R) Am (AE (BE))) R λ a H => zA (zB (zH H R (zC (zD (kR 1 H R λ a H => zA (zB (zF (zJ (Ag H R R ⟨⟨_, R, by rw [Eo, if_pos (by omega)]; exact Bd⟩, by rw [DD, if_pos (by omega)]; exact k, Aa⟩)))))))))
 ·
  refine kV H (A9 U3 (H.e R) Am (AF (BE))) R λ a H => zA (zB (zG H R (zE (zB (zC (zD (kR 4 H R λ a H => kV H (Ai U3 R (H.e R) ((show _ = some (J (c.now)) from BB (c := c) AM AO k))) R λ a H => kV H (Bm (q := (c.now) + 1) U3 (H.e R) Am) R λ a H => kX 2 H (IS (q := (if 1099511627776 < ((c.now) + 1) then 1099511627776 else ((c.now) + 1))) (H.e R) Am R) R λ a H => Gb (new := Dm ({ c with now := (if 1099511627776 < ((c.now) + 1) then 1099511627776 else ((c.now) + 1)) }) vi vo m) (H.e R) (H.e R) k s3 (FT AM AO R) oI (bP AM AO) Aa H fun w' hb ho k Aa a H => ?_)))))))
  replace AD := AG.store AD (fx BM) ho; clear hb ho
  refine zA (zB (zC ?_))
  obtain ⟨c1, he⟩ : ∃ c1, G8 c = c1 := ⟨_, rfl⟩
  have Gk : Dc c1 := by rw [← he]; exact OK hc
  have k1 : Ad _ b 76 (Dm (G8 c) vi vo m) := k
  rw [he] at k1
  clear k
  have k := k1
  clear k1
  have Sy : c1.os = c.os := by rw [← he]; rfl
  have HE := Lib.hid he
  clear he AM AO IF Gu Jf IE
  have AM := Gk.ck
  have AO := Gk.key
  refine rB 10 (Dn [0, 1, 2, 3, 4, 5, 6, 7, 8, 9] .done) fun hS => kQ 3 H R λ a H => kE 3 H R R (fun w' Aj => Ai U3 R (H.e R) ((show _ = some (J (c1.now)) from BB (c := c1) AM AO (Ad.ups k Aj)))) R λ a H => kF H R R (fun w' Aj => Ai U3 R (H.e R) ((show _ = some (J (c1.ask)) from eK (c := c1) AM AO (Ad.ups k Aj)))) R λ a H => ?_
  by_cases Cn : (c1.now) ≥ (c1.ask)
  ·
   refine kE 1 H R R (fun w' Aj => CV U3 (H.e R) (H.e R) (AE (Cn))) R λ a H => Aw (NoPanic.normal ?_)
   replace k := Ad.ups k hS
   replace AD := AG.up AD hS
   replace Aa := Aa.trans (Below.mono hS Aa.size)
   clear hS
   refine zB (zC (wp_block (zC (zD (kR 3 H R λ a H => kV H (Ai U3 R (H.e R) ((show _ = some (J (c1.state)) from CS (c := c1) AM AO k))) R λ a H => ?_)))))
   by_cases CP : (c1.state) = 1
   ·
    refine kX 4 H (A9 U3 (H.e R) Am (AE (CP))) R λ a H => zA (zB (zH H R (zC (zD (kR 1 H R λ a H => A8 _ _ _ (SI _ b m c1 vi vo Gk k) (Av tE (H.e R)) ?_)))))
    rintro e w9 ⟨⟨v, rfl, D1⟩, k2, CD⟩; refine ⟨_, rfl, ?_⟩; clear k; have k := k2; clear k2; replace D1 := AK.base D1 Aa.size; replace Aa := Bi.thin Aa CD; exact kL 1 H rfl λ a H => zA (zB (zF (AS (zJ (Ag H rfl rfl ⟨⟨_, rfl, by rw [Eo, if_neg (show ¬ c.state = 0 by omega), HE.out, Fs, if_neg (by omega), if_neg (by omega), if_pos (by omega)]; exact D1⟩, by rw [DD, if_neg (show ¬ c.state = 0 by omega), HE.out, EC, if_neg (by omega), if_neg (by omega), if_pos (by omega)]; exact k, Aa⟩)))))
   ·
    refine kX 4 H (A9 U3 (H.e R) Am (AF (CP))) R λ a H => zA (zB (zG H R (zC (zD (kR 3 H R λ a H => kV H (Ai U3 R (H.e R) ((show _ = some (J (c1.state)) from CS (c := c1) AM AO k))) R λ a H => ?_)))))
    by_cases DJ : (c1.state) = 2
    ·
     refine kX 4 H (A9 U3 (H.e R) Am (AE (DJ))) R λ a H => zA (zB (zH H R (zC (zD (kR 1 H R λ a H => A8 _ _ _ (Oi _ b m c1 vi vo Gk k) (Av kA (H.e R)) ?_)))))
     rintro e w9 ⟨⟨v, rfl, D1⟩, k2, CD⟩; refine ⟨_, rfl, ?_⟩; clear k; have k := k2; clear k2; replace D1 := AK.base D1 Aa.size; replace Aa := Bi.thin Aa CD; exact kL 1 H rfl λ a H => zA (zB (zF (AS (zJ (Ag H rfl rfl ⟨⟨_, rfl, by rw [Eo, if_neg (show ¬ c.state = 0 by omega), HE.out, Fs, if_neg (by omega), if_neg (by omega), if_neg (by omega), if_pos (by omega)]; exact D1⟩, by rw [DD, if_neg (show ¬ c.state = 0 by omega), HE.out, EC, if_neg (by omega), if_neg (by omega), if_pos (by omega)]; exact k, Aa⟩)))))
    ·
     refine kX 4 H (A9 U3 (H.e R) Am (AF (DJ))) R λ a H => zA (zB (zG H R (zC (zD (kR 3 H R λ a H => kV H (Ai U3 R (H.e R) ((show _ = some (J (c1.state)) from CS (c := c1) AM AO k))) R λ a H => ?_)))))
     by_cases Em : (c1.state) = 3
     ·
      refine kX 1 H (A9 U3 (H.e R) Am (AE (Em))) R λ a H => zA (zB (zH H R (zC (zD (kR 1 H R λ a H => A8 _ _ _ (Ib _ b m c1 vi vo Gk k) (Av XF (H.e R)) ?_)))))
      rintro e w1 ⟨⟨v1, rfl, Ff⟩, k2, K6⟩; refine ⟨_, rfl, ?_⟩; clear k; have k := k2; clear k2; replace Ff := AK.base Ff Aa.size; replace AD := AG.gone AD (fx BM) K6; replace Aa := Bi.thin Aa K6; refine kL 1 H rfl λ a H => A8 _ _ _ (IN _ b m (D4 c1) vi vo (Gx Gk) k (by rw [J6, Sy]; exact AD) BM) (Av XE (H.ev rfl)) ?_
      rintro e w2 ⟨⟨v2, rfl, MW⟩, k2, K5⟩; refine ⟨_, rfl, ?_⟩; clear k; have k := k2; clear k2; have FO := Aa; replace Aa := Bi.thin Aa K5; refine kl H rfl λ a H => Ga Ff K5 SD MW (Nat.add_le_add (Ia c1) (Ki (D4 c1))) FO.size (H.ev rfl) (H.ev rfl) fun v3 w3 Ll Om => ?_
      replace k := Ad.up k Om SD; replace Aa := Aa.trans Om; exact kL 1 H rfl λ a H => zA (zB (zF (AS (zJ (Ag H rfl rfl ⟨⟨_, rfl, by rw [Eo, if_neg (show ¬ c.state = 0 by omega), HE.out, Fs, if_pos (by omega)]; exact Ll⟩, by rw [DD, if_neg (show ¬ c.state = 0 by omega), HE.out, EC, if_pos (by omega)]; exact k, Aa⟩)))))
     ·
      refine kX 1 H (A9 U3 (H.e R) Am (AF (Em))) R λ a H => zA (zB (zG H R (zE (AC (zB (zC (zD (kR 1 H R λ a H => zA (zB (zF ?_))))))))))
      have ht := Hw (c := c1) (by omega)
      exact Ag H R R ⟨⟨_, R, by rw [Eo, if_neg (show ¬ c.state = 0 by omega), HE.out, ht.2]; exact Bd⟩, by rw [DD, if_neg (show ¬ c.state = 0 by omega), HE.out, ht.1]; exact k, Aa⟩
  ·
   refine kE 1 H R R (fun w' Aj => CV U3 (H.e R) (H.e R) (AF (Cn))) R λ a H => Aw (NoPanic.normal ?_)
   replace k := Ad.ups k hS
   replace AD := AG.up AD hS
   replace Aa := Aa.trans (Below.mono hS Aa.size)
   clear hS
   refine zB (zC (wp_block (zC (zD (kR 3 H R λ a H => kV H (Ai U3 R (H.e R) ((show _ = some (J (c1.state)) from CS (c := c1) AM AO k))) R λ a H => ?_)))))
   by_cases Fg : (c1.state) = 1
   ·
    refine kX 4 H (A9 U3 (H.e R) Am (AE (Fg))) R λ a H => zA (zB (zG H R (zC (zD (kR 3 H R λ a H => kV H (Ai U3 R (H.e R) ((show _ = some (J (c1.state)) from CS (c := c1) AM AO k))) R λ a H => ?_)))))
    by_cases F3 : (c1.state) = 2
    ·
     refine kX 4 H (A9 U3 (H.e R) Am (AE (F3))) R λ a H => zA (zB (zG H R (zC (zD (kR 3 H R λ a H => kV H (Ai U3 R (H.e R) ((show _ = some (J (c1.state)) from CS (c := c1) AM AO k))) R λ a H => ?_)))))
     by_cases FR : (c1.state) = 3
     ·
      refine kX 1 H (A9 U3 (H.e R) Am (AE (FR))) R λ a H => zA (zB (zH H R (zC (zD (kR 1 H R λ a H => A8 _ _ _ (Ib _ b m c1 vi vo Gk k) (Av XF (H.e R)) ?_)))))
      rintro e w1 ⟨⟨v1, rfl, Ff⟩, k2, K6⟩; refine ⟨_, rfl, ?_⟩; clear k; have k := k2; clear k2; replace Ff := AK.base Ff Aa.size; replace AD := AG.gone AD (fx BM) K6; replace Aa := Bi.thin Aa K6; refine kL 1 H rfl λ a H => A8 _ _ _ (IN _ b m (D4 c1) vi vo (Gx Gk) k (by rw [J6, Sy]; exact AD) BM) (Av XE (H.ev rfl)) ?_
      rintro e w2 ⟨⟨v2, rfl, MW⟩, k2, K5⟩; refine ⟨_, rfl, ?_⟩; clear k; have k := k2; clear k2; have FO := Aa; replace Aa := Bi.thin Aa K5; refine kl H rfl λ a H => Ga Ff K5 SD MW (Nat.add_le_add (Ia c1) (Ki (D4 c1))) FO.size (H.ev rfl) (H.ev rfl) fun v3 w3 Ll Om => ?_
      replace k := Ad.up k Om SD; replace Aa := Aa.trans Om; exact kL 1 H rfl λ a H => zA (zB (zF (AS (zJ (Ag H rfl rfl ⟨⟨_, rfl, by rw [Eo, if_neg (show ¬ c.state = 0 by omega), HE.out, Fs, if_pos (by omega)]; exact Ll⟩, by rw [DD, if_neg (show ¬ c.state = 0 by omega), HE.out, EC, if_pos (by omega)]; exact k, Aa⟩)))))
     ·
      refine kX 1 H (A9 U3 (H.e R) Am (AF (FR))) R λ a H => zA (zB (zG H R (zE (AC (zB (zC (zD (kR 1 H R λ a H => zA (zB (zF ?_))))))))))
      have ht := Hw (c := c1) (by omega)
      exact Ag H R R ⟨⟨_, R, by rw [Eo, if_neg (show ¬ c.state = 0 by omega), HE.out, ht.2]; exact Bd⟩, by rw [DD, if_neg (show ¬ c.state = 0 by omega), HE.out, ht.1]; exact k, Aa⟩
    ·
     refine kX 4 H (A9 U3 (H.e R) Am (AF (F3))) R λ a H => zA (zB (zG H R (zC (zD (kR 3 H R λ a H => kV H (Ai U3 R (H.e R) ((show _ = some (J (c1.state)) from CS (c := c1) AM AO k))) R λ a H => ?_)))))
     by_cases Hm : (c1.state) = 3
     ·
      refine kX 1 H (A9 U3 (H.e R) Am (AE (Hm))) R λ a H => zA (zB (zH H R (zC (zD (kR 1 H R λ a H => A8 _ _ _ (Ib _ b m c1 vi vo Gk k) (Av XF (H.e R)) ?_)))))
      rintro e w1 ⟨⟨v1, rfl, Ff⟩, k2, K6⟩; refine ⟨_, rfl, ?_⟩; clear k; have k := k2; clear k2; replace Ff := AK.base Ff Aa.size; replace AD := AG.gone AD (fx BM) K6; replace Aa := Bi.thin Aa K6; refine kL 1 H rfl λ a H => A8 _ _ _ (IN _ b m (D4 c1) vi vo (Gx Gk) k (by rw [J6, Sy]; exact AD) BM) (Av XE (H.ev rfl)) ?_
      rintro e w2 ⟨⟨v2, rfl, MW⟩, k2, K5⟩; refine ⟨_, rfl, ?_⟩; clear k; have k := k2; clear k2; have FO := Aa; replace Aa := Bi.thin Aa K5; refine kl H rfl λ a H => Ga Ff K5 SD MW (Nat.add_le_add (Ia c1) (Ki (D4 c1))) FO.size (H.ev rfl) (H.ev rfl) fun v3 w3 Ll Om => ?_
      replace k := Ad.up k Om SD; replace Aa := Aa.trans Om; exact kL 1 H rfl λ a H => zA (zB (zF (AS (zJ (Ag H rfl rfl ⟨⟨_, rfl, by rw [Eo, if_neg (show ¬ c.state = 0 by omega), HE.out, Fs, if_pos (by omega)]; exact Ll⟩, by rw [DD, if_neg (show ¬ c.state = 0 by omega), HE.out, EC, if_pos (by omega)]; exact k, Aa⟩)))))
     ·
      refine kX 1 H (A9 U3 (H.e R) Am (AF (Hm))) R λ a H => zA (zB (zG H R (zE (AC (zB (zC (zD (kR 1 H R λ a H => zA (zB (zF ?_))))))))))
      have ht := Hw (c := c1) (by omega)
      exact Ag H R R ⟨⟨_, R, by rw [Eo, if_neg (show ¬ c.state = 0 by omega), HE.out, ht.2]; exact Bd⟩, by rw [DD, if_neg (show ¬ c.state = 0 by omega), HE.out, ht.1]; exact k, Aa⟩
   ·
    refine kX 4 H (A9 U3 (H.e R) Am (AF (Fg))) R λ a H => zA (zB (zG H R (zC (zD (kR 3 H R λ a H => kV H (Ai U3 R (H.e R) ((show _ = some (J (c1.state)) from CS (c := c1) AM AO k))) R λ a H => ?_)))))
    by_cases IB : (c1.state) = 2
    ·
     refine kX 4 H (A9 U3 (H.e R) Am (AE (IB))) R λ a H => zA (zB (zG H R (zC (zD (kR 3 H R λ a H => kV H (Ai U3 R (H.e R) ((show _ = some (J (c1.state)) from CS (c := c1) AM AO k))) R λ a H => ?_)))))
     by_cases FM : (c1.state) = 3
     ·
      refine kX 1 H (A9 U3 (H.e R) Am (AE (FM))) R λ a H => zA (zB (zH H R (zC (zD (kR 1 H R λ a H => A8 _ _ _ (Ib _ b m c1 vi vo Gk k) (Av XF (H.e R)) ?_)))))
      rintro e w1 ⟨⟨v1, rfl, Ff⟩, k2, K6⟩; refine ⟨_, rfl, ?_⟩; clear k; have k := k2; clear k2; replace Ff := AK.base Ff Aa.size; replace AD := AG.gone AD (fx BM) K6; replace Aa := Bi.thin Aa K6; refine kL 1 H rfl λ a H => A8 _ _ _ (IN _ b m (D4 c1) vi vo (Gx Gk) k (by rw [J6, Sy]; exact AD) BM) (Av XE (H.ev rfl)) ?_
      rintro e w2 ⟨⟨v2, rfl, MW⟩, k2, K5⟩; refine ⟨_, rfl, ?_⟩; clear k; have k := k2; clear k2; have FO := Aa; replace Aa := Bi.thin Aa K5; refine kl H rfl λ a H => Ga Ff K5 SD MW (Nat.add_le_add (Ia c1) (Ki (D4 c1))) FO.size (H.ev rfl) (H.ev rfl) fun v3 w3 Ll Om => ?_
      replace k := Ad.up k Om SD; replace Aa := Aa.trans Om; exact kL 1 H rfl λ a H => zA (zB (zF (AS (zJ (Ag H rfl rfl ⟨⟨_, rfl, by rw [Eo, if_neg (show ¬ c.state = 0 by omega), HE.out, Fs, if_pos (by omega)]; exact Ll⟩, by rw [DD, if_neg (show ¬ c.state = 0 by omega), HE.out, EC, if_pos (by omega)]; exact k, Aa⟩)))))
     ·
      refine kX 1 H (A9 U3 (H.e R) Am (AF (FM))) R λ a H => zA (zB (zG H R (zE (AC (zB (zC (zD (kR 1 H R λ a H => zA (zB (zF ?_))))))))))
      have ht := Hw (c := c1) (by omega)
      exact Ag H R R ⟨⟨_, R, by rw [Eo, if_neg (show ¬ c.state = 0 by omega), HE.out, ht.2]; exact Bd⟩, by rw [DD, if_neg (show ¬ c.state = 0 by omega), HE.out, ht.1]; exact k, Aa⟩
    ·
     refine kX 4 H (A9 U3 (H.e R) Am (AF (IB))) R λ a H => zA (zB (zG H R (zC (zD (kR 3 H R λ a H => kV H (Ai U3 R (H.e R) ((show _ = some (J (c1.state)) from CS (c := c1) AM AO k))) R λ a H => ?_)))))
     by_cases I3 : (c1.state) = 3
     ·
      refine kX 1 H (A9 U3 (H.e R) Am (AE (I3))) R λ a H => zA (zB (zH H R (zC (zD (kR 1 H R λ a H => A8 _ _ _ (Ib _ b m c1 vi vo Gk k) (Av XF (H.e R)) ?_)))))
      rintro e w1 ⟨⟨v1, rfl, Ff⟩, k2, K6⟩; refine ⟨_, rfl, ?_⟩; clear k; have k := k2; clear k2; replace Ff := AK.base Ff Aa.size; replace AD := AG.gone AD (fx BM) K6; replace Aa := Bi.thin Aa K6; refine kL 1 H rfl λ a H => A8 _ _ _ (IN _ b m (D4 c1) vi vo (Gx Gk) k (by rw [J6, Sy]; exact AD) BM) (Av XE (H.ev rfl)) ?_
      rintro e w2 ⟨⟨v2, rfl, MW⟩, k2, K5⟩; refine ⟨_, rfl, ?_⟩; clear k; have k := k2; clear k2; have FO := Aa; replace Aa := Bi.thin Aa K5; refine kl H rfl λ a H => Ga Ff K5 SD MW (Nat.add_le_add (Ia c1) (Ki (D4 c1))) FO.size (H.ev rfl) (H.ev rfl) fun v3 w3 Ll Om => ?_
      replace k := Ad.up k Om SD; replace Aa := Aa.trans Om; exact kL 1 H rfl λ a H => zA (zB (zF (AS (zJ (Ag H rfl rfl ⟨⟨_, rfl, by rw [Eo, if_neg (show ¬ c.state = 0 by omega), HE.out, Fs, if_pos (by omega)]; exact Ll⟩, by rw [DD, if_neg (show ¬ c.state = 0 by omega), HE.out, EC, if_pos (by omega)]; exact k, Aa⟩)))))
     ·
      refine kX 1 H (A9 U3 (H.e R) Am (AF (I3))) R λ a H => zA (zB (zG H R (zE (AC (zB (zC (zD (kR 1 H R λ a H => zA (zB (zF ?_))))))))))
      have ht := Hw (c := c1) (by omega)
      exact Ag H R R ⟨⟨_, R, by rw [Eo, if_neg (show ¬ c.state = 0 by omega), HE.out, ht.2]; exact Bd⟩, by rw [DD, if_neg (show ¬ c.state = 0 by omega), HE.out, ht.1]; exact k, Aa⟩
theorem PM [Dw] (w : World) (b : Nat) (m : Option Nat) (c : Cl) (h : Bn w b m c) : Calls Tryz.prog 15 #[.pointer (some ⟨b, 0, none⟩)] w fun e w' => (∃ v, e = .returned v ∧ AK w' w.heap.size v (Eo c)) ∧ Bn w' b m (DD c) ∧ Bi b m w w' := by
 obtain ⟨hc, ⟨vi, vo, k, ⟨AN, Ch⟩, AD, BM⟩, Bw, Dr⟩ := h
 exact (Ur w b m c vi vo hc k AD BM).mono fun e w' ⟨h1, h2, h3⟩ => ⟨h1, Oy (Tb hc) h2 AN Ch AD BM Bw Dr h3 (Hv c).1 (Hv c).2.1 (Hv c).2.2, h3.weak⟩
theorem LL [Dw] (w : World) (b : Nat) (m : Option Nat) (c : Cl) (h : Bn w b m c) (n : Nt) (hn : Pj n) : Calls Tryz.prog 89 #[.pointer (some ⟨b, 0, none⟩), .agg (cN n)] w fun e w' => e = .returned (.tuple #[]) ∧ (∃ m', Bn w' b m' (I0 c n) ∧ Eg w m m') ∧ Bi b m w w' := by
 obtain ⟨hc, ⟨vi, vo, k, ⟨AN, Ch⟩, AD, BM⟩, Bw, Dr⟩ := h
 have AM := hc.ck
 have AO := hc.key
 have IF := hc.now
 have Gu := hc.seq
 have Jf := hc.beats
 have IE := hc.nonce
 have Aa := Bi.refl b m w
 have cU : (Lit.int .i64 n.1).wf = true := Fc (by have := hn.1; have := hn.2.1; omega)
 refine Az 53 Tryz.func89 R R λ a H => zC (zD (B7 49 _ #[J n.1, J n.2.1, J n.2.2.1, J n.2.2.2] (H.e R) fun w0 b0 Ak hb k0 => ?_))
 have g0 := Nat.le_trans Aa.size Ak; have PF : b < b0 := Nat.lt_of_lt_of_le k.lt Ak; replace k := k.ups hb; replace AN := AG.up AN hb; replace AD := AG.up AD hb; replace Bw := AW.ups Bw hb; replace Aa := Aa.tr hb; clear hb; clear Ak; refine kl H rfl λ a H => zA (zB (zC ?_))
 obtain hv | ⟨y, hv⟩ : c.vw n.1 = none ∨ ∃ y, c.vw n.1 = some y := by
  cases e : c.vw n.1 with
  | none => exact .inl rfl
  | some y => exact .inr ⟨y, rfl⟩
 ·
  have FO := Aa
  refine rB 13 (Dn [0, 1, 2, 3, 4, 5, 6, 7, 8, 9] (.one 10 (.one 11 (.fl 12 .done)))) fun hS => kQ 3 H R λ a H => kE 1 H R R (fun w' Aj => Ai PA R (H.e R) ((show _ = some (Value.map m) from Ev (c := c) AM AO (Ad.ups k Aj)))) R λ a H => kF H R R (fun w' Aj => Ai U3 R (H.e R) ((Ad.cell (Ad.ups k0 Aj) 0).trans R)) R λ a H => kE 3 (v := .tuple #[.agg (cN CH), .bool false]) H R R (fun w' Aj => Qz (AW.ups Bw Aj) cU hv (H.e R) (H.e R)) R λ a H => Al (fun K hK => A7 R (D8 49 (cN CH) V7 fun w1 b1 Ak hb k1 => ?_))
  have Ps := Nat.le_trans (Below.size hS) Ak; replace hS := Below.trans hS (Below.mono hb (Below.size hS)); clear hb Ak; refine kS 0 hK hS H rfl λ a H => ?_; clear hK K
  refine Al (fun K hK => A7 R (CW 49 (.tmp 4) (.tmp 14) b1 49 (cN CH) _ (H.e R) (H.e R) k1 EZ R (by simp [Value.oneCell']) fun w' hb ho kq => ?_))
  clear k1; have k1 := kq; replace hS := Below.trans hS (hb _ Ps); clear hb ho kq; refine kU 1 hK hS H rfl λ a H => ?_; clear hK K
  refine Aw (NoPanic.normal ?_)
  replace k := Ad.ups k hS
  replace AN := AG.up AN hS
  replace AD := AG.up AD hS
  replace Bw := AW.ups Bw hS
  replace k0 := Ad.ups k0 hS
  replace Aa := Aa.trans (Below.mono hS Aa.size)
  clear hS
  refine zB (zC (zC (zD (kR 1 H R λ a H => kV H (Ai U3 R (H.e R) ((Ad.cell k0 0).trans R)) R λ a H => ?_))))
  by_cases BE : n.1 = 0
  ·
   refine kX 18 H (A9 U3 (H.e R) Am (AE (BE))) R λ a H => zA (zB (zH H R (zF (zJ ?_))))
   have Rg : ES c.vw n = c.vw := by
    by_cases h0 : n.1 = 0
    · exact if_pos h0
    ·
     unfold ES
     rw [if_neg h0, hv]
     exact if_pos (by omega)
   exact Je H R ⟨R, ⟨m, by rw [I0, Rg]; exact ⟨hc, ⟨_, _, k, ⟨AN, Ch⟩, AD, BM⟩, Bw, Dr⟩, .inl R⟩, Aa⟩
  ·
   refine kX 2 H (A9 U3 (H.e R) Am (AF (BE))) R λ a H => kY 2 H R (Bs (H.e R) R) R λ a H => kW H R (Ai U3 R (H.e R) ((Ad.cell k0 1).trans R)) R λ a H => ?_
   by_cases Cn : n.2.1 < 1
   ·
    refine kY 11 H R (By U3 (H.e R) Am (AE (Cn))) R λ a H => zA (zB (zH H R (zF (zJ ?_))))
    have Rg : ES c.vw n = c.vw := by
     by_cases h0 : n.1 = 0
     · exact if_pos h0
     ·
      unfold ES
      rw [if_neg h0, hv]
      exact if_pos (by omega)
    exact Je H R ⟨R, ⟨m, by rw [I0, Rg]; exact ⟨hc, ⟨_, _, k, ⟨AN, Ch⟩, AD, BM⟩, Bw, Dr⟩, .inl R⟩, Aa⟩
   ·
    refine kY 11 H R (By U3 (H.e R) Am (AF (Cn))) R λ a H => zA (zB (zG H R (zE (zB (zC (zC ?_))))))
    have Rg : ES c.vw n = Fd c.vw n := by
     unfold ES
     rw [if_neg (by omega), hv]
     exact if_neg (by omega)
    have Xk : 1 ≤ n.1 := by have := hn.1; omega
    have Ya := hn.2.1
    cases m with
    | none =>
     refine zD (kR 3 H R λ a H => kV H (Ai PA R (H.e R) ((show _ = some (Value.map none) from Ev (c := c) AM AO k))) R λ a H => kV (v := .bool true) H (Iq (H.e R) R) R λ a H => zA (zB (zH H R (zD (kR 1 H R λ a H => QH fun w2 q0 Ak hb gO => ?_)))))
     have cZ : b < q0 := Nat.lt_of_lt_of_le k.lt Ak; have g2 := Nat.le_trans Aa.size Ak; have pY : c.vw = fun _ => none := funext Bw; clear Bw; have SA : ∀ q, some q0 = some q → b < q := fun q e => (by injection e with e; omega); replace k := k.ups hb; replace AN := AG.up AN hb; replace AD := AG.up AD hb; replace k0 := k0.ups hb; clear k1; replace Aa := Aa.tr hb; clear hb Ak; refine kL 2 H rfl λ a H => AP 74 (.tmp 45) (.tmp 43) b 46 76 (.map (some q0)) _ (H.ev rfl) (H.ev rfl) k uQ (by rw [Cc AM AO]; show 46 + 1 ≤ 48; omega) (by simp [Value.cells, Value.oneCell']) fun w' hb ho kq => ?_
     clear k; rw [PS AM AO] at kq; have k := kq; replace AN := AG.store AN (fx Ch) ho; replace AD := AG.store AD (fx BM) ho; replace k0 := Ae k0 (ho _ (by omega)); have Bw := AW.store (m := some q0) gO SA (hb b (Nat.le_refl _)) ho; rw [← pY] at Bw; clear gO Dr; have Dr := SA; clear SA; replace Aa := Aa.store (hb b (Nat.le_refl _)) ho; clear hb ho kq; have UV : (none : Option Nat) = some q0 ∨ w.heap.size ≤ q0 := .inr g2; refine Dz H λ a H => zA (zB ?_)
     have EK := Aa
     refine rB 7 (Dn [0, 1, 2, 3, 4, 5, 6] (.one 7 .done)) fun hS => kQ 3 H R λ a H => kE 1 H R R (fun w' Aj => Ai PA R (H.e R) ((show _ = some (Value.map (some q0)) from Ev (c := c) AM AO (Ad.ups k Aj)))) R λ a H => kF H R R (fun w' Aj => Ai U3 R (H.e R) ((Ad.cell (Ad.ups k0 Aj) 0).trans R)) R λ a H => kF (v := .agg (cN n)) H R R (fun w' Aj => Af b0 49 _ _ (H.e R) (Ad.ups k0 Aj) PH R EZ) R λ a H => Al (fun K hK => ?_)
     replace k := Ad.ups k hS
     replace AN := AG.up AN hS
     replace AD := AG.up AD hS
     replace k0 := Ad.ups k0 hS
     replace Bw := AW.ups Bw hS
     replace Aa := Aa.trans (Below.mono hS Aa.size)
     refine A7 R ?_; obtain ⟨w4, Df, Sv, FK⟩ := En.put Bw n Xk Ya; refine SX w4 (Md Df (H.e R) (H.e R) (H.e R)) ?_; have Sw := Dr q0 rfl; replace k := Ad.grown k FK (by simp; omega); replace AN := AG.offmap AN Bw FK; replace AD := AG.offmap AD Bw FK; clear Bw; have Bw : AW _ (some q0) (Fd c.vw n) := Sv; replace Aa := Bi.grownm Aa FK UV; refine hK _ _ ⟨(fun h => absurd R h), ?_⟩; clear hK K hS
     refine Aw (NoPanic.normal ?_)
     have Ca := Nm hc.vw hn
     exact EF H R ⟨R, ⟨some q0, ⟨{ hc with vw := Ca }, ⟨_, _, k, ⟨AN, Ch⟩, AD, BM⟩, by rw [I0, Rg]; exact Bw, Dr⟩, .inr (.inr ⟨_, R, g2⟩)⟩, Aa⟩
    | some q0 =>
     refine zD (kR 3 H R λ a H => kV H (Ai PA R (H.e R) ((show _ = some (Value.map (some q0)) from Ev (c := c) AM AO k))) R λ a H => kV (v := .bool false) H (Iq (H.e R) R) R λ a H => zA (zB (zG H R (zE (zB ?_)))))
     have UV : some q0 = some q0 ∨ w.heap.size ≤ q0 := .inl rfl
     have EK := Aa
     refine rB 7 (Dn [0, 1, 2, 3, 4, 5, 6] (.one 7 .done)) fun hS => kQ 3 H R λ a H => kE 1 H R R (fun w' Aj => Ai PA R (H.e R) ((show _ = some (Value.map (some q0)) from Ev (c := c) AM AO (Ad.ups k Aj)))) R λ a H => kF H R R (fun w' Aj => Ai U3 R (H.e R) ((Ad.cell (Ad.ups k0 Aj) 0).trans R)) R λ a H => kF (v := .agg (cN n)) H R R (fun w' Aj => Af b0 49 _ _ (H.e R) (Ad.ups k0 Aj) PH R EZ) R λ a H => Al (fun K hK => ?_)
     replace k := Ad.ups k hS
     replace AN := AG.up AN hS
     replace AD := AG.up AD hS
     replace Bw := AW.ups Bw hS
     replace k0 := Ad.ups k0 hS
     replace Aa := Aa.trans (Below.mono hS Aa.size)
     refine A7 R ?_; obtain ⟨w4, Df, Sv, FK⟩ := En.put Bw n Xk Ya; refine SX w4 (Md Df (H.e R) (H.e R) (H.e R)) ?_; have Sw := Dr q0 rfl; replace k := Ad.grown k FK (by simp; omega); replace AN := AG.offmap AN Bw FK; replace AD := AG.offmap AD Bw FK; clear Bw; have Bw : AW _ (some q0) (Fd c.vw n) := Sv; replace Aa := Bi.grownm Aa FK UV; refine hK _ _ ⟨(fun h => absurd R h), ?_⟩; clear hK K hS
     refine Aw (NoPanic.normal ?_)
     have Ca := Nm hc.vw hn
     exact EF H R ⟨R, ⟨some q0, ⟨{ hc with vw := Ca }, ⟨_, _, k, ⟨AN, Ch⟩, AD, BM⟩, by rw [I0, Rg]; exact Bw, Dr⟩, .inl R⟩, Aa⟩
 ·
  refine rB 13 (Dn [0, 1, 2, 3, 4, 5, 6, 7, 8, 9] (.one 10 (.one 11 (.fl 12 .done)))) fun hS => kQ 3 H R λ a H => kE 1 H R R (fun w' Aj => Ai PA R (H.e R) ((show _ = some (Value.map m) from Ev (c := c) AM AO (Ad.ups k Aj)))) R λ a H => kF H R R (fun w' Aj => Ai U3 R (H.e R) ((Ad.cell (Ad.ups k0 Aj) 0).trans R)) R λ a H => kE 3 (v := .tuple #[.agg (cN y), .bool true]) H R R (fun w' Aj => Qy (AW.ups Bw Aj) cU hv (H.e R) (H.e R)) R λ a H => Al (fun K hK => A7 R (D8 49 (cN CH) V7 fun w1 b1 Ak hb k1 => ?_))
  have Ps := Nat.le_trans (Below.size hS) Ak; replace hS := Below.trans hS (Below.mono hb (Below.size hS)); clear hb Ak; refine kS 0 hK hS H rfl λ a H => ?_; clear hK K
  refine Al (fun K hK => A7 R (CW 49 (.tmp 4) (.tmp 14) b1 49 (cN y) _ (H.e R) (H.e R) k1 EZ R (by simp [Value.oneCell']) fun w' hb ho kq => ?_))
  clear k1; have k1 := kq; replace hS := Below.trans hS (hb _ Ps); clear hb ho kq; refine kU 1 hK hS H rfl λ a H => ?_; clear hK K
  refine Aw (NoPanic.normal ?_)
  replace k := Ad.ups k hS
  replace AN := AG.up AN hS
  replace AD := AG.up AD hS
  replace Bw := AW.ups Bw hS
  replace k0 := Ad.ups k0 hS
  replace Aa := Aa.trans (Below.mono hS Aa.size)
  clear hS
  refine zB (zC (zC ?_))
  by_cases PE : DN y n = true
  ·
   refine zD (kR 1 H R λ a H => kV H (Ai U3 R (H.e R) ((Ad.cell k0 0).trans R)) R λ a H => ?_)
   by_cases CP : n.1 = 0
   ·
    refine kX 18 H (A9 U3 (H.e R) Am (AE (CP))) R λ a H => zA (zB (zH H R (zF (zJ ?_))))
    have Rg : ES c.vw n = c.vw := by
     by_cases h0 : n.1 = 0
     · exact if_pos h0
     ·
      unfold ES
      rw [if_neg h0, hv]
      exact if_neg (by first | exact PE | omega)
    exact Je H R ⟨R, ⟨m, by rw [I0, Rg]; exact ⟨hc, ⟨_, _, k, ⟨AN, Ch⟩, AD, BM⟩, Bw, Dr⟩, .inl R⟩, Aa⟩
   ·
    refine kX 2 H (A9 U3 (H.e R) Am (AF (CP))) R λ a H => kY 9 H R (Bs (H.e R) R) R λ a H => kG H R (kV (v := .agg (cN y)) H (Af b1 49 _ _ (H.e R) k1 PH R EZ) R λ a H => kG H R (kV (v := .agg (cN n)) H (Af b0 49 _ _ (H.e R) k0 PH R EZ) R λ a H => kG H R (A8 _ _ _ (Oe _ y n) (AA aZ (H.e R) (H.e R)) ?_)))
    rintro e w9 ⟨rfl, hb⟩; refine ⟨_, rfl, ?_⟩; rw [PE]; replace k := k.ups hb; replace AN := AG.up AN hb; replace AD := AG.up AD hb; replace Bw := AW.ups Bw hb; replace k0 := k0.ups hb; replace k1 := k1.ups hb; replace Aa := Aa.tr hb; clear hb; refine kl H rfl λ a H => kY 2 H rfl (Bs (H.ev rfl) rfl) rfl λ a H => zA (zB (zG H rfl (zE (zB (zC (zC ?_))))))
    have Rg : ES c.vw n = Fd c.vw n := by
     unfold ES
     rw [if_neg (by omega), hv]
     exact if_pos PE
    have Xk : 1 ≤ n.1 := by have := hn.1; omega
    have Ya := hn.2.1
    cases m with
    | none =>
     refine zD (kR 3 H R λ a H => kV H (Ai PA R (H.e R) ((show _ = some (Value.map none) from Ev (c := c) AM AO k))) R λ a H => kV (v := .bool true) H (Iq (H.e R) R) R λ a H => zA (zB (zH H R (zD (kR 1 H R λ a H => QH fun w2 q0 Ak hb gO => ?_)))))
     have cZ : b < q0 := Nat.lt_of_lt_of_le k.lt Ak; have g2 := Nat.le_trans Aa.size Ak; have pY : c.vw = fun _ => none := funext Bw; clear Bw; have SA : ∀ q, some q0 = some q → b < q := fun q e => (by injection e with e; omega); replace k := k.ups hb; replace AN := AG.up AN hb; replace AD := AG.up AD hb; replace k0 := k0.ups hb; clear k1; replace Aa := Aa.tr hb; clear hb Ak; refine kL 2 H rfl λ a H => AP 74 (.tmp 45) (.tmp 43) b 46 76 (.map (some q0)) _ (H.ev rfl) (H.ev rfl) k uQ (by rw [Cc AM AO]; show 46 + 1 ≤ 48; omega) (by simp [Value.cells, Value.oneCell']) fun w' hb ho kq => ?_
     clear k; rw [PS AM AO] at kq; have k := kq; replace AN := AG.store AN (fx Ch) ho; replace AD := AG.store AD (fx BM) ho; replace k0 := Ae k0 (ho _ (by omega)); have Bw := AW.store (m := some q0) gO SA (hb b (Nat.le_refl _)) ho; rw [← pY] at Bw; clear gO Dr; have Dr := SA; clear SA; replace Aa := Aa.store (hb b (Nat.le_refl _)) ho; clear hb ho kq; have UV : (none : Option Nat) = some q0 ∨ w.heap.size ≤ q0 := .inr g2; refine Dz H λ a H => zA (zB ?_)
     have EK := Aa
     refine rB 7 (Dn [0, 1, 2, 3, 4, 5, 6] (.one 7 .done)) fun hS => kQ 3 H R λ a H => kE 1 H R R (fun w' Aj => Ai PA R (H.e R) ((show _ = some (Value.map (some q0)) from Ev (c := c) AM AO (Ad.ups k Aj)))) R λ a H => kF H R R (fun w' Aj => Ai U3 R (H.e R) ((Ad.cell (Ad.ups k0 Aj) 0).trans R)) R λ a H => kF (v := .agg (cN n)) H R R (fun w' Aj => Af b0 49 _ _ (H.e R) (Ad.ups k0 Aj) PH R EZ) R λ a H => Al (fun K hK => ?_)
     replace k := Ad.ups k hS
     replace AN := AG.up AN hS
     replace AD := AG.up AD hS
     replace k0 := Ad.ups k0 hS
     replace Bw := AW.ups Bw hS
     replace Aa := Aa.trans (Below.mono hS Aa.size)
     refine A7 R ?_; obtain ⟨w4, Df, Sv, FK⟩ := En.put Bw n Xk Ya; refine SX w4 (Md Df (H.e R) (H.e R) (H.e R)) ?_; have Sw := Dr q0 rfl; replace k := Ad.grown k FK (by simp; omega); replace AN := AG.offmap AN Bw FK; replace AD := AG.offmap AD Bw FK; clear Bw; have Bw : AW _ (some q0) (Fd c.vw n) := Sv; replace Aa := Bi.grownm Aa FK UV; refine hK _ _ ⟨(fun h => absurd R h), ?_⟩; clear hK K hS
     refine Aw (NoPanic.normal ?_)
     have Ca := Nm hc.vw hn
     exact EF H R ⟨R, ⟨some q0, ⟨{ hc with vw := Ca }, ⟨_, _, k, ⟨AN, Ch⟩, AD, BM⟩, by rw [I0, Rg]; exact Bw, Dr⟩, .inr (.inr ⟨_, R, g2⟩)⟩, Aa⟩
    | some q0 =>
     refine zD (kR 3 H R λ a H => kV H (Ai PA R (H.e R) ((show _ = some (Value.map (some q0)) from Ev (c := c) AM AO k))) R λ a H => kV (v := .bool false) H (Iq (H.e R) R) R λ a H => zA (zB (zG H R (zE (zB ?_)))))
     have UV : some q0 = some q0 ∨ w.heap.size ≤ q0 := .inl rfl
     refine rB 7 (Dn [0, 1, 2, 3, 4, 5, 6] (.one 7 .done)) fun hS => kQ 3 H R λ a H => kE 1 H R R (fun w' Aj => Ai PA R (H.e R) ((show _ = some (Value.map (some q0)) from Ev (c := c) AM AO (Ad.ups k Aj)))) R λ a H => kF H R R (fun w' Aj => Ai U3 R (H.e R) ((Ad.cell (Ad.ups k0 Aj) 0).trans R)) R λ a H => kF (v := .agg (cN n)) H R R (fun w' Aj => Af b0 49 _ _ (H.e R) (Ad.ups k0 Aj) PH R EZ) R λ a H => Al (fun K hK => ?_)
     replace k := Ad.ups k hS
     replace AN := AG.up AN hS
     replace AD := AG.up AD hS
     replace Bw := AW.ups Bw hS
     replace k0 := Ad.ups k0 hS
     replace Aa := Aa.trans (Below.mono hS Aa.size)
     refine A7 R ?_; obtain ⟨w4, Df, Sv, FK⟩ := En.put Bw n Xk Ya; refine SX w4 (Md Df (H.e R) (H.e R) (H.e R)) ?_; have Sw := Dr q0 rfl; replace k := Ad.grown k FK (by simp; omega); replace AN := AG.offmap AN Bw FK; replace AD := AG.offmap AD Bw FK; clear Bw; have Bw : AW _ (some q0) (Fd c.vw n) := Sv; replace Aa := Bi.grownm Aa FK UV; refine hK _ _ ⟨(fun h => absurd R h), ?_⟩; clear hK K hS
     refine Aw (NoPanic.normal ?_)
     have Ca := Nm hc.vw hn
     exact EF H R ⟨R, ⟨some q0, ⟨{ hc with vw := Ca }, ⟨_, _, k, ⟨AN, Ch⟩, AD, BM⟩, by rw [I0, Rg]; exact Bw, Dr⟩, .inl R⟩, Aa⟩
  ·
   refine zD (kR 1 H R λ a H => kV H (Ai U3 R (H.e R) ((Ad.cell k0 0).trans R)) R λ a H => ?_)
   by_cases DJ : n.1 = 0
   ·
    refine kX 18 H (A9 U3 (H.e R) Am (AE (DJ))) R λ a H => zA (zB (zH H R (zF (zJ ?_))))
    have Rg : ES c.vw n = c.vw := by
     by_cases h0 : n.1 = 0
     · exact if_pos h0
     ·
      unfold ES
      rw [if_neg h0, hv]
      exact if_neg (by first | exact PE | omega)
    exact Je H R ⟨R, ⟨m, by rw [I0, Rg]; exact ⟨hc, ⟨_, _, k, ⟨AN, Ch⟩, AD, BM⟩, Bw, Dr⟩, .inl R⟩, Aa⟩
   ·
    refine kX 2 H (A9 U3 (H.e R) Am (AF (DJ))) R λ a H => kY 9 H R (Bs (H.e R) R) R λ a H => kG H R (kV (v := .agg (cN y)) H (Af b1 49 _ _ (H.e R) k1 PH R EZ) R λ a H => kG H R (kV (v := .agg (cN n)) H (Af b0 49 _ _ (H.e R) k0 PH R EZ) R λ a H => kG H R (A8 _ _ _ (Oe _ y n) (AA aZ (H.e R) (H.e R)) ?_)))
    rintro e w9 ⟨rfl, hb⟩; refine ⟨_, rfl, ?_⟩; rw [show DN y n = false by simpa using PE]; replace k := k.ups hb; replace AN := AG.up AN hb; replace AD := AG.up AD hb; replace Bw := AW.ups Bw hb; replace k0 := k0.ups hb; replace k1 := k1.ups hb; replace Aa := Aa.tr hb; clear hb; refine kl H rfl λ a H => kY 2 H rfl (Bs (H.ev rfl) rfl) rfl λ a H => zA (zB (zH H rfl (zF (zJ ?_))))
    have Rg : ES c.vw n = c.vw := by
     by_cases h0 : n.1 = 0
     · exact if_pos h0
     ·
      unfold ES
      rw [if_neg h0, hv]
      exact if_neg (by first | exact PE | omega)
    exact Je H R ⟨R, ⟨m, by rw [I0, Rg]; exact ⟨hc, ⟨_, _, k, ⟨AN, Ch⟩, AD, BM⟩, Bw, Dr⟩, .inl R⟩, Aa⟩
end
theorem Bn.up [Dw] {w w' : World} {b : Nat} {m : Option Nat} {c : Cl} (h : Bn w b m c) (hb : Below w.heap.size w w') : Bn w' b m c := by
 obtain ⟨hc, ⟨vi, vo, k, ⟨AN, Ch⟩, AD, BM⟩, Bw, Dr⟩ := h
 exact ⟨hc, ⟨vi, vo, k.ups hb, ⟨AN.up hb, Ch⟩, AD.up hb, BM⟩, Bw.ups hb, Dr⟩
theorem Bn.lt [Dw] {w : World} {b : Nat} {m : Option Nat} {c : Cl} (h : Bn w b m c) : b < w.heap.size := by
 obtain ⟨hc, ⟨vi, vo, k, _⟩, _⟩ := h
 exact k.lt
theorem AG.step {α : Type} {enc : α → List Int} {w w1 w2 : World} {v : Value} {L : List α} {g : Nat} (h : AG enc w v L) (hg : w.heap.size ≤ g) (h1 : Below w.heap.size w w1) (h2 : Below g w1 w2) : AG enc w2 v L := h.up (h1.trans (h2.mono hg))
theorem AG.onlym {α : Type} {enc : α → List Int} {w w' : World} {v : Value} {L : List α} {b : Nat} {m : Option Nat} {vw : Int → Option Nt} (h : AG enc w v L) (hf : Ct (b + 1) v) (hm : AW w m vw) (ho : Bi b m w w') : AG enc w' v L := by
 obtain ⟨A, c, rfl, h1, h2, h3, hh⟩ := h
 refine ⟨A, c, R, h1, h2, h3, fun j hj => ?_⟩
 obtain ⟨g, o, e, hc⟩ := hh j hj
 refine ⟨g, o, e, ?_⟩
 have hs := hc.trans (List.getElem?_eq_getElem hj)
 have CM := World.block_lt_of_cell? w _ hs
 have hq := hf A _ c rfl g o e
 have Fh : some g ≠ m := fun e2 => by
  subst e2
  have := En.no_cell (show En w g vw from hm) (o + j)
  rw [this] at hs
  cases hs
 rw [← hc]
 unfold World.cell?
 rw [ho.block g CM (by omega) Fh]
theorem Ad.onlym {w w' : World} {g b : Nat} {t : TypeId} {C : Array Value} {m : Option Nat} {vw : Int → Option Nt} (h : Ad w g t C) (Fh : g ≠ b) (hm : AW w m vw) (ho : Bi b m w w') : Ad w' g t C :=
 (ho.block g h.lt Fh (fun e => by
  subst e
  obtain ⟨_, _, ⟨es, cl, hb, _⟩, _⟩ := (show En w g vw from hm)
  have h2 : w.heap[g]? = some (.cells C t (0, 0)) := h
  rw [hb] at h2
  cases h2)).trans h
theorem Lj {c : Cl} {p : AZ} (h : Fm c p = true) : c.state = 3 := by
 unfold Fm at h
 rw [Bool.and_eq_true] at h
 exact (of_decide_eq_true h.1).1
/-- behind the first i notes -/
def C8 (c : Cl) (p : AZ) (i : Nat) : Cl := { c with next := (takeF c.next c.items (KL p)).1.1, items := (takeF c.next c.items (KL p)).1.2, vw := ((takeF c.next c.items (KL p)).2.take i).foldl ES c.vw }
theorem DX {c : Cl} {p : AZ} {T : (Int × List It) × List Nt} (h : takeF c.next c.items (KL p) = T) : C8 c p 0 = { c with next := T.1.1, items := T.1.2 } := by subst h; rfl
theorem In {c : Cl} {p : AZ} {T : (Int × List It) × List Nt} (h : takeF c.next c.items (KL p) = T) : C8 c p T.2.length = DC c p := by
 subst h
 unfold C8 DC
 rw [List.take_length]
theorem DY {c : Cl} {p : AZ} {T : (Int × List It) × List Nt} {i : Nat} {n : Nt} (h : takeF c.next c.items (KL p) = T) (hn : T.2[i]? = some n) : I0 (C8 c p i) n = C8 c p (i + 1) := by
 subst h
 obtain ⟨hi, rfl⟩ := List.getElem?_eq_some_iff.1 hn
 unfold C8 I0
 rw [List.take_succ_eq_append_getElem hi, List.foldl_append]
 rfl
theorem KV {c : Cl} {p : AZ} {i : Nat} (h : Dc c) (hs : c.state = 3) (hr : Bg p = true) (hk : p.fld 0 = 8) : Dc (C8 c p i) := by
 have hR := ME (x := KL p) (h.on hs).2
 have ht := Hx (n := c.next) (L := c.items) (x := KL p) h.notes (Mg hr hk).1
 exact { h with
  on := fun _ => ⟨(h.on hs).1, hR⟩
  next := ⟨by have := hR.1; show 0 ≤ (takeF c.next c.items (KL p)).1.1; omega, hR.2.1⟩
  items := Jv hR
  notes := ht.1
  vw := P5 _ _ h.vw (fun n hn => ht.2 n (List.mem_of_mem_take hn)) }
theorem SR (n : Int) (L : List It) : 0 ≤ (Ey n L).1 ∧ (Ey n L).1 ≤ 1073741823 ∧ 0 ≤ (Ey n L).2 ∧ (Ey n L).2 ≤ 127 := by
 unfold Ey
 split
 ·
  rename_i h
  have hR : E3 n L := of_decide_eq_true h
  have h2 := SQ hR L.length 7 (Nat.le_refl _) (fun j y _ hy => by have := hR.2.2.2 y (List.mem_of_getElem? hy); omega)
  rw [List.take_length] at h2
  have h3 := hR.1
  have h4 := hR.2.1
  have h5 : (2 : Nat) ^ 7 = 128 := by decide
  simp only
  omega
 · simp
theorem P8 {a s : Int} (h : 0 ≤ a ∧ a ≤ 1073741823 ∧ 0 ≤ s ∧ s ≤ 127) : (LX a s).ok := Jd rfl rfl rfl fun x hx => by
 simp only [List.mem_cons, List.not_mem_nil, or_false] at hx
 omega
theorem L0 [Dw] (w : World) (b : Nat) (m : Option Nat) (c : Cl) (p : AZ) (h : Bn w b m c) (hp : p.ok) : Calls Tryz.prog 83 #[.pointer (some ⟨b, 0, none⟩), .agg (pv p)] w fun e w' => (∃ v, e = .returned v ∧ AK w' w.heap.size v (I8 c p)) ∧ Below w.heap.size w w' := by
 obtain ⟨hc, ⟨vi, vo, k, _⟩, _⟩ := h
 exact IL w b m c p vi vo hc k hp
theorem Ms {n : Int} {L : List It} {x : It} (h : L.length ≤ 7) : (takeF n L x).2.length ≤ 8 := by
 by_cases hs : Jl n L x
 ·
  rw [KW hs]
  simp
 ·
  rw [OM hs]
  have h1 := (Y6 (insI L x) n).1
  have h2 := FS L x
  omega
def xV [Dw] (W : World) (b b1 : Nat) (m : Option Nat) (c : Cl) (p : AZ) (T : (Int × List It) × List Nt) (As An : Option Addr) (cs cn : Nat) (a : Act) (w : World) : Prop :=
 ∃ (i : Nat) (mi : Option Nat), Kn a 61 [(0, .pointer (some ⟨b, 0, none⟩)), (5, .pointer (some ⟨b1, 0, none⟩)), (41, .slice An T.2.length cn), (42, J (T.2.length : Nat)), (43, J (i : Nat))] ∧ i ≤ T.2.length ∧ Bn w b mi (C8 c p i) ∧ ET w (.slice As T.1.2.length cs) T.1.2 ∧ V5 w (.slice An T.2.length cn) T.2 ∧ Ad w b1 70 #[J T.1.1, .slice As T.1.2.length cs] ∧ Eg W m mi ∧ Bi b m W w
theorem Pk [Dw] (w : World) (b : Nat) (m : Option Nat) (c : Cl) (h : Bn w b m c)(p : AZ) (hp : p.ok) (hr : Bg p = true) (hk : p.fld 0 = 8) (hX : Dw.lim b ≤ w.heap.size) : Calls Tryz.prog 55 #[.pointer (some ⟨b, 0, none⟩), .agg (pv p)] w fun e w' => (∃ v, e = .returned v ∧ AK w' w.heap.size v (Nz c p)) ∧ (∃ m', Bn w' b m' (LR c p) ∧ Eg w m m') ∧ Bi b m w w' := by
 obtain ⟨hc, ⟨vi, vo, k, ⟨AN, Ch⟩, AD, BM⟩, Bw, Dr⟩ := h
 have AM := hc.ck
 have AO := hc.key
 have IF := hc.now
 have Gu := hc.seq
 have Jf := hc.beats
 have IE := hc.nonce
 have Aa := Bi.refl b m w
 have Cm := Mg hr hk
 refine Az 61 Tryz.func55 R R λ a H => zC (zD (B7 36 (.tmp 1) (pv p) (H.e R) fun w0 b0 Ak hb k0 => ?_))
 have g0 := Nat.le_trans Aa.size Ak; replace k := k.ups hb; replace AN := AG.up AN hb; replace AD := AG.up AD hb; replace Bw := AW.ups Bw hb; replace Aa := Aa.tr hb; clear hb; clear Ak; refine kL 1 H rfl λ a H => zA (zB (zC (zC ?_)))
 by_cases Ah : Fm c p = true
 ·
  refine zD (kR 1 H R λ a H => kV H (Af b0 36 _ _ (H.e R) k0 C1 R (AR hp)) R λ a H => A8 _ _ _ (Kz _ b m c p vi vo hc k hp) (AA XD (H.e R) (H.e R)) ?_)
  rintro e w9 ⟨rfl, hb⟩; refine ⟨_, rfl, ?_⟩; rw [Ah]; replace k := k.ups hb; replace AN := AG.up AN hb; replace AD := AG.up AD hb; replace Bw := AW.ups Bw hb; replace k0 := k0.ups hb; replace Aa := Aa.tr hb; clear hb; refine kl H rfl λ a H => kV H (Bs (H.ev rfl) rfl) rfl λ a H => zA (zB (zG H rfl (zE (zB (zC ?_)))))
  have DT := Aa
  refine rB 24 (Dn [0, 1, 2, 3, 4, 5, 6, 7, 8, 9, 10, 11, 12, 13, 14, 15, 16] (.two 17 (Dn [18, 19, 20] (.one 21 (.one 22 (.fl 23 .done)))) 21 (.one 17 (Dn [18, 19, 20] (.one 22 (.fl 23 .done)))))) fun hS => kQ 3 H R λ a H => kF H R R (fun w' Aj => Br (q := 22 + 21) Pv (H.e R) R) R λ a H => kE 1 H R R (fun w' Aj => AL (cs := [J (c.next), vi]) (H.e R) ((Zu (c := c) AM AO (Ad.ups k Aj) : World.rangeAt _ b 43 [J (c.next), vi])) (by kernel_rfl) DU R) R λ a H => kE 1 H R R (fun w' Aj => Ai U3 R (H.e R) (AB (Ad.ups k0 Aj) (AQ hp (j := 2) (by omega)))) R λ a H => kE 1 H R R (fun w' Aj => Ai U3 R (H.e R) (AB (Ad.ups k0 Aj) (AQ hp (j := 3) (by omega)))) R λ a H => kE 1 H R R (fun w' Aj => Ai U3 R (H.e R) (AB (Ad.ups k0 Aj) (AQ hp (j := 7) (by omega)))) R λ a H => kE 1 H R R (fun w' Aj => Ai U3 R (H.e R) (AB (Ad.ups k0 Aj) (AQ hp (j := 5) (by omega)))) R λ a H => kF H R R (fun w' Aj => Ai U3 R (H.e R) (AB (Ad.ups k0 Aj) (AQ hp (j := 6) (by omega)))) R λ a H => kF H R R (fun w' Aj => Bl #[(0, J (p.fld 3)), (1, J (p.fld 7)), (2, J (p.fld 5)), (3, J (p.fld 6))] (.agg #[J (p.fld 3), J (p.fld 7), J (p.fld 5), J (p.fld 6)]) (by simp [Am, H.ev (j := 24) R, H.ev (j := 26) R, H.ev (j := 28) R, H.ev (j := 30) R]) (fun w => by kernel_rfl)) R λ a H => ?_
  refine kF H R R (fun w' Aj => Bl #[(0, J (p.fld 2)), (1, .agg #[J (p.fld 3), J (p.fld 7), J (p.fld 5), J (p.fld 6)])] (.agg #[J (p.fld 2), J (p.fld 3), J (p.fld 7), J (p.fld 5), J (p.fld 6)]) (by simp [Am, H.ev (j := 22) R, H.ev (j := 31) R]) (fun w => by kernel_rfl)) R λ a H => FB (fun K hK => ?_) (fun K hK => ?_)
  ·
   refine A7 R (CQ _ _ _ (PO _ c.next vi c.items (KL p) (AG.up AN hS) (by have := hc.items; omega) (by have := Cm.2; omega) (by have := Cm.2; omega)) (AA jP (H.e R) (H.e R)) ?_); rintro e w9 ⟨⟨s0, o0, rfl, ⟨DG, KP⟩, ⟨DK, LT⟩⟩, hb⟩; refine ⟨_, R, ?_⟩; have Jh := Nat.le_trans (Nat.le_trans hX (show w.heap.size ≤ (Cy DT).heap.size from DT.size)) (Below.size hS); replace KP := Ct.base KP Jh; replace LT := Ct.base LT Jh; replace hS := Below.trans hS (Below.mono hb (Below.size hS)); clear hb Jh; have iF := Ms (n := c.next) (x := KL p) hc.items; obtain ⟨T, hT⟩ : ∃ T, takeF c.next c.items (KL p) = T := ⟨_, rfl⟩; rw [hT] at DG DK iF; rw [hT]; have HT := Lib.hid hT; clear hT; obtain ⟨As, cs, Hf⟩ := CY DG; subst Hf; obtain ⟨An, cn, Fa⟩ := CY DK; subst Fa; refine kS 3 hK hS H R λ a H => ?_; clear hK K
   refine Al (fun K hK => A7 R (D8 70 #[J 0, .slice none 0 0] VG fun w1 b1 Ak hb k1 => ?_))
   have eD : b < b1 := Nat.lt_of_lt_of_le (Nat.lt_of_lt_of_le (show b < (Cy DT).heap.size from k.lt) (Below.size hS)) Ak; have Ps := Nat.le_trans (Below.size hS) Ak; have aK := Ak; have aP := hb; replace hS := Below.trans hS (Below.mono hb (Below.size hS)); clear hb Ak; refine kS 0 hK hS H rfl λ a H => ?_; clear hK K
   refine Al (fun K hK => A7 R (CW 70 (.tmp 5) (.tmp 34) b1 70 #[J T.1.1, .slice As T.1.2.length cs] _ (H.e R) (H.e R) k1 DU R (by simp [Value.oneCell']) fun w' hb ho kq => ?_))
   clear k1; have k1 := kq; replace DG := AG.step DG aK aP (hb _ (Nat.le_refl _)); replace DK := AG.step DK aK aP (hb _ (Nat.le_refl _)); clear aK aP; replace hS := Below.trans hS (hb _ Ps); clear hb ho kq; refine kU 1 hK hS H rfl λ a H => ?_; clear hK K
   refine Aw (NoPanic.normal ?_)
   replace k := Ad.ups k hS
   replace AN := AG.up AN hS
   replace AD := AG.up AD hS
   replace Bw := AW.ups Bw hS
   replace k0 := Ad.ups k0 hS
   replace Aa := Aa.trans (Below.mono hS Aa.size)
   clear hS
   refine zB (zC ?_)
   clear AN Ch k0
   refine zD (kR 1 H R λ a H => kX 2 H (AL (cs := [J T.1.1, .slice As T.1.2.length cs]) (H.e R) (Ar k1) (by kernel_rfl) DU R) R λ a H => kV H (Br (q := 22 + 21) Pv (H.e R) R) R λ a H => Cp 70 (.tmp 40) (.tmp 37) b 43 76 #[J T.1.1, .slice As T.1.2.length cs] _ (H.e R) (H.e R) k DU (by rw [Cc (c := c) AM AO]; show 43 + 2 ≤ 48; omega) (by simp [Value.oneCell']) fun w' hb ho kq => ?_)
   clear k; rw [Tf (c := c) AM AO] at kq; have k : Ad _ b 76 (Dm { c with next := T.1.1 } (.slice As T.1.2.length cs) vo m) := kq; replace AD := AG.store AD (fx BM) ho; replace Bw := AW.store Bw Dr (hb b (Nat.le_refl _)) ho; replace k1 := Ae k1 (ho _ (by omega)); replace DG := AG.store DG (fx KP) ho; replace DK := AG.store DK (fx LT) ho; replace Aa := Aa.store (hb b (Nat.le_refl _)) ho; clear hb ho kq; refine Dz H λ a H => zA (zB (zC (zC (zD (kR 1 H rfl λ a H => kX 1 H (Ba Yc (H.ev rfl)) rfl λ a H => zA (zB (wp_block ?_)))))))
   have VA := fun i => KV (i := i) hc (Lj Ah) hr hk
   have Be : Bn _ b m (C8 c p 0) := ⟨VA 0, ⟨_, _, by rw [DX HT.out]; exact k, ⟨by rw [DX HT.out]; exact DG, KP⟩, by rw [DX HT.out]; exact AD, BM⟩, by rw [DX HT.out]; exact Bw, Dr⟩
   refine wp_loop (xV w b b1 m c p T As An cs cn) (fun a _ => T.2.length - (intOf (a.eval (.tmp 43))).toNat) ⟨0, m, H.pick [0, 5, 41, 42, 43], by omega, Be, DG, DK, k1, .inl R, Aa⟩ ?_
   clear H Aa k k1 DG DK AD Bw Be
   rintro a w' ⟨i, mi, H, hi, Be, DG, DK, k1, MX, Aa⟩
   have H0 := H
   by_cases CM : i < T.2.length
   ·
    obtain ⟨bn, on, hA, KO⟩ := CK Cr (BW DK) (by omega) CM
    subst hA
    obtain ⟨n, TG⟩ : ∃ n, T.2[i] = n := ⟨_, rfl⟩
    rw [TG] at KO
    have Xj : T.2[i]? = some n := by rw [← TG]; exact List.getElem?_eq_getElem CM
    clear TG
    have UX : Pj n := (Hx (n := c.next) hc.notes Cm.1).2 n (by rw [HT.out]; exact List.mem_of_getElem? Xj)
    have HNI := Lib.hid Xj
    clear Xj
    refine zC (zD (kV H (By U3 (H.e R) (H.e R) dT) R λ a H => zA (zB (zC (zH H R (zE (zB (zC (wp_block (zC (zD (kV H (Bq (j := i) (q := on + i * 4) Yc EZ (H.e R) (H.e R) (by omega) R) R λ a H => kV H (AL (cs := [J n.1, J n.2.1, J n.2.2.1, J n.2.2.2]) (H.e R) (KO) (by kernel_rfl) EZ R) R λ a H => De 49 8 (.tmp 46) #[J n.1, J n.2.1, J n.2.2.1, J n.2.2.2] _ V7 EZ R (Di [n.1, n.2.1, n.2.2.1, n.2.2.2]) (fun p => (H.put 8 p R).ev R) (fun p => (H.put 8 p R).ev R) fun w2 b2 Ak hb k2 => ?_))))))))))))
    have g2 := Nat.le_trans Aa.size Ak; have N6 : b1 < b2 := Nat.lt_of_lt_of_le k1.lt Ak; replace Be := Bn.up Be hb; replace DG := AG.up DG hb; replace DK := AG.up DK hb; replace k1 := k1.ups hb; replace Aa := Aa.tr hb; clear hb; clear Ak; refine kl H rfl λ a H => zA (zB (zD (kR 1 H rfl λ a H => kV H (AL (cs := [J n.1, J n.2.1, J n.2.2.1, J n.2.2.2]) (H.ev rfl) (Ar k2) (by kernel_rfl) EZ rfl) rfl λ a H => kC 0 (LL _ b mi (C8 c p i) Be n UX) (AA jO (H.ev rfl) (H.ev rfl)) H rfl fun w9 a ⟨⟨m2, GN, Xl⟩, CD⟩ H => ?_)))
    replace DG := AG.onlym DG (fx KP) Be.mp CD; replace DK := AG.onlym DK (fx LT) Be.mp CD; replace k1 := Ad.onlym k1 (by omega) Be.mp CD; clear k2; have Gf := Bi.comp Aa MX CD; replace MX := Eg.trans MX Aa.size Xl; clear Aa CD Be Xl; have Aa := Gf; clear Gf; rw [DY HT.out HNI.out] at GN
    refine zA (AC (zB (zD (kX 1 H (Bm (q := ((i + 1 : Nat) : Int)) U3 (H.e R) Am) R λ a H => zA (zI ⟨⟨i + 1, m2, H.pick [0, 5, 41, 42, 43], by omega, GN, DG, DK, k1, MX, Aa⟩, ?_⟩)))))
    rw [H.ev (j := 43) rfl, H0.ev (j := 43) rfl]
    simp only [intOf]
    omega
   ·
    obtain rfl : i = T.2.length := by omega
    clear DK
    rw [In HT.out] at Be
    refine zC (zD (kV H (By U3 (H.e R) (H.e R) dF) R λ a H => zA (zB (zC (zG H R (wp_exit (AJ (AJ (BD (zB (zC ?_)))))))))))
    have Rf := OF hc (Lj Ah) hr hk
    have iB : T.1.2.length ≤ 7 := by have := Rf.items; rwa [show (DC c p).items = T.1.2 by rw [← HT.out]; rfl] at this
    have Xw := SR T.1.1 T.1.2
    refine zD (kV H (AL (cs := [J T.1.1, .slice As T.1.2.length cs]) (H.e R) (Ar k1) (by kernel_rfl) DU R) R λ a H => kC 0 (Uh _ T.1.1 _ T.1.2 DG (by have := iB; omega)) (Av jN (H.e R)) H R fun w9 a hb H => ?_)
    replace Be := Bn.up Be hb; replace DG := AG.up DG hb; replace k1 := k1.ups hb; replace Aa := Aa.tr hb; clear hb
    refine kR 5 H R λ a H => zA (zB (zC (zD (kR 3 H R λ a H => kV (v := .agg (pv (LX (Ey T.1.1 T.1.2).1 (Ey T.1.1 T.1.2).2))) H (Bl #[(0, J 9), (8, J (Ey T.1.1 T.1.2).1), (9, J (Ey T.1.1 T.1.2).2)] (.agg (pv (LX (Ey T.1.1 T.1.2).1 (Ey T.1.1 T.1.2).2))) (by simp [Am, H.ev (j := 57) R, H.ev (j := 58) R]) (fun w => by kernel_rfl)) R λ a H => A8 _ _ _ (L0 _ b mi (DC c p) (LX (Ey T.1.1 T.1.2).1 (Ey T.1.1 T.1.2).2) Be (P8 Xw)) (AA Zz (H.e R) (H.e R)) ?_))))
    rintro e w9 ⟨⟨v, rfl, D1⟩, hb⟩; refine ⟨_, rfl, ?_⟩; replace D1 := AK.base D1 Aa.size; replace Be := Bn.up Be hb; replace DG := AG.up DG hb; replace k1 := k1.ups hb; replace Aa := Aa.tr hb; clear hb; exact kL 1 H rfl λ a H => zA (zB (zF (Ag H rfl rfl ⟨⟨_, rfl, by rw [Nz, if_pos Ah, show (DC c p).next = T.1.1 by rw [← HT.out]; rfl, show (DC c p).items = T.1.2 by rw [← HT.out]; rfl]; exact D1⟩, ⟨mi, by rw [LR, if_pos Ah]; exact Be, MX⟩, Aa⟩)))
  ·
   refine A7 R (D8 70 #[J 0, .slice none 0 0] VG fun w1 b1 Ak hb k1 => ?_); have eD : b < b1 := Nat.lt_of_lt_of_le (Nat.lt_of_lt_of_le (show b < (Cy DT).heap.size from k.lt) (Below.size hS)) Ak; have Ps := Nat.le_trans (Below.size hS) Ak; have aK := Ak; have aP := hb; replace hS := Below.trans hS (Below.mono hb (Below.size hS)); clear hb Ak; refine kS 0 hK hS H R λ a H => ?_; clear hK K
   refine Al (fun K hK => A7 R (CQ _ _ _ (PO _ c.next vi c.items (KL p) (AG.up AN hS) (by have := hc.items; omega) (by have := Cm.2; omega) (by have := Cm.2; omega)) (AA jP (H.e R) (H.e R)) ?_))
   rintro e w9 ⟨⟨s0, o0, rfl, ⟨DG, KP⟩, ⟨DK, LT⟩⟩, hb⟩; refine ⟨_, rfl, ?_⟩; have hJ : Ct (b1 + 1) s0 := Ct.base KP (Nat.succ_le_of_lt k1.lt); have hI : Ct (b1 + 1) o0 := Ct.base LT (Nat.succ_le_of_lt k1.lt); replace k1 := k1.ups hb; have Jh := Nat.le_trans (Nat.le_trans hX (show w.heap.size ≤ (Cy DT).heap.size from DT.size)) (Below.size hS); replace KP := Ct.base KP Jh; replace LT := Ct.base LT Jh; replace hS := Below.trans hS (Below.mono hb (Below.size hS)); clear hb Jh; have iF := Ms (n := c.next) (x := KL p) hc.items; obtain ⟨T, hT⟩ : ∃ T, takeF c.next c.items (KL p) = T := ⟨_, rfl⟩; rw [hT] at DG DK iF; rw [hT]; have HT := Lib.hid hT; clear hT; obtain ⟨As, cs, Hf⟩ := CY DG; subst Hf; obtain ⟨An, cn, Fa⟩ := CY DK; subst Fa; refine kS 3 hK hS H rfl λ a H => ?_; clear hK K
   refine Al (fun K hK => A7 R (CW 70 (.tmp 5) (.tmp 34) b1 70 #[J T.1.1, .slice As T.1.2.length cs] _ (H.e R) (H.e R) k1 DU R (by simp [Value.oneCell']) fun w' hb ho kq => ?_))
   clear k1; have k1 := kq; replace DG := AG.store DG hJ ho; replace DK := AG.store DK hI ho; clear hJ hI; replace hS := Below.trans hS (hb _ Ps); clear hb ho kq; refine kU 1 hK hS H rfl λ a H => ?_; clear hK K
   refine Aw (NoPanic.normal ?_)
   replace k := Ad.ups k hS
   replace AN := AG.up AN hS
   replace AD := AG.up AD hS
   replace Bw := AW.ups Bw hS
   replace k0 := Ad.ups k0 hS
   replace Aa := Aa.trans (Below.mono hS Aa.size)
   clear hS
   refine zB (zC ?_)
   clear AN Ch k0
   refine zD (kR 1 H R λ a H => kX 2 H (AL (cs := [J T.1.1, .slice As T.1.2.length cs]) (H.e R) (Ar k1) (by kernel_rfl) DU R) R λ a H => kV H (Br (q := 22 + 21) Pv (H.e R) R) R λ a H => Cp 70 (.tmp 40) (.tmp 37) b 43 76 #[J T.1.1, .slice As T.1.2.length cs] _ (H.e R) (H.e R) k DU (by rw [Cc (c := c) AM AO]; show 43 + 2 ≤ 48; omega) (by simp [Value.oneCell']) fun w' hb ho kq => ?_)
   clear k; rw [Tf (c := c) AM AO] at kq; have k : Ad _ b 76 (Dm { c with next := T.1.1 } (.slice As T.1.2.length cs) vo m) := kq; replace AD := AG.store AD (fx BM) ho; replace Bw := AW.store Bw Dr (hb b (Nat.le_refl _)) ho; replace k1 := Ae k1 (ho _ (by omega)); replace DG := AG.store DG (fx KP) ho; replace DK := AG.store DK (fx LT) ho; replace Aa := Aa.store (hb b (Nat.le_refl _)) ho; clear hb ho kq; refine Dz H λ a H => zA (zB (zC (zC (zD (kR 1 H rfl λ a H => kX 1 H (Ba Yc (H.ev rfl)) rfl λ a H => zA (zB (wp_block ?_)))))))
   have VA := fun i => KV (i := i) hc (Lj Ah) hr hk
   have Be : Bn _ b m (C8 c p 0) := ⟨VA 0, ⟨_, _, by rw [DX HT.out]; exact k, ⟨by rw [DX HT.out]; exact DG, KP⟩, by rw [DX HT.out]; exact AD, BM⟩, by rw [DX HT.out]; exact Bw, Dr⟩
   refine wp_loop (xV w b b1 m c p T As An cs cn) (fun a _ => T.2.length - (intOf (a.eval (.tmp 43))).toNat) ⟨0, m, H.pick [0, 5, 41, 42, 43], by omega, Be, DG, DK, k1, .inl R, Aa⟩ ?_
   clear H Aa k k1 DG DK AD Bw Be
   rintro a w' ⟨i, mi, H, hi, Be, DG, DK, k1, MX, Aa⟩
   have H0 := H
   by_cases CM : i < T.2.length
   ·
    obtain ⟨bn, on, hA, KO⟩ := CK Cr (BW DK) (by omega) CM
    subst hA
    obtain ⟨n, TG⟩ : ∃ n, T.2[i] = n := ⟨_, rfl⟩
    rw [TG] at KO
    have Xj : T.2[i]? = some n := by rw [← TG]; exact List.getElem?_eq_getElem CM
    clear TG
    have UX : Pj n := (Hx (n := c.next) hc.notes Cm.1).2 n (by rw [HT.out]; exact List.mem_of_getElem? Xj)
    have HNI := Lib.hid Xj
    clear Xj
    refine zC (zD (kV H (By U3 (H.e R) (H.e R) dT) R λ a H => zA (zB (zC (zH H R (zE (zB (zC (wp_block (zC (zD (kV H (Bq (j := i) (q := on + i * 4) Yc EZ (H.e R) (H.e R) (by omega) R) R λ a H => kV H (AL (cs := [J n.1, J n.2.1, J n.2.2.1, J n.2.2.2]) (H.e R) (KO) (by kernel_rfl) EZ R) R λ a H => De 49 8 (.tmp 46) #[J n.1, J n.2.1, J n.2.2.1, J n.2.2.2] _ V7 EZ R (Di [n.1, n.2.1, n.2.2.1, n.2.2.2]) (fun p => (H.put 8 p R).ev R) (fun p => (H.put 8 p R).ev R) fun w2 b2 Ak hb k2 => ?_))))))))))))
    have g2 := Nat.le_trans Aa.size Ak; have N6 : b1 < b2 := Nat.lt_of_lt_of_le k1.lt Ak; replace Be := Bn.up Be hb; replace DG := AG.up DG hb; replace DK := AG.up DK hb; replace k1 := k1.ups hb; replace Aa := Aa.tr hb; clear hb; clear Ak; refine kl H rfl λ a H => zA (zB (zD (kR 1 H rfl λ a H => kV H (AL (cs := [J n.1, J n.2.1, J n.2.2.1, J n.2.2.2]) (H.ev rfl) (Ar k2) (by kernel_rfl) EZ rfl) rfl λ a H => kC 0 (LL _ b mi (C8 c p i) Be n UX) (AA jO (H.ev rfl) (H.ev rfl)) H rfl fun w9 a ⟨⟨m2, GN, Xl⟩, CD⟩ H => ?_)))
    replace DG := AG.onlym DG (fx KP) Be.mp CD; replace DK := AG.onlym DK (fx LT) Be.mp CD; replace k1 := Ad.onlym k1 (by omega) Be.mp CD; clear k2; have Gf := Bi.comp Aa MX CD; replace MX := Eg.trans MX Aa.size Xl; clear Aa CD Be Xl; have Aa := Gf; clear Gf; rw [DY HT.out HNI.out] at GN
    refine zA (AC (zB (zD (kX 1 H (Bm (q := ((i + 1 : Nat) : Int)) U3 (H.e R) Am) R λ a H => zA (zI ⟨⟨i + 1, m2, H.pick [0, 5, 41, 42, 43], by omega, GN, DG, DK, k1, MX, Aa⟩, ?_⟩)))))
    rw [H.ev (j := 43) rfl, H0.ev (j := 43) rfl]
    simp only [intOf]
    omega
   ·
    obtain rfl : i = T.2.length := by omega
    clear DK
    rw [In HT.out] at Be
    refine zC (zD (kV H (By U3 (H.e R) (H.e R) dF) R λ a H => zA (zB (zC (zG H R (wp_exit (AJ (AJ (BD (zB (zC ?_)))))))))))
    have Rf := OF hc (Lj Ah) hr hk
    have iB : T.1.2.length ≤ 7 := by have := Rf.items; rwa [show (DC c p).items = T.1.2 by rw [← HT.out]; rfl] at this
    have Xw := SR T.1.1 T.1.2
    refine zD (kV H (AL (cs := [J T.1.1, .slice As T.1.2.length cs]) (H.e R) (Ar k1) (by kernel_rfl) DU R) R λ a H => kC 0 (Uh _ T.1.1 _ T.1.2 DG (by have := iB; omega)) (Av jN (H.e R)) H R fun w9 a hb H => ?_)
    replace Be := Bn.up Be hb; replace DG := AG.up DG hb; replace k1 := k1.ups hb; replace Aa := Aa.tr hb; clear hb
    refine kR 5 H R λ a H => zA (zB (zC (zD (kR 3 H R λ a H => kV (v := .agg (pv (LX (Ey T.1.1 T.1.2).1 (Ey T.1.1 T.1.2).2))) H (Bl #[(0, J 9), (8, J (Ey T.1.1 T.1.2).1), (9, J (Ey T.1.1 T.1.2).2)] (.agg (pv (LX (Ey T.1.1 T.1.2).1 (Ey T.1.1 T.1.2).2))) (by simp [Am, H.ev (j := 57) R, H.ev (j := 58) R]) (fun w => by kernel_rfl)) R λ a H => A8 _ _ _ (L0 _ b mi (DC c p) (LX (Ey T.1.1 T.1.2).1 (Ey T.1.1 T.1.2).2) Be (P8 Xw)) (AA Zz (H.e R) (H.e R)) ?_))))
    rintro e w9 ⟨⟨v, rfl, D1⟩, hb⟩; refine ⟨_, rfl, ?_⟩; replace D1 := AK.base D1 Aa.size; replace Be := Bn.up Be hb; replace DG := AG.up DG hb; replace k1 := k1.ups hb; replace Aa := Aa.tr hb; clear hb; exact kL 1 H rfl λ a H => zA (zB (zF (Ag H rfl rfl ⟨⟨_, rfl, by rw [Nz, if_pos Ah, show (DC c p).next = T.1.1 by rw [← HT.out]; rfl, show (DC c p).items = T.1.2 by rw [← HT.out]; rfl]; exact D1⟩, ⟨mi, by rw [LR, if_pos Ah]; exact Be, MX⟩, Aa⟩)))
 ·
  refine zD (kR 1 H R λ a H => kV H (Af b0 36 _ _ (H.e R) k0 C1 R (AR hp)) R λ a H => A8 _ _ _ (Kz _ b m c p vi vo hc k hp) (AA XD (H.e R) (H.e R)) ?_)
  rintro e w9 ⟨rfl, hb⟩; refine ⟨_, rfl, ?_⟩; rw [show Fm c p = false by simpa using Ah]; replace k := k.ups hb; replace AN := AG.up AN hb; replace AD := AG.up AD hb; replace Bw := AW.ups Bw hb; replace k0 := k0.ups hb; replace Aa := Aa.tr hb; clear hb; exact kl H rfl λ a H => kV H (Bs (H.ev rfl) rfl) rfl λ a H => zA (zB (zH H rfl (zC (zD (kR 1 H rfl λ a H => zA (zB (zF (zJ (Ag H rfl rfl ⟨⟨_, rfl, by rw [Nz, if_neg Ah]; exact Bd⟩, ⟨m, by rw [LR, if_neg Ah]; exact ⟨hc, ⟨_, _, k, ⟨AN, Ch⟩, AD, BM⟩, Bw, Dr⟩, .inl rfl⟩, Aa⟩)))))))))
section
open Go.Maps
theorem AG.tl {w : World} {b o n c : Nat} {L l : List Nt} {x : Nt} (h : L = x :: l) (hn : L.length = l.length + 1) (hr : Id w (.slice (some ⟨b, o, none⟩) n c) L) : Id w (.slice (C6 (some ⟨b, o, none⟩) c 1 4) l.length (c - 1)) l := by
 obtain ⟨A, c', e⟩ := CY hr
 injection e with e1 e2 e3
 subst e2 e3
 have := AG.drop Cr hr (j := 1) (by omega)
 subst h
 simpa using this
theorem Ct.tl {B b o n n' c : Nat} (h : Ct B (.slice (some ⟨b, o, none⟩) n c)) : Ct B (.slice (C6 (some ⟨b, o, none⟩) c 1 4) n' (c - 1)) := fun A k k2 e b' o' ea => by
 injection e with e1
 subst e1
 have := PY ea
 subst this
 exact h _ _ _ R b' o R
theorem Km {c : Cl} {p : AZ} {o : Nt} {l : List Nt} (h : c.os = o :: l) (hn : Fm c p = true ∧ p.fld 2 = c.seq + 1) : Hi c p = Gp c p o l := by
 unfold Hi
 split
 ·
  rename_i e
  rw [h] at e
  cases e
 ·
  rename_i e
  rw [h] at e
  injection e with e1 e2
  subst e1 e2
  exact if_pos hn
theorem Qs {c : Cl} {p : AZ} (h : c.os = []) : Hi c p = c := by
 unfold Hi
 split
 · rfl
 ·
  rename_i e
  rw [h] at e
  cases e
theorem Ma {c : Cl} {p : AZ} (h : ¬ Fm c p = true ∨ p.fld 2 ≠ c.seq + 1) : Hi c p = c := by
 unfold Hi
 split
 · rfl
 · exact if_neg (fun e => by rcases h with h | h; exact h e.1; exact h e.2)
theorem TW (bs : List B8) : (GQ bs).ok := by
 unfold GQ
 split
 · exact P2 bs
 · exact Bz
theorem Eg.lift {w w1 : World} {m m' : Option Nat} (h : Eg w1 m m') (hs : w.heap.size ≤ w1.heap.size) : Eg w m m' := by
 rcases h with h | h | ⟨q, h, hq⟩
 · exact .inl h
 · exact .inr (.inl h)
 · exact .inr (.inr ⟨q, h, by omega⟩)
/-- a client's method for a kind -/
def iH (b : Nat) (k : Int) : Value := if k = 2 then .func (.func 52) #[.pointer (some ⟨b, 0, none⟩)] #[] else if k = 4 then .func (.func 53) #[.pointer (some ⟨b, 0, none⟩)] #[] else if k = 12 then .func (.func 54) #[.pointer (some ⟨b, 0, none⟩)] #[] else if k = 8 then .func (.func 55) #[.pointer (some ⟨b, 0, none⟩)] #[] else if k = 11 then .func (.func 56) #[.pointer (some ⟨b, 0, none⟩)] #[] else .nilFunc
theorem Zh {b : Nat} {k : Int} (h2 : k ≠ 2) (h4 : k ≠ 4) (Ln : k ≠ 12) (h8 : k ≠ 8) (LV : k ≠ 11) : iH b k = .nilFunc := by
 unfold iH
 rw [if_neg h2, if_neg h4, if_neg Ln, if_neg h8, if_neg LV]
/-- block q is a map from YR to functions -/
def JB (w : World) (q n : Nat) (f : Int → Option Value) : Prop := ∃ D : DataW Value, IsMap D ∧ w.ownsMap Tryz.prog 3 RV q n D ∧ ∀ x : Int, (Lit.int .i64 x).wf = true → D.atKey (.int .i64 x) .nil = (match f x with | none => .nil | some v => .held v)
theorem JB.put {w : World} {q n : Nat} {f : Int → Option Value} (h : JB w q n f) (x : Int) (v : Value) (hx : (Lit.int .i64 x).wf = true) (hn : n < 100) :
  ∃ w', (Instr.mapUpdate 81 (.map (some q)) (J x) v).run Tryz.prog w = .ok () w' ∧ JB w' q (n + 1) (fun u => if u = x then some v else f u) ∧ w.grownBy w' (some q) := by
 obtain ⟨D, hD, ho, KA⟩ := h
 have UY := keyOf_int_mk U3 hx
 obtain ⟨w', Df, gX, hg⟩ := ho.update (d := .held v) (ps := []) Gc xQ (by unfold maxLen; omega) UY rfl
 refine ⟨w', Df, ⟨_, hD.put _ _, gX, fun u hu => ?_⟩, hg⟩
 by_cases e : u = x
 ·
  subst e
  rw [atKey_put_same hD (Gc.key UY)]
  simp
 ·
  have Fh : Lit.int .i64 u ≠ Lit.int .i64 x := fun e2 => e (by injection e2)
  rw [atKey_put_other Fh, KA u hu]
  simp [e]
theorem JB.made (w : World) : JB (w.alloc (.map #[] 0)) w.heap.size 0 (fun _ => none) := ⟨.map [], isMap_empty, World.ownsMap_made _ _ _ _, fun x _ => by simp [DataW.atKey]⟩
theorem bH (w : World) : (zeroValue 80).run Tryz.prog w = .ok .nilFunc w := by kernel_rfl
theorem JB.look {w : World} {q n : Nat} {f : Int → Option Value} (h : JB w q n f) (x : Int) (hx : (Lit.int .i64 x).wf = true) : (Instr.lookup 81 (.map (some q)) (.int .i64 x) false).run Tryz.prog w = .ok ((f x).getD .nilFunc) w := by
 obtain ⟨D, _, ⟨es, clock, hb, F, _, hD⟩, KA⟩ := h
 have h1 := KA x hx
 rw [hD] at h1
 rcases Maps.fit_look false Gc xQ (bH w) hb F (keyOf_int_mk U3 hx) with ⟨Df, _, hz⟩ | ⟨e0, y, _, _, Df, rI, hz, _⟩
 ·
  rw [hz] at h1
  cases hv : f x with
  | none => rw [Df]; rfl
  | some y => rw [hv] at h1; cases h1
 ·
  rw [hz] at h1
  have e1 : y = (.held e0.val, []) := (Option.some.inj rI).symm
  subst e1
  cases hv : f x with
  | none => rw [hv] at h1; cases h1
  | some y =>
   rw [hv] at h1
   have h6 : e0.val = y := DataW.held.inj h1
   rw [Df, h6]
   rfl
section
variable {ops : Array Oper} {rest : List Oper} {d : Option Tmp} {tt : TypeId} {ps : String} {af : Array Edge} {gd : Option (Nat × Bool)} {a : Act} {w : World} {Q : Exit → Act → World → Prop} {x y z : Operand}
theorem YH (h : ∀ w' q, w.heap.size ≤ q → Below w.heap.size w w' → JB w' q 0 (fun _ => none) → wpList Tryz.prog ops Q rest (a.put d (.map (some q))) w') : wpList Tryz.prog ops Q (⟨d, .makeMap 81 none, tt, ps, af, none⟩ :: rest) a w :=
 wpList_plain rfl fun _ hK => by
  unfold Oper.wp execOp
  simp only [Option.map_none, run_makeMap, Sem.run_bind, Sem.run_pure, Result.andThen_ok]
  exact hK _ _ (h _ w.heap.size (Nat.le_refl _) ((Below.refl _ _).alloc (Nat.le_refl _) _) (JB.made w))
theorem VK {P : Program} {op : Op} (w' : World) (hv : (execOp a.eval ⟨d, op, tt, ps, af, none⟩).run P w = .ok .skip w') (h : wpList P ops Q rest (a.put d undef) w') : wpList P ops Q (⟨d, op, tt, ps, af, none⟩ :: rest) a w :=
 wpList_plain rfl fun _ hK => by
  unfold Oper.wp
  rw [hv]
  exact hK _ _ h
theorem IT {w' : World} {q : Nat} {u : Int} {v : Value} (Df : (Instr.mapUpdate 81 (.map (some q)) (J u) v).run Tryz.prog w = .ok () w') (hx : a.eval x = .map (some q)) (hy : a.eval y = J u) (hz : a.eval z = v) :
  (execOp a.eval ⟨d, .insert 81 x y z, tt, ps, af, gd⟩).run Tryz.prog w = .ok .skip w' := by
 unfold execOp
 simp only [hx, hy, hz, Df, Sem.run_bind, Sem.run_pure, Result.andThen_ok]
theorem Kq {P : Program} {fn : Fn} {v : Value} (hx : a.eval x = v) : (execOp a.eval ⟨d, .makeFunc fn #[x] #[], tt, ps, af, gd⟩).run P w = .ok (.value (.func fn #[v] #[])) w := by
 subst hx
 have pZ : ∀ fn first cap w, (Instr.makeFunc fn first cap).run P w = .ok (.func fn first cap) w := fun _ _ _ _ => rfl
 unfold execOp
 simp [pZ, Sem.run_bind, Sem.run_pure, Result.andThen_ok]
theorem Ks {P : Program} {f : FuncId} {u v : Value} (hf : Bu P f) {g : Operand} {ats : Array TypeId} (hg : a.eval g = .func (.func f) #[u] #[]) (hx : a.eval x = v) :
  (execOp a.eval ⟨d, .call { callee := .value g, args := #[x], argTypes := ats }, tt, ps, af, gd⟩).run P w = .ok (.enter f #[u, v]) w := by
 unfold execOp
 simp [resolve, invoke, hx, hg, Deferred.ofValue, hf _ w]
theorem Y2 {q b : Nat} {u : Int} {fv : Value} (h : JB w q 5 (fun u => if u = 11 then some (.func (.func 56) #[.pointer (some ⟨b, 0, none⟩)] #[]) else if u = 8 then some (.func (.func 55) #[.pointer (some ⟨b, 0, none⟩)] #[]) else if u = 12 then some (.func (.func 54) #[.pointer (some ⟨b, 0, none⟩)] #[]) else if u = 4 then some (.func (.func 53) #[.pointer (some ⟨b, 0, none⟩)] #[]) else if u = 2 then some (.func (.func 52) #[.pointer (some ⟨b, 0, none⟩)] #[]) else none))
  (hu : (Lit.int .i64 u).wf = true) (hx : a.eval x = .map (some q)) (hy : a.eval y = J u) (Pq : iH b u = fv) :
  (execOp a.eval ⟨d, .lookup 81 x y false, tt, ps, af, gd⟩).run Tryz.prog w = .ok (.value fv) w := by
 have h1 := h.look u hu
 have h2 : (if u = 11 then some (Value.func (.func 56) #[.pointer (some ⟨b, 0, none⟩)] #[]) else if u = 8 then some (.func (.func 55) #[.pointer (some ⟨b, 0, none⟩)] #[]) else if u = 12 then some (.func (.func 54) #[.pointer (some ⟨b, 0, none⟩)] #[]) else if u = 4 then some (.func (.func 53) #[.pointer (some ⟨b, 0, none⟩)] #[]) else if u = 2 then some (.func (.func 52) #[.pointer (some ⟨b, 0, none⟩)] #[]) else none).getD .nilFunc = fv := by
  rw [← Pq]
  unfold iH
  by_cases h2 : u = 2
  · subst h2; rfl
  by_cases h4 : u = 4
  · subst h4; rfl
  by_cases Ln : u = 12
  · subst Ln; rfl
  by_cases h8 : u = 8
  · subst h8; rfl
  by_cases LV : u = 11
  · subst LV; rfl
  simp [*]
 rw [h2] at h1
 unfold execOp
 simp only [hx, hy, h1, Sem.run_bind, Sem.run_pure, Result.andThen_ok]
theorem Zq (w : World) (d : Nat) {f : Fn} (u : Array Value) : (Op.equalIn (d + 1) 80 (.func f u #[]) .nilFunc).run Tryz.prog w = .ok false w := by
 simp [Op.equalIn, run_underlying xR]
theorem X2 (w : World) (d : Nat) : (Op.equalIn (d + 1) 80 .nilFunc .nilFunc).run Tryz.prog w = .ok true w := by
 simp [Op.equalIn, run_underlying xR]
theorem Kr {f : Nat} {u : Value} {t2 : TypeId} (hx : a.eval x = .func (.func f) #[u] #[]) : (execOp a.eval ⟨d, .binOp .eql 80 x (.const .nilFunc) t2, tt, ps, af, gd⟩).run Tryz.prog w = .ok (.value (.bool false)) w := by
 have e : a.eval (.const .nilFunc) = .nilFunc := rfl
 unfold execOp
 simp only [hx, e]
 have h0 : (Op.equalIn (9999 + 1) 80 (.func (.func f) #[u] #[]) .nilFunc).run Tryz.prog w = .ok false w := Zq w 9999 _
 have h1 : (binOp .eql 80 (.func (.func f) #[u] #[]) .nilFunc).run Tryz.prog w = .ok (.bool false) w := by
  simp only [binOp]
  simp [Op.equal, Op.maxDepth, h0]
 go_simp
theorem WE {t2 : TypeId} (hx : a.eval x = .nilFunc) : (execOp a.eval ⟨d, .binOp .eql 80 x (.const .nilFunc) t2, tt, ps, af, gd⟩).run Tryz.prog w = .ok (.value (.bool true)) w := by
 have e : a.eval (.const .nilFunc) = .nilFunc := rfl
 unfold execOp
 simp only [hx, e]
 have h0 : (Op.equalIn (9999 + 1) 80 .nilFunc .nilFunc).run Tryz.prog w = .ok true w := X2 w 9999
 have h1 : (binOp .eql 80 .nilFunc .nilFunc).run Tryz.prog w = .ok (.bool true) w := by
  simp only [binOp]
  simp [Op.equal, Op.maxDepth, h0]
 go_simp
end
theorem Bn.offm [Dw] {w w' : World} {b q n k : Nat} {m : Option Nat} {c : Cl} {f : Int → Option Value} (h : Bn w b m c) (hf : JB w q k f) (hg : w.grownBy w' (some q)) (hb : b < q) (hm : ∀ p, m = some p → p < n) (hn : n ≤ q) : Bn w' b m c := by
 obtain ⟨hc, ⟨vi, vo, k, ⟨AN, Ch⟩, AD, BM⟩, Bw, Dr⟩ := h
 obtain ⟨_, _, ⟨es, cl, hq, _⟩, _⟩ := hf
 have key : ∀ (g o : Nat) (v : Value), w.cell? ⟨g, o, none⟩ = some v → w'.cell? ⟨g, o, none⟩ = some v := fun g o v hs => by
  have CM := World.block_lt_of_cell? w _ hs
  have Fh : g ≠ q := fun e2 => by
   subst e2
   unfold World.cell? at hs
   rw [hq] at hs
   cases hs
  rw [← hs]
  unfold World.cell?
  rw [hg.block g CM (by simpa using Fh)]
 have row : ∀ {α : Type} {enc : α → List Int} {v : Value} {L : List α}, AG enc w v L → AG enc w' v L := fun h => by
  obtain ⟨A, c, e, h1, h2, h3, hh⟩ := h
  refine ⟨A, c, e, h1, h2, h3, fun j hj => ?_⟩
  obtain ⟨g, o, e, hc⟩ := hh j hj
  refine ⟨g, o, e, ?_⟩
  rw [List.getElem?_eq_getElem hj] at hc ⊢
  exact key g (o + j) _ hc
 exact ⟨hc, ⟨vi, vo, k.grown hg (by simp; omega), ⟨row AN, Ch⟩, row AD, BM⟩, Bw.kept hg (by
  cases m with
  | none => exact .inl rfl
  | some p => have := hm p rfl; exact .inr (by simp; omega)), Dr⟩
theorem Qr [Dw] (w : World) (b : Nat) (m : Option Nat) (c : Cl) (h : Bn w b m c)(p : AZ) (hp : p.ok) (hr : Bg p = true) (hk : p.fld 0 = 11) : Calls Tryz.prog 56 #[.pointer (some ⟨b, 0, none⟩), .agg (pv p)] w fun e w' => (∃ v, e = .returned v ∧ AK w' w.heap.size v []) ∧ Bn w' b m (Hi c p) ∧ Bi b m w w' := by
 obtain ⟨hc, ⟨vi, vo, k, ⟨AN, Ch⟩, AD, BM⟩, Bw, Dr⟩ := h
 have AM := hc.ck
 have AO := hc.key
 have IF := hc.now
 have Gu := hc.seq
 have Jf := hc.beats
 have IE := hc.nonce
 have Aa := Bi.refl b m w
 obtain ⟨Ao, co, Su⟩ := CY AD
 subst Su
 refine Az 81 Tryz.func56 R R λ a H => zC (zD (B7 36 (.tmp 1) (pv p) (H.e R) fun w0 b0 Ak hb k0 => ?_))
 have g0 := Nat.le_trans Aa.size Ak; have PF : b < b0 := Nat.lt_of_lt_of_le k.lt Ak; replace k := k.ups hb; replace AN := AG.up AN hb; replace AD := AG.up AD hb; replace Bw := AW.ups Bw hb; replace Aa := Aa.tr hb; clear hb; clear Ak; refine kL 1 H rfl λ a H => zA (zB (zC (zD (kR 4 H rfl λ a H => zA (zB (zC (zC ?_)))))))
 by_cases Ah : Fm c p = true
 ·
  by_cases hL : c.os.length = 0
  ·
   have Gf := Aa
   refine rB 22 (.fl 0 (.fl 1 (.one 2 (Dn [3, 4, 5, 6, 7, 8, 9, 10, 11, 12, 13, 14, 15, 16, 17, 18, 19, 20, 21] .done)))) fun hS => kQ 1 H R λ a H => kF H R R (fun w' Aj => Af b0 36 _ _ (H.e R) (Ad.ups k0 Aj) C1 R (AR hp)) R λ a H => Al (fun K hK => A7 R (kD (Kz _ b m c p vi _ hc (Ad.ups k hS) hp) (AA XD (H.e R) (H.e R)) fun w9 hb => ?_))
   rw [Ah]; replace hS := Below.trans hS (Below.mono hb (Below.size hS)); clear hb; refine kS 0 hK hS H rfl λ a H => ?_; clear hK K
   refine kE 4 H R R (fun w' Aj => Bs (H.e R) R) R λ a H => kF H R R (fun w' Aj => Ai FG R (H.e R) ((show _ = some (.slice Ao c.os.length co : Value) from HW (c := c) AM AO (Ad.ups k Aj)))) R λ a H => kF H R R (fun w' Aj => Ba FG (H.e R)) R λ a H => kE 11 H R R (fun w' Aj => A9 U3 (H.e R) Am dT) R λ a H => Aw (NoPanic.normal ?_)
   replace k := Ad.ups k hS
   replace AN := AG.up AN hS
   replace AD := AG.up AD hS
   replace Bw := AW.ups Bw hS
   replace k0 := Ad.ups k0 hS
   replace Aa := Aa.trans (Below.mono hS Aa.size)
   clear hS
   refine zB (zH H R (zC (zD (kR 1 H R λ a H => zA (zB (zF (zJ ?_)))))))
   have e : Hi c p = c := Qs (List.eq_nil_of_length_eq_zero hL)
   rw [e]
   exact Ag H R R ⟨⟨_, R, Bd⟩, ⟨hc, ⟨_, _, k, ⟨AN, Ch⟩, AD, BM⟩, Bw, Dr⟩, Aa⟩
  ·
   obtain ⟨o, l, UW⟩ : ∃ o l, c.os = o :: l := by
    cases he : c.os with
    | nil => exact absurd (by rw [he]; rfl) hL
    | cons o l => exact ⟨o, l, rfl⟩
   have HOS := Lib.hid UW
   have aG : c.os.length = l.length + 1 := by rw [UW]; rfl
   clear UW
   have Gf := Aa
   refine rB 22 (.fl 0 (.fl 1 (.one 2 (Dn [3, 4, 5, 6, 7, 8, 9, 10, 11, 12, 13, 14, 15, 16, 17, 18, 19, 20, 21] .done)))) fun hS => kQ 1 H R λ a H => kF H R R (fun w' Aj => Af b0 36 _ _ (H.e R) (Ad.ups k0 Aj) C1 R (AR hp)) R λ a H => Al (fun K hK => A7 R (kD (Kz _ b m c p vi _ hc (Ad.ups k hS) hp) (AA XD (H.e R) (H.e R)) fun w9 hb => ?_))
   rw [Ah]; replace hS := Below.trans hS (Below.mono hb (Below.size hS)); clear hb; refine kS 0 hK hS H rfl λ a H => ?_; clear hK K
   refine kE 4 H R R (fun w' Aj => Bs (H.e R) R) R λ a H => kF H R R (fun w' Aj => Ai FG R (H.e R) ((show _ = some (.slice Ao c.os.length co : Value) from HW (c := c) AM AO (Ad.ups k Aj)))) R λ a H => kF H R R (fun w' Aj => Ba FG (H.e R)) R λ a H => kE 3 H R R (fun w' Aj => A9 U3 (H.e R) Am dF) R λ a H => kE 2 H R R (fun w' Aj => Ai U3 R (H.e R) (AB (Ad.ups k0 Aj) (AQ hp (j := 2) (by omega)))) R λ a H => kF H R R (fun w' Aj => Br (q := 22 + 18) Ml (H.e R) R) R λ a H => kF H R R (fun w' Aj => Ai U3 R (H.e R) ((show _ = some (J (c.seq)) from X9 (c := c) AM AO (Ad.ups k Aj)))) R λ a H => kF H R R (fun w' Aj => Bm (q := (c.seq) + 1) U3 (H.e R) Am (by omega) (by omega)) R λ a H => ?_
   by_cases BE : (p.fld 2) ≠ ((c.seq) + 1)
   ·
    refine kE 1 H R R (fun w' Aj => E6 U3 (H.e R) (H.e R) (AE (BE))) R λ a H => Aw (NoPanic.normal ?_)
    replace k := Ad.ups k hS
    replace AN := AG.up AN hS
    replace AD := AG.up AD hS
    replace Bw := AW.ups Bw hS
    replace k0 := Ad.ups k0 hS
    replace Aa := Aa.trans (Below.mono hS Aa.size)
    clear hS
    refine zB (zH H R (zC (zD (kR 1 H R λ a H => zA (zB (zF (zJ ?_)))))))
    have e : Hi c p = c := Ma (.inr (by omega))
    rw [e]
    exact Ag H R R ⟨⟨_, R, Bd⟩, ⟨hc, ⟨_, _, k, ⟨AN, Ch⟩, AD, BM⟩, Bw, Dr⟩, Aa⟩
   ·
    refine kE 1 H R R (fun w' Aj => E6 U3 (H.e R) (H.e R) (AF (BE))) R λ a H => Aw (NoPanic.normal ?_)
    replace k := Ad.ups k hS
    replace AN := AG.up AN hS
    replace AD := AG.up AD hS
    replace Bw := AW.ups Bw hS
    replace k0 := Ad.ups k0 hS
    replace Aa := Aa.trans (Below.mono hS Aa.size)
    clear hS
    refine zB (zG H R (zE (zB (zC ?_))))
    obtain ⟨bo, oo, hA, KO⟩ := CK Cr (BW AD) (by omega) (j := 0) (by omega)
    subst hA
    have dO := (fx BM) _ _ _ rfl bo oo rfl
    have aB := AD.slice_le
    rw [show c.os[0] = o by simp [HOS.out]] at KO
    refine zD (kR 3 H R λ a H => kV H (Ai FG R (H.e R) ((show _ = some (.slice (some ⟨bo, oo, none⟩) c.os.length co : Value) from HW (c := c) AM AO k))) R λ a H => kV (v := .pointer (some ⟨bo, oo + 0 * 4, none⟩)) H (Bq (j := 0) (q := oo + 0 * 4) FG JY (H.e R) Am (by omega) R) R λ a H => kV H (Br (q := oo + 0 * 4) Zo (H.e R) R) R λ a H => kV H (Ai U3 R (H.e R) (Bo KO 0 R)) R λ a H => ?_)
    by_cases Cn : o.1 = 10
    ·
     refine kX 1 H (A9 U3 (H.e R) Am (AE (Cn))) R λ a H => zA (zB (zC (zD (kR 4 H R λ a H => kV H (Ai FG R (H.e R) ((show _ = some (.slice (some ⟨bo, oo, none⟩) c.os.length co : Value) from HW (c := c) AM AO k))) R λ a H => kX 2 (v := .slice (C6 (some ⟨bo, oo, none⟩) co 1 4) l.length (co - 1)) H (BS FG (.slice (some ⟨bo, oo, none⟩) c.os.length co) (some (J (1 : Nat))) none none (H.e R) R R R (CF 1 c.os.length FG JY _ _ (.inr R) (.inl ⟨R, R⟩) (by omega) (by omega) R (by omega) R)) R λ a H => Gb (new := Dm c vi (.slice (C6 (some ⟨bo, oo, none⟩) co 1 4) l.length (co - 1)) m) (H.e R) (H.e R) k ZK (FT AM AO R) oS (VX AM AO) Aa H fun w' hb ho k Aa a H => ?_))))
     replace AN := AG.store AN (fx Ch) ho; have Lk : Id _ (.slice (C6 (some ⟨bo, oo, none⟩) co 1 4) l.length (co - 1)) l := (AG.tl HOS.out aG AD).store (Ct.tl (fx BM)) ho; clear AD; have AD := Lk; clear Lk; have Hk : Ct (Dw.lim b) (.slice (C6 (some ⟨bo, oo, none⟩) co 1 4) l.length (co - 1)) := Ct.tl BM; clear BM; have BM := Hk; clear Hk; replace Bw := AW.store Bw Dr hb ho; replace k0 := Ae k0 (ho _ (by omega)); clear hb ho
     refine zA (zB (zC ?_))
     clear KO
     have Fp := Aa
     have hS : Cz b (Cy Fp) _ := Ed _ _
     refine rT (Cz b (Cy Fp)) 20 (Dn [0, 1, 2, 3, 4, 5, 6, 7, 8, 9, 10, 11, 12] (.one 13 (.fl 14 (.fl 15 (.one 16 (.fl 17 (.fl 18 (.one 19 .done)))))))) hS ?_
     have Nw := BB (c := c) AM AO k
     have Mh := k0
     replace k := Ad.ups k (Below.drew (Below.refl _ _))
     replace AN := AG.up AN (Below.drew (Below.refl _ _))
     replace AD := AG.up AD (Below.drew (Below.refl _ _))
     replace Bw := AW.ups Bw (Below.drew (Below.refl _ _))
     replace k0 := Ad.ups k0 (Below.drew (Below.refl _ _))
     replace Aa := Aa.trans (Below.drew (Below.refl _ _))
     refine kQ 4 H R λ a H => kE 3 H R R (fun w' Aj => Ai U3 R (H.e R) (AB (Ad.grown Mh Aj.1 (by simp; omega)) (AQ hp (j := 2) (by omega)))) R λ a H => kE 1 H R R (fun w' Aj => Ai U3 R (H.e R) (((Aj.2.trans Nw : _ = some (J (c.now)))))) R λ a H => kE 1 H R R (fun w' Aj => Ai U3 R (H.e R) (AB (Ad.grown Mh Aj.1 (by simp; omega)) (AQ hp (j := 4) (by omega)))) R λ a H => kF H R R (fun w' Aj => Br (q := 22 + 18) Ml (H.e R) R) R λ a H => Al (fun K hK => A7 R ?_)
     have Cm := BB (c := c) AM AO k; refine AX 3 (.tmp 60) (.tmp 52) b 40 76 (J (p.fld 2)) _ (H.ev rfl) (H.ev rfl) k s3 (by rw [Cc (c := c) AM AO]; show 40 + 1 ≤ 48; omega) (by simp [Value.cells, Value.oneCell']) fun w' hb ho kq => ?_; clear k; rw [VW (c := c) AM AO] at kq; have k : Ad _ b 76 (Dm { c with seq := (p.fld 2) } vi (.slice (C6 (some ⟨bo, oo, none⟩) co 1 4) l.length (co - 1)) m) := kq; replace AN := AG.store AN (fx Ch) ho; replace AD := AG.store AD (fx BM) ho; replace Bw := AW.store Bw Dr (hb b (Nat.le_refl _)) ho; replace k0 := Ae k0 (ho _ (by omega)); replace Aa := Aa.store (hb b (Nat.le_refl _)) ho; replace hS := Cz.store hS (hb b (Nat.le_refl _)) ho ((BB (c := { c with seq := (p.fld 2) }) AM AO k).trans Cm.symm); clear Cm; clear hb ho kq; refine kU 1 hK hS H rfl λ a H => ?_; clear hK K
     refine kF H R R (fun w' Aj => Br (q := 22 + 20) Mk (H.e R) R) R λ a H => Al (fun K hK => A7 R ?_)
     have Cm := BB (c := { c with seq := (p.fld 2) }) AM AO k; refine AX 3 (.tmp 62) (.tmp 56) b 42 76 (J (c.now)) _ (H.ev rfl) (H.ev rfl) k s3 (by rw [Cc (c := { c with seq := (p.fld 2) }) AM AO]; show 42 + 1 ≤ 48; omega) (by simp [Value.cells, Value.oneCell']) fun w' hb ho kq => ?_; clear k; rw [RO (c := { c with seq := (p.fld 2) }) AM AO] at kq; have k : Ad _ b 76 (Dm { c with seq := (p.fld 2), say := (c.now) } vi (.slice (C6 (some ⟨bo, oo, none⟩) co 1 4) l.length (co - 1)) m) := kq; replace AN := AG.store AN (fx Ch) ho; replace AD := AG.store AD (fx BM) ho; replace Bw := AW.store Bw Dr (hb b (Nat.le_refl _)) ho; replace k0 := Ae k0 (ho _ (by omega)); replace Aa := Aa.store (hb b (Nat.le_refl _)) ho; replace hS := Cz.store hS (hb b (Nat.le_refl _)) ho ((BB (c := { c with seq := (p.fld 2), say := (c.now) }) AM AO k).trans Cm.symm); clear Cm; clear hb ho kq; refine kU 2 hK hS H rfl λ a H => ?_; clear hK K
     refine Al (fun K hK => A7 R ?_)
     have Cm := BB (c := { c with seq := (p.fld 2), say := (c.now) }) AM AO k; refine AX 46 (.tmp 64) (.tmp 58) b 47 76 (J (p.fld 4)) _ (H.ev rfl) (H.ev rfl) k Wr (by rw [Cc (c := { c with seq := (p.fld 2), say := (c.now) }) AM AO]; show 47 + 1 ≤ 48; omega) (by simp [Value.cells, Value.oneCell']) fun w' hb ho kq => ?_; clear k; rw [Kc (c := { c with seq := (p.fld 2), say := (c.now) }) AM AO] at kq; have k : Ad _ b 76 (Dm { c with seq := (p.fld 2), say := (c.now), code := (p.fld 4) } vi (.slice (C6 (some ⟨bo, oo, none⟩) co 1 4) l.length (co - 1)) m) := kq; replace AN := AG.store AN (fx Ch) ho; replace AD := AG.store AD (fx BM) ho; replace Bw := AW.store Bw Dr (hb b (Nat.le_refl _)) ho; replace k0 := Ae k0 (ho _ (by omega)); replace Aa := Aa.store (hb b (Nat.le_refl _)) ho; replace hS := Cz.store hS (hb b (Nat.le_refl _)) ho ((BB (c := { c with seq := (p.fld 2), say := (c.now), code := (p.fld 4) }) AM AO k).trans Cm.symm); clear Cm; clear hb ho kq; refine kU 0 hK hS H rfl λ a H => ?_; clear hK K
     refine Aw (NoPanic.normal ?_)
     clear hS Nw Mh
     refine zB (zC (zC (zD (kR 1 H R λ a H => zA (zB (zH H R (rB 15 (Dn [0, 1, 2, 3, 4, 5, 6, 7, 8, 9, 10, 11, 12, 13, 14] (.one 15 .done)) fun hS => kQ 4 H R λ a H => kE 3 H R R (fun w' Aj => Ai U3 R (H.e R) ((show _ = some (J (c.user)) from P4 (c := { c with seq := (p.fld 2), say := (c.now), code := (p.fld 4) }) AM AO (Ad.ups k Aj)))) R λ a H => kE 3 H R R (fun w' Aj => Ai PA R (H.e R) ((show _ = some (Value.map m) from Ev (c := { c with seq := (p.fld 2), say := (c.now), code := (p.fld 4) }) AM AO (Ad.ups k Aj)))) R λ a H => kF H R R (fun w' Aj => Ai O8 R (H.e R) ((show _ = some (J ((p.fld 4))) from TZ (c := { c with seq := (p.fld 2), say := (c.now), code := (p.fld 4) }) AM AO (Ad.ups k Aj)))) R λ a H => kE 1 (v := .agg (Dm { G3 c.user with vw := c.vw, code := p.fld 4 } (.slice none 0 0) (.slice none 0 0) m)) H R R (fun w' Aj => Bl #[(0, J (c.user)), (9, .map m), (10, J (p.fld 4))] (.agg (Dm { G3 c.user with vw := c.vw, code := p.fld 4 } (.slice none 0 0) (.slice none 0 0) m)) (by simp [H.ev (j := 70) R, H.ev (j := 74) R, H.ev (j := 78) R]) (fun w => by kernel_rfl)) R λ a H => Al (fun K hK => ?_))))))))
     replace k := Ad.ups k hS
     replace AN := AG.up AN hS
     replace AD := AG.up AD hS
     replace Bw := AW.ups Bw hS
     replace k0 := Ad.ups k0 hS
     replace Aa := Aa.trans (Below.mono hS Aa.size)
     refine A7 R (CW 76 (.tmp 80) (.tmp 79) b 76 (Dm { G3 c.user with vw := c.vw, code := p.fld 4 } (.slice none 0 0) (.slice none 0 0) m) _ (H.e R) (H.e R) k (fM R R) (by rw [Cc (c := { c with seq := (p.fld 2), say := (c.now), code := (p.fld 4) }) AM AO, Cc (c := { G3 c.user with vw := c.vw, code := p.fld 4 }) R R]) (Ua R R) fun w' hb ho kq => ?_); clear k; have k := kq; replace AN := AG.store AN (fx Ch) ho; replace AD := AG.store AD (fx BM) ho; replace Bw := AW.store Bw Dr (hb b (Nat.le_refl _)) ho; replace k0 := Ae k0 (ho _ (by omega)); replace Aa := Aa.store (hb b (Nat.le_refl _)) ho; clear hb ho kq; refine hK _ _ ⟨(fun h => absurd R h), ?_⟩; clear hK K hS
     refine Aw (NoPanic.normal (zB (zC (zD (kR 1 H R λ a H => zA (zB (zF ?_)))))))
     have e : Hi c p = Gp c p o l := Km HOS.out ⟨Ah, by omega⟩
     have Ca := Pb hc hr hk
     rw [e, Gp, if_pos (by omega)] at Ca
     rw [e, Gp, if_pos (by omega)]
     exact Ag H R R ⟨⟨_, R, Bd⟩, ⟨Ca, ⟨_, _, k, ⟨AG.nil, Cj⟩, AG.nil, Cj⟩, Bw, Dr⟩, Aa⟩
    ·
     refine kX 1 H (A9 U3 (H.e R) Am (AF (Cn))) R λ a H => zA (zB (zC (zD (kR 4 H R λ a H => kV H (Ai FG R (H.e R) ((show _ = some (.slice (some ⟨bo, oo, none⟩) c.os.length co : Value) from HW (c := c) AM AO k))) R λ a H => kX 2 (v := .slice (C6 (some ⟨bo, oo, none⟩) co 1 4) l.length (co - 1)) H (BS FG (.slice (some ⟨bo, oo, none⟩) c.os.length co) (some (J (1 : Nat))) none none (H.e R) R R R (CF 1 c.os.length FG JY _ _ (.inr R) (.inl ⟨R, R⟩) (by omega) (by omega) R (by omega) R)) R λ a H => Gb (new := Dm c vi (.slice (C6 (some ⟨bo, oo, none⟩) co 1 4) l.length (co - 1)) m) (H.e R) (H.e R) k ZK (FT AM AO R) oS (VX AM AO) Aa H fun w' hb ho k Aa a H => ?_))))
     replace AN := AG.store AN (fx Ch) ho; have Lk : Id _ (.slice (C6 (some ⟨bo, oo, none⟩) co 1 4) l.length (co - 1)) l := (AG.tl HOS.out aG AD).store (Ct.tl (fx BM)) ho; clear AD; have AD := Lk; clear Lk; have Hk : Ct (Dw.lim b) (.slice (C6 (some ⟨bo, oo, none⟩) co 1 4) l.length (co - 1)) := Ct.tl BM; clear BM; have BM := Hk; clear Hk; replace Bw := AW.store Bw Dr hb ho; replace k0 := Ae k0 (ho _ (by omega)); clear hb ho
     refine zA (zB (zC ?_))
     clear KO
     have Fp := Aa
     have hS : Cz b (Cy Fp) _ := Ed _ _
     refine rT (Cz b (Cy Fp)) 20 (Dn [0, 1, 2, 3, 4, 5, 6, 7, 8, 9, 10, 11, 12] (.one 13 (.fl 14 (.fl 15 (.one 16 (.fl 17 (.fl 18 (.one 19 .done)))))))) hS ?_
     have Nw := BB (c := c) AM AO k
     have Mh := k0
     replace k := Ad.ups k (Below.drew (Below.refl _ _))
     replace AN := AG.up AN (Below.drew (Below.refl _ _))
     replace AD := AG.up AD (Below.drew (Below.refl _ _))
     replace Bw := AW.ups Bw (Below.drew (Below.refl _ _))
     replace k0 := Ad.ups k0 (Below.drew (Below.refl _ _))
     replace Aa := Aa.trans (Below.drew (Below.refl _ _))
     refine kQ 4 H R λ a H => kE 3 H R R (fun w' Aj => Ai U3 R (H.e R) (AB (Ad.grown Mh Aj.1 (by simp; omega)) (AQ hp (j := 2) (by omega)))) R λ a H => kE 1 H R R (fun w' Aj => Ai U3 R (H.e R) (((Aj.2.trans Nw : _ = some (J (c.now)))))) R λ a H => kE 1 H R R (fun w' Aj => Ai U3 R (H.e R) (AB (Ad.grown Mh Aj.1 (by simp; omega)) (AQ hp (j := 4) (by omega)))) R λ a H => kF H R R (fun w' Aj => Br (q := 22 + 18) Ml (H.e R) R) R λ a H => Al (fun K hK => A7 R ?_)
     have Cm := BB (c := c) AM AO k; refine AX 3 (.tmp 60) (.tmp 52) b 40 76 (J (p.fld 2)) _ (H.ev rfl) (H.ev rfl) k s3 (by rw [Cc (c := c) AM AO]; show 40 + 1 ≤ 48; omega) (by simp [Value.cells, Value.oneCell']) fun w' hb ho kq => ?_; clear k; rw [VW (c := c) AM AO] at kq; have k : Ad _ b 76 (Dm { c with seq := (p.fld 2) } vi (.slice (C6 (some ⟨bo, oo, none⟩) co 1 4) l.length (co - 1)) m) := kq; replace AN := AG.store AN (fx Ch) ho; replace AD := AG.store AD (fx BM) ho; replace Bw := AW.store Bw Dr (hb b (Nat.le_refl _)) ho; replace k0 := Ae k0 (ho _ (by omega)); replace Aa := Aa.store (hb b (Nat.le_refl _)) ho; replace hS := Cz.store hS (hb b (Nat.le_refl _)) ho ((BB (c := { c with seq := (p.fld 2) }) AM AO k).trans Cm.symm); clear Cm; clear hb ho kq; refine kU 1 hK hS H rfl λ a H => ?_; clear hK K
     refine kF H R R (fun w' Aj => Br (q := 22 + 20) Mk (H.e R) R) R λ a H => Al (fun K hK => A7 R ?_)
     have Cm := BB (c := { c with seq := (p.fld 2) }) AM AO k; refine AX 3 (.tmp 62) (.tmp 56) b 42 76 (J (c.now)) _ (H.ev rfl) (H.ev rfl) k s3 (by rw [Cc (c := { c with seq := (p.fld 2) }) AM AO]; show 42 + 1 ≤ 48; omega) (by simp [Value.cells, Value.oneCell']) fun w' hb ho kq => ?_; clear k; rw [RO (c := { c with seq := (p.fld 2) }) AM AO] at kq; have k : Ad _ b 76 (Dm { c with seq := (p.fld 2), say := (c.now) } vi (.slice (C6 (some ⟨bo, oo, none⟩) co 1 4) l.length (co - 1)) m) := kq; replace AN := AG.store AN (fx Ch) ho; replace AD := AG.store AD (fx BM) ho; replace Bw := AW.store Bw Dr (hb b (Nat.le_refl _)) ho; replace k0 := Ae k0 (ho _ (by omega)); replace Aa := Aa.store (hb b (Nat.le_refl _)) ho; replace hS := Cz.store hS (hb b (Nat.le_refl _)) ho ((BB (c := { c with seq := (p.fld 2), say := (c.now) }) AM AO k).trans Cm.symm); clear Cm; clear hb ho kq; refine kU 2 hK hS H rfl λ a H => ?_; clear hK K
     refine Al (fun K hK => A7 R ?_)
     have Cm := BB (c := { c with seq := (p.fld 2), say := (c.now) }) AM AO k; refine AX 46 (.tmp 64) (.tmp 58) b 47 76 (J (p.fld 4)) _ (H.ev rfl) (H.ev rfl) k Wr (by rw [Cc (c := { c with seq := (p.fld 2), say := (c.now) }) AM AO]; show 47 + 1 ≤ 48; omega) (by simp [Value.cells, Value.oneCell']) fun w' hb ho kq => ?_; clear k; rw [Kc (c := { c with seq := (p.fld 2), say := (c.now) }) AM AO] at kq; have k : Ad _ b 76 (Dm { c with seq := (p.fld 2), say := (c.now), code := (p.fld 4) } vi (.slice (C6 (some ⟨bo, oo, none⟩) co 1 4) l.length (co - 1)) m) := kq; replace AN := AG.store AN (fx Ch) ho; replace AD := AG.store AD (fx BM) ho; replace Bw := AW.store Bw Dr (hb b (Nat.le_refl _)) ho; replace k0 := Ae k0 (ho _ (by omega)); replace Aa := Aa.store (hb b (Nat.le_refl _)) ho; replace hS := Cz.store hS (hb b (Nat.le_refl _)) ho ((BB (c := { c with seq := (p.fld 2), say := (c.now), code := (p.fld 4) }) AM AO k).trans Cm.symm); clear Cm; clear hb ho kq; refine kU 0 hK hS H rfl λ a H => ?_; clear hK K
     refine Aw (NoPanic.normal ?_)
     clear hS Nw Mh
     refine zB (zC (zC (zD (kR 1 H R λ a H => zA (zB (zG H R (zE (zB (zC (zD (kR 1 H R λ a H => zA (zB (zF ?_)))))))))))))
     have e : Hi c p = Gp c p o l := Km HOS.out ⟨Ah, by omega⟩
     have Ca := Pb hc hr hk
     rw [e, Gp, if_neg (by omega)] at Ca
     rw [e, Gp, if_neg (by omega)]
     exact Ag H R R ⟨⟨_, R, Bd⟩, ⟨Ca, ⟨_, _, k, ⟨AN, Ch⟩, AD, BM⟩, Bw, Dr⟩, Aa⟩
 ·
  refine rB 22 (.fl 0 (.fl 1 (.one 2 (Dn [3, 4, 5, 6, 7, 8, 9, 10, 11, 12, 13, 14, 15, 16, 17, 18, 19, 20, 21] .done)))) fun hS => kQ 1 H R λ a H => kF H R R (fun w' Aj => Af b0 36 _ _ (H.e R) (Ad.ups k0 Aj) C1 R (AR hp)) R λ a H => Al (fun K hK => A7 R (kD (Kz _ b m c p vi _ hc (Ad.ups k hS) hp) (AA XD (H.e R) (H.e R)) fun w9 hb => ?_))
  rw [show Fm c p = false by simpa using Ah]; replace hS := Below.trans hS (Below.mono hb (Below.size hS)); clear hb; refine kS 0 hK hS H rfl λ a H => ?_; clear hK K
  refine kE 18 H R R (fun w' Aj => Bs (H.e R) R) R λ a H => Aw (NoPanic.normal ?_)
  replace k := Ad.ups k hS
  replace AN := AG.up AN hS
  replace AD := AG.up AD hS
  replace Bw := AW.ups Bw hS
  replace k0 := Ad.ups k0 hS
  replace Aa := Aa.trans (Below.mono hS Aa.size)
  clear hS
  refine zB (zH H R (zC (zD (kR 1 H R λ a H => zA (zB (zF (zJ ?_)))))))
  have e : Hi c p = c := Ma (.inl Ah)
  rw [e]
  exact Ag H R R ⟨⟨_, R, Bd⟩, ⟨hc, ⟨_, _, k, ⟨AN, Ch⟩, AD, BM⟩, Bw, Dr⟩, Aa⟩
theorem PQ [Dw] (w : World) (b : Nat) (m : Option Nat) (c : Cl) (h : Bn w b m c) (vb : Value) (bs : List B8) (Jh : B9 w vb bs) (fE : bs.length ≤ 1000000) (hX : Dw.lim b ≤ w.heap.size) : Calls Tryz.prog 23 #[.pointer (some ⟨b, 0, none⟩), vb] w fun e w' => (∃ v, e = .returned v ∧ AK w' w.heap.size v (DQ c bs)) ∧ (∃ m', Bn w' b m' (DR c bs) ∧ Eg w m m') ∧ Bi b m w w' := by
 have Be := h
 have hmW : ∀ q, m = some q → q < w.heap.size := fun q e => h.mp.lt e
 have Aa := Bi.refl b m w
 refine Az 35 Tryz.func23 R R λ a H => zC (zD (kR 1 H R λ a H => zA (zB (zC (zD (kR 1 H R λ a H => A8 _ _ _ (Zt _ vb bs Jh fE) (Av tG (H.e R)) ?_))))))
 rintro e w9 ⟨rfl, hb⟩; refine ⟨_, rfl, ?_⟩; clear Jh; replace Be := Bn.up Be hb; replace Aa := Aa.tr hb; clear hb; have EJ : (GQ bs).ok := TW bs; obtain ⟨p, Xf⟩ : ∃ p, GQ bs = p := ⟨_, rfl⟩; rw [Xf] at EJ; rw [Xf]; have HP := Lib.hid Xf; clear Xf; refine kL 3 H rfl λ a H => De 36 5 (.tmp 11) (pv p) _ Jn (AR EJ) (by rw [AI Bz, AI EJ]) (BU _) (fun p => (H.put 5 p rfl).ev rfl) (fun p => (H.put 5 p rfl).ev rfl) fun w0 b0 Ak hb k0 => ?_
 have g0 := Nat.le_trans Aa.size Ak; replace Be := Bn.up Be hb; replace Aa := Aa.tr hb; clear hb; clear Ak; refine kL 1 H rfl λ a H => zA (zB (zC (zC ?_)))
 by_cases Hl : ID bs = 0
 ·
  obtain ⟨hr, -⟩ := Ov Hl
  rw [HP.out] at hr
  refine zD (kR 1 H R λ a H => kV H (E6 O8 (H.e R) Am dF) R λ a H => zA (zB (zG H R (zE (zB (zC ?_))))))
  have fB := k0.lt
  have hkw : (Lit.int .i64 (p.fld 0)).wf = true := Fc (SJ EJ 0)
  obtain ⟨fv, Pq⟩ : ∃ fv, iH b (p.fld 0) = fv := ⟨_, rfl⟩
  have Sw : ∀ q, m = some q → q < w.heap.size := hmW
  refine zD (YH fun w1 q0 Ak hb Mi => ?_)
  have gq := Nat.le_trans Aa.size Ak; have cZ := Nat.lt_of_lt_of_le Be.lt Ak; have h0q := Nat.lt_of_lt_of_le k0.lt Ak; replace Be := Bn.up Be hb; replace k0 := k0.ups hb; replace Aa := Aa.tr hb; clear hb Ak; refine kL 1 H rfl λ a H => kV (v := .func (.func 52) #[.pointer (some ⟨b, 0, none⟩)] #[]) H (Kq (H.ev rfl)) rfl λ a H => ?_
  obtain ⟨wn, Df, K9, FK⟩ := JB.put Mi 2 (.func (.func 52) #[.pointer (some ⟨b, 0, none⟩)] #[]) (by decide) (by omega); refine VK wn (IT Df (H.ev rfl) Am (H.ev rfl)) ?_; replace Be := Bn.offm Be Mi FK cZ Sw gq; clear Mi; have Mi := K9; clear K9; replace k0 := Ad.grown k0 FK (by simp; omega); replace Aa := Bi.grownm Aa FK (.inr gq); clear FK Df; refine Dz H λ a H => ?_
  refine kR 1 H R λ a H => kV (v := .func (.func 53) #[.pointer (some ⟨b, 0, none⟩)] #[]) H (Kq (H.e R)) R λ a H => ?_
  obtain ⟨wn, Df, K9, FK⟩ := JB.put Mi 4 (.func (.func 53) #[.pointer (some ⟨b, 0, none⟩)] #[]) (by decide) (by omega); refine VK wn (IT Df (H.ev rfl) Am (H.ev rfl)) ?_; replace Be := Bn.offm Be Mi FK cZ Sw gq; clear Mi; have Mi := K9; clear K9; replace k0 := Ad.grown k0 FK (by simp; omega); replace Aa := Bi.grownm Aa FK (.inr gq); clear FK Df; refine Dz H λ a H => ?_
  refine kR 1 H R λ a H => kV (v := .func (.func 54) #[.pointer (some ⟨b, 0, none⟩)] #[]) H (Kq (H.e R)) R λ a H => ?_
  obtain ⟨wn, Df, K9, FK⟩ := JB.put Mi 12 (.func (.func 54) #[.pointer (some ⟨b, 0, none⟩)] #[]) (by decide) (by omega); refine VK wn (IT Df (H.ev rfl) Am (H.ev rfl)) ?_; replace Be := Bn.offm Be Mi FK cZ Sw gq; clear Mi; have Mi := K9; clear K9; replace k0 := Ad.grown k0 FK (by simp; omega); replace Aa := Bi.grownm Aa FK (.inr gq); clear FK Df; refine Dz H λ a H => ?_
  refine kR 1 H R λ a H => kV (v := .func (.func 55) #[.pointer (some ⟨b, 0, none⟩)] #[]) H (Kq (H.e R)) R λ a H => ?_
  obtain ⟨wn, Df, K9, FK⟩ := JB.put Mi 8 (.func (.func 55) #[.pointer (some ⟨b, 0, none⟩)] #[]) (by decide) (by omega); refine VK wn (IT Df (H.ev rfl) Am (H.ev rfl)) ?_; replace Be := Bn.offm Be Mi FK cZ Sw gq; clear Mi; have Mi := K9; clear K9; replace k0 := Ad.grown k0 FK (by simp; omega); replace Aa := Bi.grownm Aa FK (.inr gq); clear FK Df; refine Dz H λ a H => ?_
  refine kR 1 H R λ a H => kV (v := .func (.func 56) #[.pointer (some ⟨b, 0, none⟩)] #[]) H (Kq (H.e R)) R λ a H => ?_
  obtain ⟨wn, Df, K9, FK⟩ := JB.put Mi 11 (.func (.func 56) #[.pointer (some ⟨b, 0, none⟩)] #[]) (by decide) (by omega); refine VK wn (IT Df (H.ev rfl) Am (H.ev rfl)) ?_; replace Be := Bn.offm Be Mi FK cZ Sw gq; clear Mi; have Mi := K9; clear K9; replace k0 := Ad.grown k0 FK (by simp; omega); replace Aa := Bi.grownm Aa FK (.inr gq); clear FK Df; refine Dz H λ a H => ?_
  refine kR 2 H R λ a H => kV H (Ai U3 R (H.e R) (AB k0 (AQ EJ (j := 0) (by omega)))) R λ a H => Fr fv (Y2 Mi hkw (H.e R) (H.e R) Pq) (kL 1 H R λ a H => zA (zB (zC (zC ?_))))
  clear Mi
  by_cases UZ : p.fld 0 = 2
  ·
   have GM : fv = .func (.func 52) #[.pointer (some ⟨b, 0, none⟩)] #[] := by rw [← Pq, UZ]; rfl
   subst GM
   clear Pq
   refine zD (kR 1 H R λ a H => kV (v := .bool false) H (Kr (H.e R)) R λ a H => zA (zB (zG H R (zE (zB (zC (zD (kR 1 H R λ a H => kV H (Af b0 36 _ _ (H.e R) k0 C1 R (AR EJ)) R λ a H => A8 _ _ _ (Rq _ b m c Be p EJ hr UZ) (Ks tD (H.e R) (H.e R)) ?_))))))))
   rintro e w9 ⟨⟨v, rfl, D1⟩, GN, CD⟩; refine ⟨_, rfl, ?_⟩; clear Be; replace D1 := AK.base D1 Aa.size; replace Aa := Bi.comp Aa (Eg.same _ _) CD; have MX := Eg.same w m; exact kL 1 H rfl λ a H => zA (zB (zF (Ag H rfl rfl ⟨⟨_, rfl, by rw [DQ, if_pos Hl, HP.out, Ho, if_pos UZ]; exact D1⟩, ⟨m, by rw [DR, if_pos Hl, HP.out, Hp, if_pos UZ]; exact GN, MX⟩, Aa⟩)))
  ·
   by_cases aJ : p.fld 0 = 4
   ·
    have GM : fv = .func (.func 53) #[.pointer (some ⟨b, 0, none⟩)] #[] := by rw [← Pq, aJ]; rfl
    subst GM
    clear Pq
    refine zD (kR 1 H R λ a H => kV (v := .bool false) H (Kr (H.e R)) R λ a H => zA (zB (zG H R (zE (zB (zC (zD (kR 1 H R λ a H => kV H (Af b0 36 _ _ (H.e R) k0 C1 R (AR EJ)) R λ a H => A8 _ _ _ (P9 _ b m c Be p EJ hr aJ) (Ks tC (H.e R) (H.e R)) ?_))))))))
    rintro e w9 ⟨⟨v, rfl, D1⟩, GN, CD⟩; refine ⟨_, rfl, ?_⟩; clear Be; replace D1 := AK.base D1 Aa.size; replace Aa := Bi.comp Aa (Eg.same _ _) CD; have MX := Eg.same w m; exact kL 1 H rfl λ a H => zA (zB (zF (Ag H rfl rfl ⟨⟨_, rfl, by rw [DQ, if_pos Hl, HP.out, Ho, if_neg (by omega), if_neg (by omega)]; exact D1⟩, ⟨m, by rw [DR, if_pos Hl, HP.out, Hp, if_neg UZ, if_pos aJ]; exact GN, MX⟩, Aa⟩)))
   ·
    by_cases SB : p.fld 0 = 12
    ·
     have GM : fv = .func (.func 54) #[.pointer (some ⟨b, 0, none⟩)] #[] := by rw [← Pq, SB]; rfl
     subst GM
     clear Pq
     refine zD (kR 1 H R λ a H => kV (v := .bool false) H (Kr (H.e R)) R λ a H => zA (zB (zG H R (zE (zB (zC (zD (kR 1 H R λ a H => kV H (Af b0 36 _ _ (H.e R) k0 C1 R (AR EJ)) R λ a H => A8 _ _ _ (Qt _ b m c Be p EJ hr SB) (Ks tB (H.e R) (H.e R)) ?_))))))))
     rintro e w9 ⟨⟨v, rfl, D1⟩, GN, CD⟩; refine ⟨_, rfl, ?_⟩; clear Be; replace D1 := AK.base D1 Aa.size; replace Aa := Bi.comp Aa (Eg.same _ _) CD; have MX := Eg.same w m; exact kL 1 H rfl λ a H => zA (zB (zF (Ag H rfl rfl ⟨⟨_, rfl, by rw [DQ, if_pos Hl, HP.out, Ho, if_neg (by omega), if_neg (by omega)]; exact D1⟩, ⟨m, by rw [DR, if_pos Hl, HP.out, Hp, if_neg UZ, if_neg aJ, if_pos SB]; exact GN, MX⟩, Aa⟩)))
    ·
     by_cases aI : p.fld 0 = 8
     ·
      have GM : fv = .func (.func 55) #[.pointer (some ⟨b, 0, none⟩)] #[] := by rw [← Pq, aI]; rfl
      subst GM
      clear Pq
      refine zD (kR 1 H R λ a H => kV (v := .bool false) H (Kr (H.e R)) R λ a H => zA (zB (zG H R (zE (zB (zC (zD (kR 1 H R λ a H => kV H (Af b0 36 _ _ (H.e R) k0 C1 R (AR EJ)) R λ a H => ?_))))))))
      have I4 := Aa; refine A8 _ _ _ (Pk _ b m c Be p EJ hr aI (Nat.le_trans hX Aa.size)) (Ks tA (H.ev rfl) (H.ev rfl)) ?_; rintro e w9 ⟨⟨v, rfl, D1⟩, ⟨m2, GN, MX⟩, CD⟩; refine ⟨_, rfl, ?_⟩; clear Be; replace D1 := AK.base D1 Aa.size; replace Aa := Bi.comp Aa (Eg.same _ _) CD; replace MX := Eg.lift MX I4.size; refine kl H rfl λ a H => ?_
      exact kR 1 H R λ a H => zA (zB (zF (Ag H R R ⟨⟨_, R, by rw [DQ, if_pos Hl, HP.out, Ho, if_neg (by omega), if_pos aI]; exact D1⟩, ⟨m2, by rw [DR, if_pos Hl, HP.out, Hp, if_neg UZ, if_neg aJ, if_neg SB, if_pos aI]; exact GN, MX⟩, Aa⟩)))
     ·
      by_cases Xo : p.fld 0 = 11
      ·
       have GM : fv = .func (.func 56) #[.pointer (some ⟨b, 0, none⟩)] #[] := by rw [← Pq, Xo]; rfl
       subst GM
       clear Pq
       refine zD (kR 1 H R λ a H => kV (v := .bool false) H (Kr (H.e R)) R λ a H => zA (zB (zG H R (zE (zB (zC (zD (kR 1 H R λ a H => kV H (Af b0 36 _ _ (H.e R) k0 C1 R (AR EJ)) R λ a H => A8 _ _ _ (Qr _ b m c Be p EJ hr Xo) (Ks sZ (H.e R) (H.e R)) ?_))))))))
       rintro e w9 ⟨⟨v, rfl, D1⟩, GN, CD⟩; refine ⟨_, rfl, ?_⟩; clear Be; replace D1 := AK.base D1 Aa.size; replace Aa := Bi.comp Aa (Eg.same _ _) CD; have MX := Eg.same w m; exact kL 1 H rfl λ a H => zA (zB (zF (Ag H rfl rfl ⟨⟨_, rfl, by rw [DQ, if_pos Hl, HP.out, Ho, if_neg (by omega), if_neg (by omega)]; exact D1⟩, ⟨m, by rw [DR, if_pos Hl, HP.out, Hp, if_neg UZ, if_neg aJ, if_neg SB, if_neg aI, if_pos Xo]; exact GN, MX⟩, Aa⟩)))
      ·
       have GM : fv = .nilFunc := by rw [← Pq]; exact Zh UZ aJ SB aI Xo
       subst GM
       clear Pq
       exact zD (kR 1 H R λ a H => kV (v := .bool true) H (WE (H.e R)) R λ a H => zA (zB (zH H R (zC (zD (kR 1 H R λ a H => zA (zB (zF (zJ (Ag H R R ⟨⟨_, R, by rw [DQ, if_pos Hl, HP.out, Ho, if_neg UZ, if_neg aI]; exact Bd⟩, ⟨m, by rw [DR, if_pos Hl, HP.out, Hp, if_neg UZ, if_neg aJ, if_neg SB, if_neg aI, if_neg Xo]; exact Be, .inl R⟩, Aa⟩))))))))))
 ·
  exact zD (kR 1 H R λ a H => kV H (E6 O8 (H.e R) Am dT) R λ a H => zA (zB (zH H R (zC (zD (kR 1 H R λ a H => zA (zB (zF (zJ (Ag H R R ⟨⟨_, R, by rw [DQ, if_neg Hl]; exact Bd⟩, ⟨m, by rw [DR, if_neg Hl]; exact Be, .inl R⟩, Aa⟩))))))))))
end
end Go.Proofs.YtbnmpoonkjlkjaaGreat
