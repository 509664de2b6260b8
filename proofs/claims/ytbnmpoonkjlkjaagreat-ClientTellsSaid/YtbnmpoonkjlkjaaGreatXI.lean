/- Client: part I of the proof. -/
import Derived.Test.YtbnmpoonkjlkjaaGreatXH
import Derived.Maps.Own
import Derived.Maps.Views
import Derived.Maps.Keyed
import Derived.Maps.OwnSet
import Derived.WideHanded
import Derived.ArgAppend
namespace Go.Proofs.YtbnmpoonkjlkjaaGreat
open Go.RowKit
set_option linter.unusedVariables false
set_option linter.unusedSimpArgs false
set_option maxRecDepth 100000
set_option maxHeartbeats 8000000
section
open Go.Maps
theorem Gc : Keyed Tryz.prog 3 := int_keyed U3
/-- an element read as it is -/
def RV : Value → Option (DataW Value × List MemPlace) := fun v => some (.held v, [])
def bO : Option Nt → DataW Value
 | none => .nil
 | some y => .held (.agg (cN y))
def CH : Nt := (0, 0, 0, 0)
/-- block bm is the map of what is believed -/
def En (w : World) (bm : Nat) (vw : Int → Option Nt) : Prop :=
 ∃ es : List (Lit × DataW Value), Tidy (.map es) ∧ w.ownsMap Tryz.prog 3 RV bm 16 (.map es) ∧ (∀ p ∈ es, ∃ x : Int, 1 ≤ x ∧ x ≤ 16 ∧ p.1 = .int .i64 x) ∧ ∀ x : Int, (Lit.int .i64 x).wf = true → (DataW.map es).atKey (.int .i64 x) .nil = bO (vw x)
theorem En.made (w : World) : En (w.alloc (.map #[] 0)) w.heap.size (fun _ => none) :=
 ⟨[], tidy_empty, (World.ownsMap_made _ _ _ _).mono (by omega), (fun p hp => by cases hp), fun x _ => by simp [DataW.atKey, bO]⟩
theorem En.lt {w : World} {bm : Nat} {vw : Int → Option Nt} (h : En w bm vw) : bm < w.heap.size := by
 obtain ⟨_, _, h, _⟩ := h
 exact h.lt
theorem En.kept {w w' : World} {bm : Nat} {vw : Int → Option Nt} {row : Option Nat} (h : En w bm vw) (hg : w.grownBy w' row) (Fh : some bm ≠ row) : En w' bm vw := by
 obtain ⟨es, h1, h2, h3, h4⟩ := h
 exact ⟨es, h1, h2.kept hg Fh, h3, h4⟩
theorem En.ups {w w' : World} {bm : Nat} {vw : Int → Option Nt} (h : En w bm vw) (hb : Below w.heap.size w w') : En w' bm vw :=
 h.kept (row := none) ⟨hb.os, hb.tape, hb.output, hb.size, fun k hk _ => hb.block k hk⟩ (by simp)
theorem En.no_cell {w : World} {bm : Nat} {vw : Int → Option Nt} (h : En w bm vw) (o : Nat) : w.cell? ⟨bm, o, none⟩ = none := by
 obtain ⟨_, _, ⟨es, cl, hb, _⟩, _⟩ := h
 unfold World.cell?
 rw [hb]
theorem VE (w : World) : (zeroValue 49).run Tryz.prog w = .ok (.agg (cN CH)) w := by kernel_rfl
theorem En.look {w : World} {bm : Nat} {vw : Int → Option Nt} (h : En w bm vw) (x : Int) (hx : (Lit.int .i64 x).wf = true) :
  (Instr.lookup 74 (.map (some bm)) (.int .i64 x) true).run Tryz.prog w = .ok (.tuple #[.agg (cN ((vw x).getD CH)), .bool (vw x).isSome]) w := by
 obtain ⟨D, _, ⟨es, clock, hb, F, _, hD⟩, _, KA⟩ := h
 have h1 := KA x hx
 rw [hD] at h1
 rcases Maps.fit_look true Gc PA (VE w) hb F (keyOf_int_mk U3 hx) with ⟨Df, _, hz⟩ | ⟨e0, y, _, _, Df, rI, hz, _⟩
 ·
  rw [hz] at h1
  cases hv : vw x with
  | none => rw [Df]; rfl
  | some y => rw [hv] at h1; cases h1
 ·
  rw [hz] at h1
  have e1 : y = (.held e0.val, []) := (Option.some.inj rI).symm
  subst e1
  cases hv : vw x with
  | none => rw [hv] at h1; cases h1
  | some y =>
   rw [hv] at h1
   have h6 : e0.val = .agg (cN y) := DataW.held.inj h1
   rw [Df, h6]
   rfl
theorem Od {α : Type} [DecidableEq α] : ∀ (l m : List α), l.Nodup → (∀ a ∈ l, a ∈ m) → l.length ≤ m.length
 | [], _, _, _ => Nat.zero_le _
 | a :: l, m, h, hm => by
  obtain ⟨h1, h2⟩ := List.nodup_cons.1 h
  have ha := hm a (by simp)
  have := Od l (m.erase a) h2 (fun b hb => (List.mem_erase_of_ne (fun e => h1 (by rw [← e]; exact hb))).2 (hm b (by simp [hb])))
  rw [List.length_erase_of_mem ha] at this
  have hp : 0 < m.length := List.length_pos_of_mem ha
  rw [List.length_cons]
  omega
theorem Xa {es : List (Lit × DataW Value)} (ht : Tidy (.map es)) (hk : ∀ p ∈ es, ∃ x : Int, 1 ≤ x ∧ x ≤ 16 ∧ p.1 = .int .i64 x) : es.length ≤ 16 := by
 obtain ⟨es', he, hp⟩ := ht
 injection he with he
 subst he
 have h1 : (es.map fun p => p.1).Nodup := List.pairwise_map.2 hp
 have h2 := @Od Lit (fun a b => Classical.propDecidable (a = b)) (es.map fun p => p.1) ((List.range 16).map fun j => Lit.int .i64 ((j : Nat) + 1 : Int)) h1 (fun a ha => by
  obtain ⟨p, hp, rfl⟩ := List.mem_map.1 ha
  obtain ⟨x, h1, h2, e⟩ := hk p hp
  refine List.mem_map.2 ⟨(x - 1).toNat, List.mem_range.2 (by omega), ?_⟩
  rw [e]
  congr 1
  omega)
 simpa using h2
theorem VL {x : Int} (h1 : 1 ≤ x) (h2 : x ≤ 16) : (Lit.int .i64 x).wf = true := Fc (by omega)
def Fd (vw : Int → Option Nt) (y : Nt) : Int → Option Nt := fun u => if u = y.1 then some y else vw u
theorem En.put {w : World} {bm : Nat} {vw : Int → Option Nt} (h : En w bm vw) (y : Nt) (h1 : 1 ≤ y.1) (h2 : y.1 ≤ 16) :
  ∃ w', (Instr.mapUpdate 74 (.map (some bm)) (.int .i64 y.1) (.agg (cN y))).run Tryz.prog w = .ok () w' ∧ En w' bm (Fd vw y) ∧ w.grownBy w' (some bm) := by
 obtain ⟨D, hT, ho, hk, KA⟩ := h
 have hx := VL h1 h2
 have UY := keyOf_int_mk U3 hx
 obtain ⟨w', Df, gX, hg⟩ := ho.update (d := .held (.agg (cN y))) (ps := []) Gc PA (by unfold maxLen; omega) UY rfl
 have hT' := hT.put (Gc.key UY) (.held (.agg (cN y)))
 have hk' : ∀ p ∈ ChangeMaps.putKey (.int .i64 y.1) (.held (.agg (cN y))) D, ∃ x : Int, 1 ≤ x ∧ x ≤ 16 ∧ p.1 = .int .i64 x := fun p hp => by
  unfold ChangeMaps.putKey at hp
  rcases mem_insert _ hp with rfl | hp
  · exact ⟨y.1, h1, h2, rfl⟩
  · exact hk p (List.mem_filter.1 hp).1
 refine ⟨w', Df, ⟨ChangeMaps.putKey (.int .i64 y.1) (.held (.agg (cN y))) D, hT', ?_, hk', fun u hu => ?_⟩, hg⟩
 ·
  obtain ⟨es, clock, hb, F, hs, hD⟩ := gX
  refine ⟨es, clock, hb, F, ?_, hD⟩
  have h3 : (ChangeMaps.putKey (.int .i64 y.1) (.held (.agg (cN y))) D).length ≤ 16 := Xa hT' hk'
  have h4 := length_read (P := Tryz.prog) (k := 3) (R0 := RV) es
  have h5 : DataW.map (ChangeMaps.putKey (.int .i64 y.1) (.held (.agg (cN y))) D) = .map ((es.toList.map (WideElems.rg Tryz.prog 3 RV)).foldr DataW.insert []) := hD
  injection h5 with h5
  rw [h5] at h3
  omega
 ·
  by_cases e : u = y.1
  ·
   subst e
   rw [← DataW.put_eq, atKey_put_same hT.isMap (Gc.key UY)]
   simp [Fd, bO]
  ·
   have Fh : Lit.int .i64 u ≠ Lit.int .i64 y.1 := fun e2 => e (by injection e2)
   rw [← DataW.put_eq, atKey_put_other Fh, KA u hu]
   simp [Fd, e]
theorem En.clear {w : World} {bm : Nat} {vw : Int → Option Nt} (h : En w bm vw) (ty : TypeId) :
  ∃ w', (Builtin.clear_ #[74] ty #[.map (some bm)]).run Tryz.prog w = .ok (.tuple #[]) w' ∧ w.grownBy w' (some bm) := by
 obtain ⟨_, _, ⟨es, clock, hb, _⟩, _⟩ := h
 have Df : (Builtin.clear_ #[74] ty #[.map (some bm)]).run Tryz.prog w = .ok (.tuple #[]) { w with heap := w.heap.setIfInBounds bm (.map #[] clock) } := by
  simp [Builtin.clear_, run_underlying PA, MapKept.run_getObj_map hb, MapKept.run_setObj_map _ hb, Result.andThen]
 refine ⟨_, Df, ⟨R, R, R, by simp, fun k hk Fh => ?_⟩⟩
 rw [Array.getElem?_setIfInBounds_ne (fun e => Fh (by rw [e]))]
/-- a map, or none -/
def AW (w : World) (m : Option Nat) (vw : Int → Option Nt) : Prop := match m with | none => ∀ u, vw u = none | some q => En w q vw
theorem AW.look {w : World} {m : Option Nat} {vw : Int → Option Nt} (h : AW w m vw) (x : Int) (hx : (Lit.int .i64 x).wf = true) :
  (Instr.lookup 74 (.map m) (.int .i64 x) true).run Tryz.prog w = .ok (.tuple #[.agg (cN ((vw x).getD CH)), .bool (vw x).isSome]) w := by
 cases m with
 | some q => exact En.look h x hx
 | none =>
  have h1 := Maps.look_nil true Gc PA (VE w) (keyOf_int_mk U3 hx)
  have h2 : vw x = none := h x
  rw [h1, h2]
  rfl
theorem AW.ups {w w' : World} {m : Option Nat} {vw : Int → Option Nt} (h : AW w m vw) (hb : Below w.heap.size w w') : AW w' m vw := by
 cases m with
 | none => exact h
 | some q => exact En.ups h hb
theorem AW.kept {w w' : World} {m : Option Nat} {vw : Int → Option Nt} {row : Option Nat} (h : AW w m vw) (hg : w.grownBy w' row) (Fh : m = none ∨ m ≠ row) : AW w' m vw := by
 cases m with
 | none => exact h
 | some q => exact En.kept h hg (by simpa using Fh)
theorem AW.lt {w : World} {m : Option Nat} {vw : Int → Option Nt} (h : AW w m vw) {q : Nat} (e : m = some q) : q < w.heap.size := by
 subst e
 exact En.lt h
section
variable {P : Program} {d : Option Tmp} {tt : TypeId} {ps : String} {af : Array Edge} {gd : Option (Nat × Bool)} {a : Act} {w : World} {x y : Operand} {t t2 : TypeId}
theorem Si {m : Option Nat} {vw : Int → Option Nt} {u : Int} (h : AW w m vw) (hu : (Lit.int .i64 u).wf = true) (hx : a.eval x = .map m) (hy : a.eval y = .int .i64 u) :
  (execOp a.eval ⟨d, .lookup 74 x y true, tt, ps, af, gd⟩).run Tryz.prog w = .ok (.value (.tuple #[.agg (cN ((vw u).getD CH)), .bool (vw u).isSome])) w := by
 have := h.look u hu
 unfold execOp
 simp only [hx, hy, this, Sem.run_bind, Sem.run_pure, Result.andThen_ok]
theorem Iq {m : Option Nat} {b : Bool} (hx : a.eval x = .map m) (hb : m.isNone = b) : (execOp a.eval ⟨d, .binOp .eql 74 x (.const (.map none)) t2, tt, ps, af, gd⟩).run Tryz.prog w = .ok (.value (.bool b)) w := by
 subst hb
 have h := run_eql_map_nil (P := Tryz.prog) w 74 3 49 m PA
 have e : a.eval (.const (.map none)) = .map none := rfl
 unfold execOp
 simp only [hx, e]
 go_simp
end
end
section
/-- all that a client has -/
structure Cl where
 user : Int
 state : Int
 now : Int
 nonce : Int
 epoch : Int
 ck : List B8
 ask : Int
 id : Int
 key : List B8
 beats : Int
 seq : Int
 beat : Int
 say : Int
 next : Int
 items : List It
 os : List Nt
 vw : Int → Option Nt
 code : Int
abbrev EB : List B8 := List.replicate 16 0
def G3 (u : Int) : Cl := ⟨u, 0, 0, 0, 0, EB, 0, 0, EB, 0, 0, 0, 0, 0, [], [], fun _ => none, 0⟩
def DV (u : Int) : Int := if 16 < (if 1 > u then 1 else u) then 16 else (if 1 > u then 1 else u)
/-- the cells: the items', the orders' slices and the map are given -/
def Dm (c : Cl) (vi vo : Value) (m : Option Nat) : Array Value :=
 (([J c.user, J c.state, J c.now, J c.nonce, J c.epoch] : List Value) ++ (c.ck.map u8v ++ (([J c.ask, J c.id] : List Value) ++ (c.key.map u8v ++ [J c.beats, J c.seq, J c.beat, J c.say, J c.next, vi, vo, .map m, J c.code])))).toArray
theorem Cc {c : Cl} {vi vo : Value} {m : Option Nat} (h1 : c.ck.length = 16) (h2 : c.key.length = 16) : (Dm c vi vo m).size = 48 := by simp [Dm, h1, h2]
theorem P4 {w : World} {b : Nat} {c : Cl} {vi vo : Value} {m : Option Nat} (h1 : c.ck.length = 16) (h2 : c.key.length = 16) (k : Ad w b 76 (Dm c vi vo m)) : w.cell? ⟨b, 0, none⟩ = some (J c.user) := by
 rw [k.cell]
 obtain ⟨user, state, now, nonce, epoch, ck, ask, id, key, beats, seq, beat, say, next, items, os, vw, code⟩ := c
 obtain ⟨s0, s1, s2, s3, s4, s5, s6, s7, s8, s9, s10, s11, s12, s13, s14, s15, rfl⟩ := BV (l := ck) h1
 obtain ⟨q0, q1, q2, q3, q4, q5, q6, q7, q8, q9, q10, q11, q12, q13, q14, q15, rfl⟩ := BV (l := key) h2
 rfl
theorem CS {w : World} {b : Nat} {c : Cl} {vi vo : Value} {m : Option Nat} (h1 : c.ck.length = 16) (h2 : c.key.length = 16) (k : Ad w b 76 (Dm c vi vo m)) : w.cell? ⟨b, 1, none⟩ = some (J c.state) := by
 rw [k.cell]
 obtain ⟨user, state, now, nonce, epoch, ck, ask, id, key, beats, seq, beat, say, next, items, os, vw, code⟩ := c
 obtain ⟨s0, s1, s2, s3, s4, s5, s6, s7, s8, s9, s10, s11, s12, s13, s14, s15, rfl⟩ := BV (l := ck) h1
 obtain ⟨q0, q1, q2, q3, q4, q5, q6, q7, q8, q9, q10, q11, q12, q13, q14, q15, rfl⟩ := BV (l := key) h2
 rfl
theorem BB {w : World} {b : Nat} {c : Cl} {vi vo : Value} {m : Option Nat} (h1 : c.ck.length = 16) (h2 : c.key.length = 16) (k : Ad w b 76 (Dm c vi vo m)) : w.cell? ⟨b, 2, none⟩ = some (J c.now) := by
 rw [k.cell]
 obtain ⟨user, state, now, nonce, epoch, ck, ask, id, key, beats, seq, beat, say, next, items, os, vw, code⟩ := c
 obtain ⟨s0, s1, s2, s3, s4, s5, s6, s7, s8, s9, s10, s11, s12, s13, s14, s15, rfl⟩ := BV (l := ck) h1
 obtain ⟨q0, q1, q2, q3, q4, q5, q6, q7, q8, q9, q10, q11, q12, q13, q14, q15, rfl⟩ := BV (l := key) h2
 rfl
theorem GR {w : World} {b : Nat} {c : Cl} {vi vo : Value} {m : Option Nat} (h1 : c.ck.length = 16) (h2 : c.key.length = 16) (k : Ad w b 76 (Dm c vi vo m)) : w.cell? ⟨b, 3, none⟩ = some (J c.nonce) := by
 rw [k.cell]
 obtain ⟨user, state, now, nonce, epoch, ck, ask, id, key, beats, seq, beat, say, next, items, os, vw, code⟩ := c
 obtain ⟨s0, s1, s2, s3, s4, s5, s6, s7, s8, s9, s10, s11, s12, s13, s14, s15, rfl⟩ := BV (l := ck) h1
 obtain ⟨q0, q1, q2, q3, q4, q5, q6, q7, q8, q9, q10, q11, q12, q13, q14, q15, rfl⟩ := BV (l := key) h2
 rfl
theorem XC {w : World} {b : Nat} {c : Cl} {vi vo : Value} {m : Option Nat} (h1 : c.ck.length = 16) (h2 : c.key.length = 16) (k : Ad w b 76 (Dm c vi vo m)) : w.cell? ⟨b, 4, none⟩ = some (J c.epoch) := by
 rw [k.cell]
 obtain ⟨user, state, now, nonce, epoch, ck, ask, id, key, beats, seq, beat, say, next, items, os, vw, code⟩ := c
 obtain ⟨s0, s1, s2, s3, s4, s5, s6, s7, s8, s9, s10, s11, s12, s13, s14, s15, rfl⟩ := BV (l := ck) h1
 obtain ⟨q0, q1, q2, q3, q4, q5, q6, q7, q8, q9, q10, q11, q12, q13, q14, q15, rfl⟩ := BV (l := key) h2
 rfl
theorem eK {w : World} {b : Nat} {c : Cl} {vi vo : Value} {m : Option Nat} (h1 : c.ck.length = 16) (h2 : c.key.length = 16) (k : Ad w b 76 (Dm c vi vo m)) : w.cell? ⟨b, 21, none⟩ = some (J c.ask) := by
 rw [k.cell]
 obtain ⟨user, state, now, nonce, epoch, ck, ask, id, key, beats, seq, beat, say, next, items, os, vw, code⟩ := c
 obtain ⟨s0, s1, s2, s3, s4, s5, s6, s7, s8, s9, s10, s11, s12, s13, s14, s15, rfl⟩ := BV (l := ck) h1
 obtain ⟨q0, q1, q2, q3, q4, q5, q6, q7, q8, q9, q10, q11, q12, q13, q14, q15, rfl⟩ := BV (l := key) h2
 rfl
theorem Rs {w : World} {b : Nat} {c : Cl} {vi vo : Value} {m : Option Nat} (h1 : c.ck.length = 16) (h2 : c.key.length = 16) (k : Ad w b 76 (Dm c vi vo m)) : w.cell? ⟨b, 22, none⟩ = some (J c.id) := by
 rw [k.cell]
 obtain ⟨user, state, now, nonce, epoch, ck, ask, id, key, beats, seq, beat, say, next, items, os, vw, code⟩ := c
 obtain ⟨s0, s1, s2, s3, s4, s5, s6, s7, s8, s9, s10, s11, s12, s13, s14, s15, rfl⟩ := BV (l := ck) h1
 obtain ⟨q0, q1, q2, q3, q4, q5, q6, q7, q8, q9, q10, q11, q12, q13, q14, q15, rfl⟩ := BV (l := key) h2
 rfl
theorem Rt {w : World} {b : Nat} {c : Cl} {vi vo : Value} {m : Option Nat} (h1 : c.ck.length = 16) (h2 : c.key.length = 16) (k : Ad w b 76 (Dm c vi vo m)) : w.cell? ⟨b, 39, none⟩ = some (J c.beats) := by
 rw [k.cell]
 obtain ⟨user, state, now, nonce, epoch, ck, ask, id, key, beats, seq, beat, say, next, items, os, vw, code⟩ := c
 obtain ⟨s0, s1, s2, s3, s4, s5, s6, s7, s8, s9, s10, s11, s12, s13, s14, s15, rfl⟩ := BV (l := ck) h1
 obtain ⟨q0, q1, q2, q3, q4, q5, q6, q7, q8, q9, q10, q11, q12, q13, q14, q15, rfl⟩ := BV (l := key) h2
 rfl
theorem X9 {w : World} {b : Nat} {c : Cl} {vi vo : Value} {m : Option Nat} (h1 : c.ck.length = 16) (h2 : c.key.length = 16) (k : Ad w b 76 (Dm c vi vo m)) : w.cell? ⟨b, 40, none⟩ = some (J c.seq) := by
 rw [k.cell]
 obtain ⟨user, state, now, nonce, epoch, ck, ask, id, key, beats, seq, beat, say, next, items, os, vw, code⟩ := c
 obtain ⟨s0, s1, s2, s3, s4, s5, s6, s7, s8, s9, s10, s11, s12, s13, s14, s15, rfl⟩ := BV (l := ck) h1
 obtain ⟨q0, q1, q2, q3, q4, q5, q6, q7, q8, q9, q10, q11, q12, q13, q14, q15, rfl⟩ := BV (l := key) h2
 rfl
theorem Zw {w : World} {b : Nat} {c : Cl} {vi vo : Value} {m : Option Nat} (h1 : c.ck.length = 16) (h2 : c.key.length = 16) (k : Ad w b 76 (Dm c vi vo m)) : w.cell? ⟨b, 41, none⟩ = some (J c.beat) := by
 rw [k.cell]
 obtain ⟨user, state, now, nonce, epoch, ck, ask, id, key, beats, seq, beat, say, next, items, os, vw, code⟩ := c
 obtain ⟨s0, s1, s2, s3, s4, s5, s6, s7, s8, s9, s10, s11, s12, s13, s14, s15, rfl⟩ := BV (l := ck) h1
 obtain ⟨q0, q1, q2, q3, q4, q5, q6, q7, q8, q9, q10, q11, q12, q13, q14, q15, rfl⟩ := BV (l := key) h2
 rfl
theorem eJ {w : World} {b : Nat} {c : Cl} {vi vo : Value} {m : Option Nat} (h1 : c.ck.length = 16) (h2 : c.key.length = 16) (k : Ad w b 76 (Dm c vi vo m)) : w.cell? ⟨b, 42, none⟩ = some (J c.say) := by
 rw [k.cell]
 obtain ⟨user, state, now, nonce, epoch, ck, ask, id, key, beats, seq, beat, say, next, items, os, vw, code⟩ := c
 obtain ⟨s0, s1, s2, s3, s4, s5, s6, s7, s8, s9, s10, s11, s12, s13, s14, s15, rfl⟩ := BV (l := ck) h1
 obtain ⟨q0, q1, q2, q3, q4, q5, q6, q7, q8, q9, q10, q11, q12, q13, q14, q15, rfl⟩ := BV (l := key) h2
 rfl
theorem Zv {w : World} {b : Nat} {c : Cl} {vi vo : Value} {m : Option Nat} (h1 : c.ck.length = 16) (h2 : c.key.length = 16) (k : Ad w b 76 (Dm c vi vo m)) : w.cell? ⟨b, 43, none⟩ = some (J c.next) := by
 rw [k.cell]
 obtain ⟨user, state, now, nonce, epoch, ck, ask, id, key, beats, seq, beat, say, next, items, os, vw, code⟩ := c
 obtain ⟨s0, s1, s2, s3, s4, s5, s6, s7, s8, s9, s10, s11, s12, s13, s14, s15, rfl⟩ := BV (l := ck) h1
 obtain ⟨q0, q1, q2, q3, q4, q5, q6, q7, q8, q9, q10, q11, q12, q13, q14, q15, rfl⟩ := BV (l := key) h2
 rfl
theorem TZ {w : World} {b : Nat} {c : Cl} {vi vo : Value} {m : Option Nat} (h1 : c.ck.length = 16) (h2 : c.key.length = 16) (k : Ad w b 76 (Dm c vi vo m)) : w.cell? ⟨b, 47, none⟩ = some (J c.code) := by
 rw [k.cell]
 obtain ⟨user, state, now, nonce, epoch, ck, ask, id, key, beats, seq, beat, say, next, items, os, vw, code⟩ := c
 obtain ⟨s0, s1, s2, s3, s4, s5, s6, s7, s8, s9, s10, s11, s12, s13, s14, s15, rfl⟩ := BV (l := ck) h1
 obtain ⟨q0, q1, q2, q3, q4, q5, q6, q7, q8, q9, q10, q11, q12, q13, q14, q15, rfl⟩ := BV (l := key) h2
 rfl
theorem XB {w : World} {b : Nat} {c : Cl} {vi vo : Value} {m : Option Nat} (h1 : c.ck.length = 16) (h2 : c.key.length = 16) (k : Ad w b 76 (Dm c vi vo m)) : w.cell? ⟨b, 44, none⟩ = some vi := by
 rw [k.cell]
 obtain ⟨user, state, now, nonce, epoch, ck, ask, id, key, beats, seq, beat, say, next, items, os, vw, code⟩ := c
 obtain ⟨s0, s1, s2, s3, s4, s5, s6, s7, s8, s9, s10, s11, s12, s13, s14, s15, rfl⟩ := BV (l := ck) h1
 obtain ⟨q0, q1, q2, q3, q4, q5, q6, q7, q8, q9, q10, q11, q12, q13, q14, q15, rfl⟩ := BV (l := key) h2
 rfl
theorem HW {w : World} {b : Nat} {c : Cl} {vi vo : Value} {m : Option Nat} (h1 : c.ck.length = 16) (h2 : c.key.length = 16) (k : Ad w b 76 (Dm c vi vo m)) : w.cell? ⟨b, 45, none⟩ = some vo := by
 rw [k.cell]
 obtain ⟨user, state, now, nonce, epoch, ck, ask, id, key, beats, seq, beat, say, next, items, os, vw, code⟩ := c
 obtain ⟨s0, s1, s2, s3, s4, s5, s6, s7, s8, s9, s10, s11, s12, s13, s14, s15, rfl⟩ := BV (l := ck) h1
 obtain ⟨q0, q1, q2, q3, q4, q5, q6, q7, q8, q9, q10, q11, q12, q13, q14, q15, rfl⟩ := BV (l := key) h2
 rfl
theorem Ev {w : World} {b : Nat} {c : Cl} {vi vo : Value} {m : Option Nat} (h1 : c.ck.length = 16) (h2 : c.key.length = 16) (k : Ad w b 76 (Dm c vi vo m)) : w.cell? ⟨b, 46, none⟩ = some (.map m) := by
 rw [k.cell]
 obtain ⟨user, state, now, nonce, epoch, ck, ask, id, key, beats, seq, beat, say, next, items, os, vw, code⟩ := c
 obtain ⟨s0, s1, s2, s3, s4, s5, s6, s7, s8, s9, s10, s11, s12, s13, s14, s15, rfl⟩ := BV (l := ck) h1
 obtain ⟨q0, q1, q2, q3, q4, q5, q6, q7, q8, q9, q10, q11, q12, q13, q14, q15, rfl⟩ := BV (l := key) h2
 rfl
theorem H2 {c : Cl} {vi vo : Value} {m : Option Nat} {x : Int} (h1 : c.ck.length = 16) (h2 : c.key.length = 16) : C3 (Dm c vi vo m) 1 (J x).cells.toList = Dm {c with state := x} vi vo m := by
 obtain ⟨user, state, now, nonce, epoch, ck, ask, id, key, beats, seq, beat, say, next, items, os, vw, code⟩ := c
 obtain ⟨s0, s1, s2, s3, s4, s5, s6, s7, s8, s9, s10, s11, s12, s13, s14, s15, rfl⟩ := BV (l := ck) h1
 obtain ⟨q0, q1, q2, q3, q4, q5, q6, q7, q8, q9, q10, q11, q12, q13, q14, q15, rfl⟩ := BV (l := key) h2
 rfl
theorem bP {c : Cl} {vi vo : Value} {m : Option Nat} {x : Int} (h1 : c.ck.length = 16) (h2 : c.key.length = 16) : C3 (Dm c vi vo m) 2 (J x).cells.toList = Dm {c with now := x} vi vo m := by
 obtain ⟨user, state, now, nonce, epoch, ck, ask, id, key, beats, seq, beat, say, next, items, os, vw, code⟩ := c
 obtain ⟨s0, s1, s2, s3, s4, s5, s6, s7, s8, s9, s10, s11, s12, s13, s14, s15, rfl⟩ := BV (l := ck) h1
 obtain ⟨q0, q1, q2, q3, q4, q5, q6, q7, q8, q9, q10, q11, q12, q13, q14, q15, rfl⟩ := BV (l := key) h2
 rfl
theorem Mv {c : Cl} {vi vo : Value} {m : Option Nat} {x : Int} (h1 : c.ck.length = 16) (h2 : c.key.length = 16) : C3 (Dm c vi vo m) 3 (J x).cells.toList = Dm {c with nonce := x} vi vo m := by
 obtain ⟨user, state, now, nonce, epoch, ck, ask, id, key, beats, seq, beat, say, next, items, os, vw, code⟩ := c
 obtain ⟨s0, s1, s2, s3, s4, s5, s6, s7, s8, s9, s10, s11, s12, s13, s14, s15, rfl⟩ := BV (l := ck) h1
 obtain ⟨q0, q1, q2, q3, q4, q5, q6, q7, q8, q9, q10, q11, q12, q13, q14, q15, rfl⟩ := BV (l := key) h2
 rfl
theorem VZ {c : Cl} {vi vo : Value} {m : Option Nat} {x : Int} (h1 : c.ck.length = 16) (h2 : c.key.length = 16) : C3 (Dm c vi vo m) 4 (J x).cells.toList = Dm {c with epoch := x} vi vo m := by
 obtain ⟨user, state, now, nonce, epoch, ck, ask, id, key, beats, seq, beat, say, next, items, os, vw, code⟩ := c
 obtain ⟨s0, s1, s2, s3, s4, s5, s6, s7, s8, s9, s10, s11, s12, s13, s14, s15, rfl⟩ := BV (l := ck) h1
 obtain ⟨q0, q1, q2, q3, q4, q5, q6, q7, q8, q9, q10, q11, q12, q13, q14, q15, rfl⟩ := BV (l := key) h2
 rfl
theorem Mw {c : Cl} {vi vo : Value} {m : Option Nat} {x : Int} (h1 : c.ck.length = 16) (h2 : c.key.length = 16) : C3 (Dm c vi vo m) 21 (J x).cells.toList = Dm {c with ask := x} vi vo m := by
 obtain ⟨user, state, now, nonce, epoch, ck, ask, id, key, beats, seq, beat, say, next, items, os, vw, code⟩ := c
 obtain ⟨s0, s1, s2, s3, s4, s5, s6, s7, s8, s9, s10, s11, s12, s13, s14, s15, rfl⟩ := BV (l := ck) h1
 obtain ⟨q0, q1, q2, q3, q4, q5, q6, q7, q8, q9, q10, q11, q12, q13, q14, q15, rfl⟩ := BV (l := key) h2
 rfl
theorem Wa {c : Cl} {vi vo : Value} {m : Option Nat} {x : Int} (h1 : c.ck.length = 16) (h2 : c.key.length = 16) : C3 (Dm c vi vo m) 39 (J x).cells.toList = Dm {c with beats := x} vi vo m := by
 obtain ⟨user, state, now, nonce, epoch, ck, ask, id, key, beats, seq, beat, say, next, items, os, vw, code⟩ := c
 obtain ⟨s0, s1, s2, s3, s4, s5, s6, s7, s8, s9, s10, s11, s12, s13, s14, s15, rfl⟩ := BV (l := ck) h1
 obtain ⟨q0, q1, q2, q3, q4, q5, q6, q7, q8, q9, q10, q11, q12, q13, q14, q15, rfl⟩ := BV (l := key) h2
 rfl
theorem VW {c : Cl} {vi vo : Value} {m : Option Nat} {x : Int} (h1 : c.ck.length = 16) (h2 : c.key.length = 16) : C3 (Dm c vi vo m) 40 (J x).cells.toList = Dm {c with seq := x} vi vo m := by
 obtain ⟨user, state, now, nonce, epoch, ck, ask, id, key, beats, seq, beat, say, next, items, os, vw, code⟩ := c
 obtain ⟨s0, s1, s2, s3, s4, s5, s6, s7, s8, s9, s10, s11, s12, s13, s14, s15, rfl⟩ := BV (l := ck) h1
 obtain ⟨q0, q1, q2, q3, q4, q5, q6, q7, q8, q9, q10, q11, q12, q13, q14, q15, rfl⟩ := BV (l := key) h2
 rfl
theorem Yp {c : Cl} {vi vo : Value} {m : Option Nat} {x : Int} (h1 : c.ck.length = 16) (h2 : c.key.length = 16) : C3 (Dm c vi vo m) 41 (J x).cells.toList = Dm {c with beat := x} vi vo m := by
 obtain ⟨user, state, now, nonce, epoch, ck, ask, id, key, beats, seq, beat, say, next, items, os, vw, code⟩ := c
 obtain ⟨s0, s1, s2, s3, s4, s5, s6, s7, s8, s9, s10, s11, s12, s13, s14, s15, rfl⟩ := BV (l := ck) h1
 obtain ⟨q0, q1, q2, q3, q4, q5, q6, q7, q8, q9, q10, q11, q12, q13, q14, q15, rfl⟩ := BV (l := key) h2
 rfl
theorem RO {c : Cl} {vi vo : Value} {m : Option Nat} {x : Int} (h1 : c.ck.length = 16) (h2 : c.key.length = 16) : C3 (Dm c vi vo m) 42 (J x).cells.toList = Dm {c with say := x} vi vo m := by
 obtain ⟨user, state, now, nonce, epoch, ck, ask, id, key, beats, seq, beat, say, next, items, os, vw, code⟩ := c
 obtain ⟨s0, s1, s2, s3, s4, s5, s6, s7, s8, s9, s10, s11, s12, s13, s14, s15, rfl⟩ := BV (l := ck) h1
 obtain ⟨q0, q1, q2, q3, q4, q5, q6, q7, q8, q9, q10, q11, q12, q13, q14, q15, rfl⟩ := BV (l := key) h2
 rfl
theorem Kc {c : Cl} {vi vo : Value} {m : Option Nat} {x : Int} (h1 : c.ck.length = 16) (h2 : c.key.length = 16) : C3 (Dm c vi vo m) 47 (J x).cells.toList = Dm {c with code := x} vi vo m := by
 obtain ⟨user, state, now, nonce, epoch, ck, ask, id, key, beats, seq, beat, say, next, items, os, vw, code⟩ := c
 obtain ⟨s0, s1, s2, s3, s4, s5, s6, s7, s8, s9, s10, s11, s12, s13, s14, s15, rfl⟩ := BV (l := ck) h1
 obtain ⟨q0, q1, q2, q3, q4, q5, q6, q7, q8, q9, q10, q11, q12, q13, q14, q15, rfl⟩ := BV (l := key) h2
 rfl
theorem PS {c : Cl} {vi vo : Value} {m m2 : Option Nat} (h1 : c.ck.length = 16) (h2 : c.key.length = 16) : C3 (Dm c vi vo m) 46 (Value.map m2).cells.toList = Dm c vi vo m2 := by
 obtain ⟨user, state, now, nonce, epoch, ck, ask, id, key, beats, seq, beat, say, next, items, os, vw, code⟩ := c
 obtain ⟨s0, s1, s2, s3, s4, s5, s6, s7, s8, s9, s10, s11, s12, s13, s14, s15, rfl⟩ := BV (l := ck) h1
 obtain ⟨q0, q1, q2, q3, q4, q5, q6, q7, q8, q9, q10, q11, q12, q13, q14, q15, rfl⟩ := BV (l := key) h2
 rfl
theorem VX {c : Cl} {vi vo : Value} {m : Option Nat} {A : Option Addr} {n k : Nat} (h1 : c.ck.length = 16) (h2 : c.key.length = 16) : C3 (Dm c vi vo m) 45 (Value.slice A n k).cells.toList = Dm c vi (.slice A n k) m := by
 obtain ⟨user, state, now, nonce, epoch, ck, ask, id, key, beats, seq, beat, say, next, items, os, vw, code⟩ := c
 obtain ⟨s0, s1, s2, s3, s4, s5, s6, s7, s8, s9, s10, s11, s12, s13, s14, s15, rfl⟩ := BV (l := ck) h1
 obtain ⟨q0, q1, q2, q3, q4, q5, q6, q7, q8, q9, q10, q11, q12, q13, q14, q15, rfl⟩ := BV (l := key) h2
 rfl
theorem jJ {w : World} {b : Nat} {c : Cl} {vi vo : Value} {m : Option Nat} (k : Ad w b 76 (Dm c vi vo m)) : w.rangeAt b 5 (c.ck.map u8v) := by
 intro j v hv
 rw [k.cell]
 have hj : j < (c.ck.map u8v).length := (List.getElem?_eq_some_iff.1 hv).1
 simp only [Dm, List.getElem?_toArray]
 rw [List.getElem?_append_right (by simp), show 5 + j - ([J c.user, J c.state, J c.now, J c.nonce, J c.epoch] : List Value).length = j by simp, List.getElem?_append_left hj]
 exact hv
theorem XA {w : World} {b : Nat} {c : Cl} {vi vo : Value} {m : Option Nat} (h1 : c.ck.length = 16) (k : Ad w b 76 (Dm c vi vo m)) : w.rangeAt b 23 (c.key.map u8v) := by
 intro j v hv
 rw [k.cell]
 have hj : j < (c.key.map u8v).length := (List.getElem?_eq_some_iff.1 hv).1
 simp only [Dm, List.getElem?_toArray]
 rw [List.getElem?_append_right (by simp; omega), List.getElem?_append_right (by simp [h1]; omega), List.getElem?_append_right (by simp [h1]; omega),
  show 23 + j - ([J c.user, J c.state, J c.now, J c.nonce, J c.epoch] : List Value).length - (c.ck.map u8v).length - ([J c.ask, J c.id] : List Value).length = j by simp [h1]; omega, List.getElem?_append_left hj]
 exact hv
theorem Zu {w : World} {b : Nat} {c : Cl} {vi vo : Value} {m : Option Nat} (h1 : c.ck.length = 16) (h2 : c.key.length = 16) (k : Ad w b 76 (Dm c vi vo m)) : w.rangeAt b 43 [J c.next, vi] := by
 intro j v hv
 match j, hv with
 | 0, hv => rw [← hv]; exact Zv h1 h2 k
 | 1, hv => rw [← hv]; exact XB h1 h2 k
theorem fJ {c : Cl} {vi vo : Value} {m : Option Nat} {l : List B8} (h1 : c.ck.length = 16) (h2 : c.key.length = 16) (hl : l.length = 16) : C3 (Dm c vi vo m) 5 (BL l).toList = Dm {c with ck := l} vi vo m := by
 apply Array.toList_inj.1
 rw [H3 _ _ _ (by rw [Cc h1 h2]; simp [hl])]
 obtain ⟨user, state, now, nonce, epoch, ck, ask, id, key, beats, seq, beat, say, next, items, os, vw, code⟩ := c
 obtain ⟨s0, s1, s2, s3, s4, s5, s6, s7, s8, s9, s10, s11, s12, s13, s14, s15, rfl⟩ := BV (l := ck) h1
 obtain ⟨q0, q1, q2, q3, q4, q5, q6, q7, q8, q9, q10, q11, q12, q13, q14, q15, rfl⟩ := BV (l := key) h2
 obtain ⟨a0, a1, a2, a3, a4, a5, a6, a7, a8, a9, a10, a11, a12, a13, a14, a15, rfl⟩ := BV hl
 rfl
theorem Tf {c : Cl} {vi vo v2 : Value} {m : Option Nat} {n : Int} (h1 : c.ck.length = 16) (h2 : c.key.length = 16) : C3 (Dm c vi vo m) 43 (#[J n, v2]).toList = Dm {c with next := n} v2 vo m := by
 obtain ⟨user, state, now, nonce, epoch, ck, ask, id, key, beats, seq, beat, say, next, items, os, vw, code⟩ := c
 obtain ⟨s0, s1, s2, s3, s4, s5, s6, s7, s8, s9, s10, s11, s12, s13, s14, s15, rfl⟩ := BV (l := ck) h1
 obtain ⟨q0, q1, q2, q3, q4, q5, q6, q7, q8, q9, q10, q11, q12, q13, q14, q15, rfl⟩ := BV (l := key) h2
 rfl
/-- the cells of a new link -/
def YM (id : Int) (key : List B8) (beat say : Int) (next : Int) (v2 : Value) : Array Value := (([J id] : List Value) ++ (key.map u8v ++ [J 0, J 0, J beat, J say, J next, v2])).toArray
theorem Yo {c : Cl} {vi vo v2 : Value} {m : Option Nat} {i bt sy nx : Int} {l : List B8} (h1 : c.ck.length = 16) (h2 : c.key.length = 16) (hl : l.length = 16) : C3 (Dm c vi vo m) 22 (YM i l bt sy nx v2).toList = Dm {c with id := i, key := l, beats := 0, seq := 0, beat := bt, say := sy, next := nx} v2 vo m := by
 apply Array.toList_inj.1
 rw [H3 _ _ _ (by rw [Cc h1 h2]; simp [YM, hl])]
 obtain ⟨user, state, now, nonce, epoch, ck, ask, id, key, beats, seq, beat, say, next, items, os, vw, code⟩ := c
 obtain ⟨s0, s1, s2, s3, s4, s5, s6, s7, s8, s9, s10, s11, s12, s13, s14, s15, rfl⟩ := BV (l := ck) h1
 obtain ⟨q0, q1, q2, q3, q4, q5, q6, q7, q8, q9, q10, q11, q12, q13, q14, q15, rfl⟩ := BV (l := key) h2
 obtain ⟨a0, a1, a2, a3, a4, a5, a6, a7, a8, a9, a10, a11, a12, a13, a14, a15, rfl⟩ := BV hl
 rfl
theorem yS : (Tryz.prog.info? 76).map (·.size) = some 48 := by kernel_rfl
theorem yT : (Tryz.prog.info? 72).map (·.size) = some 23 := by kernel_rfl
theorem fM {c : Cl} {vi vo : Value} {m : Option Nat} (h1 : c.ck.length = 16) (h2 : c.key.length = 16) : (Tryz.prog.info? 76).map (·.size) = some (Dm c vi vo m).size := by rw [Cc h1 h2]; exact yS
def Pj (y : Nt) : Prop := 0 ≤ y.1 ∧ y.1 ≤ 16 ∧ 0 ≤ y.2.1 ∧ y.2.1 ≤ 1073741824 ∧ 0 ≤ y.2.2.1 ∧ y.2.2.1 ≤ 3 ∧ 0 ≤ y.2.2.2 ∧ y.2.2.2 ≤ 4
/-- may an order be: its kind, status, op, user -/
def Ej (o : Nt) : Prop := (o.1 = 6 ∧ 1 ≤ o.2.1 ∧ o.2.1 ≤ 3 ∧ o.2.2.1 = 0 ∧ o.2.2.2 = 0) ∨ (o.1 = 7 ∧ o.2.1 = 0 ∧ 1 ≤ o.2.2.1 ∧ o.2.2.1 ≤ 7 ∧ 1 ≤ o.2.2.2 ∧ o.2.2.2 ≤ 16) ∨ (o.1 = 10 ∧ o.2.1 = 0 ∧ o.2.2.1 = 0 ∧ o.2.2.2 = 0)
instance (o : Nt) : Decidable (Ej o) := by unfold Ej; exact inferInstance
/-- what is so of a client at any time -/
structure Dc (c : Cl) : Prop where
 ck : c.ck.length = 16
 key : c.key.length = 16
 user : 1 ≤ c.user ∧ c.user ≤ 16
 state : 0 ≤ c.state ∧ c.state ≤ 3
 now : 0 ≤ c.now ∧ c.now ≤ 1099511627776
 nonce : 0 ≤ c.nonce ∧ c.nonce ≤ 1073741824
 epoch : 0 ≤ c.epoch ∧ c.epoch ≤ 1073741824
 ask : 0 ≤ c.ask ∧ c.ask ≤ 1099511627780
 id : 0 ≤ c.id ∧ c.id ≤ 1073741824
 on : c.state = 3 → 1 ≤ c.id ∧ E3 c.next c.items
 beats : 0 ≤ c.beats ∧ c.beats ≤ 1073741825
 seq : 0 ≤ c.seq ∧ c.seq ≤ 1073741824
 beat : 0 ≤ c.beat ∧ c.beat ≤ 1099511627780
 say : 0 ≤ c.say ∧ c.say ≤ 1099511627780
 next : 0 ≤ c.next ∧ c.next ≤ 1073741824
 items : c.items.length ≤ 7
 notes : ∀ y ∈ c.items, Pj y.2
 off : c.state = 0 → c.os = []
 os : c.os.length ≤ 8
 may : ∀ o ∈ c.os, Ej o
 vw : ∀ u y, c.vw u = some y → y.1 = u ∧ 1 ≤ u ∧ u ≤ 16 ∧ Pj y ∧ 1 ≤ y.2.1
 code : 0 ≤ c.code ∧ c.code ≤ 15
/-- a slice's memory, if it has some, lies behind block b -/
abbrev Id (w : World) (v : Value) (L : List Nt) : Prop := AG EM w v L
/-- a bound: the rows of the client in block b lie at lim b or behind it -/
class Dw where
 lim : Nat → Nat
 ge : ∀ b, b + 1 ≤ lim b
instance (priority := 10) limZ : Dw := ⟨fun b => b + 1, fun _ => Nat.le_refl _⟩
structure Bn [Dw] (w : World) (b : Nat) (m : Option Nat) (c : Cl) : Prop where
 ok : Dc c
 ex : ∃ vi vo, Ad w b 76 (Dm c vi vo m) ∧ (ET w vi c.items ∧ Ct (Dw.lim b) vi) ∧ (Id w vo c.os ∧ Ct (Dw.lim b) vo)
 mp : AW w m c.vw
 mb : ∀ q, m = some q → b < q
/-- a call that writes but the block b, and the map m -/
structure Bi (b : Nat) (m : Option Nat) (w w' : World) : Prop where
 os : w'.os = w.os
 tape : w'.tape = w.tape
 output : w'.output = w.output
 size : w.heap.size ≤ w'.heap.size
 block : ∀ k, k < w.heap.size → k ≠ b → some k ≠ m → w'.heap[k]? = w.heap[k]?
theorem Bi.refl (b : Nat) (m : Option Nat) (w : World) : Bi b m w w := ⟨rfl, rfl, rfl, Nat.le_refl _, fun _ _ _ _ => rfl⟩
/-- the map behind a call -/
def Eg (w : World) (m m' : Option Nat) : Prop := m' = m ∨ m' = none ∨ ∃ q, m' = some q ∧ w.heap.size ≤ q
theorem Bi.comp {b : Nat} {m m' : Option Nat} {w w1 w2 : World} (h : Bi b m w w1) (hm : Eg w m m') (k : Bi b m' w1 w2) : Bi b m w w2 :=
 ⟨k.os.trans h.os, k.tape.trans h.tape, k.output.trans h.output, Nat.le_trans h.size k.size, fun i hi hb hn => (k.block i (Nat.lt_of_lt_of_le hi h.size) hb (by
  rcases hm with rfl | rfl | ⟨q, rfl, hq⟩
  · exact hn
  · simp
  · simp; omega)).trans (h.block i hi hb hn)⟩
theorem Eg.trans {w w1 : World} {m m' m2 : Option Nat} (h : Eg w m m') (hs : w.heap.size ≤ w1.heap.size) (k : Eg w1 m' m2) : Eg w m m2 := by
 rcases k with rfl | rfl | ⟨q, rfl, hq⟩
 · exact h
 · exact .inr (.inl rfl)
 · exact .inr (.inr ⟨q, rfl, by omega⟩)
theorem Eg.same (w : World) (m : Option Nat) : Eg w m m := .inl rfl
theorem Bi.below {b : Nat} {m : Option Nat} {w w1 w2 : World} (h : Bi b m w w1) (hb : Below w1.heap.size w1 w2) : Bi b m w w2 :=
 ⟨hb.os.trans h.os, hb.tape.trans h.tape, hb.output.trans h.output, Nat.le_trans h.size hb.size, fun i hi h1 h2 => (hb.block i (Nat.lt_of_lt_of_le hi h.size)).trans (h.block i hi h1 h2)⟩
theorem Bi.trans {b : Nat} {m : Option Nat} {W w w' : World} (h : Bi b m W w) (hb : Below W.heap.size w w') : Bi b m W w' :=
 ⟨hb.os.trans h.os, hb.tape.trans h.tape, hb.output.trans h.output, Nat.le_trans h.size hb.size, fun i hi h1 h2 => (hb.block i hi).trans (h.block i hi h1 h2)⟩
theorem Bi.tr {b : Nat} {m : Option Nat} {W w w1 : World} (h : Bi b m W w) (hb : Below w.heap.size w w1) : Bi b m W w1 := h.trans (hb.mono h.size)
def Cy {b : Nat} {m : Option Nat} {W w : World} (_ : Bi b m W w) : World := w
theorem AW.store {w w' : World} {m : Option Nat} {vw : Int → Option Nt} {b : Nat} (h : AW w m vw) (hm : ∀ q, m = some q → b < q) (hb : Below b w w') (ho : ∀ g, g ≠ b → w'.heap[g]? = w.heap[g]?) : AW w' m vw :=
 h.kept (row := some b) ⟨hb.os, hb.tape, hb.output, hb.size, fun k hk Fh => ho k (fun e => Fh (by rw [e]))⟩ (by
  cases m with
  | none => exact .inl rfl
  | some q => have := hm q rfl; exact .inr (by simp; omega))
/-- all but the block b as in W; and b's cell of the time too -/
def Cz (b : Nat) (W w : World) : Prop := W.grownBy w (some b) ∧ w.cell? ⟨b, 2, none⟩ = W.cell? ⟨b, 2, none⟩
theorem Ed (b : Nat) (w : World) : Cz b w w.drew := ⟨⟨rfl, rfl, rfl, Nat.le_refl _, fun _ _ _ => rfl⟩, rfl⟩
theorem Cz.store {b : Nat} {W w w' : World} (h : Cz b W w) (hb : Below b w w') (ho : ∀ g, g ≠ b → w'.heap[g]? = w.heap[g]?) (hc : w'.cell? ⟨b, 2, none⟩ = w.cell? ⟨b, 2, none⟩) : Cz b W w' :=
 ⟨⟨hb.os.trans h.1.os, hb.tape.trans h.1.tape, hb.output.trans h.1.output, Nat.le_trans h.1.size hb.size, fun k hk Fh => (ho k (fun e => Fh (by rw [e]))).trans (h.1.block k hk Fh)⟩, hc.trans h.2⟩
theorem T1 {b : Nat} {m : Option Nat} {w w' : World} (hb : Below w.heap.size w w') : Bi b m w w' := (Bi.refl b m w).below hb
theorem Bi.store {b : Nat} {m : Option Nat} {w w1 w2 : World} (h : Bi b m w w1) (hb : Below b w1 w2) (ho : ∀ g, g ≠ b → w2.heap[g]? = w1.heap[g]?) : Bi b m w w2 :=
 ⟨hb.os.trans h.os, hb.tape.trans h.tape, hb.output.trans h.output, Nat.le_trans h.size hb.size, fun i hi h1 h2 => (ho i h1).trans (h.block i hi h1 h2)⟩
theorem oI {q : IntKind} {x : Int} : (Value.int q x).cells.all (·.oneCell') = true := by simp [Value.cells, Value.oneCell']
theorem oS {A : Option Addr} {n k : Nat} : (Value.slice A n k).cells.all (·.oneCell') = true := by simp [Value.cells, Value.oneCell']
theorem FT {c : Cl} {vi vo : Value} {m : Option Nat} {o n : Nat} (h1 : c.ck.length = 16) (h2 : c.key.length = 16) (h : Nat.ble (o + n) 48 = true) : o + n ≤ (Dm c vi vo m).size := by
 rw [Cc h1 h2]
 exact Nat.le_of_ble_eq_true h
section
variable {ops : Array Oper} {rest : List Oper} {tt : TypeId} {ps : String} {af : Array Edge} {a : Act} {Q : Exit → Act → World → Prop} {n : Nat} {l : List (Nat × Value)}
theorem Gb {w W : World} {ty t : TypeId} {x y : Operand} {b off : Nat} {v : Value} {old new : Array Value} {m : Option Nat} (hx : a.eval x = .pointer (some ⟨b, off, none⟩)) (hy : a.eval y = v) (k : Ad w b t old) (hi : (Tryz.prog.info? ty).map (·.size) = some v.cells.size) (K8 : off + v.cells.size ≤ old.size)
  (h1 : v.cells.all (·.oneCell') = true) (hs : C3 old off v.cells.toList = new) (Aa : Bi b m W w) (H : Kn a n l) (h : ∀ w', Below b w w' → (∀ g, g ≠ b → w'.heap[g]? = w.heap[g]?) → Ad w' b t new → Bi b m W w' → ∀ a', Kn a' n l → wpList Tryz.prog ops Q rest a' w') :
  wpList Tryz.prog ops Q (⟨none, .store ty x y, tt, ps, af, none⟩ :: rest) a w :=
 AP ty x y b off t v old hx hy k hi K8 h1 fun w' hb ho kq => Dz H fun a' H' => h w' (hb b (Nat.le_refl _)) ho (by rw [← hs]; exact kq) (Aa.store (hb b (Nat.le_refl _)) ho) a' H'
end
theorem Bi.down {b B : Nat} {m : Option Nat} {W w w' : World} (h : Bi b m w w') (hW : Below B W w) (hb : B ≤ b) (hB : B ≤ w.heap.size) (hm : ∀ q, m = some q → b < q) : Below B W w' :=
 ⟨h.os.trans hW.os, h.tape.trans hW.tape, h.output.trans hW.output, Nat.le_trans hW.size h.size, fun k hk => (h.block k (by omega) (by omega) (fun e => by have := hm k e.symm; omega)).trans (hW.block k hk)⟩
theorem Bi.weak {b : Nat} {m : Option Nat} {w w' : World} (h : Bi b none w w') : Bi b m w w' := ⟨h.os, h.tape, h.output, h.size, fun k hk hb _ => h.block k hk hb (by simp)⟩
theorem Bi.thin {b : Nat} {m : Option Nat} {w w1 w2 : World} (h : Bi b m w w1) (k : Bi b none w1 w2) : Bi b m w w2 := ⟨k.os.trans h.os, k.tape.trans h.tape, k.output.trans h.output, Nat.le_trans h.size k.size, fun i hi hb hn => (k.block i (Nat.lt_of_lt_of_le hi h.size) hb (by simp)).trans (h.block i hi hb hn)⟩
theorem AW.gone {b : Nat} {w w' : World} {m : Option Nat} {vw : Int → Option Nt} (h : AW w m vw) (hm : ∀ q, m = some q → b < q) (ho : Bi b none w w') : AW w' m vw :=
 h.kept (row := some b) ⟨ho.os, ho.tape, ho.output, ho.size, fun k hk Fh => ho.block k hk (fun e => Fh (by rw [e])) (by simp)⟩ (by
  cases m with
  | none => exact .inl rfl
  | some q => have := hm q rfl; exact .inr (by simp; omega))
theorem Ct.base {B B' : Nat} {v : Value} (h : Ct B v) (hB : B' ≤ B) : Ct B' v := fun A n c e b o ea => Nat.le_trans hB (h A n c e b o ea)
theorem AG.store {α : Type} {enc : α → List Int} {w w' : World} {v : Value} {L : List α} {b : Nat} (h : AG enc w v L) (hf : Ct (b + 1) v) (ho : ∀ g, g ≠ b → w'.heap[g]? = w.heap[g]?) : AG enc w' v L := by
 obtain ⟨A, c, rfl, h1, h2, h3, hh⟩ := h
 exact AG.keep ⟨A, c, R, h1, h2, h3, hh⟩ (fun q o e => ho q (by have := hf A _ c R q o e; omega))
theorem AG.gone {α : Type} {enc : α → List Int} {w w' : World} {v : Value} {L : List α} {b : Nat} (h : AG enc w v L) (hf : Ct (b + 1) v) (ho : Bi b none w w') : AG enc w' v L := by
 obtain ⟨A, c, rfl, h1, h2, h3, hh⟩ := h
 refine ⟨A, c, R, h1, h2, h3, fun j hj => ?_⟩
 obtain ⟨q, o, e, hc⟩ := hh j hj
 refine ⟨q, o, e, ?_⟩
 have CM := World.block_lt_of_cell? w _ (hc.trans (List.getElem?_eq_getElem hj))
 have hq := hf A _ c rfl q o e
 rw [← hc]
 unfold World.cell?
 rw [ho.block q CM (by omega) (by simp)]
theorem fx [Dw] {b : Nat} {v : Value} (h : Ct (Dw.lim b) v) : Ct (b + 1) v := Ct.base h (Dw.ge b)
theorem Oy [Dw] {w w' : World} {b : Nat} {m : Option Nat} {c c' : Cl} {vi vo : Value} (ok : Dc c') (k : Ad w' b 76 (Dm c' vi vo m)) (AN : ET w vi c.items) (Ch : Ct (Dw.lim b) vi) (AD : Id w vo c.os) (BM : Ct (Dw.lim b) vo) (Bw : AW w m c.vw) (Dr : ∀ q, m = some q → b < q)
  (ho : Bi b none w w') (hi : c'.items = c.items) (hs : c'.os = c.os) (hv : c'.vw = c.vw) : Bn w' b m c' :=
 ⟨ok, ⟨vi, vo, k, ⟨by rw [hi]; exact AN.gone (fx Ch) ho, Ch⟩, by rw [hs]; exact AD.gone (fx BM) ho, BM⟩, by rw [hv]; exact Bw.gone Dr ho, Dr⟩
end
noncomputable def JO (p : AZ) : List (List B8) := if Bg p = true then [Cx p] else []
noncomputable def I8 (c : Cl) (p : AZ) : List (List B8) := if Cf (p.set 1 c.id) = true then JO (BK c.key (p.set 1 c.id)) else []
abbrev Z8 : List B8 := List.replicate 8 0
def E1 (n : Int) : AZ := ⟨[1, 0, 0, 0, 0, 0, 0, 0, 0, 0, n, 0], EB, Z8⟩
def Gg (u n e : Int) (k : List B8) : AZ := ⟨[3, 0, 0, u, 0, 0, 0, 0, 0, 0, n, e], k, Z8⟩
def Jj (q : Int) : AZ := ⟨[5, 0, q, 0, 0, 0, 0, 0, 0, 0, 0, 0], EB, Z8⟩
def LP (o : Nt) (q : Int) : AZ := ⟨[o.1, 0, q, o.2.2.2, o.2.2.1, o.2.1, 0, 0, 0, 0, 0, 0], EB, Z8⟩
def LX (a s : Int) : AZ := ⟨[9, 0, 0, 0, 0, 0, 0, 0, a, s, 0, 0], EB, Z8⟩
def JV (c : Cl) : Cl := G3 c.user
def Gh (c : Cl) (n : Int) : Cl := if n < 0 ∨ n > 1073741824 then c else { G3 c.user with nonce := n, state := 1 }
def Io (n : Int) : Bool := decide (¬ (n < 0 ∨ n > 1073741824))
def BO (c : Cl) (o : Nt) : Prop := c.state = 0 ∨ ¬ Ej o ∨ 8 ≤ c.os.length
instance (c : Cl) (o : Nt) : Decidable (BO c o) := by unfold BO; exact inferInstance
def EE (c : Cl) (o : Nt) : Cl := if BO c o then c else { c with os := c.os ++ [o] }
def JS (c : Cl) : Cl := { c with ask := c.now + 4 }
noncomputable def Pu (c : Cl) : List (List B8) := JO (E1 c.nonce)
noncomputable def Oh (c : Cl) : List (List B8) := JO (Gg c.user c.nonce c.epoch c.ck)
def UL (x y : Int) : Int := if y < x then y else x
def D4 (c : Cl) : Cl := if c.now < c.beat then c else { c with beats := UL (c.beats + 1) 1073741825, beat := c.now + 4 }
noncomputable def KJ (c : Cl) : List (List B8) := if c.now < c.beat then [] else I8 c (Jj (UL (c.beats + 1) 1073741825))
def I9 (c : Cl) : Cl := match c.os with | [] => c | _ :: _ => if c.now < c.say then c else { c with say := c.now + 4 }
noncomputable def Kj (c : Cl) : List (List B8) := match c.os with | [] => [] | o :: _ => if c.now < c.say then [] else I8 c (LP o (c.seq + 1))
def G8 (c : Cl) : Cl := { c with now := UL (c.now + 1) 1099511627776 }
/-- a tick: behind the time's step -/
def EC (c : Cl) : Cl := if c.state = 3 then I9 (D4 c) else if c.now < c.ask then c else if c.state = 1 ∨ c.state = 2 then JS c else c
noncomputable def Fs (c : Cl) : List (List B8) := if c.state = 3 then KJ c ++ Kj (D4 c) else if c.now < c.ask then [] else if c.state = 1 then Pu c else if c.state = 2 then Oh c else []
def DD (c : Cl) : Cl := if c.state = 0 then c else EC (G8 c)
noncomputable def Eo (c : Cl) : List (List B8) := if c.state = 0 then [] else Fs (G8 c)
def Nj (c : Cl) (p : AZ) : Cl := { c with epoch := p.fld 11, ck := p.sec, state := 2 }
def LJ (c : Cl) (p : AZ) : Cl := if c.state = 1 ∧ p.fld 10 = c.nonce then JS (Nj c p) else c
noncomputable def LI (c : Cl) (p : AZ) : List (List B8) := if c.state = 1 ∧ p.fld 10 = c.nonce then Oh (Nj c p) else []
def NB (c : Cl) (p : AZ) : Cl := if c.state = 2 ∧ p.fld 10 = c.nonce then { c with state := 3, id := p.fld 1, key := p.sec, beats := 0, seq := 0, beat := c.now, say := c.now, next := 1, items := [] } else c
def Ep (c : Cl) (p : AZ) : Cl := if c.state = 2 ∧ p.fld 10 = c.nonce then { c with ask := c.now + 4, state := 1, code := p.fld 4 } else
 if c.state = 3 ∧ p.fld 10 = c.id ∧ p.fld 4 = 6 then { c with nonce := (c.nonce + 1) % 1073741825, ask := c.now, state := 1, code := p.fld 4 } else c
noncomputable def Fm (c : Cl) (p : AZ) : Bool := decide (c.state = 3 ∧ p.fld 1 = c.id) && HJ c.key p
def DN (old now : Nt) : Bool := decide (old.1 = now.1 ∧ old.2.1 < now.2.1)
def ES (vw : Int → Option Nt) (n : Nt) : Int → Option Nt := if n.1 = 0 then vw else match vw n.1 with | none => if n.2.1 < 1 then vw else Fd vw n | some old => if DN old n = true then Fd vw n else vw
def I0 (c : Cl) (n : Nt) : Cl := { c with vw := ES c.vw n }
def KL (p : AZ) : It := (p.fld 2, p.fld 3, p.fld 7, p.fld 5, p.fld 6)
def DC (c : Cl) (p : AZ) : Cl := { c with next := (takeF c.next c.items (KL p)).1.1, items := (takeF c.next c.items (KL p)).1.2, vw := (takeF c.next c.items (KL p)).2.foldl ES c.vw }
noncomputable def LR (c : Cl) (p : AZ) : Cl := if Fm c p = true then DC c p else c
noncomputable def Nz (c : Cl) (p : AZ) : List (List B8) := if Fm c p = true then I8 (DC c p) (LX (Ey (DC c p).next (DC c p).items).1 (Ey (DC c p).next (DC c p).items).2) else []
def Gp (c : Cl) (p : AZ) (o : Nt) (l : List Nt) : Cl := if o.1 = 10 then { G3 c.user with vw := c.vw, code := p.fld 4 } else { c with os := l, seq := p.fld 2, say := c.now, code := p.fld 4 }
noncomputable def Hi (c : Cl) (p : AZ) : Cl := match c.os with | [] => c | o :: l => if Fm c p = true ∧ p.fld 2 = c.seq + 1 then Gp c p o l else c
/-- a packet comes -/
noncomputable def Hp (c : Cl) (p : AZ) : Cl := if p.fld 0 = 2 then LJ c p else if p.fld 0 = 4 then NB c p else if p.fld 0 = 12 then Ep c p else if p.fld 0 = 8 then LR c p else if p.fld 0 = 11 then Hi c p else c
noncomputable def Ho (c : Cl) (p : AZ) : List (List B8) := if p.fld 0 = 2 then LI c p else if p.fld 0 = 8 then Nz c p else []
noncomputable def DR (c : Cl) (bs : List B8) : Cl := if ID bs = 0 then Hp c (GQ bs) else c
noncomputable def DQ (c : Cl) (bs : List B8) : List (List B8) := if ID bs = 0 then Ho c (GQ bs) else []
/-! what stays so -/
theorem O0 (u : Int) : 1 ≤ DV u ∧ DV u ≤ 16 := by unfold DV; split <;> split at * <;> omega
theorem T8 {x y : Int} (h : 0 ≤ x) (hy : 0 ≤ y) : 0 ≤ UL x y ∧ UL x y ≤ y := by unfold UL; split <;> omega
theorem Nl {u : Int} (h : 1 ≤ u ∧ u ≤ 16) : Dc (G3 u) where
 ck := rfl
 key := rfl
 user := h
 state := ⟨Int.le_refl _, show (0 : Int) ≤ 3 by decide⟩
 now := ⟨Int.le_refl _, show (0 : Int) ≤ 1099511627776 by decide⟩
 nonce := ⟨Int.le_refl _, show (0 : Int) ≤ 1073741824 by decide⟩
 epoch := ⟨Int.le_refl _, show (0 : Int) ≤ 1073741824 by decide⟩
 ask := ⟨Int.le_refl _, show (0 : Int) ≤ 1099511627780 by decide⟩
 id := ⟨Int.le_refl _, show (0 : Int) ≤ 1073741824 by decide⟩
 on := fun e => absurd (show (0 : Int) = 3 from e) (by decide)
 beats := ⟨Int.le_refl _, show (0 : Int) ≤ 1073741825 by decide⟩
 seq := ⟨Int.le_refl _, show (0 : Int) ≤ 1073741824 by decide⟩
 beat := ⟨Int.le_refl _, show (0 : Int) ≤ 1099511627780 by decide⟩
 say := ⟨Int.le_refl _, show (0 : Int) ≤ 1099511627780 by decide⟩
 next := ⟨Int.le_refl _, show (0 : Int) ≤ 1073741824 by decide⟩
 items := Nat.zero_le _
 notes := fun y hy => by cases hy
 off := fun _ => rfl
 os := Nat.zero_le _
 may := fun o ho => by cases ho
 vw := fun u y e => by cases e
 code := ⟨Int.le_refl _, show (0 : Int) ≤ 15 by decide⟩
theorem Rp {c : Cl} (h : Dc c) : Dc (JV c) := Nl h.user
theorem PR {c : Cl} (h : Dc c) (n : Int) : Dc (Gh c n) := by
 unfold Gh
 split
 · exact h
 ·
  have z := Nl h.user
  exact { z with state := ⟨show (0 : Int) ≤ 1 by decide, show (1 : Int) ≤ 3 by decide⟩, nonce := by show 0 ≤ n ∧ n ≤ _; omega, on := fun e => absurd (show (1 : Int) = 3 from e) (by decide), off := fun e => absurd (show (1 : Int) = 0 from e) (by decide) }
theorem K0 {c : Cl} (h : Dc c) (o : Nt) : Dc (EE c o) := by
 unfold EE
 split
 · exact h
 ·
  rename_i hn
  have hn' : c.state ≠ 0 ∧ Ej o ∧ c.os.length < 8 := by unfold BO at hn; refine ⟨fun e => hn (.inl e), ?_, ?_⟩; exact Classical.byContradiction fun e => hn (.inr (.inl e)); exact Nat.lt_of_not_le fun e => hn (.inr (.inr e))
  exact { h with
   off := fun e => absurd e hn'.1
   os := by show (c.os ++ [o]).length ≤ 8; rw [List.length_append]; have := hn'.2.2; simp; omega
   may := fun x hx => by
    rcases List.mem_append.1 hx with hx | hx
    · exact h.may x hx
    · rw [List.mem_singleton.1 hx]; exact hn'.2.1 }
theorem Nd {c : Cl} (h : Dc c) : Dc (JS c) := { h with ask := by have := h.now; show 0 ≤ c.now + 4 ∧ c.now + 4 ≤ _; omega }
theorem Gx {c : Cl} (h : Dc c) : Dc (D4 c) := by
 unfold D4
 split
 · exact h
 ·
  have h1 := T8 (x := c.beats + 1) (y := 1073741825) (by have := h.beats; omega) (by omega)
  exact { h with beats := h1, beat := by have := h.now; show 0 ≤ c.now + 4 ∧ c.now + 4 ≤ _; omega }
theorem bR {c : Cl} (h : Dc c) : Dc (I9 c) := by
 unfold I9
 split
 · exact h
 ·
  split
  · exact h
  · exact { h with say := by have := h.now; show 0 ≤ c.now + 4 ∧ c.now + 4 ≤ _; omega }
theorem OK {c : Cl} (h : Dc c) : Dc (G8 c) := { h with now := T8 (by have := h.now; omega) (by omega) }
theorem VO {c : Cl} (h : Dc c) : Dc (EC c) := by
 unfold EC
 split
 · exact bR (Gx h)
 ·
  split
  · exact h
  ·
   split
   · exact Nd h
   · exact h
theorem Tb {c : Cl} (h : Dc c) : Dc (DD c) := by
 unfold DD
 split
 · exact h
 · exact VO (OK h)
theorem DM {p : AZ} (h : Bg p = true) {s : Nat × Nat × Nat × Nat} (hs : s ∈ AH (p.fld 0)) : ((s.2.2.1 : Nat) : Int) ≤ p.fld (DW s.1) ∧ p.fld (DW s.1) ≤ ((s.2.2.2 : Nat) : Int) := by
 have h' : JN p := @of_decide_eq_true _ (Classical.propDecidable _) h
 obtain ⟨i, hi, he⟩ := List.getElem_of_mem hs
 exact h'.2.1 i s (by rw [← he]; exact List.getElem?_eq_getElem hi)
theorem XS {c : Cl} {p : AZ} (h : Dc c) (hp : p.ok) (hr : Bg p = true) (hk : p.fld 0 = 4) : Dc (NB c p) := by
 unfold NB
 split
 ·
  have h2 := DM hr (s := (96, 4, 1, 1073741824)) (by rw [hk]; decide)
  have h3 : 1 ≤ p.fld 1 ∧ p.fld 1 ≤ 1073741824 := h2
  have hn := h.now
  exact { h with
   key := hp.2.1, state := ⟨show (0 : Int) ≤ 3 by decide, show (3 : Int) ≤ 3 by decide⟩, id := by show 0 ≤ p.fld 1 ∧ p.fld 1 ≤ 1073741824; omega, off := fun e => absurd (show (3 : Int) = 0 from e) (by decide)
   on := fun _ => ⟨h3.1, show (1 : Int) ≤ 1 by decide, show (1 : Int) ≤ 1073741824 by decide, List.Pairwise.nil, fun y hy => by cases hy⟩
   beats := ⟨Int.le_refl _, show (0 : Int) ≤ 1073741825 by decide⟩, seq := ⟨Int.le_refl _, show (0 : Int) ≤ 1073741824 by decide⟩, beat := by show 0 ≤ c.now ∧ c.now ≤ _; omega, say := by show 0 ≤ c.now ∧ c.now ≤ _; omega
   next := ⟨show (0 : Int) ≤ 1 by decide, show (1 : Int) ≤ 1073741824 by decide⟩, items := Nat.zero_le _, notes := fun y hy => by cases hy }
 · exact h
theorem ED {c : Cl} {p : AZ} (h : Dc c) (hr : Bg p = true) (hk : p.fld 0 = 12) : Dc (Ep c p) := by
 have h2 : 0 ≤ p.fld 4 ∧ p.fld 4 ≤ 15 := DM hr (s := (100, 1, 0, 15)) (by rw [hk]; decide)
 have hn := h.now
 have hm := h.nonce
 unfold Ep
 split
 · exact { h with ask := by show 0 ≤ c.now + 4 ∧ c.now + 4 ≤ _; omega, state := ⟨show (0 : Int) ≤ 1 by decide, show (1 : Int) ≤ 3 by decide⟩, on := fun e => absurd (show (1 : Int) = 3 from e) (by decide), off := fun e => absurd (show (1 : Int) = 0 from e) (by decide), code := h2 }
 ·
  split
  · exact { h with ask := by show 0 ≤ c.now ∧ c.now ≤ _; omega, nonce := by show 0 ≤ (c.nonce + 1) % 1073741825 ∧ (c.nonce + 1) % 1073741825 ≤ 1073741824; omega, state := ⟨show (0 : Int) ≤ 1 by decide, show (1 : Int) ≤ 3 by decide⟩, on := fun e => absurd (show (1 : Int) = 3 from e) (by decide), off := fun e => absurd (show (1 : Int) = 0 from e) (by decide), code := h2 }
  · exact h
theorem Nm {vw : Int → Option Nt} {n : Nt} (h : ∀ u y, vw u = some y → y.1 = u ∧ 1 ≤ u ∧ u ≤ 16 ∧ Pj y ∧ 1 ≤ y.2.1) (hn : Pj n) : ∀ u y, ES vw n u = some y → y.1 = u ∧ 1 ≤ u ∧ u ≤ 16 ∧ Pj y ∧ 1 ≤ y.2.1 := by
 have hu : n.1 ≠ 0 → 1 ≤ n.2.1 → ∀ u y, Fd vw n u = some y → y.1 = u ∧ 1 ≤ u ∧ u ≤ 16 ∧ Pj y ∧ 1 ≤ y.2.1 := fun h0 hv u y e => by
  unfold Fd at e
  split at e
  ·
   rename_i eu
   injection e with e
   subst e
   have a1 := hn.1
   have a2 := hn.2.1
   exact ⟨eu.symm, by omega, by omega, hn, hv⟩
  · exact h u y e
 by_cases h0 : n.1 = 0
 ·
  rw [show ES vw n = vw by unfold ES; rw [if_pos h0]]
  exact h
 ·
  cases hv : vw n.1 with
  | none =>
   by_cases h1 : n.2.1 < 1
   ·
    rw [show ES vw n = vw by unfold ES; rw [if_neg h0, hv]; simp only [if_pos h1]]
    exact h
   ·
    rw [show ES vw n = Fd vw n by unfold ES; rw [if_neg h0, hv]; simp only [if_neg h1]]
    exact hu h0 (by omega)
  | some old =>
   by_cases h1 : DN old n = true
   ·
    rw [show ES vw n = Fd vw n by unfold ES; rw [if_neg h0, hv]; simp only [if_pos h1]]
    have hw' := of_decide_eq_true h1
    have := (h _ _ hv).2.2.2.2
    exact hu h0 (by omega)
   ·
    rw [show ES vw n = vw by unfold ES; rw [if_neg h0, hv]; simp only [if_neg h1]]
    exact h
theorem P5 : ∀ (l : List Nt) (vw : Int → Option Nt), (∀ u y, vw u = some y → y.1 = u ∧ 1 ≤ u ∧ u ≤ 16 ∧ Pj y ∧ 1 ≤ y.2.1) → (∀ n ∈ l, Pj n) → ∀ u y, l.foldl ES vw u = some y → y.1 = u ∧ 1 ≤ u ∧ u ≤ 16 ∧ Pj y ∧ 1 ≤ y.2.1
 | [], _, h, _ => h
 | n :: l, vw, h, hn => P5 l _ (Nm h (hn n (by simp))) (fun x hx => hn x (by simp [hx]))
theorem Q7 : ∀ (M : List It) (n : Int), (∀ y ∈ (popF n M).1.2, y ∈ M) ∧ ∀ z ∈ (popF n M).2, ∃ y ∈ M, z = y.2
 | [], n => by simp [Kw]
 | y :: M, n => by
  by_cases h : y.1 = n
  ·
   rw [Jw h]
   obtain ⟨h1, h2⟩ := Q7 M (n + 1)
   refine ⟨fun z hz => by simp [h1 z hz], fun z hz => ?_⟩
   rcases List.mem_cons.1 hz with rfl | hz
   · exact ⟨y, by simp, rfl⟩
   ·
    obtain ⟨x, hx, e⟩ := h2 z hz
    exact ⟨x, by simp [hx], e⟩
  ·
   rw [G0 h]
   exact ⟨fun z hz => hz, fun z hz => by cases hz⟩
theorem Hx {n : Int} {L : List It} {x : It} (hL : ∀ y ∈ L, Pj y.2) (hx : Pj x.2) : (∀ y ∈ (takeF n L x).1.2, Pj y.2) ∧ ∀ z ∈ (takeF n L x).2, Pj z := by
 by_cases h : Jl n L x
 ·
  rw [KW h]
  exact ⟨hL, fun z hz => by cases hz⟩
 ·
  rw [OM h]
  obtain ⟨h1, h2⟩ := Q7 (insI L x) n
  have h3 : ∀ y ∈ insI L x, Pj y.2 := fun y hy => by
   rcases TD.1 hy with rfl | hy
   · exact hx
   · exact hL y hy
  refine ⟨fun y hy => h3 y (h1 y hy), fun z hz => ?_⟩
  obtain ⟨y, hy, rfl⟩ := h2 z hz
  exact h3 y hy
theorem Mg {p : AZ} (hr : Bg p = true) (hk : p.fld 0 = 8) : Pj (KL p).2 ∧ 1 ≤ (KL p).1 ∧ (KL p).1 ≤ 1073741824 := by
 have h1 := DM hr (s := (101, 1, 0, 16)) (by rw [hk]; decide)
 have h2 := DM hr (s := (103, 4, 0, 1073741824)) (by rw [hk]; decide)
 have h3 := DM hr (s := (102, 1, 0, 3)) (by rw [hk]; decide)
 have h4 := DM hr (s := (104, 1, 0, 4)) (by rw [hk]; decide)
 have h5 := DM hr (s := (97, 4, 1, 1073741824)) (by rw [hk]; decide)
 exact ⟨⟨h1.1, h1.2, h2.1, h2.2, h3.1, h3.2, h4.1, h4.2⟩, h5.1, h5.2⟩
theorem OF {c : Cl} {p : AZ} (h : Dc c) (hs : c.state = 3) (hr : Bg p = true) (hk : p.fld 0 = 8) : Dc (DC c p) := by
 have hR := ME (x := KL p) (h.on hs).2
 have ht := Hx (n := c.next) (L := c.items) (x := KL p) h.notes (Mg hr hk).1
 exact { h with
  on := fun _ => ⟨(h.on hs).1, hR⟩
  next := ⟨by have := hR.1; show 0 ≤ (takeF c.next c.items (KL p)).1.1; omega, hR.2.1⟩
  items := Jv hR
  notes := ht.1
  vw := P5 _ _ h.vw ht.2 }
theorem Pb {c : Cl} {p : AZ} (h : Dc c) (hr : Bg p = true) (hk : p.fld 0 = 11) : Dc (Hi c p) := by
 have h2 : 0 ≤ p.fld 4 ∧ p.fld 4 ≤ 15 := DM hr (s := (100, 1, 0, 15)) (by rw [hk]; decide)
 have h3 : 1 ≤ p.fld 2 ∧ p.fld 2 ≤ 1073741824 := DM hr (s := (97, 4, 1, 1073741824)) (by rw [hk]; decide)
 unfold Hi
 split
 · exact h
 ·
  rename_i o l ho
  split
  ·
   rename_i h1
   unfold Gp
   split
   ·
    have z := Nl h.user
    exact { z with vw := h.vw, code := h2 }
   ·
    have hl := h.os
    rw [ho] at hl
    have hs : c.state = 3 := by
     have h4 := h1.1
     unfold Fm at h4
     rw [Bool.and_eq_true] at h4
     exact (of_decide_eq_true h4.1).1
    exact { h with
     off := fun e => by have e' : c.state = 0 := e; omega
     os := by show l.length ≤ 8; rw [List.length_cons] at hl; omega
     may := fun x hx => h.may x (by rw [ho]; simp [show x ∈ l from hx])
     seq := by show 0 ≤ p.fld 2 ∧ p.fld 2 ≤ _; omega
     say := by have := h.now; show 0 ≤ c.now ∧ c.now ≤ _; omega
     code := h2 }
  · exact h
theorem Ov {bs : List B8} (h : ID bs = 0) : Bg (GQ bs) = true ∧ (GQ bs).ok := by
 unfold ID at h
 by_cases h1 : LH bs = true
 ·
  have h2 : GQ bs = (F4 bs).2 := if_pos h1
  unfold LH at h1
  rw [Bool.and_eq_true] at h1
  rw [h2]
  exact ⟨h1.2, P2 bs⟩
 ·
  rw [if_neg h1] at h
  cases h
section
theorem ZK : (Tryz.prog.info? 73).map (·.size) = some 1 := by kernel_rfl
theorem uQ : (Tryz.prog.info? 74).map (·.size) = some 1 := by kernel_rfl
theorem Wr : (Tryz.prog.info? 46).map (·.size) = some 1 := by kernel_rfl
theorem JY : (Tryz.prog.info? 32).map (·.size) = some 4 := by kernel_rfl
theorem mH : (Tryz.prog.info? 32).map (·.zero) = some (some (.agg #[J 0, J 0, J 0, J 0])) := by kernel_rfl
theorem QQ : (Tryz.prog.info? 32).map (fun i => (i.zero, i.size, i.bytes)) = some (some (.agg #[J 0, J 0, J 0, J 0]), 4, 32) := by kernel_rfl
theorem nU : BI Tryz.prog 76 0 0 := fun b o w => by go_simp
theorem nT : BI Tryz.prog 76 1 1 := fun b o w => by go_simp
theorem nS : BI Tryz.prog 76 2 2 := fun b o w => by go_simp
theorem nR : BI Tryz.prog 76 3 3 := fun b o w => by go_simp
theorem nQ : BI Tryz.prog 76 4 4 := fun b o w => by go_simp
theorem nP : BI Tryz.prog 76 5 5 := fun b o w => by go_simp
theorem nO : BI Tryz.prog 76 6 21 := fun b o w => by go_simp
theorem nN : BI Tryz.prog 76 7 22 := fun b o w => by go_simp
theorem nM : BI Tryz.prog 76 8 45 := fun b o w => by go_simp
theorem nL : BI Tryz.prog 76 9 46 := fun b o w => by go_simp
theorem iP : BI Tryz.prog 76 10 47 := fun b o w => by go_simp
theorem KD : BI Tryz.prog 72 0 0 := fun b o w => by go_simp
theorem TO : BI Tryz.prog 72 1 1 := fun b o w => by go_simp
theorem Pw : BI Tryz.prog 72 2 17 := fun b o w => by go_simp
theorem Ml : BI Tryz.prog 72 3 18 := fun b o w => by go_simp
theorem TN : BI Tryz.prog 72 4 19 := fun b o w => by go_simp
theorem Mk : BI Tryz.prog 72 5 20 := fun b o w => by go_simp
theorem Pv : BI Tryz.prog 72 6 21 := fun b o w => by go_simp
theorem Zo : BI Tryz.prog 32 0 0 := fun b o w => by go_simp
theorem oL : BI Tryz.prog 32 1 1 := fun b o w => by go_simp
theorem oK : BI Tryz.prog 32 2 2 := fun b o w => by go_simp
theorem oJ : BI Tryz.prog 32 3 3 := fun b o w => by go_simp
section
variable {P : Program} {d : Option Tmp} {tt : TypeId} {ps : String} {af : Array Edge} {a : Act} {w : World} {K : Act → World → Prop} {Q : Exit → Act → World → Prop}
theorem E9 (ty : TypeId) (x y : Operand) (g off : Nat) (t : TypeId) (cells old : Array Value) (hx : a.eval x = .pointer (some ⟨g, off, none⟩)) (hy : a.eval y = .agg cells)
  (hg : Ad w g t old) (hi : (P.info? ty).map (·.size) = some cells.size) (K8 : off + cells.size ≤ old.size) (h1 : cells.all (·.oneCell') = true)
  (h : ∀ w', (∀ B, B ≤ g → Below B w w') → (∀ g', g' ≠ g → w'.heap[g']? = w.heap[g']?) → Ad w' g t (C3 old off cells.toList) → K (a.put d undef) w') :
  Oper.wp P ⟨d, .store ty x y, tt, ps, af, none⟩ a w K Q :=
 AX ty x y g off t (.agg cells) old hx hy hg hi K8 h1 h
theorem LM (t e : TypeId) (s x : Operand) (z : Value) (size bytes : Nat) (A : Option Addr) (n c : Nat) (olds : List Value) (b : Nat) (m : Nat) (news : List Value)
  (hs : a.eval s = .slice A n c) (hx : a.eval x = .slice (some ⟨b, 0, none⟩) m m)
  (ht : P.underlying t = some (.slice e)) (hi : (P.info? e).map (fun i => (i.zero, i.size, i.bytes)) = some (some z, size, bytes))
  (ZV : z.cells.size = size) (If : 0 < size) (N5 : olds.length = n * size) (QU : BJ w A olds) (pU : A = none → n = 0 ∧ c = 0)
  (hl : news.length = m * size) (hr : BJ w (some ⟨b, 0, none⟩) news) (h1 : ∀ u ∈ news, u.oneCell' = true) (qP : c < n + m)
  (aT : n + m ≤ maxLen) (Jg : (n + m) * bytes ≤ 140737488355328)
  (h : ∀ v' w', w'.ownsRow w.heap.size e size v' (n + m) (olds ++ news) → Below w.heap.size w w' → K (a.put d v') w') :
  Oper.wp P ⟨d, .call { callee := .builtin .append, args := #[s, x], argTypes := #[t, t] }, tt, ps, af, none⟩ a w K Q := by
 cases hq : P.info? e with
 | none => simp [hq] at hi
 | some i =>
  have Pp : i.zero = some z ∧ i.size = size ∧ i.bytes = bytes := by simpa [hq] using hi
  obtain ⟨hz, TF, aO⟩ := Pp
  have hn : ∀ j u, news[j]? = some u → w.cell? ((⟨b, 0, none⟩ : Addr).add j) = some u := fun j u hu => by
   obtain ⟨b', o', he, hc⟩ := hr j (List.getElem?_eq_some_iff.1 hu).1
   injection he with he
   rw [he, CT, hc, hu]
  cases A with
  | some ad =>
   have ho : ∀ j u, olds[j]? = some u → w.cell? (ad.add j) = some u := fun j u hu => by
    obtain ⟨b', o', he, hc⟩ := QU j (List.getElem?_eq_some_iff.1 hu).1
    injection he with he
    rw [he, CT, hc, hu]
   obtain ⟨v', w', Df, r1, r2⟩ := run_append_arg_grows (P := P) w t tt e i z size bytes ht hq hz TF aO ZV If ad n c olds N5 ho ⟨b, 0, none⟩ m m news hl hn qP aT Jg
   unfold Oper.wp execOp
   simp only [resolve, invoke, builtin, Sem.run_bind, Sem.run_pure, Result.andThen_ok, List.map_toArray, List.map_cons, List.map_nil, hs, hx, Df]
   exact h v' w' r1 ⟨r2.os, r2.tape, r2.output, r2.size, fun k hk => r2.block k hk (by simp)⟩
  | none =>
   obtain ⟨rfl, rfl⟩ := pU rfl
   obtain rfl : olds = [] := List.eq_nil_of_length_eq_zero (by simpa using N5)
   obtain ⟨v', w', Df, r1, r2, _⟩ := run_append_own (P := P) w w.heap.size t tt e i z size bytes ht hq hz TF aO ZV If (.slice none 0 0) 0 [] (World.ownsRow_nil w _ e size) ⟨b, 0, none⟩ m m news hl hn h1 aT Jg (Nat.le_refl _)
   unfold Oper.wp execOp
   simp only [resolve, invoke, builtin, Sem.run_bind, Sem.run_pure, Result.andThen_ok, List.map_toArray, List.map_cons, List.map_nil, hs, hx, Df]
   exact h v' w' r1 ⟨r2.os, r2.tape, r2.output, r2.size, fun k hk => r2.block k hk (by simp [Value.ownBlock])⟩
end
/-- what a call sends: a row of rows of bytes, all of its eY memory -/
def AK (w : World) (B : Nat) (v : Value) (L : List (List B8)) : Prop :=
 ∃ vs : List Value, vs.length = L.length ∧ w.ownsRow B 30 1 v L.length vs ∧ (∀ (i : Nat) x y, vs[i]? = some x → L[i]? = some y → Dg w B x y) ∧ ∀ (i j : Nat) x y, vs[i]? = some x → vs[j]? = some y → i ≠ j → ∀ q, x.ownBlock = some q → y.ownBlock ≠ some q
theorem Bd {w : World} {B : Nat} : AK w B (.slice none 0 0) [] := ⟨[], rfl, World.ownsRow_nil _ _ _ _, (fun i x y h => by simp at h), fun i j x y h => by simp at h⟩
theorem QD {w : World} {B b : Nat} {x : Value} {y : List B8} (k : Ad w b 30 #[x]) (h : Dg w B x y) (hb : B ≤ b) : AK w B (.slice (some ⟨b, 0, none⟩) 1 1) [y] :=
 ⟨[x], rfl, DA (Tx k) hb, fun i u v hu hv => by
  match i, hu, hv with
  | 0, hu, hv =>
   injection hu with hu
   injection hv with hv
   subst hu hv
   exact h, fun i j u v hu hv vD => by
  have h1 := (List.getElem?_eq_some_iff.1 hu).1
  have h2 := (List.getElem?_eq_some_iff.1 hv).1
  simp at h1 h2
  omega⟩
theorem AK.up {w w' : World} {B : Nat} {v : Value} {L : List (List B8)} (h : AK w B v L) (hb : Below w.heap.size w w') : AK w' B v L := by
 obtain ⟨vs, h1, h2, h3, h4⟩ := h
 exact ⟨vs, h1, Bh h2 hb, fun i x y hx hy => Bh (h3 i x y hx hy) hb, h4⟩
theorem AK.keep {w w' : World} {B : Nat} {v : Value} {L : List (List B8)} (h : AK w B v L) (hk : ∀ q, B ≤ q → q < w.heap.size → w'.heap[q]? = w.heap[q]?) : AK w' B v L := by
 obtain ⟨vs, h1, h2, h3, h4⟩ := h
 exact ⟨vs, h1, D9 h2 (fun q hq => hk q (World.ownsRow.lt h2 q hq).1 (World.ownsRow.lt h2 q hq).2), fun i x y hx hy => D9 (h3 i x y hx hy) (fun q hq => hk q (World.ownsRow.lt (h3 i x y hx hy) q hq).1 (World.ownsRow.lt (h3 i x y hx hy) q hq).2), h4⟩
theorem AK.only {w w' : World} {B b : Nat} {m : Option Nat} {v : Value} {L : List (List B8)} (h : AK w B v L) (ho : Bi b m w w') (hb : b < B) (hm : ∀ q, m = some q → q < B) : AK w' B v L :=
 h.keep fun q hq hl => ho.block q hl (by omega) (fun e => by have := hm q e.symm; omega)
theorem AK.base {w : World} {B B' : Nat} {v : Value} {L : List (List B8)} (h : AK w B v L) (hB : B' ≤ B) : AK w B' v L := by
 obtain ⟨vs, h1, h2, h3, h4⟩ := h
 exact ⟨vs, h1, DA h2 hB, fun i x y hx hy => DA (h3 i x y hx hy) hB, h4⟩
theorem Oe (w : World) (x y : Nt) : Calls Tryz.prog 120 #[.agg (cN x), .agg (cN y)] w fun e w' => e = .returned (.bool (DN x y)) ∧ Below w.heap.size w w' := by
 have Aa := Below.refl w.heap.size w
 refine Az 17 Tryz.func120 R R λ a H => zC (zD (B7 49 _ #[J x.1, J x.2.1, J x.2.2.1, J x.2.2.2] (H.e R) fun w0 b0 Ak hb k0 => ?_))
 have g0 := Nat.le_trans Aa.size Ak; replace Aa := Aa.tr hb; clear hb; clear Ak; refine kl H rfl λ a H => B7 49 _ #[J y.1, J y.2.1, J y.2.2.1, J y.2.2.2] (H.ev rfl) fun w1 b1 Ak hb k1 => ?_
 have g1 := Nat.le_trans Aa.size Ak; replace k0 := k0.ups hb; replace Aa := Aa.tr hb; clear hb; clear Ak; refine kL 1 H rfl λ a H => zA (zB (zC (zD (kR 1 H rfl λ a H => kX 1 H (Ai U3 rfl (H.ev rfl) ((Ad.cell k0 0).trans rfl)) rfl λ a H => kV H (Ai U3 rfl (H.ev rfl) ((Ad.cell k1 0).trans rfl)) rfl λ a H => ?_))))
 by_cases BE : x.1 = y.1
 ·
  refine kX 2 H (A9 U3 (H.e R) (H.e R) (AE (BE))) R λ a H => kY 1 H R (Ai U3 R (H.e R) ((Ad.cell k0 1).trans R)) R λ a H => kW H R (Ai U3 R (H.e R) ((Ad.cell k1 1).trans R)) R λ a H => ?_
  by_cases Cn : x.2.1 < y.2.1
  ·
   exact kY 2 H R (By U3 (H.e R) (H.e R) (AE (Cn))) R λ a H => zA (zB (zF (Ag H R R ⟨by rw [DN, decide_eq_true (by omega)], Aa⟩)))
  ·
   exact kY 2 H R (By U3 (H.e R) (H.e R) (AF (Cn))) R λ a H => zA (zB (zF (Ag H R R ⟨by rw [DN, decide_eq_false (by omega)], Aa⟩)))
 ·
  exact kX 8 H (A9 U3 (H.e R) (H.e R) (AF (BE))) R λ a H => zA (zB (zF (Ag H R R ⟨by rw [DN, decide_eq_false (by omega)], Aa⟩)))
theorem Ip (w : World) (x y : Nt) : Calls Tryz.prog 92 #[.agg (cN x), .agg (cN y)] w fun e w' => e = .returned (.bool (DN x y)) ∧ Below w.heap.size w w' := by
 have Aa := Below.refl w.heap.size w
 refine Az 17 Tryz.func92 R R λ a H => zC (zD (B7 49 _ #[J x.1, J x.2.1, J x.2.2.1, J x.2.2.2] (H.e R) fun w0 b0 Ak hb k0 => ?_))
 have g0 := Nat.le_trans Aa.size Ak; replace Aa := Aa.tr hb; clear hb; clear Ak; refine kl H rfl λ a H => B7 49 _ #[J y.1, J y.2.1, J y.2.2.1, J y.2.2.2] (H.ev rfl) fun w1 b1 Ak hb k1 => ?_
 have g1 := Nat.le_trans Aa.size Ak; replace k0 := k0.ups hb; replace Aa := Aa.tr hb; clear hb; clear Ak; refine kL 1 H rfl λ a H => zA (zB (zC (zD (kR 1 H rfl λ a H => kX 1 H (Ai U3 rfl (H.ev rfl) ((Ad.cell k0 0).trans rfl)) rfl λ a H => kV H (Ai U3 rfl (H.ev rfl) ((Ad.cell k1 0).trans rfl)) rfl λ a H => ?_))))
 by_cases BE : x.1 = y.1
 ·
  refine kX 2 H (A9 U3 (H.e R) (H.e R) (AE (BE))) R λ a H => kY 1 H R (Ai U3 R (H.e R) ((Ad.cell k1 1).trans R)) R λ a H => kW H R (Ai U3 R (H.e R) ((Ad.cell k0 1).trans R)) R λ a H => ?_
  by_cases Cn : y.2.1 > x.2.1
  ·
   exact kY 2 H R (CU U3 (H.e R) (H.e R) (AE (Cn))) R λ a H => zA (zB (zF (Ag H R R ⟨by rw [DN, decide_eq_true (by omega)], Aa⟩)))
  ·
   exact kY 2 H R (CU U3 (H.e R) (H.e R) (AF (Cn))) R λ a H => zA (zB (zF (Ag H R R ⟨by rw [DN, decide_eq_false (by omega)], Aa⟩)))
 ·
  exact kX 8 H (A9 U3 (H.e R) (H.e R) (AF (BE))) R λ a H => zA (zB (zF (Ag H R R ⟨by rw [DN, decide_eq_false (by omega)], Aa⟩)))
theorem Mb (w : World) (p : AZ) (hp : p.ok) : Calls Tryz.prog 81 #[.agg (pv p)] w fun e w' => (∃ v, e = .returned v ∧ AK w' w.heap.size v (JO p)) ∧ Below w.heap.size w w' := by
 have Aa := Below.refl w.heap.size w
 refine Az 14 Tryz.func81 R R λ a H => zC (zD (B7 36 (.tmp 0) (pv p) (H.e R) fun w0 b0 Ak hb k0 => ?_))
 have g0 := Nat.le_trans Aa.size Ak; replace Aa := Aa.tr hb; clear hb; clear Ak; refine kL 1 H rfl λ a H => zA (zB (zC (zC ?_)))
 by_cases hR : Bg p = true
 ·
  refine zD (kV H (Af b0 36 _ _ (H.e R) k0 C1 R (AR hp)) R λ a H => A8 _ _ _ (aV _ _ hp hR) (Av Uc (H.e R)) ?_)
  rintro e w9 ⟨⟨D, A, c, I5, rfl, Ah⟩, hb⟩; refine ⟨_, rfl, ?_⟩; have hD : w.heap.size ≤ D := I5 ▸ Aa.size; clear I5; replace k0 := k0.ups hb; replace Aa := Aa.tr hb; clear hb; refine kL 5 H rfl λ a H => zA (zB (zC (zD (kR 1 H rfl λ a H => kV H (A9 O8 (H.ev rfl) Am dT) rfl λ a H => zA (zB (zH H rfl (zC (zD (kR 1 H rfl λ a H => BP 29 1 #[(0, .slice A (Cx p).length c)] 30 #[.slice A (Cx p).length c] (by simp [H.ev (j := 12) rfl]) (fun w => by kernel_rfl) fun w1 b1 Ak hb k1 => ?_)))))))))
  have D1 := QD k1 (DA (Bh Ah hb) hD) (Nat.le_trans Aa.size Ak); clear Ah k0 Ak; replace Aa := Aa.tr hb; clear hb; exact kL 1 H rfl λ a H => zA (zB (zF (zJ (Ag H rfl rfl ⟨⟨_, rfl, by rw [JO, if_pos hR]; exact D1⟩, Aa⟩))))
 ·
  refine zD (kV H (Af b0 36 _ _ (H.e R) k0 C1 R (AR hp)) R λ a H => kC 0 (aW _ _ hp hR) (Av Uc (H.e R)) H R fun w9 a hb H => ?_)
  replace k0 := k0.ups hb; replace Aa := Aa.tr hb; clear hb
  exact kR 5 H R λ a H => zA (zB (zC (zD (kR 1 H R λ a H => kV H (A9 O8 (H.e R) Am dF) R λ a H => zA (zB (zG H R (zE (zB (zC (zD (kR 1 H R λ a H => zA (zB (zF (Ag H R R ⟨⟨_, R, by rw [JO, if_neg hR]; exact Bd⟩, Aa⟩))))))))))))))
theorem Kk (w : World) (p : AZ) (hp : p.ok) : Calls Tryz.prog 85 #[.agg (pv p)] w fun e w' => (∃ v, e = .returned v ∧ AK w' w.heap.size v (JO p)) ∧ Below w.heap.size w w' := by
 have Aa := Below.refl w.heap.size w
 refine Az 14 Tryz.func85 R R λ a H => zC (zD (B7 36 (.tmp 0) (pv p) (H.e R) fun w0 b0 Ak hb k0 => ?_))
 have g0 := Nat.le_trans Aa.size Ak; replace Aa := Aa.tr hb; clear hb; clear Ak; refine kL 1 H rfl λ a H => zA (zB (zC ?_))
 by_cases hR : Bg p = true
 ·
  refine zD (kV H (Af b0 36 _ _ (H.e R) k0 C1 R (AR hp)) R λ a H => A8 _ _ _ (W3 _ _ hp hR) (Av Vk (H.e R)) ?_)
  rintro e w9 ⟨⟨D, A, c, I5, rfl, Ah⟩, hb⟩; refine ⟨_, rfl, ?_⟩; have hD : w.heap.size ≤ D := I5 ▸ Aa.size; clear I5; replace k0 := k0.ups hb; replace Aa := Aa.tr hb; clear hb; refine kL 5 H rfl λ a H => zA (zB (zC (zC (zD (kR 1 H rfl λ a H => kV H (E6 O8 (H.ev rfl) Am dF) rfl λ a H => zA (zB (zG H rfl (zE (zB (zC (zD (kR 1 H rfl λ a H => BP 29 1 #[(0, .slice A (Cx p).length c)] 30 #[.slice A (Cx p).length c] (by simp [H.ev (j := 12) rfl]) (fun w => by kernel_rfl) fun w1 b1 Ak hb k1 => ?_))))))))))))
  have D1 := QD k1 (DA (Bh Ah hb) hD) (Nat.le_trans Aa.size Ak); clear Ah k0 Ak; replace Aa := Aa.tr hb; clear hb; exact kL 1 H rfl λ a H => zA (zB (zF (Ag H rfl rfl ⟨⟨_, rfl, by rw [JO, if_pos hR]; exact D1⟩, Aa⟩)))
 ·
  refine zD (kV H (Af b0 36 _ _ (H.e R) k0 C1 R (AR hp)) R λ a H => kC 0 (W4 _ _ hp hR) (Av Vk (H.e R)) H R fun w9 a hb H => ?_)
  replace k0 := k0.ups hb; replace Aa := Aa.tr hb; clear hb
  exact kR 5 H R λ a H => zA (zB (zC (zC (zD (kR 1 H R λ a H => kV H (E6 O8 (H.e R) Am dT) R λ a H => zA (zB (zH H R (zC (zD (kR 1 H R λ a H => zA (zB (zF (zJ (Ag H R R ⟨⟨_, R, by rw [JO, if_neg hR]; exact Bd⟩, Aa⟩))))))))))))))
end
section
theorem VY {P : Program} {l : List Oper} {Q : Exit → Act → World → Prop} {a : Act} {w : World} {i : Nat} {K : Act → World → Prop} {d : Option Tmp} {op : Op} {tt : TypeId} {ps : String} {af : Array Edge} {j : Nat} {b : Bool} {oj : Oper} {k : Tmp} (ho : DP l i = some ⟨d, op, tt, ps, af, some (j, b)⟩)
  (hj : DP l j = some oj) (hd : oj.dst = some k) (hb : a.tmps.getD k undef = .bool (!b)) (h : K (a.put d undef) w) : Gn P l Q i K a w := ⟨_, ho, by rw [if_neg (by rw [D0 rfl hj hd hb]; simp)]; exact h⟩
theorem Jd {n : List Int} {s t : List B8} (h : n.length = 12) (hs : s.length = 16) (ht : t.length = 8) (hn : ∀ x ∈ n, -9223372036854775808 ≤ x ∧ x ≤ 9223372036854775807) : (⟨n, s, t⟩ : AZ).ok := ⟨h, hs, ht, hn⟩
theorem Re {c : Cl} (h : Dc c) : (E1 c.nonce).ok := Jd rfl rfl rfl fun x hx => by
 have := h.nonce
 simp only [List.mem_cons, List.not_mem_nil, or_false] at hx
 omega
theorem TX {c : Cl} (h : Dc c) : (Gg c.user c.nonce c.epoch c.ck).ok := Jd rfl h.ck rfl fun x hx => by
 have := h.nonce
 have := h.user
 have := h.epoch
 simp only [List.mem_cons, List.not_mem_nil, or_false] at hx
 omega
section
variable {d : Option Tmp} {tt : TypeId} {ps : String} {af : Array Edge} {gd : Option (Nat × Bool)} {a : Act} {w : World} {x0 x1 x3 x4 x5 x6 x10 x11 x12 : Operand}
theorem Sj {u n e : Int} {k : List B8} (hk : k.length = 16) (h3 : a.eval x3 = J u) (Nc : a.eval x10 = J n) (LV : a.eval x11 = J e) (Ln : a.eval x12 = .agg (BL k)) :
  (execOp a.eval ⟨d, .build 36 #[(0, .const (J 3)), (3, x3), (10, x10), (11, x11), (12, x12)], tt, ps, af, gd⟩).run Tryz.prog w = .ok (.value (.agg (pv (Gg u n e k)))) w := by
 obtain ⟨s0, s1, s2, s3, s4, s5, s6, s7, s8, s9, s10, s11, s12, s13, s14, s15, rfl⟩ := BV hk
 exact Bl #[(0, J 3), (3, J u), (10, J n), (11, J e), (12, .agg (BL [s0, s1, s2, s3, s4, s5, s6, s7, s8, s9, s10, s11, s12, s13, s14, s15]))] _ (by simp [Am, h3, Nc, LV, Ln]) (fun w => by kernel_rfl)
end
theorem IL (w : World) (b : Nat) (m : Option Nat) (c : Cl) (p : AZ) (vi vo : Value) (hc : Dc c) (k : Ad w b 76 (Dm c vi vo m)) (hp : p.ok) : Calls Tryz.prog 83 #[.pointer (some ⟨b, 0, none⟩), .agg (pv p)] w fun e w' => (∃ v, e = .returned v ∧ AK w' w.heap.size v (I8 c p)) ∧ Below w.heap.size w w' := by
 have AM := hc.ck
 have AO := hc.key
 have Aa := Below.refl w.heap.size w
 refine Az 26 Tryz.func83 R R λ a H => zC (zD (B7 36 (.tmp 1) (pv p) (H.e R) fun w0 b0 Ak hb k0 => ?_))
 have g0 := Nat.le_trans Aa.size Ak; have PF : b < b0 := Nat.lt_of_lt_of_le k.lt Ak; replace k := k.ups hb; replace Aa := Aa.tr hb; clear hb; clear Ak; refine kL 1 H rfl λ a H => zA (zB (zC (zD (kR 3 H rfl λ a H => kV H (Br (q := 22) KD (H.ev rfl) rfl) rfl λ a H => kX 1 H (Ai U3 rfl (H.ev rfl) ((show _ = some (J (c.id)) from Rs (c := c) AM AO k))) rfl λ a H => AP 3 (.tmp 12) (.tmp 11) b0 1 36 (J (c.id)) _ (H.ev rfl) (H.ev rfl) k0 s3 (by rw [AI hp]; show 1 + 1 ≤ 36; omega) (by simp [Value.cells, Value.oneCell']) fun w' hb ho kq => ?_))))
 clear k0; rw [FA hp (by omega)] at kq; have k0 := kq; replace k := Ae k (ho _ (by omega)); replace Aa := Aa.trans (hb _ g0); clear hb ho kq; refine Dz H λ a H => zA (zB (zC (zC ?_)))
 have hq : (p.set 1 c.id).ok := Cg hp (by have := hc.id; omega)
 obtain ⟨q, UV⟩ : ∃ q, p.set 1 c.id = q := ⟨_, rfl⟩
 rw [UV] at k0 hq
 have HQ := Lib.hid UV
 clear UV
 refine rB 13 (Dn [0, 1, 2, 3, 4, 5] (.two 6 (Dn [7, 8, 9] (.one 10 (.one 11 (.fl 12 .done)))) 10 (.one 6 (Dn [7, 8, 9] (.one 11 (.fl 12 .done)))))) fun hS => kQ 3 H R λ a H => kF H R R (fun w' Aj => Br (q := 22 + 1) TO (H.e R) R) R λ a H => kF H R R (fun w' Aj => AL (cs := (c.key).map u8v) (H.e R) (XA (c := c) AM (Ad.ups k Aj) : World.rangeAt _ b 23 ((c.key).map u8v)) (by kernel_rfl) (by rw [List.length_map, AO]; exact Ft) R) R λ a H => kF H R R (fun w' Aj => Af b0 36 _ _ (H.e R) (Ad.ups k0 Aj) C1 R (AR hq)) R λ a H => FB (fun K hK => ?_) (fun K hK => ?_)
 ·
  refine A7 R (kD (M2 _ c.key q AO hq) (AA eP (H.e R) (H.e R)) fun w9 hb => ?_); replace hS := Below.trans hS (Below.mono hb (Below.size hS)); clear hb; obtain ⟨SG, Pr⟩ : ∃ SG, (if Cf q = true then BK c.key q else Ec) = SG := ⟨_, rfl⟩; have GY : SG.ok := (by rw [← Pr]; exact F6 hq); rw [Pr]; have HSG := Lib.hid Pr; clear Pr; refine kS 3 hK hS H R λ a H => ?_; clear hK K
  refine Al (fun K hK => A7 R (D8 36 (pv Ec) Jn fun w1 b1 Ak hb k1 => ?_))
  have Ps := Nat.le_trans (Below.size hS) Ak; replace hS := Below.trans hS (Below.mono hb (Below.size hS)); clear hb Ak; refine kS 0 hK hS H rfl λ a H => ?_; clear hK K
  refine Al (fun K hK => A7 R (CW 36 (.tmp 5) (.tmp 21) b1 36 (pv SG) _ (H.e R) (H.e R) k1 (AR GY) (by rw [AI Bz, AI GY]) (BU _) fun w' hb ho kq => ?_))
  clear k1; have k1 := kq; replace hS := Below.trans hS (hb _ Ps); clear hb ho kq; refine kU 1 hK hS H rfl λ a H => ?_; clear hK K
  refine Aw (NoPanic.normal ?_)
  replace k := Ad.ups k hS
  replace k0 := Ad.ups k0 hS
  replace Aa := Aa.trans (Below.mono hS Aa.size)
  clear hS
  refine zB (zC ?_)
  obtain ⟨so, Hf⟩ : ∃ so, Cf q = so := ⟨_, rfl⟩
  rw [Hf] at H
  have HSO := Lib.hid Hf
  clear Hf
  cases so
  ·
   exact zD (kR 1 H R λ a H => zA (zB (zG H R (zE (zB (zC (zD (kR 1 H R λ a H => zA (zB (zF (Ag H R R ⟨⟨_, R, by rw [I8, HQ.out, if_neg (by rw [HSO.out]; simp)]; exact Bd⟩, Aa⟩)))))))))))
  ·
   have Vc : SG = BK c.key q := by rw [← HSG.out, if_pos HSO.out]
   refine zD (kR 1 H R λ a H => zA (zB (zH H R (zC (zD (kV H (Af b1 36 _ _ (H.e R) k1 C1 R (AR GY)) R λ a H => A8 _ _ _ (Mb _ SG GY) (Av Z0 (H.e R)) ?_))))))
   rintro e w9 ⟨⟨v, rfl, D1⟩, hb⟩; refine ⟨_, rfl, ?_⟩; replace D1 := AK.base D1 Aa.size; replace k := k.ups hb; replace k0 := k0.ups hb; replace k1 := k1.ups hb; replace Aa := Aa.tr hb; clear hb; exact kL 1 H rfl λ a H => zA (zB (zF (zJ (Ag H rfl rfl ⟨⟨_, rfl, by rw [I8, HQ.out, if_pos HSO.out, ← Vc]; exact D1⟩, Aa⟩))))
 ·
  refine A7 R (D8 36 (pv Ec) Jn fun w1 b1 Ak hb k1 => ?_); have Ps := Nat.le_trans (Below.size hS) Ak; replace hS := Below.trans hS (Below.mono hb (Below.size hS)); clear hb Ak; refine kS 0 hK hS H R λ a H => ?_; clear hK K
  refine Al (fun K hK => A7 R (kD (M2 _ c.key q AO hq) (AA eP (H.e R) (H.e R)) fun w9 hb => ?_))
  replace k1 := k1.ups hb; replace hS := Below.trans hS (Below.mono hb (Below.size hS)); clear hb; obtain ⟨SG, Pr⟩ : ∃ SG, (if Cf q = true then BK c.key q else Ec) = SG := ⟨_, rfl⟩; have GY : SG.ok := (by rw [← Pr]; exact F6 hq); rw [Pr]; have HSG := Lib.hid Pr; clear Pr; refine kS 3 hK hS H rfl λ a H => ?_; clear hK K
  refine Al (fun K hK => A7 R (CW 36 (.tmp 5) (.tmp 21) b1 36 (pv SG) _ (H.e R) (H.e R) k1 (AR GY) (by rw [AI Bz, AI GY]) (BU _) fun w' hb ho kq => ?_))
  clear k1; have k1 := kq; replace hS := Below.trans hS (hb _ Ps); clear hb ho kq; refine kU 1 hK hS H rfl λ a H => ?_; clear hK K
  refine Aw (NoPanic.normal ?_)
  replace k := Ad.ups k hS
  replace k0 := Ad.ups k0 hS
  replace Aa := Aa.trans (Below.mono hS Aa.size)
  clear hS
  refine zB (zC ?_)
  obtain ⟨so, Hf⟩ : ∃ so, Cf q = so := ⟨_, rfl⟩
  rw [Hf] at H
  have HSO := Lib.hid Hf
  clear Hf
  cases so
  ·
   exact zD (kR 1 H R λ a H => zA (zB (zG H R (zE (zB (zC (zD (kR 1 H R λ a H => zA (zB (zF (Ag H R R ⟨⟨_, R, by rw [I8, HQ.out, if_neg (by rw [HSO.out]; simp)]; exact Bd⟩, Aa⟩)))))))))))
  ·
   have Vc : SG = BK c.key q := by rw [← HSG.out, if_pos HSO.out]
   refine zD (kR 1 H R λ a H => zA (zB (zH H R (zC (zD (kV H (Af b1 36 _ _ (H.e R) k1 C1 R (AR GY)) R λ a H => A8 _ _ _ (Mb _ SG GY) (Av Z0 (H.e R)) ?_))))))
   rintro e w9 ⟨⟨v, rfl, D1⟩, hb⟩; refine ⟨_, rfl, ?_⟩; replace D1 := AK.base D1 Aa.size; replace k := k.ups hb; replace k0 := k0.ups hb; replace k1 := k1.ups hb; replace Aa := Aa.tr hb; clear hb; exact kL 1 H rfl λ a H => zA (zB (zF (zJ (Ag H rfl rfl ⟨⟨_, rfl, by rw [I8, HQ.out, if_pos HSO.out, ← Vc]; exact D1⟩, Aa⟩))))
theorem SI (w : World) (b : Nat) (m : Option Nat) (c : Cl) (vi vo : Value) (hc : Dc c) (k : Ad w b 76 (Dm c vi vo m)) : Calls Tryz.prog 44 #[.pointer (some ⟨b, 0, none⟩)] w fun e w' => (∃ v, e = .returned v ∧ AK w' w.heap.size v (Pu c)) ∧ Ad w' b 76 (Dm (JS c) vi vo m) ∧ Bi b none w w' := by
 have AM := hc.ck
 have AO := hc.key
 have IF := hc.now
 have Gu := hc.seq
 have Jf := hc.beats
 have IE := hc.nonce
 have Aa := Bi.refl b none w
 refine Az 17 Tryz.func44 R R λ a H => zC (zD (kR 1 H R λ a H => zA (zB (zC (zD (kR 4 H R λ a H => kV H (Ai U3 R (H.e R) ((show _ = some (J (c.now)) from BB (c := c) AM AO k))) R λ a H => kX 2 H (Bm (q := (c.now) + 4) U3 (H.e R) Am) R λ a H => Gb (new := Dm ({ c with ask := ((c.now) + 4) }) vi vo m) (H.e R) (H.e R) k s3 (FT AM AO R) oI (Mw AM AO) Aa H fun w' hb ho k Aa a H => ?_))))))
 clear hb ho
 refine zA (zB (zC (zD (kR 3 H R λ a H => kV H (Ai U3 R (H.e R) ((show _ = some (J (c.nonce)) from GR (c := { c with ask := ((c.now) + 4) }) AM AO k))) R λ a H => kV (v := .agg (pv (E1 c.nonce))) H (Bl #[(0, J 1), (10, J (c.nonce))] (.agg (pv (E1 c.nonce))) (by simp [Am, H.ev (j := 14) R]) (fun w => by kernel_rfl)) R λ a H => A8 _ _ _ (Mb _ (E1 c.nonce) (Re hc)) (Av Z0 (H.e R)) ?_))))
 rintro e w9 ⟨⟨v, rfl, D1⟩, hb⟩; refine ⟨_, rfl, ?_⟩; replace D1 := AK.base D1 Aa.size; replace k := k.ups hb; replace Aa := Aa.tr hb; clear hb; exact kL 1 H rfl λ a H => zA (zB (zF (Ag H rfl rfl ⟨⟨_, rfl, D1⟩, k, Aa⟩)))
theorem Oi (w : World) (b : Nat) (m : Option Nat) (c : Cl) (vi vo : Value) (hc : Dc c) (k : Ad w b 76 (Dm c vi vo m)) : Calls Tryz.prog 45 #[.pointer (some ⟨b, 0, none⟩)] w fun e w' => (∃ v, e = .returned v ∧ AK w' w.heap.size v (Oh c)) ∧ Ad w' b 76 (Dm (JS c) vi vo m) ∧ Bi b none w w' := by
 have AM := hc.ck
 have AO := hc.key
 have IF := hc.now
 have Gu := hc.seq
 have Jf := hc.beats
 have IE := hc.nonce
 have Aa := Bi.refl b none w
 refine Az 29 Tryz.func45 R R λ a H => zC (zD (kR 1 H R λ a H => zA (zB (zC (zD (kR 4 H R λ a H => kV H (Ai U3 R (H.e R) ((show _ = some (J (c.now)) from BB (c := c) AM AO k))) R λ a H => kX 2 H (Bm (q := (c.now) + 4) U3 (H.e R) Am) R λ a H => Gb (new := Dm ({ c with ask := ((c.now) + 4) }) vi vo m) (H.e R) (H.e R) k s3 (FT AM AO R) oI (Mw AM AO) Aa H fun w' hb ho k Aa a H => ?_))))))
 clear hb ho
 refine zA (zB (zC (rB 19 (Dn [0, 1, 2, 3, 4, 5, 6, 7, 8, 9, 10, 11, 12, 13, 14, 15, 16] (.one 17 (.fl 18 .done))) fun hS => kQ 3 H R λ a H => kE 3 H R R (fun w' Aj => Ai U3 R (H.e R) ((show _ = some (J (c.user)) from P4 (c := { c with ask := ((c.now) + 4) }) AM AO (Ad.ups k Aj)))) R λ a H => kE 3 H R R (fun w' Aj => Ai U3 R (H.e R) ((show _ = some (J (c.nonce)) from GR (c := { c with ask := ((c.now) + 4) }) AM AO (Ad.ups k Aj)))) R λ a H => kE 3 H R R (fun w' Aj => Ai U3 R (H.e R) ((show _ = some (J (c.epoch)) from XC (c := { c with ask := ((c.now) + 4) }) AM AO (Ad.ups k Aj)))) R λ a H => kF H R R (fun w' Aj => AL (cs := (c.ck).map u8v) (H.e R) (jJ (c := { c with ask := ((c.now) + 4) }) (Ad.ups k Aj) : World.rangeAt _ b 5 ((c.ck).map u8v)) (by kernel_rfl) (by rw [List.length_map, AM]; exact Ft) R) R λ a H => kF (v := .agg (pv (Gg c.user c.nonce c.epoch c.ck))) H R R (fun w' Aj => Sj AM (H.e R) (H.e R) (H.e R) (H.e R)) R λ a H => Al (fun K hK => A7 R (CQ _ _ _ (Mb _ (Gg c.user c.nonce c.epoch c.ck) (TX hc)) (Av Z0 (H.e R)) ?_)))))
 rintro e w9 ⟨⟨v, rfl, D1⟩, hb⟩; refine ⟨_, rfl, ?_⟩; replace D1 := AK.base D1 (Nat.le_trans Aa.size (Below.size hS)); replace hS := Below.trans hS (Below.mono hb (Below.size hS)); clear hb; refine kS 1 hK hS H rfl λ a H => ?_; clear hK K
 refine Aw (NoPanic.normal ?_)
 replace k := Ad.ups k hS
 replace Aa := Aa.trans (Below.mono hS Aa.size)
 clear hS
 exact zB (zF (Ag H R R ⟨⟨_, R, D1⟩, k, Aa⟩))
theorem PL (w : World) (b : Nat) (m : Option Nat) (c : Cl) (n : Int) (vi vo : Value) (hc : Dc c) (k : Ad w b 76 (Dm c vi vo m)) : Calls Tryz.prog 82 #[.pointer (some ⟨b, 22, none⟩), J (n)] w fun e w' => e = .returned (.bool (decide (c.beat ≤ n))) ∧ Below w.heap.size w w' := by
 have AM := hc.ck
 have AO := hc.key
 have Aa := Below.refl w.heap.size w
 refine Az 11 Tryz.func82 R R λ a H => zC (zD (kR 1 H R λ a H => zA (zB (zC (zD (kR 3 H R λ a H => kV H (Br (q := 22 + 19) TN (H.e R) R) R λ a H => kV H (Ai U3 R (H.e R) ((show _ = some (J (c.beat)) from Zw (c := c) AM AO k))) R λ a H => ?_))))))
 by_cases BE : (n) ≥ (c.beat)
 ·
  exact kX 1 H (CV U3 (H.e R) (H.e R) (AE (BE))) R λ a H => zA (zB (zF (Ag H R R ⟨by rw [decide_eq_true (by omega)], Aa⟩)))
 ·
  exact kX 1 H (CV U3 (H.e R) (H.e R) (AF (BE))) R λ a H => zA (zB (zF (Ag H R R ⟨by rw [decide_eq_false (by omega)], Aa⟩)))
theorem QG (w : World) (b : Nat) (m : Option Nat) (c : Cl) (n : Int) (vi vo : Value) (hc : Dc c) (k : Ad w b 76 (Dm c vi vo m)) : Calls Tryz.prog 84 #[.pointer (some ⟨b, 22, none⟩), J (n)] w fun e w' => e = .returned (.bool (decide (c.say ≤ n))) ∧ Below w.heap.size w w' := by
 have AM := hc.ck
 have AO := hc.key
 have Aa := Below.refl w.heap.size w
 refine Az 11 Tryz.func84 R R λ a H => zC (zD (kR 1 H R λ a H => zA (zB (zC (zD (kR 3 H R λ a H => kV H (Br (q := 22 + 20) Mk (H.e R) R) R λ a H => kV H (Ai U3 R (H.e R) ((show _ = some (J (c.say)) from eJ (c := c) AM AO k))) R λ a H => ?_))))))
 by_cases BE : (n) ≥ (c.say)
 ·
  exact kX 1 H (CV U3 (H.e R) (H.e R) (AE (BE))) R λ a H => zA (zB (zF (Ag H R R ⟨by rw [decide_eq_true (by omega)], Aa⟩)))
 ·
  exact kX 1 H (CV U3 (H.e R) (H.e R) (AF (BE))) R λ a H => zA (zB (zF (Ag H R R ⟨by rw [decide_eq_false (by omega)], Aa⟩)))
theorem Kz (w : World) (b : Nat) (m : Option Nat) (c : Cl) (p : AZ) (vi vo : Value) (hc : Dc c) (k : Ad w b 76 (Dm c vi vo m)) (hp : p.ok) : Calls Tryz.prog 87 #[.pointer (some ⟨b, 0, none⟩), .agg (pv p)] w fun e w' => e = .returned (.bool (Fm c p)) ∧ Below w.heap.size w w' := by
 have AM := hc.ck
 have AO := hc.key
 have Aa := Below.refl w.heap.size w
 refine Az 29 Tryz.func87 R R λ a H => zC (zD (B7 36 (.tmp 1) (pv p) (H.e R) fun w0 b0 Ak hb k0 => ?_))
 have g0 := Nat.le_trans Aa.size Ak; have PF : b < b0 := Nat.lt_of_lt_of_le k.lt Ak; replace k := k.ups hb; replace Aa := Aa.tr hb; clear hb; clear Ak; refine kL 1 H rfl λ a H => zA (zB (zC (rB 25 (Dn [0, 1, 2, 3, 4, 5, 6, 7, 8, 9, 10, 11, 12, 13, 14, 15, 16, 17, 18, 19, 20, 21] (.one 22 (.fl 23 (.fl 24 .done)))) fun hS => kQ 3 H rfl λ a H => kF H rfl rfl (fun w' Aj => Ai U3 rfl (H.ev rfl) ((show _ = some (J (c.state)) from CS (c := c) AM AO (Ad.ups k Aj)))) rfl λ a H => ?_)))
 by_cases BE : (c.state) = 3
 ·
  refine kE 2 H R R (fun w' Aj => A9 U3 (H.e R) Am (AE (BE))) R λ a H => kE 3 H R R (fun w' Aj => Ai U3 R (H.e R) (AB (Ad.ups k0 Aj) (AQ hp (j := 1) (by omega)))) R λ a H => kF H R R (fun w' Aj => Br (q := 22) KD (H.e R) R) R λ a H => kF H R R (fun w' Aj => Ai U3 R (H.e R) ((show _ = some (J (c.id)) from Rs (c := c) AM AO (Ad.ups k Aj)))) R λ a H => ?_
  by_cases Cn : (p.fld 1) = (c.id)
  ·
   refine kE 5 H R R (fun w' Aj => A9 U3 (H.e R) (H.e R) (AE (Cn))) R λ a H => kF H R R (fun w' Aj => Br (q := 22 + 1) TO (H.e R) R) R λ a H => kF H R R (fun w' Aj => AL (cs := (c.key).map u8v) (H.e R) (XA (c := c) AM (Ad.ups k Aj) : World.rangeAt _ b 23 ((c.key).map u8v)) (by kernel_rfl) (by rw [List.length_map, AO]; exact Ft) R) R λ a H => kF H R R (fun w' Aj => Af b0 36 _ _ (H.e R) (Ad.ups k0 Aj) C1 R (AR hp)) R λ a H => Al (fun K hK => Wb R R R (H.e R) (kD (Xz _ c.key p AO hp) (AA tF (H.e R) (H.e R)) fun w9 hb => ?_))
   replace hS := Below.trans hS (Below.mono hb (Below.size hS)); clear hb; refine kS 2 hK hS H rfl λ a H => ?_; clear hK K
   refine Aw (NoPanic.normal ?_)
   replace k := Ad.ups k hS
   replace k0 := Ad.ups k0 hS
   replace Aa := Aa.trans (Below.mono hS Aa.size)
   clear hS
   exact zB (zF (Ag H R R ⟨by rw [Fm, decide_eq_true (⟨by assumption, by assumption⟩ : c.state = 3 ∧ p.fld 1 = c.id), Bool.true_and], Aa⟩))
  ·
   refine kE 8 H R R (fun w' Aj => A9 U3 (H.e R) (H.e R) (AF (Cn))) R λ a H => Al (fun K hK => VY R R R (H.e R) (kS 2 hK hS H R λ a H => ?_))
   clear hK K
   refine Aw (NoPanic.normal ?_)
   replace k := Ad.ups k hS
   replace k0 := Ad.ups k0 hS
   replace Aa := Aa.trans (Below.mono hS Aa.size)
   clear hS
   exact zB (zF (Ag H R R ⟨by rw [Fm, decide_eq_false (by omega), Bool.false_and], Aa⟩))
 ·
  refine kE 17 H R R (fun w' Aj => A9 U3 (H.e R) Am (AF (BE))) R λ a H => Al (fun K hK => VY R R R (H.e R) (kS 2 hK hS H R λ a H => ?_))
  clear hK K
  refine Aw (NoPanic.normal ?_)
  replace k := Ad.ups k hS
  replace k0 := Ad.ups k0 hS
  replace Aa := Aa.trans (Below.mono hS Aa.size)
  clear hS
  exact zB (zF (Ag H R R ⟨by rw [Fm, decide_eq_false (by omega), Bool.false_and], Aa⟩))
theorem Xb [Dw] (w : World) (b : Nat) (m : Option Nat) (c : Cl) (h : Bn w b m c) : Calls Tryz.prog 45 #[.pointer (some ⟨b, 0, none⟩)] w fun e w' => (∃ v, e = .returned v ∧ AK w' w.heap.size v (Oh c)) ∧ Bn w' b m (JS c) ∧ Bi b m w w' := by
 obtain ⟨hc, ⟨vi, vo, k, ⟨AN, Ch⟩, AD, BM⟩, Bw, Dr⟩ := h
 exact (Oi w b m c vi vo hc k).mono fun e w' ⟨h1, h2, h3⟩ => ⟨h1, Oy (Nd hc) h2 AN Ch AD BM Bw Dr h3 R R R, h3.weak⟩
end
end Go.Proofs.YtbnmpoonkjlkjaaGreat
