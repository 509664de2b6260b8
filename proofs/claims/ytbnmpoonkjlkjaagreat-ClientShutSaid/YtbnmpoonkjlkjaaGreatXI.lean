/- Client: part I of the proof. -/
import Derived.Test.YtbnmpoonkjlkjaaGreatXH
import Derived.Maps.Own
import Derived.Maps.Views
import Derived.Maps.Keyed
import Derived.Maps.OwnSet
import Derived.WideHanded
import Derived.ArgAppend
namespace Go.Proofs.YtbnmpoonkjlkjaaGreat
open Go.RowKit
set_option linter.unusedVariables false
set_option linter.unusedSimpArgs false
section
open Go.Maps
theorem intKeyed : Keyed Tryz.prog 3 := int_keyed U3
/-- an element read as it is -/
def RV : Value → Option (DataW Value × List MemPlace) := fun v => some (.held v, [])
def vdat : Option Nt → DataW Value
 | none => .nil
 | some y => .held (.agg (cN y))
def note0 : Nt := (0, 0, 0, 0)
/-- block bm is the map of what is believed -/
def VMap (w : World) (bm : Nat) (vw : Int → Option Nt) : Prop :=
 ∃ es : List (Lit × DataW Value), Tidy (.map es) ∧ w.ownsMap Tryz.prog 3 RV bm 16 (.map es) ∧ (∀ p ∈ es, ∃ x : Int, 1 ≤ x ∧ x ≤ 16 ∧ p.1 = .int .i64 x) ∧ ∀ x : Int, (Lit.int .i64 x).wf = true → (DataW.map es).atKey (.int .i64 x) .nil = vdat (vw x)
theorem VMap.made (w : World) : VMap (w.alloc (.map #[] 0)) w.heap.size (fun _ => none) :=
 ⟨[], tidy_empty, (World.ownsMap_made _ _ _ _).mono (by omega), (fun p hp => by cases hp), fun x _ => by simp [DataW.atKey, vdat]⟩
theorem VMap.lt {w : World} {bm : Nat} {vw : Int → Option Nt} (h : VMap w bm vw) : bm < w.heap.size := by
 obtain ⟨_, _, h, _⟩ := h
 exact h.lt
theorem VMap.kept {w w' : World} {bm : Nat} {vw : Int → Option Nt} {row : Option Nat} (h : VMap w bm vw) (hg : w.grownBy w' row) (hne : some bm ≠ row) : VMap w' bm vw := by
 obtain ⟨es, h1, h2, h3, h4⟩ := h
 exact ⟨es, h1, h2.kept hg hne, h3, h4⟩
theorem VMap.ups {w w' : World} {bm : Nat} {vw : Int → Option Nt} (h : VMap w bm vw) (hb : Below w.heap.size w w') : VMap w' bm vw :=
 h.kept (row := none) ⟨hb.os, hb.tape, hb.output, hb.size, fun k hk _ => hb.block k hk⟩ (by simp)
theorem VMap.no_cell {w : World} {bm : Nat} {vw : Int → Option Nt} (h : VMap w bm vw) (o : Nat) : w.cell? ⟨bm, o, none⟩ = none := by
 obtain ⟨_, _, ⟨es, cl, hb, _⟩, _⟩ := h
 unfold World.cell?
 rw [hb]
theorem zero49 (w : World) : (zeroValue 49).run Tryz.prog w = .ok (.agg (cN note0)) w := by kernel_rfl
theorem VMap.look {w : World} {bm : Nat} {vw : Int → Option Nt} (h : VMap w bm vw) (x : Int) (hx : (Lit.int .i64 x).wf = true) :
  (Instr.lookup 74 (.map (some bm)) (.int .i64 x) true).run Tryz.prog w = .ok (.tuple #[.agg (cN ((vw x).getD note0)), .bool (vw x).isSome]) w := by
 obtain ⟨D, _, ⟨es, clock, hb, F, _, hD⟩, _, hat⟩ := h
 have h1 := hat x hx
 rw [hD] at h1
 rcases Maps.fit_look true intKeyed U74 (zero49 w) hb F (keyOf_int_mk U3 hx) with ⟨hrun, _, hz⟩ | ⟨e0, y, _, _, hrun, hRv, hz, _⟩
 ·
  rw [hz] at h1
  cases hv : vw x with
  | none => rw [hrun]; rfl
  | some y => rw [hv] at h1; cases h1
 ·
  rw [hz] at h1
  have e1 : y = (.held e0.val, []) := (Option.some.inj hRv).symm
  subst e1
  cases hv : vw x with
  | none => rw [hv] at h1; cases h1
  | some y =>
   rw [hv] at h1
   have h6 : e0.val = .agg (cN y) := DataW.held.inj h1
   rw [hrun, h6]
   rfl
theorem nodup_len {α : Type} [DecidableEq α] : ∀ (l m : List α), l.Nodup → (∀ a ∈ l, a ∈ m) → l.length ≤ m.length
 | [], _, _, _ => Nat.zero_le _
 | a :: l, m, h, hm => by
  obtain ⟨h1, h2⟩ := List.nodup_cons.1 h
  have ha := hm a (by simp)
  have := nodup_len l (m.erase a) h2 (fun b hb => (List.mem_erase_of_ne (fun e => h1 (by rw [← e]; exact hb))).2 (hm b (by simp [hb])))
  rw [List.length_erase_of_mem ha] at this
  have hp : 0 < m.length := List.length_pos_of_mem ha
  rw [List.length_cons]
  omega
theorem keys_len {es : List (Lit × DataW Value)} (ht : Tidy (.map es)) (hk : ∀ p ∈ es, ∃ x : Int, 1 ≤ x ∧ x ≤ 16 ∧ p.1 = .int .i64 x) : es.length ≤ 16 := by
 obtain ⟨es', he, hp⟩ := ht
 injection he with he
 subst he
 have h1 : (es.map fun p => p.1).Nodup := List.pairwise_map.2 hp
 have h2 := @nodup_len Lit (fun a b => Classical.propDecidable (a = b)) (es.map fun p => p.1) ((List.range 16).map fun j => Lit.int .i64 ((j : Nat) + 1 : Int)) h1 (fun a ha => by
  obtain ⟨p, hp, rfl⟩ := List.mem_map.1 ha
  obtain ⟨x, h1, h2, e⟩ := hk p hp
  refine List.mem_map.2 ⟨(x - 1).toNat, List.mem_range.2 (by omega), ?_⟩
  rw [e]
  congr 1
  omega)
 simpa using h2
theorem wf_small {x : Int} (h1 : 1 ≤ x) (h2 : x ≤ 16) : (Lit.int .i64 x).wf = true := wf_i64 (by omega)
def updV (vw : Int → Option Nt) (y : Nt) : Int → Option Nt := fun u => if u = y.1 then some y else vw u
theorem VMap.put {w : World} {bm : Nat} {vw : Int → Option Nt} (h : VMap w bm vw) (y : Nt) (h1 : 1 ≤ y.1) (h2 : y.1 ≤ 16) :
  ∃ w', (Instr.mapUpdate 74 (.map (some bm)) (.int .i64 y.1) (.agg (cN y))).run Tryz.prog w = .ok () w' ∧ VMap w' bm (updV vw y) ∧ w.grownBy w' (some bm) := by
 obtain ⟨D, hT, ho, hk, hat⟩ := h
 have hx := wf_small h1 h2
 have hkey := keyOf_int_mk U3 hx
 obtain ⟨w', hrun, ho', hg⟩ := ho.update (d := .held (.agg (cN y))) (ps := []) intKeyed U74 (by unfold maxLen; omega) hkey rfl
 have hT' := hT.put (intKeyed.key hkey) (.held (.agg (cN y)))
 have hk' : ∀ p ∈ ChangeMaps.putKey (.int .i64 y.1) (.held (.agg (cN y))) D, ∃ x : Int, 1 ≤ x ∧ x ≤ 16 ∧ p.1 = .int .i64 x := fun p hp => by
  unfold ChangeMaps.putKey at hp
  rcases mem_insert _ hp with rfl | hp
  · exact ⟨y.1, h1, h2, rfl⟩
  · exact hk p (List.mem_filter.1 hp).1
 refine ⟨w', hrun, ⟨ChangeMaps.putKey (.int .i64 y.1) (.held (.agg (cN y))) D, hT', ?_, hk', fun u hu => ?_⟩, hg⟩
 ·
  obtain ⟨es, clock, hb, F, hs, hD⟩ := ho'
  refine ⟨es, clock, hb, F, ?_, hD⟩
  have h3 : (ChangeMaps.putKey (.int .i64 y.1) (.held (.agg (cN y))) D).length ≤ 16 := keys_len hT' hk'
  have h4 := length_read (P := Tryz.prog) (k := 3) (R0 := RV) es
  have h5 : DataW.map (ChangeMaps.putKey (.int .i64 y.1) (.held (.agg (cN y))) D) = .map ((es.toList.map (WideElems.rg Tryz.prog 3 RV)).foldr DataW.insert []) := hD
  injection h5 with h5
  rw [h5] at h3
  omega
 ·
  by_cases e : u = y.1
  ·
   subst e
   rw [← DataW.put_eq, atKey_put_same hT.isMap (intKeyed.key hkey)]
   simp [updV, vdat]
  ·
   have hne : Lit.int .i64 u ≠ Lit.int .i64 y.1 := fun e2 => e (by injection e2)
   rw [← DataW.put_eq, atKey_put_other hne, hat u hu]
   simp [updV, e]
theorem VMap.clear {w : World} {bm : Nat} {vw : Int → Option Nt} (h : VMap w bm vw) (ty : TypeId) :
  ∃ w', (Builtin.clear_ #[74] ty #[.map (some bm)]).run Tryz.prog w = .ok (.tuple #[]) w' ∧ w.grownBy w' (some bm) := by
 obtain ⟨_, _, ⟨es, clock, hb, _⟩, _⟩ := h
 have hrun : (Builtin.clear_ #[74] ty #[.map (some bm)]).run Tryz.prog w = .ok (.tuple #[]) { w with heap := w.heap.setIfInBounds bm (.map #[] clock) } := by
  simp [Builtin.clear_, run_underlying U74, MapKept.run_getObj_map hb, MapKept.run_setObj_map _ hb, Result.andThen]
 refine ⟨_, hrun, ⟨rfl, rfl, rfl, by simp, fun k hk hne => ?_⟩⟩
 rw [Array.getElem?_setIfInBounds_ne (fun e => hne (by rw [e]))]
/-- a map, or none -/
def MapAt (w : World) (m : Option Nat) (vw : Int → Option Nt) : Prop := match m with | none => ∀ u, vw u = none | some q => VMap w q vw
theorem MapAt.look {w : World} {m : Option Nat} {vw : Int → Option Nt} (h : MapAt w m vw) (x : Int) (hx : (Lit.int .i64 x).wf = true) :
  (Instr.lookup 74 (.map m) (.int .i64 x) true).run Tryz.prog w = .ok (.tuple #[.agg (cN ((vw x).getD note0)), .bool (vw x).isSome]) w := by
 cases m with
 | some q => exact VMap.look h x hx
 | none =>
  have h1 := Maps.look_nil true intKeyed U74 (zero49 w) (keyOf_int_mk U3 hx)
  have h2 : vw x = none := h x
  rw [h1, h2]
  rfl
theorem MapAt.ups {w w' : World} {m : Option Nat} {vw : Int → Option Nt} (h : MapAt w m vw) (hb : Below w.heap.size w w') : MapAt w' m vw := by
 cases m with
 | none => exact h
 | some q => exact VMap.ups h hb
theorem MapAt.kept {w w' : World} {m : Option Nat} {vw : Int → Option Nt} {row : Option Nat} (h : MapAt w m vw) (hg : w.grownBy w' row) (hne : m = none ∨ m ≠ row) : MapAt w' m vw := by
 cases m with
 | none => exact h
 | some q => exact VMap.kept h hg (by simpa using hne)
theorem MapAt.lt {w : World} {m : Option Nat} {vw : Int → Option Nt} (h : MapAt w m vw) {q : Nat} (e : m = some q) : q < w.heap.size := by
 subst e
 exact VMap.lt h
section
variable {P : Program} {d : Option Tmp} {tt : TypeId} {ps : String} {af : Array Edge} {gd : Option (Nat × Bool)} {a : Act} {w : World} {x y : Operand} {t t2 : TypeId}
theorem r_look {m : Option Nat} {vw : Int → Option Nt} {u : Int} (h : MapAt w m vw) (hu : (Lit.int .i64 u).wf = true) (hx : a.eval x = .map m) (hy : a.eval y = .int .i64 u) :
  (execOp a.eval ⟨d, .lookup 74 x y true, tt, ps, af, gd⟩).run Tryz.prog w = .ok (.value (.tuple #[.agg (cN ((vw u).getD note0)), .bool (vw u).isSome])) w := by
 have := h.look u hu
 unfold execOp
 simp only [hx, hy, this, Sem.run_bind, Sem.run_pure, Result.andThen_ok]
theorem r_eqmapnil {m : Option Nat} {b : Bool} (hx : a.eval x = .map m) (hb : m.isNone = b) : (execOp a.eval ⟨d, .binOp .eql 74 x (.const (.map none)) t2, tt, ps, af, gd⟩).run Tryz.prog w = .ok (.value (.bool b)) w := by
 subst hb
 have h := run_eql_map_nil (P := Tryz.prog) w 74 3 49 m U74
 have e : a.eval (.const (.map none)) = .map none := rfl
 unfold execOp
 simp only [hx, e]
 go_simp
end
end
/-- all that a client has -/
structure Cl where
 user : Int
 state : Int
 now : Int
 nonce : Int
 epoch : Int
 ck : List B8
 ask : Int
 id : Int
 key : List B8
 beats : Int
 seq : Int
 beat : Int
 say : Int
 next : Int
 items : List It
 os : List Nt
 vw : Int → Option Nt
 code : Int
abbrev Z16 : List B8 := List.replicate 16 0
def clZ (u : Int) : Cl := ⟨u, 0, 0, 0, 0, Z16, 0, 0, Z16, 0, 0, 0, 0, 0, [], [], fun _ => none, 0⟩
def clampU (u : Int) : Int := if 16 < (if 1 > u then 1 else u) then 16 else (if 1 > u then 1 else u)
/-- the cells: the items', the orders' slices and the map are given -/
def clA (c : Cl) (vi vo : Value) (m : Option Nat) : Array Value :=
 (([.int .i64 c.user, .int .i64 c.state, .int .i64 c.now, .int .i64 c.nonce, .int .i64 c.epoch] : List Value) ++ (c.ck.map u8v ++ (([.int .i64 c.ask, .int .i64 c.id] : List Value) ++ (c.key.map u8v ++ [.int .i64 c.beats, .int .i64 c.seq, .int .i64 c.beat, .int .i64 c.say, .int .i64 c.next, vi, vo, .map m, .int .i64 c.code])))).toArray
theorem clA_size {c : Cl} {vi vo : Value} {m : Option Nat} (h1 : c.ck.length = 16) (h2 : c.key.length = 16) : (clA c vi vo m).size = 48 := by simp [clA, h1, h2]
theorem cl_user {w : World} {b : Nat} {c : Cl} {vi vo : Value} {m : Option Nat} (h1 : c.ck.length = 16) (h2 : c.key.length = 16) (k : Block w b 76 (clA c vi vo m)) : w.cell? ⟨b, 0, none⟩ = some (.int .i64 c.user) := by
 rw [k.cell]
 obtain ⟨user, state, now, nonce, epoch, ck, ask, id, key, beats, seq, beat, say, next, items, os, vw, code⟩ := c
 obtain ⟨s0, s1, s2, s3, s4, s5, s6, s7, s8, s9, s10, s11, s12, s13, s14, s15, rfl⟩ := len16 (l := ck) h1
 obtain ⟨q0, q1, q2, q3, q4, q5, q6, q7, q8, q9, q10, q11, q12, q13, q14, q15, rfl⟩ := len16 (l := key) h2
 rfl
theorem cl_state {w : World} {b : Nat} {c : Cl} {vi vo : Value} {m : Option Nat} (h1 : c.ck.length = 16) (h2 : c.key.length = 16) (k : Block w b 76 (clA c vi vo m)) : w.cell? ⟨b, 1, none⟩ = some (.int .i64 c.state) := by
 rw [k.cell]
 obtain ⟨user, state, now, nonce, epoch, ck, ask, id, key, beats, seq, beat, say, next, items, os, vw, code⟩ := c
 obtain ⟨s0, s1, s2, s3, s4, s5, s6, s7, s8, s9, s10, s11, s12, s13, s14, s15, rfl⟩ := len16 (l := ck) h1
 obtain ⟨q0, q1, q2, q3, q4, q5, q6, q7, q8, q9, q10, q11, q12, q13, q14, q15, rfl⟩ := len16 (l := key) h2
 rfl
theorem cl_now {w : World} {b : Nat} {c : Cl} {vi vo : Value} {m : Option Nat} (h1 : c.ck.length = 16) (h2 : c.key.length = 16) (k : Block w b 76 (clA c vi vo m)) : w.cell? ⟨b, 2, none⟩ = some (.int .i64 c.now) := by
 rw [k.cell]
 obtain ⟨user, state, now, nonce, epoch, ck, ask, id, key, beats, seq, beat, say, next, items, os, vw, code⟩ := c
 obtain ⟨s0, s1, s2, s3, s4, s5, s6, s7, s8, s9, s10, s11, s12, s13, s14, s15, rfl⟩ := len16 (l := ck) h1
 obtain ⟨q0, q1, q2, q3, q4, q5, q6, q7, q8, q9, q10, q11, q12, q13, q14, q15, rfl⟩ := len16 (l := key) h2
 rfl
theorem cl_nonce {w : World} {b : Nat} {c : Cl} {vi vo : Value} {m : Option Nat} (h1 : c.ck.length = 16) (h2 : c.key.length = 16) (k : Block w b 76 (clA c vi vo m)) : w.cell? ⟨b, 3, none⟩ = some (.int .i64 c.nonce) := by
 rw [k.cell]
 obtain ⟨user, state, now, nonce, epoch, ck, ask, id, key, beats, seq, beat, say, next, items, os, vw, code⟩ := c
 obtain ⟨s0, s1, s2, s3, s4, s5, s6, s7, s8, s9, s10, s11, s12, s13, s14, s15, rfl⟩ := len16 (l := ck) h1
 obtain ⟨q0, q1, q2, q3, q4, q5, q6, q7, q8, q9, q10, q11, q12, q13, q14, q15, rfl⟩ := len16 (l := key) h2
 rfl
theorem cl_epoch {w : World} {b : Nat} {c : Cl} {vi vo : Value} {m : Option Nat} (h1 : c.ck.length = 16) (h2 : c.key.length = 16) (k : Block w b 76 (clA c vi vo m)) : w.cell? ⟨b, 4, none⟩ = some (.int .i64 c.epoch) := by
 rw [k.cell]
 obtain ⟨user, state, now, nonce, epoch, ck, ask, id, key, beats, seq, beat, say, next, items, os, vw, code⟩ := c
 obtain ⟨s0, s1, s2, s3, s4, s5, s6, s7, s8, s9, s10, s11, s12, s13, s14, s15, rfl⟩ := len16 (l := ck) h1
 obtain ⟨q0, q1, q2, q3, q4, q5, q6, q7, q8, q9, q10, q11, q12, q13, q14, q15, rfl⟩ := len16 (l := key) h2
 rfl
theorem cl_ask {w : World} {b : Nat} {c : Cl} {vi vo : Value} {m : Option Nat} (h1 : c.ck.length = 16) (h2 : c.key.length = 16) (k : Block w b 76 (clA c vi vo m)) : w.cell? ⟨b, 21, none⟩ = some (.int .i64 c.ask) := by
 rw [k.cell]
 obtain ⟨user, state, now, nonce, epoch, ck, ask, id, key, beats, seq, beat, say, next, items, os, vw, code⟩ := c
 obtain ⟨s0, s1, s2, s3, s4, s5, s6, s7, s8, s9, s10, s11, s12, s13, s14, s15, rfl⟩ := len16 (l := ck) h1
 obtain ⟨q0, q1, q2, q3, q4, q5, q6, q7, q8, q9, q10, q11, q12, q13, q14, q15, rfl⟩ := len16 (l := key) h2
 rfl
theorem cl_id {w : World} {b : Nat} {c : Cl} {vi vo : Value} {m : Option Nat} (h1 : c.ck.length = 16) (h2 : c.key.length = 16) (k : Block w b 76 (clA c vi vo m)) : w.cell? ⟨b, 22, none⟩ = some (.int .i64 c.id) := by
 rw [k.cell]
 obtain ⟨user, state, now, nonce, epoch, ck, ask, id, key, beats, seq, beat, say, next, items, os, vw, code⟩ := c
 obtain ⟨s0, s1, s2, s3, s4, s5, s6, s7, s8, s9, s10, s11, s12, s13, s14, s15, rfl⟩ := len16 (l := ck) h1
 obtain ⟨q0, q1, q2, q3, q4, q5, q6, q7, q8, q9, q10, q11, q12, q13, q14, q15, rfl⟩ := len16 (l := key) h2
 rfl
theorem cl_beats {w : World} {b : Nat} {c : Cl} {vi vo : Value} {m : Option Nat} (h1 : c.ck.length = 16) (h2 : c.key.length = 16) (k : Block w b 76 (clA c vi vo m)) : w.cell? ⟨b, 39, none⟩ = some (.int .i64 c.beats) := by
 rw [k.cell]
 obtain ⟨user, state, now, nonce, epoch, ck, ask, id, key, beats, seq, beat, say, next, items, os, vw, code⟩ := c
 obtain ⟨s0, s1, s2, s3, s4, s5, s6, s7, s8, s9, s10, s11, s12, s13, s14, s15, rfl⟩ := len16 (l := ck) h1
 obtain ⟨q0, q1, q2, q3, q4, q5, q6, q7, q8, q9, q10, q11, q12, q13, q14, q15, rfl⟩ := len16 (l := key) h2
 rfl
theorem cl_seq {w : World} {b : Nat} {c : Cl} {vi vo : Value} {m : Option Nat} (h1 : c.ck.length = 16) (h2 : c.key.length = 16) (k : Block w b 76 (clA c vi vo m)) : w.cell? ⟨b, 40, none⟩ = some (.int .i64 c.seq) := by
 rw [k.cell]
 obtain ⟨user, state, now, nonce, epoch, ck, ask, id, key, beats, seq, beat, say, next, items, os, vw, code⟩ := c
 obtain ⟨s0, s1, s2, s3, s4, s5, s6, s7, s8, s9, s10, s11, s12, s13, s14, s15, rfl⟩ := len16 (l := ck) h1
 obtain ⟨q0, q1, q2, q3, q4, q5, q6, q7, q8, q9, q10, q11, q12, q13, q14, q15, rfl⟩ := len16 (l := key) h2
 rfl
theorem cl_beat {w : World} {b : Nat} {c : Cl} {vi vo : Value} {m : Option Nat} (h1 : c.ck.length = 16) (h2 : c.key.length = 16) (k : Block w b 76 (clA c vi vo m)) : w.cell? ⟨b, 41, none⟩ = some (.int .i64 c.beat) := by
 rw [k.cell]
 obtain ⟨user, state, now, nonce, epoch, ck, ask, id, key, beats, seq, beat, say, next, items, os, vw, code⟩ := c
 obtain ⟨s0, s1, s2, s3, s4, s5, s6, s7, s8, s9, s10, s11, s12, s13, s14, s15, rfl⟩ := len16 (l := ck) h1
 obtain ⟨q0, q1, q2, q3, q4, q5, q6, q7, q8, q9, q10, q11, q12, q13, q14, q15, rfl⟩ := len16 (l := key) h2
 rfl
theorem cl_say {w : World} {b : Nat} {c : Cl} {vi vo : Value} {m : Option Nat} (h1 : c.ck.length = 16) (h2 : c.key.length = 16) (k : Block w b 76 (clA c vi vo m)) : w.cell? ⟨b, 42, none⟩ = some (.int .i64 c.say) := by
 rw [k.cell]
 obtain ⟨user, state, now, nonce, epoch, ck, ask, id, key, beats, seq, beat, say, next, items, os, vw, code⟩ := c
 obtain ⟨s0, s1, s2, s3, s4, s5, s6, s7, s8, s9, s10, s11, s12, s13, s14, s15, rfl⟩ := len16 (l := ck) h1
 obtain ⟨q0, q1, q2, q3, q4, q5, q6, q7, q8, q9, q10, q11, q12, q13, q14, q15, rfl⟩ := len16 (l := key) h2
 rfl
theorem cl_next {w : World} {b : Nat} {c : Cl} {vi vo : Value} {m : Option Nat} (h1 : c.ck.length = 16) (h2 : c.key.length = 16) (k : Block w b 76 (clA c vi vo m)) : w.cell? ⟨b, 43, none⟩ = some (.int .i64 c.next) := by
 rw [k.cell]
 obtain ⟨user, state, now, nonce, epoch, ck, ask, id, key, beats, seq, beat, say, next, items, os, vw, code⟩ := c
 obtain ⟨s0, s1, s2, s3, s4, s5, s6, s7, s8, s9, s10, s11, s12, s13, s14, s15, rfl⟩ := len16 (l := ck) h1
 obtain ⟨q0, q1, q2, q3, q4, q5, q6, q7, q8, q9, q10, q11, q12, q13, q14, q15, rfl⟩ := len16 (l := key) h2
 rfl
theorem cl_code {w : World} {b : Nat} {c : Cl} {vi vo : Value} {m : Option Nat} (h1 : c.ck.length = 16) (h2 : c.key.length = 16) (k : Block w b 76 (clA c vi vo m)) : w.cell? ⟨b, 47, none⟩ = some (.int .i64 c.code) := by
 rw [k.cell]
 obtain ⟨user, state, now, nonce, epoch, ck, ask, id, key, beats, seq, beat, say, next, items, os, vw, code⟩ := c
 obtain ⟨s0, s1, s2, s3, s4, s5, s6, s7, s8, s9, s10, s11, s12, s13, s14, s15, rfl⟩ := len16 (l := ck) h1
 obtain ⟨q0, q1, q2, q3, q4, q5, q6, q7, q8, q9, q10, q11, q12, q13, q14, q15, rfl⟩ := len16 (l := key) h2
 rfl
theorem cl_items {w : World} {b : Nat} {c : Cl} {vi vo : Value} {m : Option Nat} (h1 : c.ck.length = 16) (h2 : c.key.length = 16) (k : Block w b 76 (clA c vi vo m)) : w.cell? ⟨b, 44, none⟩ = some vi := by
 rw [k.cell]
 obtain ⟨user, state, now, nonce, epoch, ck, ask, id, key, beats, seq, beat, say, next, items, os, vw, code⟩ := c
 obtain ⟨s0, s1, s2, s3, s4, s5, s6, s7, s8, s9, s10, s11, s12, s13, s14, s15, rfl⟩ := len16 (l := ck) h1
 obtain ⟨q0, q1, q2, q3, q4, q5, q6, q7, q8, q9, q10, q11, q12, q13, q14, q15, rfl⟩ := len16 (l := key) h2
 rfl
theorem cl_os {w : World} {b : Nat} {c : Cl} {vi vo : Value} {m : Option Nat} (h1 : c.ck.length = 16) (h2 : c.key.length = 16) (k : Block w b 76 (clA c vi vo m)) : w.cell? ⟨b, 45, none⟩ = some vo := by
 rw [k.cell]
 obtain ⟨user, state, now, nonce, epoch, ck, ask, id, key, beats, seq, beat, say, next, items, os, vw, code⟩ := c
 obtain ⟨s0, s1, s2, s3, s4, s5, s6, s7, s8, s9, s10, s11, s12, s13, s14, s15, rfl⟩ := len16 (l := ck) h1
 obtain ⟨q0, q1, q2, q3, q4, q5, q6, q7, q8, q9, q10, q11, q12, q13, q14, q15, rfl⟩ := len16 (l := key) h2
 rfl
theorem cl_views {w : World} {b : Nat} {c : Cl} {vi vo : Value} {m : Option Nat} (h1 : c.ck.length = 16) (h2 : c.key.length = 16) (k : Block w b 76 (clA c vi vo m)) : w.cell? ⟨b, 46, none⟩ = some (.map m) := by
 rw [k.cell]
 obtain ⟨user, state, now, nonce, epoch, ck, ask, id, key, beats, seq, beat, say, next, items, os, vw, code⟩ := c
 obtain ⟨s0, s1, s2, s3, s4, s5, s6, s7, s8, s9, s10, s11, s12, s13, s14, s15, rfl⟩ := len16 (l := ck) h1
 obtain ⟨q0, q1, q2, q3, q4, q5, q6, q7, q8, q9, q10, q11, q12, q13, q14, q15, rfl⟩ := len16 (l := key) h2
 rfl
theorem st_state {c : Cl} {vi vo : Value} {m : Option Nat} {x : Int} (h1 : c.ck.length = 16) (h2 : c.key.length = 16) : setL (clA c vi vo m) 1 (Value.int .i64 x).cells.toList = clA {c with state := x} vi vo m := by
 obtain ⟨user, state, now, nonce, epoch, ck, ask, id, key, beats, seq, beat, say, next, items, os, vw, code⟩ := c
 obtain ⟨s0, s1, s2, s3, s4, s5, s6, s7, s8, s9, s10, s11, s12, s13, s14, s15, rfl⟩ := len16 (l := ck) h1
 obtain ⟨q0, q1, q2, q3, q4, q5, q6, q7, q8, q9, q10, q11, q12, q13, q14, q15, rfl⟩ := len16 (l := key) h2
 rfl
theorem st_now {c : Cl} {vi vo : Value} {m : Option Nat} {x : Int} (h1 : c.ck.length = 16) (h2 : c.key.length = 16) : setL (clA c vi vo m) 2 (Value.int .i64 x).cells.toList = clA {c with now := x} vi vo m := by
 obtain ⟨user, state, now, nonce, epoch, ck, ask, id, key, beats, seq, beat, say, next, items, os, vw, code⟩ := c
 obtain ⟨s0, s1, s2, s3, s4, s5, s6, s7, s8, s9, s10, s11, s12, s13, s14, s15, rfl⟩ := len16 (l := ck) h1
 obtain ⟨q0, q1, q2, q3, q4, q5, q6, q7, q8, q9, q10, q11, q12, q13, q14, q15, rfl⟩ := len16 (l := key) h2
 rfl
theorem st_nonce {c : Cl} {vi vo : Value} {m : Option Nat} {x : Int} (h1 : c.ck.length = 16) (h2 : c.key.length = 16) : setL (clA c vi vo m) 3 (Value.int .i64 x).cells.toList = clA {c with nonce := x} vi vo m := by
 obtain ⟨user, state, now, nonce, epoch, ck, ask, id, key, beats, seq, beat, say, next, items, os, vw, code⟩ := c
 obtain ⟨s0, s1, s2, s3, s4, s5, s6, s7, s8, s9, s10, s11, s12, s13, s14, s15, rfl⟩ := len16 (l := ck) h1
 obtain ⟨q0, q1, q2, q3, q4, q5, q6, q7, q8, q9, q10, q11, q12, q13, q14, q15, rfl⟩ := len16 (l := key) h2
 rfl
theorem st_epoch {c : Cl} {vi vo : Value} {m : Option Nat} {x : Int} (h1 : c.ck.length = 16) (h2 : c.key.length = 16) : setL (clA c vi vo m) 4 (Value.int .i64 x).cells.toList = clA {c with epoch := x} vi vo m := by
 obtain ⟨user, state, now, nonce, epoch, ck, ask, id, key, beats, seq, beat, say, next, items, os, vw, code⟩ := c
 obtain ⟨s0, s1, s2, s3, s4, s5, s6, s7, s8, s9, s10, s11, s12, s13, s14, s15, rfl⟩ := len16 (l := ck) h1
 obtain ⟨q0, q1, q2, q3, q4, q5, q6, q7, q8, q9, q10, q11, q12, q13, q14, q15, rfl⟩ := len16 (l := key) h2
 rfl
theorem st_ask {c : Cl} {vi vo : Value} {m : Option Nat} {x : Int} (h1 : c.ck.length = 16) (h2 : c.key.length = 16) : setL (clA c vi vo m) 21 (Value.int .i64 x).cells.toList = clA {c with ask := x} vi vo m := by
 obtain ⟨user, state, now, nonce, epoch, ck, ask, id, key, beats, seq, beat, say, next, items, os, vw, code⟩ := c
 obtain ⟨s0, s1, s2, s3, s4, s5, s6, s7, s8, s9, s10, s11, s12, s13, s14, s15, rfl⟩ := len16 (l := ck) h1
 obtain ⟨q0, q1, q2, q3, q4, q5, q6, q7, q8, q9, q10, q11, q12, q13, q14, q15, rfl⟩ := len16 (l := key) h2
 rfl
theorem st_beats {c : Cl} {vi vo : Value} {m : Option Nat} {x : Int} (h1 : c.ck.length = 16) (h2 : c.key.length = 16) : setL (clA c vi vo m) 39 (Value.int .i64 x).cells.toList = clA {c with beats := x} vi vo m := by
 obtain ⟨user, state, now, nonce, epoch, ck, ask, id, key, beats, seq, beat, say, next, items, os, vw, code⟩ := c
 obtain ⟨s0, s1, s2, s3, s4, s5, s6, s7, s8, s9, s10, s11, s12, s13, s14, s15, rfl⟩ := len16 (l := ck) h1
 obtain ⟨q0, q1, q2, q3, q4, q5, q6, q7, q8, q9, q10, q11, q12, q13, q14, q15, rfl⟩ := len16 (l := key) h2
 rfl
theorem st_seq {c : Cl} {vi vo : Value} {m : Option Nat} {x : Int} (h1 : c.ck.length = 16) (h2 : c.key.length = 16) : setL (clA c vi vo m) 40 (Value.int .i64 x).cells.toList = clA {c with seq := x} vi vo m := by
 obtain ⟨user, state, now, nonce, epoch, ck, ask, id, key, beats, seq, beat, say, next, items, os, vw, code⟩ := c
 obtain ⟨s0, s1, s2, s3, s4, s5, s6, s7, s8, s9, s10, s11, s12, s13, s14, s15, rfl⟩ := len16 (l := ck) h1
 obtain ⟨q0, q1, q2, q3, q4, q5, q6, q7, q8, q9, q10, q11, q12, q13, q14, q15, rfl⟩ := len16 (l := key) h2
 rfl
theorem st_beat {c : Cl} {vi vo : Value} {m : Option Nat} {x : Int} (h1 : c.ck.length = 16) (h2 : c.key.length = 16) : setL (clA c vi vo m) 41 (Value.int .i64 x).cells.toList = clA {c with beat := x} vi vo m := by
 obtain ⟨user, state, now, nonce, epoch, ck, ask, id, key, beats, seq, beat, say, next, items, os, vw, code⟩ := c
 obtain ⟨s0, s1, s2, s3, s4, s5, s6, s7, s8, s9, s10, s11, s12, s13, s14, s15, rfl⟩ := len16 (l := ck) h1
 obtain ⟨q0, q1, q2, q3, q4, q5, q6, q7, q8, q9, q10, q11, q12, q13, q14, q15, rfl⟩ := len16 (l := key) h2
 rfl
theorem st_say {c : Cl} {vi vo : Value} {m : Option Nat} {x : Int} (h1 : c.ck.length = 16) (h2 : c.key.length = 16) : setL (clA c vi vo m) 42 (Value.int .i64 x).cells.toList = clA {c with say := x} vi vo m := by
 obtain ⟨user, state, now, nonce, epoch, ck, ask, id, key, beats, seq, beat, say, next, items, os, vw, code⟩ := c
 obtain ⟨s0, s1, s2, s3, s4, s5, s6, s7, s8, s9, s10, s11, s12, s13, s14, s15, rfl⟩ := len16 (l := ck) h1
 obtain ⟨q0, q1, q2, q3, q4, q5, q6, q7, q8, q9, q10, q11, q12, q13, q14, q15, rfl⟩ := len16 (l := key) h2
 rfl
theorem st_code {c : Cl} {vi vo : Value} {m : Option Nat} {x : Int} (h1 : c.ck.length = 16) (h2 : c.key.length = 16) : setL (clA c vi vo m) 47 (Value.int .i64 x).cells.toList = clA {c with code := x} vi vo m := by
 obtain ⟨user, state, now, nonce, epoch, ck, ask, id, key, beats, seq, beat, say, next, items, os, vw, code⟩ := c
 obtain ⟨s0, s1, s2, s3, s4, s5, s6, s7, s8, s9, s10, s11, s12, s13, s14, s15, rfl⟩ := len16 (l := ck) h1
 obtain ⟨q0, q1, q2, q3, q4, q5, q6, q7, q8, q9, q10, q11, q12, q13, q14, q15, rfl⟩ := len16 (l := key) h2
 rfl
theorem st_views {c : Cl} {vi vo : Value} {m m2 : Option Nat} (h1 : c.ck.length = 16) (h2 : c.key.length = 16) : setL (clA c vi vo m) 46 (Value.map m2).cells.toList = clA c vi vo m2 := by
 obtain ⟨user, state, now, nonce, epoch, ck, ask, id, key, beats, seq, beat, say, next, items, os, vw, code⟩ := c
 obtain ⟨s0, s1, s2, s3, s4, s5, s6, s7, s8, s9, s10, s11, s12, s13, s14, s15, rfl⟩ := len16 (l := ck) h1
 obtain ⟨q0, q1, q2, q3, q4, q5, q6, q7, q8, q9, q10, q11, q12, q13, q14, q15, rfl⟩ := len16 (l := key) h2
 rfl
theorem st_os {c : Cl} {vi vo : Value} {m : Option Nat} {A : Option Addr} {n k : Nat} (h1 : c.ck.length = 16) (h2 : c.key.length = 16) : setL (clA c vi vo m) 45 (Value.slice A n k).cells.toList = clA c vi (.slice A n k) m := by
 obtain ⟨user, state, now, nonce, epoch, ck, ask, id, key, beats, seq, beat, say, next, items, os, vw, code⟩ := c
 obtain ⟨s0, s1, s2, s3, s4, s5, s6, s7, s8, s9, s10, s11, s12, s13, s14, s15, rfl⟩ := len16 (l := ck) h1
 obtain ⟨q0, q1, q2, q3, q4, q5, q6, q7, q8, q9, q10, q11, q12, q13, q14, q15, rfl⟩ := len16 (l := key) h2
 rfl
theorem cl_ck {w : World} {b : Nat} {c : Cl} {vi vo : Value} {m : Option Nat} (k : Block w b 76 (clA c vi vo m)) : w.rangeAt b 5 (c.ck.map u8v) := by
 intro j v hv
 rw [k.cell]
 have hj : j < (c.ck.map u8v).length := (List.getElem?_eq_some_iff.1 hv).1
 simp only [clA, List.getElem?_toArray]
 rw [List.getElem?_append_right (by simp), show 5 + j - ([Value.int .i64 c.user, .int .i64 c.state, .int .i64 c.now, .int .i64 c.nonce, .int .i64 c.epoch] : List Value).length = j by simp, List.getElem?_append_left hj]
 exact hv
theorem cl_key {w : World} {b : Nat} {c : Cl} {vi vo : Value} {m : Option Nat} (h1 : c.ck.length = 16) (k : Block w b 76 (clA c vi vo m)) : w.rangeAt b 23 (c.key.map u8v) := by
 intro j v hv
 rw [k.cell]
 have hj : j < (c.key.map u8v).length := (List.getElem?_eq_some_iff.1 hv).1
 simp only [clA, List.getElem?_toArray]
 rw [List.getElem?_append_right (by simp; omega), List.getElem?_append_right (by simp [h1]; omega), List.getElem?_append_right (by simp [h1]; omega),
  show 23 + j - ([Value.int .i64 c.user, .int .i64 c.state, .int .i64 c.now, .int .i64 c.nonce, .int .i64 c.epoch] : List Value).length - (c.ck.map u8v).length - ([Value.int .i64 c.ask, .int .i64 c.id] : List Value).length = j by simp [h1]; omega, List.getElem?_append_left hj]
 exact hv
theorem cl_told {w : World} {b : Nat} {c : Cl} {vi vo : Value} {m : Option Nat} (h1 : c.ck.length = 16) (h2 : c.key.length = 16) (k : Block w b 76 (clA c vi vo m)) : w.rangeAt b 43 [.int .i64 c.next, vi] := by
 intro j v hv
 match j, hv with
 | 0, hv => rw [← hv]; exact cl_next h1 h2 k
 | 1, hv => rw [← hv]; exact cl_items h1 h2 k
theorem st_ck {c : Cl} {vi vo : Value} {m : Option Nat} {l : List B8} (h1 : c.ck.length = 16) (h2 : c.key.length = 16) (hl : l.length = 16) : setL (clA c vi vo m) 5 (barr l).toList = clA {c with ck := l} vi vo m := by
 apply Array.toList_inj.1
 rw [setL_list _ _ _ (by rw [clA_size h1 h2]; simp [hl])]
 obtain ⟨user, state, now, nonce, epoch, ck, ask, id, key, beats, seq, beat, say, next, items, os, vw, code⟩ := c
 obtain ⟨s0, s1, s2, s3, s4, s5, s6, s7, s8, s9, s10, s11, s12, s13, s14, s15, rfl⟩ := len16 (l := ck) h1
 obtain ⟨q0, q1, q2, q3, q4, q5, q6, q7, q8, q9, q10, q11, q12, q13, q14, q15, rfl⟩ := len16 (l := key) h2
 obtain ⟨a0, a1, a2, a3, a4, a5, a6, a7, a8, a9, a10, a11, a12, a13, a14, a15, rfl⟩ := len16 hl
 rfl
theorem st_told {c : Cl} {vi vo v2 : Value} {m : Option Nat} {n : Int} (h1 : c.ck.length = 16) (h2 : c.key.length = 16) : setL (clA c vi vo m) 43 (#[Value.int .i64 n, v2]).toList = clA {c with next := n} v2 vo m := by
 obtain ⟨user, state, now, nonce, epoch, ck, ask, id, key, beats, seq, beat, say, next, items, os, vw, code⟩ := c
 obtain ⟨s0, s1, s2, s3, s4, s5, s6, s7, s8, s9, s10, s11, s12, s13, s14, s15, rfl⟩ := len16 (l := ck) h1
 obtain ⟨q0, q1, q2, q3, q4, q5, q6, q7, q8, q9, q10, q11, q12, q13, q14, q15, rfl⟩ := len16 (l := key) h2
 rfl
/-- the cells of a new link -/
def lkA (id : Int) (key : List B8) (beat say : Int) (next : Int) (v2 : Value) : Array Value := (([.int .i64 id] : List Value) ++ (key.map u8v ++ [.int .i64 0, .int .i64 0, .int .i64 beat, .int .i64 say, .int .i64 next, v2])).toArray
theorem st_link {c : Cl} {vi vo v2 : Value} {m : Option Nat} {i bt sy nx : Int} {l : List B8} (h1 : c.ck.length = 16) (h2 : c.key.length = 16) (hl : l.length = 16) : setL (clA c vi vo m) 22 (lkA i l bt sy nx v2).toList = clA {c with id := i, key := l, beats := 0, seq := 0, beat := bt, say := sy, next := nx} v2 vo m := by
 apply Array.toList_inj.1
 rw [setL_list _ _ _ (by rw [clA_size h1 h2]; simp [lkA, hl])]
 obtain ⟨user, state, now, nonce, epoch, ck, ask, id, key, beats, seq, beat, say, next, items, os, vw, code⟩ := c
 obtain ⟨s0, s1, s2, s3, s4, s5, s6, s7, s8, s9, s10, s11, s12, s13, s14, s15, rfl⟩ := len16 (l := ck) h1
 obtain ⟨q0, q1, q2, q3, q4, q5, q6, q7, q8, q9, q10, q11, q12, q13, q14, q15, rfl⟩ := len16 (l := key) h2
 obtain ⟨a0, a1, a2, a3, a4, a5, a6, a7, a8, a9, a10, a11, a12, a13, a14, a15, rfl⟩ := len16 hl
 rfl
theorem s76 : (Tryz.prog.info? 76).map (·.size) = some 48 := by kernel_rfl
theorem s72 : (Tryz.prog.info? 72).map (·.size) = some 23 := by kernel_rfl
theorem s76c {c : Cl} {vi vo : Value} {m : Option Nat} (h1 : c.ck.length = 16) (h2 : c.key.length = 16) : (Tryz.prog.info? 76).map (·.size) = some (clA c vi vo m).size := by rw [clA_size h1 h2]; exact s76
def okN (y : Nt) : Prop := 0 ≤ y.1 ∧ y.1 ≤ 16 ∧ 0 ≤ y.2.1 ∧ y.2.1 ≤ 1073741824 ∧ 0 ≤ y.2.2.1 ∧ y.2.2.1 ≤ 3 ∧ 0 ≤ y.2.2.2 ∧ y.2.2.2 ≤ 4
/-- may an order be: its kind, status, op, user -/
def MayP (o : Nt) : Prop := (o.1 = 6 ∧ 1 ≤ o.2.1 ∧ o.2.1 ≤ 3 ∧ o.2.2.1 = 0 ∧ o.2.2.2 = 0) ∨ (o.1 = 7 ∧ o.2.1 = 0 ∧ 1 ≤ o.2.2.1 ∧ o.2.2.1 ≤ 7 ∧ 1 ≤ o.2.2.2 ∧ o.2.2.2 ≤ 16) ∨ (o.1 = 10 ∧ o.2.1 = 0 ∧ o.2.2.1 = 0 ∧ o.2.2.2 = 0)
instance (o : Nt) : Decidable (MayP o) := by unfold MayP; exact inferInstance
/-- what is so of a client at any time -/
structure ClOk (c : Cl) : Prop where
 ck : c.ck.length = 16
 key : c.key.length = 16
 user : 1 ≤ c.user ∧ c.user ≤ 16
 state : 0 ≤ c.state ∧ c.state ≤ 3
 now : 0 ≤ c.now ∧ c.now ≤ 1099511627776
 nonce : 0 ≤ c.nonce ∧ c.nonce ≤ 1073741824
 epoch : 0 ≤ c.epoch ∧ c.epoch ≤ 1073741824
 ask : 0 ≤ c.ask ∧ c.ask ≤ 1099511627780
 id : 0 ≤ c.id ∧ c.id ≤ 1073741824
 on : c.state = 3 → 1 ≤ c.id ∧ RightL c.next c.items
 beats : 0 ≤ c.beats ∧ c.beats ≤ 1073741825
 seq : 0 ≤ c.seq ∧ c.seq ≤ 1073741824
 beat : 0 ≤ c.beat ∧ c.beat ≤ 1099511627780
 say : 0 ≤ c.say ∧ c.say ≤ 1099511627780
 next : 0 ≤ c.next ∧ c.next ≤ 1073741824
 items : c.items.length ≤ 7
 notes : ∀ y ∈ c.items, okN y.2
 off : c.state = 0 → c.os = []
 os : c.os.length ≤ 8
 may : ∀ o ∈ c.os, MayP o
 vw : ∀ u y, c.vw u = some y → y.1 = u ∧ 1 ≤ u ∧ u ≤ 16 ∧ okN y ∧ 1 ≤ y.2.1
 code : 0 ≤ c.code ∧ c.code ≤ 15
/-- a slice's memory, if it has some, lies behind block b -/
abbrev ORow (w : World) (v : Value) (L : List Nt) : Prop := Row encN w v L
/-- a bound: the rows of the client in block b lie at lim b or behind it -/
class Lim where
 lim : Nat → Nat
 ge : ∀ b, b + 1 ≤ lim b
instance (priority := 10) limZ : Lim := ⟨fun b => b + 1, fun _ => Nat.le_refl _⟩
structure ClAt [Lim] (w : World) (b : Nat) (m : Option Nat) (c : Cl) : Prop where
 ok : ClOk c
 ex : ∃ vi vo, Block w b 76 (clA c vi vo m) ∧ (IRow w vi c.items ∧ Fresh (Lim.lim b) vi) ∧ (ORow w vo c.os ∧ Fresh (Lim.lim b) vo)
 mp : MapAt w m c.vw
 mb : ∀ q, m = some q → b < q
/-- a call that writes but the block b, and the map m -/
structure Only (b : Nat) (m : Option Nat) (w w' : World) : Prop where
 os : w'.os = w.os
 tape : w'.tape = w.tape
 output : w'.output = w.output
 size : w.heap.size ≤ w'.heap.size
 block : ∀ k, k < w.heap.size → k ≠ b → some k ≠ m → w'.heap[k]? = w.heap[k]?
theorem Only.refl (b : Nat) (m : Option Nat) (w : World) : Only b m w w := ⟨rfl, rfl, rfl, Nat.le_refl _, fun _ _ _ _ => rfl⟩
/-- the map behind a call -/
def MNext (w : World) (m m' : Option Nat) : Prop := m' = m ∨ m' = none ∨ ∃ q, m' = some q ∧ w.heap.size ≤ q
theorem Only.comp {b : Nat} {m m' : Option Nat} {w w1 w2 : World} (h : Only b m w w1) (hm : MNext w m m') (k : Only b m' w1 w2) : Only b m w w2 :=
 ⟨k.os.trans h.os, k.tape.trans h.tape, k.output.trans h.output, Nat.le_trans h.size k.size, fun i hi hb hn => (k.block i (Nat.lt_of_lt_of_le hi h.size) hb (by
  rcases hm with rfl | rfl | ⟨q, rfl, hq⟩
  · exact hn
  · simp
  · simp; omega)).trans (h.block i hi hb hn)⟩
theorem MNext.trans {w w1 : World} {m m' m2 : Option Nat} (h : MNext w m m') (hs : w.heap.size ≤ w1.heap.size) (k : MNext w1 m' m2) : MNext w m m2 := by
 rcases k with rfl | rfl | ⟨q, rfl, hq⟩
 · exact h
 · exact .inr (.inl rfl)
 · exact .inr (.inr ⟨q, rfl, by omega⟩)
theorem MNext.same (w : World) (m : Option Nat) : MNext w m m := .inl rfl
theorem Only.below {b : Nat} {m : Option Nat} {w w1 w2 : World} (h : Only b m w w1) (hb : Below w1.heap.size w1 w2) : Only b m w w2 :=
 ⟨hb.os.trans h.os, hb.tape.trans h.tape, hb.output.trans h.output, Nat.le_trans h.size hb.size, fun i hi h1 h2 => (hb.block i (Nat.lt_of_lt_of_le hi h.size)).trans (h.block i hi h1 h2)⟩
theorem Only.trans {b : Nat} {m : Option Nat} {W w w' : World} (h : Only b m W w) (hb : Below W.heap.size w w') : Only b m W w' :=
 ⟨hb.os.trans h.os, hb.tape.trans h.tape, hb.output.trans h.output, Nat.le_trans h.size hb.size, fun i hi h1 h2 => (hb.block i hi).trans (h.block i hi h1 h2)⟩
theorem Only.tr {b : Nat} {m : Option Nat} {W w w1 : World} (h : Only b m W w) (hb : Below w.heap.size w w1) : Only b m W w1 := h.trans (hb.mono h.size)
def OnlyTo {b : Nat} {m : Option Nat} {W w : World} (_ : Only b m W w) : World := w
theorem MapAt.store {w w' : World} {m : Option Nat} {vw : Int → Option Nt} {b : Nat} (h : MapAt w m vw) (hm : ∀ q, m = some q → b < q) (hb : Below b w w') (ho : ∀ g, g ≠ b → w'.heap[g]? = w.heap[g]?) : MapAt w' m vw :=
 h.kept (row := some b) ⟨hb.os, hb.tape, hb.output, hb.size, fun k hk hne => ho k (fun e => hne (by rw [e]))⟩ (by
  cases m with
  | none => exact .inl rfl
  | some q => have := hm q rfl; exact .inr (by simp; omega))
/-- all but the block b as in W; and b's cell of the time too -/
def GrownC (b : Nat) (W w : World) : Prop := W.grownBy w (some b) ∧ w.cell? ⟨b, 2, none⟩ = W.cell? ⟨b, 2, none⟩
theorem grownC_drew (b : Nat) (w : World) : GrownC b w w.drew := ⟨⟨rfl, rfl, rfl, Nat.le_refl _, fun _ _ _ => rfl⟩, rfl⟩
theorem GrownC.store {b : Nat} {W w w' : World} (h : GrownC b W w) (hb : Below b w w') (ho : ∀ g, g ≠ b → w'.heap[g]? = w.heap[g]?) (hc : w'.cell? ⟨b, 2, none⟩ = w.cell? ⟨b, 2, none⟩) : GrownC b W w' :=
 ⟨⟨hb.os.trans h.1.os, hb.tape.trans h.1.tape, hb.output.trans h.1.output, Nat.le_trans h.1.size hb.size, fun k hk hne => (ho k (fun e => hne (by rw [e]))).trans (h.1.block k hk hne)⟩, hc.trans h.2⟩
theorem Only.store {b : Nat} {m : Option Nat} {w w1 w2 : World} (h : Only b m w w1) (hb : Below b w1 w2) (ho : ∀ g, g ≠ b → w2.heap[g]? = w1.heap[g]?) : Only b m w w2 :=
 ⟨hb.os.trans h.os, hb.tape.trans h.tape, hb.output.trans h.output, Nat.le_trans h.size hb.size, fun i hi h1 h2 => (ho i h1).trans (h.block i hi h1 h2)⟩
theorem Only.down {b B : Nat} {m : Option Nat} {W w w' : World} (h : Only b m w w') (hW : Below B W w) (hb : B ≤ b) (hB : B ≤ w.heap.size) (hm : ∀ q, m = some q → b < q) : Below B W w' :=
 ⟨h.os.trans hW.os, h.tape.trans hW.tape, h.output.trans hW.output, Nat.le_trans hW.size h.size, fun k hk => (h.block k (by omega) (by omega) (fun e => by have := hm k e.symm; omega)).trans (hW.block k hk)⟩
theorem Only.weak {b : Nat} {m : Option Nat} {w w' : World} (h : Only b none w w') : Only b m w w' := ⟨h.os, h.tape, h.output, h.size, fun k hk hb _ => h.block k hk hb (by simp)⟩
theorem Only.thin {b : Nat} {m : Option Nat} {w w1 w2 : World} (h : Only b m w w1) (k : Only b none w1 w2) : Only b m w w2 := ⟨k.os.trans h.os, k.tape.trans h.tape, k.output.trans h.output, Nat.le_trans h.size k.size, fun i hi hb hn => (k.block i (Nat.lt_of_lt_of_le hi h.size) hb (by simp)).trans (h.block i hi hb hn)⟩
theorem MapAt.gone {b : Nat} {w w' : World} {m : Option Nat} {vw : Int → Option Nt} (h : MapAt w m vw) (hm : ∀ q, m = some q → b < q) (ho : Only b none w w') : MapAt w' m vw :=
 h.kept (row := some b) ⟨ho.os, ho.tape, ho.output, ho.size, fun k hk hne => ho.block k hk (fun e => hne (by rw [e])) (by simp)⟩ (by
  cases m with
  | none => exact .inl rfl
  | some q => have := hm q rfl; exact .inr (by simp; omega))
theorem Fresh.base {B B' : Nat} {v : Value} (h : Fresh B v) (hB : B' ≤ B) : Fresh B' v := fun A n c e b o ea => Nat.le_trans hB (h A n c e b o ea)
theorem Row.store {α : Type} {enc : α → List Int} {w w' : World} {v : Value} {L : List α} {b : Nat} (h : Row enc w v L) (hf : Fresh (b + 1) v) (ho : ∀ g, g ≠ b → w'.heap[g]? = w.heap[g]?) : Row enc w' v L := by
 obtain ⟨A, c, rfl, h1, h2, h3, hh⟩ := h
 exact Row.keep ⟨A, c, rfl, h1, h2, h3, hh⟩ (fun q o e => ho q (by have := hf A _ c rfl q o e; omega))
theorem Row.gone {α : Type} {enc : α → List Int} {w w' : World} {v : Value} {L : List α} {b : Nat} (h : Row enc w v L) (hf : Fresh (b + 1) v) (ho : Only b none w w') : Row enc w' v L := by
 obtain ⟨A, c, rfl, h1, h2, h3, hh⟩ := h
 refine ⟨A, c, rfl, h1, h2, h3, fun j hj => ?_⟩
 obtain ⟨q, o, e, hc⟩ := hh j hj
 refine ⟨q, o, e, ?_⟩
 have hlt := World.block_lt_of_cell? w _ (hc.trans (List.getElem?_eq_getElem hj))
 have hq := hf A _ c rfl q o e
 rw [← hc]
 unfold World.cell?
 rw [ho.block q hlt (by omega) (by simp)]
theorem fx [Lim] {b : Nat} {v : Value} (h : Fresh (Lim.lim b) v) : Fresh (b + 1) v := Fresh.base h (Lim.ge b)
theorem clat_next [Lim] {w w' : World} {b : Nat} {m : Option Nat} {c c' : Cl} {vi vo : Value} (ok : ClOk c') (k : Block w' b 76 (clA c' vi vo m)) (hri : IRow w vi c.items) (hfi : Fresh (Lim.lim b) vi) (hro : ORow w vo c.os) (hfo : Fresh (Lim.lim b) vo) (hmp : MapAt w m c.vw) (hmb : ∀ q, m = some q → b < q)
  (ho : Only b none w w') (hi : c'.items = c.items) (hs : c'.os = c.os) (hv : c'.vw = c.vw) : ClAt w' b m c' :=
 ⟨ok, ⟨vi, vo, k, ⟨by rw [hi]; exact hri.gone (fx hfi) ho, hfi⟩, by rw [hs]; exact hro.gone (fx hfo) ho, hfo⟩, by rw [hv]; exact hmp.gone hmb ho, hmb⟩
noncomputable def rawF (p : Pkt) : List (List B8) := if rightF p = true then [encF p] else []
noncomputable def sgnF (c : Cl) (p : Pkt) : List (List B8) := if signOk (p.set 1 c.id) = true then rawF (signF c.key (p.set 1 c.id)) else []
abbrev Z8 : List B8 := List.replicate 8 0
def helloP (n : Int) : Pkt := ⟨[1, 0, 0, 0, 0, 0, 0, 0, 0, 0, n, 0], Z16, Z8⟩
def connP (u n e : Int) (k : List B8) : Pkt := ⟨[3, 0, 0, u, 0, 0, 0, 0, 0, 0, n, e], k, Z8⟩
def beatP (q : Int) : Pkt := ⟨[5, 0, q, 0, 0, 0, 0, 0, 0, 0, 0, 0], Z16, Z8⟩
def ordP (o : Nt) (q : Int) : Pkt := ⟨[o.1, 0, q, o.2.2.2, o.2.2.1, o.2.1, 0, 0, 0, 0, 0, 0], Z16, Z8⟩
def ackP (a s : Int) : Pkt := ⟨[9, 0, 0, 0, 0, 0, 0, 0, a, s, 0, 0], Z16, Z8⟩
def crashF (c : Cl) : Cl := clZ c.user
def startF (c : Cl) (n : Int) : Cl := if n < 0 ∨ n > 1073741824 then c else { clZ c.user with nonce := n, state := 1 }
def startB (n : Int) : Bool := decide (¬ (n < 0 ∨ n > 1073741824))
def orderNo (c : Cl) (o : Nt) : Prop := c.state = 0 ∨ ¬ MayP o ∨ 8 ≤ c.os.length
instance (c : Cl) (o : Nt) : Decidable (orderNo c o) := by unfold orderNo; exact inferInstance
def orderF (c : Cl) (o : Nt) : Cl := if orderNo c o then c else { c with os := c.os ++ [o] }
def greetC (c : Cl) : Cl := { c with ask := c.now + 4 }
noncomputable def greetO (c : Cl) : List (List B8) := rawF (helloP c.nonce)
noncomputable def joinO (c : Cl) : List (List B8) := rawF (connP c.user c.nonce c.epoch c.ck)
def minI (x y : Int) : Int := if y < x then y else x
def beatC (c : Cl) : Cl := if c.now < c.beat then c else { c with beats := minI (c.beats + 1) 1073741825, beat := c.now + 4 }
noncomputable def beatO (c : Cl) : List (List B8) := if c.now < c.beat then [] else sgnF c (beatP (minI (c.beats + 1) 1073741825))
def sayC (c : Cl) : Cl := match c.os with | [] => c | _ :: _ => if c.now < c.say then c else { c with say := c.now + 4 }
noncomputable def sayO (c : Cl) : List (List B8) := match c.os with | [] => [] | o :: _ => if c.now < c.say then [] else sgnF c (ordP o (c.seq + 1))
def timeC (c : Cl) : Cl := { c with now := minI (c.now + 1) 1099511627776 }
/-- a tick: behind the time's step -/
def tick1C (c : Cl) : Cl := if c.state = 3 then sayC (beatC c) else if c.now < c.ask then c else if c.state = 1 ∨ c.state = 2 then greetC c else c
noncomputable def tick1O (c : Cl) : List (List B8) := if c.state = 3 then beatO c ++ sayO (beatC c) else if c.now < c.ask then [] else if c.state = 1 then greetO c else if c.state = 2 then joinO c else []
def tickC (c : Cl) : Cl := if c.state = 0 then c else tick1C (timeC c)
noncomputable def tickO (c : Cl) : List (List B8) := if c.state = 0 then [] else tick1O (timeC c)
def cookC1 (c : Cl) (p : Pkt) : Cl := { c with epoch := p.fld 11, ck := p.sec, state := 2 }
def cookC (c : Cl) (p : Pkt) : Cl := if c.state = 1 ∧ p.fld 10 = c.nonce then greetC (cookC1 c p) else c
noncomputable def cookO (c : Cl) (p : Pkt) : List (List B8) := if c.state = 1 ∧ p.fld 10 = c.nonce then joinO (cookC1 c p) else []
def accC (c : Cl) (p : Pkt) : Cl := if c.state = 2 ∧ p.fld 10 = c.nonce then { c with state := 3, id := p.fld 1, key := p.sec, beats := 0, seq := 0, beat := c.now, say := c.now, next := 1, items := [] } else c
def refC (c : Cl) (p : Pkt) : Cl := if c.state = 2 ∧ p.fld 10 = c.nonce then { c with ask := c.now + 4, state := 1, code := p.fld 4 } else
 if c.state = 3 ∧ p.fld 10 = c.id ∧ p.fld 4 = 6 then { c with nonce := (c.nonce + 1) % 1073741825, ask := c.now, state := 1, code := p.fld 4 } else c
noncomputable def ownF (c : Cl) (p : Pkt) : Bool := decide (c.state = 3 ∧ p.fld 1 = c.id) && goodF c.key p
def newerF (old now : Nt) : Bool := decide (old.1 = now.1 ∧ old.2.1 < now.2.1)
def belF (vw : Int → Option Nt) (n : Nt) : Int → Option Nt := if n.1 = 0 then vw else match vw n.1 with | none => if n.2.1 < 1 then vw else updV vw n | some old => if newerF old n = true then updV vw n else vw
def belC (c : Cl) (n : Nt) : Cl := { c with vw := belF c.vw n }
def itP (p : Pkt) : It := (p.fld 2, p.fld 3, p.fld 7, p.fld 5, p.fld 6)
def toldC (c : Cl) (p : Pkt) : Cl := { c with next := (takeF c.next c.items (itP p)).1.1, items := (takeF c.next c.items (itP p)).1.2, vw := (takeF c.next c.items (itP p)).2.foldl belF c.vw }
noncomputable def notC (c : Cl) (p : Pkt) : Cl := if ownF c p = true then toldC c p else c
noncomputable def notO (c : Cl) (p : Pkt) : List (List B8) := if ownF c p = true then sgnF (toldC c p) (ackP (ackF (toldC c p).next (toldC c p).items).1 (ackF (toldC c p).next (toldC c p).items).2) else []
def repC1 (c : Cl) (p : Pkt) (o : Nt) (l : List Nt) : Cl := if o.1 = 10 then { clZ c.user with vw := c.vw, code := p.fld 4 } else { c with os := l, seq := p.fld 2, say := c.now, code := p.fld 4 }
noncomputable def repC (c : Cl) (p : Pkt) : Cl := match c.os with | [] => c | o :: l => if ownF c p = true ∧ p.fld 2 = c.seq + 1 then repC1 c p o l else c
/-- a packet comes -/
noncomputable def gotC (c : Cl) (p : Pkt) : Cl := if p.fld 0 = 2 then cookC c p else if p.fld 0 = 4 then accC c p else if p.fld 0 = 12 then refC c p else if p.fld 0 = 8 then notC c p else if p.fld 0 = 11 then repC c p else c
noncomputable def gotO (c : Cl) (p : Pkt) : List (List B8) := if p.fld 0 = 2 then cookO c p else if p.fld 0 = 8 then notO c p else []
noncomputable def stepC (c : Cl) (bs : List B8) : Cl := if decE bs = 0 then gotC c (decP bs) else c
noncomputable def stepO (c : Cl) (bs : List B8) : List (List B8) := if decE bs = 0 then gotO c (decP bs) else []
/-! what stays so -/
theorem clampU_in (u : Int) : 1 ≤ clampU u ∧ clampU u ≤ 16 := by unfold clampU; split <;> split at * <;> omega
theorem minI_le {x y : Int} (h : 0 ≤ x) (hy : 0 ≤ y) : 0 ≤ minI x y ∧ minI x y ≤ y := by unfold minI; split <;> omega
theorem clZ_ok {u : Int} (h : 1 ≤ u ∧ u ≤ 16) : ClOk (clZ u) where
 ck := rfl
 key := rfl
 user := h
 state := ⟨Int.le_refl _, show (0 : Int) ≤ 3 by decide⟩
 now := ⟨Int.le_refl _, show (0 : Int) ≤ 1099511627776 by decide⟩
 nonce := ⟨Int.le_refl _, show (0 : Int) ≤ 1073741824 by decide⟩
 epoch := ⟨Int.le_refl _, show (0 : Int) ≤ 1073741824 by decide⟩
 ask := ⟨Int.le_refl _, show (0 : Int) ≤ 1099511627780 by decide⟩
 id := ⟨Int.le_refl _, show (0 : Int) ≤ 1073741824 by decide⟩
 on := fun e => absurd (show (0 : Int) = 3 from e) (by decide)
 beats := ⟨Int.le_refl _, show (0 : Int) ≤ 1073741825 by decide⟩
 seq := ⟨Int.le_refl _, show (0 : Int) ≤ 1073741824 by decide⟩
 beat := ⟨Int.le_refl _, show (0 : Int) ≤ 1099511627780 by decide⟩
 say := ⟨Int.le_refl _, show (0 : Int) ≤ 1099511627780 by decide⟩
 next := ⟨Int.le_refl _, show (0 : Int) ≤ 1073741824 by decide⟩
 items := Nat.zero_le _
 notes := fun y hy => by cases hy
 off := fun _ => rfl
 os := Nat.zero_le _
 may := fun o ho => by cases ho
 vw := fun u y e => by cases e
 code := ⟨Int.le_refl _, show (0 : Int) ≤ 15 by decide⟩
theorem crash_ok {c : Cl} (h : ClOk c) : ClOk (crashF c) := clZ_ok h.user
theorem start_ok {c : Cl} (h : ClOk c) (n : Int) : ClOk (startF c n) := by
 unfold startF
 split
 · exact h
 ·
  have z := clZ_ok h.user
  exact { z with state := ⟨show (0 : Int) ≤ 1 by decide, show (1 : Int) ≤ 3 by decide⟩, nonce := by show 0 ≤ n ∧ n ≤ _; omega, on := fun e => absurd (show (1 : Int) = 3 from e) (by decide), off := fun e => absurd (show (1 : Int) = 0 from e) (by decide) }
theorem order_ok {c : Cl} (h : ClOk c) (o : Nt) : ClOk (orderF c o) := by
 unfold orderF
 split
 · exact h
 ·
  rename_i hn
  have hn' : c.state ≠ 0 ∧ MayP o ∧ c.os.length < 8 := by unfold orderNo at hn; refine ⟨fun e => hn (.inl e), ?_, ?_⟩; exact Classical.byContradiction fun e => hn (.inr (.inl e)); exact Nat.lt_of_not_le fun e => hn (.inr (.inr e))
  exact { h with
   off := fun e => absurd e hn'.1
   os := by show (c.os ++ [o]).length ≤ 8; rw [List.length_append]; have := hn'.2.2; simp; omega
   may := fun x hx => by
    rcases List.mem_append.1 hx with hx | hx
    · exact h.may x hx
    · rw [List.mem_singleton.1 hx]; exact hn'.2.1 }
theorem greet_ok {c : Cl} (h : ClOk c) : ClOk (greetC c) := { h with ask := by have := h.now; show 0 ≤ c.now + 4 ∧ c.now + 4 ≤ _; omega }
theorem beat_ok {c : Cl} (h : ClOk c) : ClOk (beatC c) := by
 unfold beatC
 split
 · exact h
 ·
  have h1 := minI_le (x := c.beats + 1) (y := 1073741825) (by have := h.beats; omega) (by omega)
  exact { h with beats := h1, beat := by have := h.now; show 0 ≤ c.now + 4 ∧ c.now + 4 ≤ _; omega }
theorem say_ok {c : Cl} (h : ClOk c) : ClOk (sayC c) := by
 unfold sayC
 split
 · exact h
 ·
  split
  · exact h
  · exact { h with say := by have := h.now; show 0 ≤ c.now + 4 ∧ c.now + 4 ≤ _; omega }
theorem time_ok {c : Cl} (h : ClOk c) : ClOk (timeC c) := { h with now := minI_le (by have := h.now; omega) (by omega) }
theorem tick1_ok {c : Cl} (h : ClOk c) : ClOk (tick1C c) := by
 unfold tick1C
 split
 · exact say_ok (beat_ok h)
 ·
  split
  · exact h
  ·
   split
   · exact greet_ok h
   · exact h
theorem tick_ok {c : Cl} (h : ClOk c) : ClOk (tickC c) := by
 unfold tickC
 split
 · exact h
 · exact tick1_ok (time_ok h)
theorem right_slot {p : Pkt} (h : rightF p = true) {s : Nat × Nat × Nat × Nat} (hs : s ∈ slotsF (p.fld 0)) : ((s.2.2.1 : Nat) : Int) ≤ p.fld (atF s.1) ∧ p.fld (atF s.1) ≤ ((s.2.2.2 : Nat) : Int) := by
 have h' : rightP p := @of_decide_eq_true _ (Classical.propDecidable _) h
 obtain ⟨i, hi, he⟩ := List.getElem_of_mem hs
 exact h'.2.1 i s (by rw [← he]; exact List.getElem?_eq_getElem hi)
theorem acc_ok {c : Cl} {p : Pkt} (h : ClOk c) (hp : p.ok) (hr : rightF p = true) (hk : p.fld 0 = 4) : ClOk (accC c p) := by
 unfold accC
 split
 ·
  have h2 := right_slot hr (s := (96, 4, 1, 1073741824)) (by rw [hk]; decide)
  have h3 : 1 ≤ p.fld 1 ∧ p.fld 1 ≤ 1073741824 := h2
  have hn := h.now
  exact { h with
   key := hp.2.1, state := ⟨show (0 : Int) ≤ 3 by decide, show (3 : Int) ≤ 3 by decide⟩, id := by show 0 ≤ p.fld 1 ∧ p.fld 1 ≤ 1073741824; omega, off := fun e => absurd (show (3 : Int) = 0 from e) (by decide)
   on := fun _ => ⟨h3.1, show (1 : Int) ≤ 1 by decide, show (1 : Int) ≤ 1073741824 by decide, List.Pairwise.nil, fun y hy => by cases hy⟩
   beats := ⟨Int.le_refl _, show (0 : Int) ≤ 1073741825 by decide⟩, seq := ⟨Int.le_refl _, show (0 : Int) ≤ 1073741824 by decide⟩, beat := by show 0 ≤ c.now ∧ c.now ≤ _; omega, say := by show 0 ≤ c.now ∧ c.now ≤ _; omega
   next := ⟨show (0 : Int) ≤ 1 by decide, show (1 : Int) ≤ 1073741824 by decide⟩, items := Nat.zero_le _, notes := fun y hy => by cases hy }
 · exact h
theorem ref_ok {c : Cl} {p : Pkt} (h : ClOk c) (hr : rightF p = true) (hk : p.fld 0 = 12) : ClOk (refC c p) := by
 have h2 : 0 ≤ p.fld 4 ∧ p.fld 4 ≤ 15 := right_slot hr (s := (100, 1, 0, 15)) (by rw [hk]; decide)
 have hn := h.now
 have hm := h.nonce
 unfold refC
 split
 · exact { h with ask := by show 0 ≤ c.now + 4 ∧ c.now + 4 ≤ _; omega, state := ⟨show (0 : Int) ≤ 1 by decide, show (1 : Int) ≤ 3 by decide⟩, on := fun e => absurd (show (1 : Int) = 3 from e) (by decide), off := fun e => absurd (show (1 : Int) = 0 from e) (by decide), code := h2 }
 ·
  split
  · exact { h with ask := by show 0 ≤ c.now ∧ c.now ≤ _; omega, nonce := by show 0 ≤ (c.nonce + 1) % 1073741825 ∧ (c.nonce + 1) % 1073741825 ≤ 1073741824; omega, state := ⟨show (0 : Int) ≤ 1 by decide, show (1 : Int) ≤ 3 by decide⟩, on := fun e => absurd (show (1 : Int) = 3 from e) (by decide), off := fun e => absurd (show (1 : Int) = 0 from e) (by decide), code := h2 }
  · exact h
theorem bel_ok {vw : Int → Option Nt} {n : Nt} (h : ∀ u y, vw u = some y → y.1 = u ∧ 1 ≤ u ∧ u ≤ 16 ∧ okN y ∧ 1 ≤ y.2.1) (hn : okN n) : ∀ u y, belF vw n u = some y → y.1 = u ∧ 1 ≤ u ∧ u ≤ 16 ∧ okN y ∧ 1 ≤ y.2.1 := by
 have hu : n.1 ≠ 0 → 1 ≤ n.2.1 → ∀ u y, updV vw n u = some y → y.1 = u ∧ 1 ≤ u ∧ u ≤ 16 ∧ okN y ∧ 1 ≤ y.2.1 := fun h0 hv u y e => by
  unfold updV at e
  split at e
  ·
   rename_i eu
   injection e with e
   subst e
   have a1 := hn.1
   have a2 := hn.2.1
   exact ⟨eu.symm, by omega, by omega, hn, hv⟩
  · exact h u y e
 by_cases h0 : n.1 = 0
 ·
  rw [show belF vw n = vw by unfold belF; rw [if_pos h0]]
  exact h
 ·
  cases hv : vw n.1 with
  | none =>
   by_cases h1 : n.2.1 < 1
   ·
    rw [show belF vw n = vw by unfold belF; rw [if_neg h0, hv]; simp only [if_pos h1]]
    exact h
   ·
    rw [show belF vw n = updV vw n by unfold belF; rw [if_neg h0, hv]; simp only [if_neg h1]]
    exact hu h0 (by omega)
  | some old =>
   by_cases h1 : newerF old n = true
   ·
    rw [show belF vw n = updV vw n by unfold belF; rw [if_neg h0, hv]; simp only [if_pos h1]]
    have hw' := of_decide_eq_true h1
    have := (h _ _ hv).2.2.2.2
    exact hu h0 (by omega)
   ·
    rw [show belF vw n = vw by unfold belF; rw [if_neg h0, hv]; simp only [if_neg h1]]
    exact h
theorem bels_ok : ∀ (l : List Nt) (vw : Int → Option Nt), (∀ u y, vw u = some y → y.1 = u ∧ 1 ≤ u ∧ u ≤ 16 ∧ okN y ∧ 1 ≤ y.2.1) → (∀ n ∈ l, okN n) → ∀ u y, l.foldl belF vw u = some y → y.1 = u ∧ 1 ≤ u ∧ u ≤ 16 ∧ okN y ∧ 1 ≤ y.2.1
 | [], _, h, _ => h
 | n :: l, vw, h, hn => bels_ok l _ (bel_ok h (hn n (by simp))) (fun x hx => hn x (by simp [hx]))
theorem pop_from : ∀ (M : List It) (n : Int), (∀ y ∈ (popF n M).1.2, y ∈ M) ∧ ∀ z ∈ (popF n M).2, ∃ y ∈ M, z = y.2
 | [], n => by simp [popF_nil]
 | y :: M, n => by
  by_cases h : y.1 = n
  ·
   rw [popF_go h]
   obtain ⟨h1, h2⟩ := pop_from M (n + 1)
   refine ⟨fun z hz => by simp [h1 z hz], fun z hz => ?_⟩
   rcases List.mem_cons.1 hz with rfl | hz
   · exact ⟨y, by simp, rfl⟩
   ·
    obtain ⟨x, hx, e⟩ := h2 z hz
    exact ⟨x, by simp [hx], e⟩
  ·
   rw [popF_stop h]
   exact ⟨fun z hz => hz, fun z hz => by cases hz⟩
theorem take_from {n : Int} {L : List It} {x : It} (hL : ∀ y ∈ L, okN y.2) (hx : okN x.2) : (∀ y ∈ (takeF n L x).1.2, okN y.2) ∧ ∀ z ∈ (takeF n L x).2, okN z := by
 by_cases h : ShutP n L x
 ·
  rw [take_shut h]
  exact ⟨hL, fun z hz => by cases hz⟩
 ·
  rw [take_go h]
  obtain ⟨h1, h2⟩ := pop_from (insI L x) n
  have h3 : ∀ y ∈ insI L x, okN y.2 := fun y hy => by
   rcases ins_mem.1 hy with rfl | hy
   · exact hx
   · exact hL y hy
  refine ⟨fun y hy => h3 y (h1 y hy), fun z hz => ?_⟩
  obtain ⟨y, hy, rfl⟩ := h2 z hz
  exact h3 y hy
theorem note_ok {p : Pkt} (hr : rightF p = true) (hk : p.fld 0 = 8) : okN (itP p).2 ∧ 1 ≤ (itP p).1 ∧ (itP p).1 ≤ 1073741824 := by
 have h1 := right_slot hr (s := (101, 1, 0, 16)) (by rw [hk]; decide)
 have h2 := right_slot hr (s := (103, 4, 0, 1073741824)) (by rw [hk]; decide)
 have h3 := right_slot hr (s := (102, 1, 0, 3)) (by rw [hk]; decide)
 have h4 := right_slot hr (s := (104, 1, 0, 4)) (by rw [hk]; decide)
 have h5 := right_slot hr (s := (97, 4, 1, 1073741824)) (by rw [hk]; decide)
 exact ⟨⟨h1.1, h1.2, h2.1, h2.2, h3.1, h3.2, h4.1, h4.2⟩, h5.1, h5.2⟩
theorem told_ok {c : Cl} {p : Pkt} (h : ClOk c) (hs : c.state = 3) (hr : rightF p = true) (hk : p.fld 0 = 8) : ClOk (toldC c p) := by
 have hR := right_take (x := itP p) (h.on hs).2
 have ht := take_from (n := c.next) (L := c.items) (x := itP p) h.notes (note_ok hr hk).1
 exact { h with
  on := fun _ => ⟨(h.on hs).1, hR⟩
  next := ⟨by have := hR.1; show 0 ≤ (takeF c.next c.items (itP p)).1.1; omega, hR.2.1⟩
  items := right_len hR
  notes := ht.1
  vw := bels_ok _ _ h.vw ht.2 }
theorem rep_ok {c : Cl} {p : Pkt} (h : ClOk c) (hr : rightF p = true) (hk : p.fld 0 = 11) : ClOk (repC c p) := by
 have h2 : 0 ≤ p.fld 4 ∧ p.fld 4 ≤ 15 := right_slot hr (s := (100, 1, 0, 15)) (by rw [hk]; decide)
 have h3 : 1 ≤ p.fld 2 ∧ p.fld 2 ≤ 1073741824 := right_slot hr (s := (97, 4, 1, 1073741824)) (by rw [hk]; decide)
 unfold repC
 split
 · exact h
 ·
  rename_i o l ho
  split
  ·
   rename_i h1
   unfold repC1
   split
   ·
    have z := clZ_ok h.user
    exact { z with vw := h.vw, code := h2 }
   ·
    have hl := h.os
    rw [ho] at hl
    have hs : c.state = 3 := by
     have h4 := h1.1
     unfold ownF at h4
     rw [Bool.and_eq_true] at h4
     exact (of_decide_eq_true h4.1).1
    exact { h with
     off := fun e => by have e' : c.state = 0 := e; omega
     os := by show l.length ≤ 8; rw [List.length_cons] at hl; omega
     may := fun x hx => h.may x (by rw [ho]; simp [show x ∈ l from hx])
     seq := by show 0 ≤ p.fld 2 ∧ p.fld 2 ≤ _; omega
     say := by have := h.now; show 0 ≤ c.now ∧ c.now ≤ _; omega
     code := h2 }
  · exact h
theorem dec_right {bs : List B8} (h : decE bs = 0) : rightF (decP bs) = true ∧ (decP bs).ok := by
 unfold decE at h
 by_cases h1 : decOk bs = true
 ·
  have h2 : decP bs = (decX bs).2 := if_pos h1
  unfold decOk at h1
  rw [Bool.and_eq_true] at h1
  rw [h2]
  exact ⟨h1.2, decX_ok bs⟩
 ·
  rw [if_neg h1] at h
  cases h
section
theorem s73 : (Tryz.prog.info? 73).map (·.size) = some 1 := by kernel_rfl
theorem s74 : (Tryz.prog.info? 74).map (·.size) = some 1 := by kernel_rfl
theorem s46 : (Tryz.prog.info? 46).map (·.size) = some 1 := by kernel_rfl
theorem s32 : (Tryz.prog.info? 32).map (·.size) = some 4 := by kernel_rfl
theorem z32 : (Tryz.prog.info? 32).map (·.zero) = some (some (.agg #[.int .i64 0, .int .i64 0, .int .i64 0, .int .i64 0])) := by kernel_rfl
theorem i32o : (Tryz.prog.info? 32).map (fun i => (i.zero, i.size, i.bytes)) = some (some (.agg #[.int .i64 0, .int .i64 0, .int .i64 0, .int .i64 0]), 4, 32) := by kernel_rfl
theorem fld76_0 : fldAt Tryz.prog 76 0 0 := fun b o w => by go_simp
theorem fld76_1 : fldAt Tryz.prog 76 1 1 := fun b o w => by go_simp
theorem fld76_2 : fldAt Tryz.prog 76 2 2 := fun b o w => by go_simp
theorem fld76_3 : fldAt Tryz.prog 76 3 3 := fun b o w => by go_simp
theorem fld76_4 : fldAt Tryz.prog 76 4 4 := fun b o w => by go_simp
theorem fld76_5 : fldAt Tryz.prog 76 5 5 := fun b o w => by go_simp
theorem fld76_6 : fldAt Tryz.prog 76 6 21 := fun b o w => by go_simp
theorem fld76_7 : fldAt Tryz.prog 76 7 22 := fun b o w => by go_simp
theorem fld76_8 : fldAt Tryz.prog 76 8 45 := fun b o w => by go_simp
theorem fld76_9 : fldAt Tryz.prog 76 9 46 := fun b o w => by go_simp
theorem fld76_10 : fldAt Tryz.prog 76 10 47 := fun b o w => by go_simp
theorem fld72_0 : fldAt Tryz.prog 72 0 0 := fun b o w => by go_simp
theorem fld72_1 : fldAt Tryz.prog 72 1 1 := fun b o w => by go_simp
theorem fld72_2 : fldAt Tryz.prog 72 2 17 := fun b o w => by go_simp
theorem fld72_3 : fldAt Tryz.prog 72 3 18 := fun b o w => by go_simp
theorem fld72_4 : fldAt Tryz.prog 72 4 19 := fun b o w => by go_simp
theorem fld72_5 : fldAt Tryz.prog 72 5 20 := fun b o w => by go_simp
theorem fld72_6 : fldAt Tryz.prog 72 6 21 := fun b o w => by go_simp
theorem fld32_0 : fldAt Tryz.prog 32 0 0 := fun b o w => by go_simp
theorem fld32_1 : fldAt Tryz.prog 32 1 1 := fun b o w => by go_simp
theorem fld32_2 : fldAt Tryz.prog 32 2 2 := fun b o w => by go_simp
theorem fld32_3 : fldAt Tryz.prog 32 3 3 := fun b o w => by go_simp
section
variable {P : Program} {d : Option Tmp} {tt : TypeId} {ps : String} {af : Array Edge} {a : Act} {w : World} {K : Act → World → Prop} {Q : Exit → Act → World → Prop}
theorem wpo_store_mid (ty : TypeId) (x y : Operand) (g off : Nat) (t : TypeId) (cells old : Array Value) (hx : a.eval x = .pointer (some ⟨g, off, none⟩)) (hy : a.eval y = .agg cells)
  (hg : Block w g t old) (hi : (P.info? ty).map (·.size) = some cells.size) (hold : off + cells.size ≤ old.size) (h1 : cells.all (·.oneCell') = true)
  (h : ∀ w', (∀ B, B ≤ g → Below B w w') → (∀ g', g' ≠ g → w'.heap[g']? = w.heap[g']?) → Block w' g t (setL old off cells.toList) → K (a.put d undef) w') :
  Oper.wp P ⟨d, .store ty x y, tt, ps, af, none⟩ a w K Q :=
 wpo_store1 ty x y g off t (.agg cells) old hx hy hg hi hold h1 h
theorem wpo_append_grow (t e : TypeId) (s x : Operand) (z : Value) (size bytes : Nat) (A : Option Addr) (n c : Nat) (olds : List Value) (b : Nat) (m : Nat) (news : List Value)
  (hs : a.eval s = .slice A n c) (hx : a.eval x = .slice (some ⟨b, 0, none⟩) m m)
  (ht : P.underlying t = some (.slice e)) (hi : (P.info? e).map (fun i => (i.zero, i.size, i.bytes)) = some (some z, size, bytes))
  (hzs : z.cells.size = size) (hsz : 0 < size) (hlo : olds.length = n * size) (hol : Holds w A olds) (hnil : A = none → n = 0 ∧ c = 0)
  (hl : news.length = m * size) (hr : Holds w (some ⟨b, 0, none⟩) news) (h1 : ∀ u ∈ news, u.oneCell' = true) (hful : c < n + m)
  (h63 : n + m ≤ maxLen) (hbytes : (n + m) * bytes ≤ 140737488355328)
  (h : ∀ v' w', w'.ownsRow w.heap.size e size v' (n + m) (olds ++ news) → Below w.heap.size w w' → K (a.put d v') w') :
  Oper.wp P ⟨d, .call { callee := .builtin .append, args := #[s, x], argTypes := #[t, t] }, tt, ps, af, none⟩ a w K Q := by
 cases hq : P.info? e with
 | none => simp [hq] at hi
 | some i =>
  have hi' : i.zero = some z ∧ i.size = size ∧ i.bytes = bytes := by simpa [hq] using hi
  obtain ⟨hz, hsize, hby⟩ := hi'
  have hn : ∀ j u, news[j]? = some u → w.cell? ((⟨b, 0, none⟩ : Addr).add j) = some u := fun j u hu => by
   obtain ⟨b', o', he, hc⟩ := hr j (List.getElem?_eq_some_iff.1 hu).1
   injection he with he
   rw [he, add_flat, hc, hu]
  cases A with
  | some ad =>
   have ho : ∀ j u, olds[j]? = some u → w.cell? (ad.add j) = some u := fun j u hu => by
    obtain ⟨b', o', he, hc⟩ := hol j (List.getElem?_eq_some_iff.1 hu).1
    injection he with he
    rw [he, add_flat, hc, hu]
   obtain ⟨v', w', hrun, r1, r2⟩ := run_append_arg_grows (P := P) w t tt e i z size bytes ht hq hz hsize hby hzs hsz ad n c olds hlo ho ⟨b, 0, none⟩ m m news hl hn hful h63 hbytes
   unfold Oper.wp execOp
   simp only [resolve, invoke, builtin, Sem.run_bind, Sem.run_pure, Result.andThen_ok, List.map_toArray, List.map_cons, List.map_nil, hs, hx, hrun]
   exact h v' w' r1 ⟨r2.os, r2.tape, r2.output, r2.size, fun k hk => r2.block k hk (by simp)⟩
  | none =>
   obtain ⟨rfl, rfl⟩ := hnil rfl
   obtain rfl : olds = [] := List.eq_nil_of_length_eq_zero (by simpa using hlo)
   obtain ⟨v', w', hrun, r1, r2, _⟩ := run_append_own (P := P) w w.heap.size t tt e i z size bytes ht hq hz hsize hby hzs hsz (.slice none 0 0) 0 [] (World.ownsRow_nil w _ e size) ⟨b, 0, none⟩ m m news hl hn h1 h63 hbytes (Nat.le_refl _)
   unfold Oper.wp execOp
   simp only [resolve, invoke, builtin, Sem.run_bind, Sem.run_pure, Result.andThen_ok, List.map_toArray, List.map_cons, List.map_nil, hs, hx, hrun]
   exact h v' w' r1 ⟨r2.os, r2.tape, r2.output, r2.size, fun k hk => r2.block k hk (by simp [Value.ownBlock])⟩
end
/-- what a call sends: a row of rows of bytes, all of its own memory -/
def Outs (w : World) (B : Nat) (v : Value) (L : List (List B8)) : Prop :=
 ∃ vs : List Value, vs.length = L.length ∧ w.ownsRow B 30 1 v L.length vs ∧ (∀ (i : Nat) x y, vs[i]? = some x → L[i]? = some y → BOwn w B x y) ∧ ∀ (i j : Nat) x y, vs[i]? = some x → vs[j]? = some y → i ≠ j → ∀ q, x.ownBlock = some q → y.ownBlock ≠ some q
theorem outs_nil {w : World} {B : Nat} : Outs w B (.slice none 0 0) [] := ⟨[], rfl, World.ownsRow_nil _ _ _ _, (fun i x y h => by simp at h), fun i j x y h => by simp at h⟩
theorem outs_one {w : World} {B b : Nat} {x : Value} {y : List B8} (k : Block w b 30 #[x]) (h : BOwn w B x y) (hb : B ≤ b) : Outs w B (.slice (some ⟨b, 0, none⟩) 1 1) [y] :=
 ⟨[x], rfl, own_baseB (own_one k) hb, fun i u v hu hv => by
  match i, hu, hv with
  | 0, hu, hv =>
   injection hu with hu
   injection hv with hv
   subst hu hv
   exact h, fun i j u v hu hv hij => by
  have h1 := (List.getElem?_eq_some_iff.1 hu).1
  have h2 := (List.getElem?_eq_some_iff.1 hv).1
  simp at h1 h2
  omega⟩
theorem Outs.up {w w' : World} {B : Nat} {v : Value} {L : List (List B8)} (h : Outs w B v L) (hb : Below w.heap.size w w') : Outs w' B v L := by
 obtain ⟨vs, h1, h2, h3, h4⟩ := h
 exact ⟨vs, h1, own_ups h2 hb, fun i x y hx hy => own_ups (h3 i x y hx hy) hb, h4⟩
theorem Outs.keep {w w' : World} {B : Nat} {v : Value} {L : List (List B8)} (h : Outs w B v L) (hk : ∀ q, B ≤ q → q < w.heap.size → w'.heap[q]? = w.heap[q]?) : Outs w' B v L := by
 obtain ⟨vs, h1, h2, h3, h4⟩ := h
 exact ⟨vs, h1, own_block h2 (fun q hq => hk q (World.ownsRow.lt h2 q hq).1 (World.ownsRow.lt h2 q hq).2), fun i x y hx hy => own_block (h3 i x y hx hy) (fun q hq => hk q (World.ownsRow.lt (h3 i x y hx hy) q hq).1 (World.ownsRow.lt (h3 i x y hx hy) q hq).2), h4⟩
theorem Outs.only {w w' : World} {B b : Nat} {m : Option Nat} {v : Value} {L : List (List B8)} (h : Outs w B v L) (ho : Only b m w w') (hb : b < B) (hm : ∀ q, m = some q → q < B) : Outs w' B v L :=
 h.keep fun q hq hl => ho.block q hl (by omega) (fun e => by have := hm q e.symm; omega)
theorem Outs.base {w : World} {B B' : Nat} {v : Value} {L : List (List B8)} (h : Outs w B v L) (hB : B' ≤ B) : Outs w B' v L := by
 obtain ⟨vs, h1, h2, h3, h4⟩ := h
 exact ⟨vs, h1, own_baseB h2 hB, fun i x y hx hy => own_baseB (h3 i x y hx hy) hB, h4⟩
theorem newer_any (w : World) (x y : Nt) : Calls Tryz.prog 120 #[.agg (cN x), .agg (cN y)] w fun e w' => e = .returned (.bool (newerF x y)) ∧ Below w.heap.size w w' := by
 have hall := Below.refl w.heap.size w
 refine K_enter 17 Tryz.func120 rfl rfl fun a H => ?_
 replace H := H.pick [0, 1]
 refine zC (zD ?_)
 refine op_box 49 _ #[.int .i64 x.1, .int .i64 x.2.1, .int .i64 x.2.2.1, .int .i64 x.2.2.2] (H.ev rfl) fun w0 b0 hge hb k0 => ?_; have g0 := Nat.le_trans hall.size hge; replace hall := hall.tr hb; clear hb; clear hge; refine kl H rfl fun a H => ?_
 refine op_box 49 _ #[.int .i64 y.1, .int .i64 y.2.1, .int .i64 y.2.2.1, .int .i64 y.2.2.2] (H.ev rfl) fun w1 b1 hge hb k1 => ?_; have g1 := Nat.le_trans hall.size hge; replace k0 := Block.ups k0 hb; replace hall := hall.tr hb; clear hb; clear hge; refine kl H rfl fun a H => ?_
 refine kR 1 H rfl fun a H => ?_
 refine zA (zB (zC (zD ?_)))
 refine kR 1 H rfl fun a H => ?_
 refine kV H (r_ld U3 rfl (H.ev rfl) ((Block.cell k0 0).trans rfl)) rfl fun a H => ?_
 refine kR 1 H rfl fun a H => ?_
 refine kV H (r_ld U3 rfl (H.ev rfl) ((Block.cell k1 0).trans rfl)) rfl fun a H => ?_
 by_cases hcc0 : x.1 = y.1
 ·
  refine kV H (r_eq U3 (H.ev rfl) (H.ev rfl) (dec_t (hcc0))) rfl fun a H => ?_
  refine kR 2 H rfl fun a H => ?_
  refine kW H rfl (r_ld U3 rfl (H.ev rfl) ((Block.cell k0 1).trans rfl)) rfl fun a H => ?_
  refine kR 1 H rfl fun a H => ?_
  refine kW H rfl (r_ld U3 rfl (H.ev rfl) ((Block.cell k1 1).trans rfl)) rfl fun a H => ?_
  by_cases hcc1 : x.2.1 < y.2.1
  ·
   refine kW H rfl (r_lt U3 (H.ev rfl) (H.ev rfl) (dec_t (hcc1))) rfl fun a H => ?_
   refine kR 2 H rfl fun a H => ?_
   refine zA (zB (zF ?_))
   exact k_ret1 H rfl rfl ⟨by rw [newerF, decide_eq_true (by omega)], hall⟩
  ·
   refine kW H rfl (r_lt U3 (H.ev rfl) (H.ev rfl) (dec_f (hcc1))) rfl fun a H => ?_
   refine kR 2 H rfl fun a H => ?_
   refine zA (zB (zF ?_))
   exact k_ret1 H rfl rfl ⟨by rw [newerF, decide_eq_false (by omega)], hall⟩
 ·
  refine kV H (r_eq U3 (H.ev rfl) (H.ev rfl) (dec_f (hcc0))) rfl fun a H => ?_
  refine kR 8 H rfl fun a H => ?_
  refine zA (zB (zF ?_))
  exact k_ret1 H rfl rfl ⟨by rw [newerF, decide_eq_false (by omega)], hall⟩
theorem raw_any (w : World) (p : Pkt) (hp : p.ok) : Calls Tryz.prog 81 #[.agg (pv p)] w fun e w' => (∃ v, e = .returned v ∧ Outs w' w.heap.size v (rawF p)) ∧ Below w.heap.size w w' := by
 have hall := Below.refl w.heap.size w
 refine K_enter 14 Tryz.func81 rfl rfl fun a H => ?_
 replace H := H.pick [0]
 refine zC (zD ?_)
 refine op_box 36 (.tmp 0) (pv p) (H.ev rfl) fun w0 b0 hge hb k0 => ?_; have g0 := Nat.le_trans hall.size hge; replace hall := hall.tr hb; clear hb; clear hge; refine kl H rfl fun a H => ?_
 refine kR 1 H rfl fun a H => ?_
 refine zA (zB (zC (zC ?_)))
 by_cases hR : rightF p = true
 ·
  refine zD ?_
  refine kV H (run_load_row b0 36 _ _ (H.ev rfl) k0 U36 rfl (s36p hp)) rfl fun a H => ?_
  refine wl_call _ _ _ (enc_t _ _ hp hR) (r_call1 cf107 (H.ev rfl)) ?_; rintro e w9 ⟨⟨D, A, c, hDe, rfl, hown⟩, hb⟩; refine ⟨_, rfl, ?_⟩; have hD : w.heap.size ≤ D := hDe ▸ hall.size; clear hDe; replace k0 := Block.ups k0 hb; replace hall := hall.tr hb; clear hb; refine kl H rfl fun a H => ?_
  refine kR 5 H rfl fun a H => ?_
  refine zA (zB (zC (zD ?_)))
  refine kR 1 H rfl fun a H => ?_
  refine kV H (r_eq U46 (H.ev rfl) evc (dec_t (by omega))) rfl fun a H => ?_
  refine zA (zB (zH H rfl (zC (zD ?_))))
  refine kR 1 H rfl fun a H => ?_
  refine op_litv 29 1 #[(0, .slice A (encF p).length c)] 30 #[.slice A (encF p).length c] (by simp [H.ev (j := 12) rfl]) (fun w => by kernel_rfl) fun w1 b1 hge hb k1 => ?_; have hou := outs_one k1 (own_baseB (own_ups hown hb) hD) (Nat.le_trans hall.size hge); clear hown k0 hge; replace hall := hall.tr hb; clear hb; refine kl H rfl fun a H => ?_
  refine kR 1 H rfl fun a H => ?_
  refine zA (zB (zF (zJ ?_)))
  exact k_ret1 H rfl rfl ⟨⟨_, rfl, by rw [rawF, if_pos hR]; exact hou⟩, hall⟩
 ·
  refine zD ?_
  refine kV H (run_load_row b0 36 _ _ (H.ev rfl) k0 U36 rfl (s36p hp)) rfl fun a H => ?_
  refine wl_call _ _ _ (enc_f _ _ hp hR) (r_call1 cf107 (H.ev rfl)) ?_; rintro e w9 ⟨rfl, hb⟩; refine ⟨_, rfl, ?_⟩; replace k0 := Block.ups k0 hb; replace hall := hall.tr hb; clear hb; refine kl H rfl fun a H => ?_
  refine kR 5 H rfl fun a H => ?_
  refine zA (zB (zC (zD ?_)))
  refine kR 1 H rfl fun a H => ?_
  refine kV H (r_eq U46 (H.ev rfl) evc (dec_f (by omega))) rfl fun a H => ?_
  refine zA (zB (zG H rfl (zE (zB (zC (zD ?_))))))
  refine kR 1 H rfl fun a H => ?_
  refine zA (zB (zF ?_))
  exact k_ret1 H rfl rfl ⟨⟨_, rfl, by rw [rawF, if_neg hR]; exact outs_nil⟩, hall⟩
end
section
theorem st_n1 {P : Program} {l : List Oper} {Q : Exit → Act → World → Prop} {a : Act} {w : World} {i : Nat} {K : Act → World → Prop} {d : Option Tmp} {op : Op} {tt : TypeId} {ps : String} {af : Array Edge} {j : Nat} {b : Bool} {oj : Oper} {k : Tmp} (ho : nthO l i = some ⟨d, op, tt, ps, af, some (j, b)⟩)
  (hj : nthO l j = some oj) (hd : oj.dst = some k) (hb : a.tmps.getD k undef = .bool (!b)) (h : K (a.put d undef) w) : stepA P l Q i K a w := ⟨_, ho, by rw [if_neg (by rw [wanted_some rfl hj hd hb]; simp)]; exact h⟩
theorem lit12_ok {n : List Int} {s t : List B8} (h : n.length = 12) (hs : s.length = 16) (ht : t.length = 8) (hn : ∀ x ∈ n, -9223372036854775808 ≤ x ∧ x ≤ 9223372036854775807) : (⟨n, s, t⟩ : Pkt).ok := ⟨h, hs, ht, hn⟩
theorem hello_ok {c : Cl} (h : ClOk c) : (helloP c.nonce).ok := lit12_ok rfl rfl rfl fun x hx => by
 have := h.nonce
 simp only [List.mem_cons, List.not_mem_nil, or_false] at hx
 omega
theorem conn_ok {c : Cl} (h : ClOk c) : (connP c.user c.nonce c.epoch c.ck).ok := lit12_ok rfl h.ck rfl fun x hx => by
 have := h.nonce
 have := h.user
 have := h.epoch
 simp only [List.mem_cons, List.not_mem_nil, or_false] at hx
 omega
section
variable {d : Option Tmp} {tt : TypeId} {ps : String} {af : Array Edge} {gd : Option (Nat × Bool)} {a : Act} {w : World} {x0 x1 x3 x4 x5 x6 x10 x11 x12 : Operand}
theorem r_conn {u n e : Int} {k : List B8} (hk : k.length = 16) (h3 : a.eval x3 = .int .i64 u) (h10 : a.eval x10 = .int .i64 n) (h11 : a.eval x11 = .int .i64 e) (h12 : a.eval x12 = .agg (barr k)) :
  (execOp a.eval ⟨d, .build 36 #[(0, .const (.int .i64 3)), (3, x3), (10, x10), (11, x11), (12, x12)], tt, ps, af, gd⟩).run Tryz.prog w = .ok (.value (.agg (pv (connP u n e k)))) w := by
 obtain ⟨s0, s1, s2, s3, s4, s5, s6, s7, s8, s9, s10, s11, s12, s13, s14, s15, rfl⟩ := len16 hk
 exact r_build #[(0, .int .i64 3), (3, .int .i64 u), (10, .int .i64 n), (11, .int .i64 e), (12, .agg (barr [s0, s1, s2, s3, s4, s5, s6, s7, s8, s9, s10, s11, s12, s13, s14, s15]))] _ (by simp [evc, h3, h10, h11, h12]) (fun w => by kernel_rfl)
end
set_option maxRecDepth 100000 in
theorem signedB_any (w : World) (b : Nat) (m : Option Nat) (c : Cl) (p : Pkt) (vi vo : Value) (hc : ClOk c) (k : Block w b 76 (clA c vi vo m)) (hp : p.ok) : Calls Tryz.prog 83 #[.pointer (some ⟨b, 0, none⟩), .agg (pv p)] w fun e w' => (∃ v, e = .returned v ∧ Outs w' w.heap.size v (sgnF c p)) ∧ Below w.heap.size w w' := by
 have hc1 := hc.ck
 have hc2 := hc.key
 have hall := Below.refl w.heap.size w
 refine K_enter 26 Tryz.func83 rfl rfl fun a H => ?_
 replace H := H.pick [0, 1]
 refine zC (zD ?_)
 refine op_box 36 (.tmp 1) (pv p) (H.ev rfl) fun w0 b0 hge hb k0 => ?_; have g0 := Nat.le_trans hall.size hge; have db0 : b < b0 := Nat.lt_of_lt_of_le k.lt hge; replace k := Block.ups k hb; replace hall := hall.tr hb; clear hb; clear hge; refine kl H rfl fun a H => ?_
 refine kR 1 H rfl fun a H => ?_
 refine zA (zB (zC (zD ?_)))
 refine kR 3 H rfl fun a H => ?_
 refine kV H (r_fld (q := 22) fld72_0 (H.ev rfl) rfl) rfl fun a H => ?_
 refine kV H (r_ld U3 rfl (H.ev rfl) ((show _ = some (Value.int .i64 (c.id)) from cl_id (c := c) hc1 hc2 k))) rfl fun a H => ?_
 refine kR 1 H rfl fun a H => ?_
 refine op_store1 3 (.tmp 12) (.tmp 11) b0 1 36 (.int .i64 (c.id)) _ (H.ev rfl) (H.ev rfl) k0 s3 (by rw [pv_size hp]; show 1 + 1 ≤ 36; omega) (by simp [Value.cells, Value.oneCell']) fun w' hb ho kq => ?_; clear k0; rw [pv_set hp (by omega)] at kq; have k0 := kq; replace k := block_same k (ho _ (by omega)); replace hall := hall.trans (hb _ g0); clear hb ho kq; refine kl0 H fun a H => ?_
 refine zA (zB (zC (zC ?_)))
 have hq : (p.set 1 c.id).ok := set_ok hp (by have := hc.id; omega)
 obtain ⟨q, hq0⟩ : ∃ q, p.set 1 c.id = q := ⟨_, rfl⟩
 rw [hq0] at k0 hq
 have HQ := Lib.hid hq0
 clear hq0
 have hall2 := hall
 have hS : BelowOf (BelowTo hall2) _ := Below.drew (Below.refl _ (BelowTo hall2))
 refine region_tree (BelowOf (BelowTo hall2)) 13 (.fl 0 (.fl 1 (.fl 2 (.fl 3 (.fl 4 (.fl 5 (.two 6 (.fl 7 (.fl 8 (.fl 9 (.one 10 (.one 11 (.fl 12 .done)))))) 10 (.one 6 (.fl 7 (.fl 8 (.fl 9 (.one 11 (.fl 12 .done))))))))))))) (by kernel_rfl) (by kernel_rfl) rfl (by kernel_rfl) hS ?_
 refine kQ 3 H rfl fun a H => ?_
 refine kF H rfl rfl (fun w' hS' => r_fld (q := 22 + 1) fld72_1 (H.ev rfl) rfl) rfl fun a H => ?_
 refine kF H rfl rfl (fun w' hS' => r_row (cs := (c.key).map u8v) (H.ev rfl) (cl_key (c := c) hc1 (Block.ups k hS') : World.rangeAt _ b 23 ((c.key).map u8v)) (by kernel_rfl) (by rw [List.length_map, hc2]; exact s33a) rfl) rfl fun a H => ?_
 refine kF H rfl rfl (fun w' hS' => run_load_row b0 36 _ _ (H.ev rfl) (Block.ups k0 hS') U36 rfl (s36p hq)) rfl fun a H => ?_
 refine pt_two (fun K hK => ?_) (fun K hK => ?_)
 ·
  refine st_a0 rfl ?_; refine wpo_call _ _ _ (sign_any _ c.key q hc2 hq) (r_call2 cf69 (H.ev rfl) (H.ev rfl)) ?_; rintro e w9 ⟨rfl, hb⟩; refine ⟨_, rfl, ?_⟩; replace hS := Below.trans hS (Below.mono hb (Below.size hS)); clear hb; obtain ⟨SG, hSG⟩ : ∃ SG, (if signOk q = true then signF c.key q else pk0) = SG := ⟨_, rfl⟩; have hso : SG.ok := (by rw [← hSG]; exact sgn_ok hq); rw [hSG]; have HSG := Lib.hid hSG; clear hSG; refine hK _ _ ⟨(fun _ => hS), ?_⟩; clear hK; clear K; refine kt H rfl fun a H => ?_
  refine kQ 3 H rfl fun a H => ?_
  refine pt_one (fun K hK => ?_)
  refine st_a0 rfl ?_; refine wpo_alloc 36 (pv pk0) z36 fun w1 b1 hge hb k1 => ?_; have gz1 := Nat.le_trans (Below.size hS) hge; replace hS := Below.trans hS (Below.mono hb (Below.size hS)); clear hb hge; refine hK _ _ ⟨(fun _ => hS), ?_⟩; clear hK; clear K; refine kt H rfl fun a H => ?_
  refine pt_one (fun K hK => ?_)
  refine st_a0 rfl ?_; refine wpo_store 36 (.tmp 5) (.tmp 21) b1 36 (pv SG) _ (H.ev rfl) (H.ev rfl) k1 (s36p hso) (by rw [pv_size pk0_ok, pv_size hso]) (pv_one _) fun w' hb ho kq => ?_; clear k1; have k1 := kq; replace hS := Below.trans hS (hb _ gz1); clear hb ho kq; refine hK _ _ ⟨(fun _ => hS), ?_⟩; clear hK; clear K; skip
  refine kQ 1 H rfl fun a H => ?_
  refine pt_done (NoPanic.normal ?_)
  replace k := Block.ups k hS
  replace k0 := Block.ups k0 hS
  replace hall := hall.trans (Below.mono hS hall.size)
  clear hS
  refine zB (zC ?_)
  obtain ⟨so, hs0⟩ : ∃ so, signOk q = so := ⟨_, rfl⟩
  rw [hs0] at H
  have HSO := Lib.hid hs0
  clear hs0
  cases so
  ·
   refine zD ?_
   refine kR 1 H rfl fun a H => ?_
   refine zA (zB (zG H rfl (zE (zB (zC (zD ?_))))))
   refine kR 1 H rfl fun a H => ?_
   refine zA (zB (zF ?_))
   exact k_ret1 H rfl rfl ⟨⟨_, rfl, by rw [sgnF, HQ.out, if_neg (by rw [HSO.out]; simp)]; exact outs_nil⟩, hall⟩
  ·
   have hSf : SG = signF c.key q := by rw [← HSG.out, if_pos HSO.out]
   refine zD ?_
   refine kR 1 H rfl fun a H => ?_
   refine zA (zB (zH H rfl (zC (zD ?_))))
   refine kV H (run_load_row b1 36 _ _ (H.ev rfl) k1 U36 rfl (s36p hso)) rfl fun a H => ?_
   refine wl_call _ _ _ (raw_any _ SG hso) (r_call1 cf81 (H.ev rfl)) ?_; rintro e w9 ⟨⟨v, rfl, hou⟩, hb⟩; refine ⟨_, rfl, ?_⟩; replace hou := Outs.base hou hall.size; replace k := Block.ups k hb; replace k0 := Block.ups k0 hb; replace k1 := Block.ups k1 hb; replace hall := hall.tr hb; clear hb; refine kl H rfl fun a H => ?_
   refine kR 1 H rfl fun a H => ?_
   refine zA (zB (zF (zJ ?_)))
   exact k_ret1 H rfl rfl ⟨⟨_, rfl, by rw [sgnF, HQ.out, if_pos HSO.out, ← hSf]; exact hou⟩, hall⟩
 ·
  refine st_a0 rfl ?_; refine wpo_alloc 36 (pv pk0) z36 fun w1 b1 hge hb k1 => ?_; have gz1 := Nat.le_trans (Below.size hS) hge; replace hS := Below.trans hS (Below.mono hb (Below.size hS)); clear hb hge; refine hK _ _ ⟨(fun _ => hS), ?_⟩; clear hK; clear K; refine kt H rfl fun a H => ?_
  refine pt_one (fun K hK => ?_)
  refine st_a0 rfl ?_; refine wpo_call _ _ _ (sign_any _ c.key q hc2 hq) (r_call2 cf69 (H.ev rfl) (H.ev rfl)) ?_; rintro e w9 ⟨rfl, hb⟩; refine ⟨_, rfl, ?_⟩; replace k1 := Block.ups k1 hb; replace hS := Below.trans hS (Below.mono hb (Below.size hS)); clear hb; obtain ⟨SG, hSG⟩ : ∃ SG, (if signOk q = true then signF c.key q else pk0) = SG := ⟨_, rfl⟩; have hso : SG.ok := (by rw [← hSG]; exact sgn_ok hq); rw [hSG]; have HSG := Lib.hid hSG; clear hSG; refine hK _ _ ⟨(fun _ => hS), ?_⟩; clear hK; clear K; refine kt H rfl fun a H => ?_
  refine kQ 3 H rfl fun a H => ?_
  refine pt_one (fun K hK => ?_)
  refine st_a0 rfl ?_; refine wpo_store 36 (.tmp 5) (.tmp 21) b1 36 (pv SG) _ (H.ev rfl) (H.ev rfl) k1 (s36p hso) (by rw [pv_size pk0_ok, pv_size hso]) (pv_one _) fun w' hb ho kq => ?_; clear k1; have k1 := kq; replace hS := Below.trans hS (hb _ gz1); clear hb ho kq; refine hK _ _ ⟨(fun _ => hS), ?_⟩; clear hK; clear K; skip
  refine kQ 1 H rfl fun a H => ?_
  refine pt_done (NoPanic.normal ?_)
  replace k := Block.ups k hS
  replace k0 := Block.ups k0 hS
  replace hall := hall.trans (Below.mono hS hall.size)
  clear hS
  refine zB (zC ?_)
  obtain ⟨so, hs0⟩ : ∃ so, signOk q = so := ⟨_, rfl⟩
  rw [hs0] at H
  have HSO := Lib.hid hs0
  clear hs0
  cases so
  ·
   refine zD ?_
   refine kR 1 H rfl fun a H => ?_
   refine zA (zB (zG H rfl (zE (zB (zC (zD ?_))))))
   refine kR 1 H rfl fun a H => ?_
   refine zA (zB (zF ?_))
   exact k_ret1 H rfl rfl ⟨⟨_, rfl, by rw [sgnF, HQ.out, if_neg (by rw [HSO.out]; simp)]; exact outs_nil⟩, hall⟩
  ·
   have hSf : SG = signF c.key q := by rw [← HSG.out, if_pos HSO.out]
   refine zD ?_
   refine kR 1 H rfl fun a H => ?_
   refine zA (zB (zH H rfl (zC (zD ?_))))
   refine kV H (run_load_row b1 36 _ _ (H.ev rfl) k1 U36 rfl (s36p hso)) rfl fun a H => ?_
   refine wl_call _ _ _ (raw_any _ SG hso) (r_call1 cf81 (H.ev rfl)) ?_; rintro e w9 ⟨⟨v, rfl, hou⟩, hb⟩; refine ⟨_, rfl, ?_⟩; replace hou := Outs.base hou hall.size; replace k := Block.ups k hb; replace k0 := Block.ups k0 hb; replace k1 := Block.ups k1 hb; replace hall := hall.tr hb; clear hb; refine kl H rfl fun a H => ?_
   refine kR 1 H rfl fun a H => ?_
   refine zA (zB (zF (zJ ?_)))
   exact k_ret1 H rfl rfl ⟨⟨_, rfl, by rw [sgnF, HQ.out, if_pos HSO.out, ← hSf]; exact hou⟩, hall⟩
theorem greetB_any (w : World) (b : Nat) (m : Option Nat) (c : Cl) (vi vo : Value) (hc : ClOk c) (k : Block w b 76 (clA c vi vo m)) : Calls Tryz.prog 44 #[.pointer (some ⟨b, 0, none⟩)] w fun e w' => (∃ v, e = .returned v ∧ Outs w' w.heap.size v (greetO c)) ∧ Block w' b 76 (clA (greetC c) vi vo m) ∧ Only b none w w' := by
 have hc1 := hc.ck
 have hc2 := hc.key
 have hcn := hc.now
 have hcs := hc.seq
 have hcb := hc.beats
 have hco := hc.nonce
 have hall := Only.refl b none w
 refine K_enter 17 Tryz.func44 rfl rfl fun a H => ?_
 replace H := H.pick [0]
 refine zC (zD ?_)
 refine kR 1 H rfl fun a H => ?_
 refine zA (zB (zC (zD ?_)))
 refine kR 4 H rfl fun a H => ?_
 refine kV H (r_ld U3 rfl (H.ev rfl) ((show _ = some (Value.int .i64 (c.now)) from cl_now (c := c) hc1 hc2 k))) rfl fun a H => ?_
 refine kV H (r_add (q := (c.now) + 4) U3 (H.ev rfl) evc (by omega) (by omega)) rfl fun a H => ?_
 refine kR 2 H rfl fun a H => ?_
 refine op_store1 3 (.tmp 10) (.tmp 8) b 21 76 (.int .i64 ((c.now) + 4)) _ (H.ev rfl) (H.ev rfl) k s3 (by rw [clA_size (c := c) hc1 hc2]; show 21 + 1 ≤ 48; omega) (by simp [Value.cells, Value.oneCell']) fun w' hb ho kq => ?_; clear k; rw [st_ask (c := c) hc1 hc2] at kq; have k : Block _ b 76 (clA { c with ask := ((c.now) + 4) } vi vo m) := kq; replace hall := hall.store (hb b (Nat.le_refl _)) ho; clear hb ho kq; refine kl0 H fun a H => ?_
 refine zA (zB (zC (zD ?_)))
 refine kR 3 H rfl fun a H => ?_
 refine kV H (r_ld U3 rfl (H.ev rfl) ((show _ = some (Value.int .i64 (c.nonce)) from cl_nonce (c := { c with ask := ((c.now) + 4) }) hc1 hc2 k))) rfl fun a H => ?_
 refine kV (v := .agg (pv (helloP c.nonce))) H (r_build #[(0, .int .i64 1), (10, .int .i64 (c.nonce))] (.agg (pv (helloP c.nonce))) (by simp [evc, H.ev (j := 14) rfl]) (fun w => by kernel_rfl)) rfl fun a H => ?_
 refine wl_call _ _ _ (raw_any _ (helloP c.nonce) (hello_ok hc)) (r_call1 cf81 (H.ev rfl)) ?_; rintro e w9 ⟨⟨v, rfl, hou⟩, hb⟩; refine ⟨_, rfl, ?_⟩; replace hou := Outs.base hou hall.size; replace k := Block.ups k hb; replace hall := hall.tr hb; clear hb; refine kl H rfl fun a H => ?_
 refine kR 1 H rfl fun a H => ?_
 refine zA (zB (zF ?_))
 exact k_ret1 H rfl rfl ⟨⟨_, rfl, hou⟩, k, hall⟩
set_option maxRecDepth 100000 in
theorem joinB_any (w : World) (b : Nat) (m : Option Nat) (c : Cl) (vi vo : Value) (hc : ClOk c) (k : Block w b 76 (clA c vi vo m)) : Calls Tryz.prog 45 #[.pointer (some ⟨b, 0, none⟩)] w fun e w' => (∃ v, e = .returned v ∧ Outs w' w.heap.size v (joinO c)) ∧ Block w' b 76 (clA (greetC c) vi vo m) ∧ Only b none w w' := by
 have hc1 := hc.ck
 have hc2 := hc.key
 have hcn := hc.now
 have hcs := hc.seq
 have hcb := hc.beats
 have hco := hc.nonce
 have hall := Only.refl b none w
 refine K_enter 29 Tryz.func45 rfl rfl fun a H => ?_
 replace H := H.pick [0]
 refine zC (zD ?_)
 refine kR 1 H rfl fun a H => ?_
 refine zA (zB (zC (zD ?_)))
 refine kR 4 H rfl fun a H => ?_
 refine kV H (r_ld U3 rfl (H.ev rfl) ((show _ = some (Value.int .i64 (c.now)) from cl_now (c := c) hc1 hc2 k))) rfl fun a H => ?_
 refine kV H (r_add (q := (c.now) + 4) U3 (H.ev rfl) evc (by omega) (by omega)) rfl fun a H => ?_
 refine kR 2 H rfl fun a H => ?_
 refine op_store1 3 (.tmp 10) (.tmp 8) b 21 76 (.int .i64 ((c.now) + 4)) _ (H.ev rfl) (H.ev rfl) k s3 (by rw [clA_size (c := c) hc1 hc2]; show 21 + 1 ≤ 48; omega) (by simp [Value.cells, Value.oneCell']) fun w' hb ho kq => ?_; clear k; rw [st_ask (c := c) hc1 hc2] at kq; have k : Block _ b 76 (clA { c with ask := ((c.now) + 4) } vi vo m) := kq; replace hall := hall.store (hb b (Nat.le_refl _)) ho; clear hb ho kq; refine kl0 H fun a H => ?_
 refine zA (zB (zC ?_))
 have hall2 := hall
 have hS : BelowOf (OnlyTo hall2) _ := Below.drew (Below.refl _ (OnlyTo hall2))
 refine region_tree (BelowOf (OnlyTo hall2)) 19 (.fl 0 (.fl 1 (.fl 2 (.fl 3 (.fl 4 (.fl 5 (.fl 6 (.fl 7 (.fl 8 (.fl 9 (.fl 10 (.fl 11 (.fl 12 (.fl 13 (.fl 14 (.fl 15 (.fl 16 (.one 17 (.fl 18 .done))))))))))))))))))) (by kernel_rfl) (by kernel_rfl) rfl (by kernel_rfl) hS ?_
 refine kQ 3 H rfl fun a H => ?_
 refine kF H rfl rfl (fun w' hS' => r_ld U3 rfl (H.ev rfl) ((show _ = some (Value.int .i64 (c.user)) from cl_user (c := { c with ask := ((c.now) + 4) }) hc1 hc2 (Block.ups k hS')))) rfl fun a H => ?_
 refine kQ 3 H rfl fun a H => ?_
 refine kF H rfl rfl (fun w' hS' => r_ld U3 rfl (H.ev rfl) ((show _ = some (Value.int .i64 (c.nonce)) from cl_nonce (c := { c with ask := ((c.now) + 4) }) hc1 hc2 (Block.ups k hS')))) rfl fun a H => ?_
 refine kQ 3 H rfl fun a H => ?_
 refine kF H rfl rfl (fun w' hS' => r_ld U3 rfl (H.ev rfl) ((show _ = some (Value.int .i64 (c.epoch)) from cl_epoch (c := { c with ask := ((c.now) + 4) }) hc1 hc2 (Block.ups k hS')))) rfl fun a H => ?_
 refine kQ 3 H rfl fun a H => ?_
 refine kF H rfl rfl (fun w' hS' => r_row (cs := (c.ck).map u8v) (H.ev rfl) (cl_ck (c := { c with ask := ((c.now) + 4) }) (Block.ups k hS') : World.rangeAt _ b 5 ((c.ck).map u8v)) (by kernel_rfl) (by rw [List.length_map, hc1]; exact s33a) rfl) rfl fun a H => ?_
 refine kF (v := .agg (pv (connP c.user c.nonce c.epoch c.ck))) H rfl rfl (fun w' hS' => r_conn hc1 (H.ev rfl) (H.ev rfl) (H.ev rfl) (H.ev rfl)) rfl fun a H => ?_
 refine pt_one (fun K hK => ?_)
 refine st_a0 rfl ?_; refine wpo_call _ _ _ (raw_any _ (connP c.user c.nonce c.epoch c.ck) (conn_ok hc)) (r_call1 cf81 (H.ev rfl)) ?_; rintro e w9 ⟨⟨v, rfl, hou⟩, hb⟩; refine ⟨_, rfl, ?_⟩; replace hou := Outs.base hou (Nat.le_trans hall.size (Below.size hS)); replace hS := Below.trans hS (Below.mono hb (Below.size hS)); clear hb; refine hK _ _ ⟨(fun _ => hS), ?_⟩; clear hK; clear K; refine kt H rfl fun a H => ?_
 refine kQ 1 H rfl fun a H => ?_
 refine pt_done (NoPanic.normal ?_)
 replace k := Block.ups k hS
 replace hall := hall.trans (Below.mono hS hall.size)
 clear hS
 refine zB (zF ?_)
 exact k_ret1 H rfl rfl ⟨⟨_, rfl, hou⟩, k, hall⟩
theorem time_any (w : World) (b : Nat) (m : Option Nat) (c : Cl) (n : Int) (vi vo : Value) (hc : ClOk c) (k : Block w b 76 (clA c vi vo m)) : Calls Tryz.prog 82 #[.pointer (some ⟨b, 22, none⟩), .int .i64 (n)] w fun e w' => e = .returned (.bool (decide (c.beat ≤ n))) ∧ Below w.heap.size w w' := by
 have hc1 := hc.ck
 have hc2 := hc.key
 have hall := Below.refl w.heap.size w
 refine K_enter 11 Tryz.func82 rfl rfl fun a H => ?_
 replace H := H.pick [0, 1]
 refine zC (zD ?_)
 refine kR 1 H rfl fun a H => ?_
 refine zA (zB (zC (zD ?_)))
 refine kR 3 H rfl fun a H => ?_
 refine kV H (r_fld (q := 22 + 19) fld72_4 (H.ev rfl) rfl) rfl fun a H => ?_
 refine kV H (r_ld U3 rfl (H.ev rfl) ((show _ = some (Value.int .i64 (c.beat)) from cl_beat (c := c) hc1 hc2 k))) rfl fun a H => ?_
 by_cases hcc0 : (n) ≥ (c.beat)
 ·
  refine kV H (r_ge U3 (H.ev rfl) (H.ev rfl) (dec_t (hcc0))) rfl fun a H => ?_
  refine kR 1 H rfl fun a H => ?_
  refine zA (zB (zF ?_))
  exact k_ret1 H rfl rfl ⟨by rw [decide_eq_true (by omega)], hall⟩
 ·
  refine kV H (r_ge U3 (H.ev rfl) (H.ev rfl) (dec_f (hcc0))) rfl fun a H => ?_
  refine kR 1 H rfl fun a H => ?_
  refine zA (zB (zF ?_))
  exact k_ret1 H rfl rfl ⟨by rw [decide_eq_false (by omega)], hall⟩
theorem ordr_any (w : World) (b : Nat) (m : Option Nat) (c : Cl) (n : Int) (vi vo : Value) (hc : ClOk c) (k : Block w b 76 (clA c vi vo m)) : Calls Tryz.prog 84 #[.pointer (some ⟨b, 22, none⟩), .int .i64 (n)] w fun e w' => e = .returned (.bool (decide (c.say ≤ n))) ∧ Below w.heap.size w w' := by
 have hc1 := hc.ck
 have hc2 := hc.key
 have hall := Below.refl w.heap.size w
 refine K_enter 11 Tryz.func84 rfl rfl fun a H => ?_
 replace H := H.pick [0, 1]
 refine zC (zD ?_)
 refine kR 1 H rfl fun a H => ?_
 refine zA (zB (zC (zD ?_)))
 refine kR 3 H rfl fun a H => ?_
 refine kV H (r_fld (q := 22 + 20) fld72_5 (H.ev rfl) rfl) rfl fun a H => ?_
 refine kV H (r_ld U3 rfl (H.ev rfl) ((show _ = some (Value.int .i64 (c.say)) from cl_say (c := c) hc1 hc2 k))) rfl fun a H => ?_
 by_cases hcc0 : (n) ≥ (c.say)
 ·
  refine kV H (r_ge U3 (H.ev rfl) (H.ev rfl) (dec_t (hcc0))) rfl fun a H => ?_
  refine kR 1 H rfl fun a H => ?_
  refine zA (zB (zF ?_))
  exact k_ret1 H rfl rfl ⟨by rw [decide_eq_true (by omega)], hall⟩
 ·
  refine kV H (r_ge U3 (H.ev rfl) (H.ev rfl) (dec_f (hcc0))) rfl fun a H => ?_
  refine kR 1 H rfl fun a H => ?_
  refine zA (zB (zF ?_))
  exact k_ret1 H rfl rfl ⟨by rw [decide_eq_false (by omega)], hall⟩
set_option maxRecDepth 100000 in
theorem own_any (w : World) (b : Nat) (m : Option Nat) (c : Cl) (p : Pkt) (vi vo : Value) (hc : ClOk c) (k : Block w b 76 (clA c vi vo m)) (hp : p.ok) : Calls Tryz.prog 87 #[.pointer (some ⟨b, 0, none⟩), .agg (pv p)] w fun e w' => e = .returned (.bool (ownF c p)) ∧ Below w.heap.size w w' := by
 have hc1 := hc.ck
 have hc2 := hc.key
 have hall := Below.refl w.heap.size w
 refine K_enter 29 Tryz.func87 rfl rfl fun a H => ?_
 replace H := H.pick [0, 1]
 refine zC (zD ?_)
 refine op_box 36 (.tmp 1) (pv p) (H.ev rfl) fun w0 b0 hge hb k0 => ?_; have g0 := Nat.le_trans hall.size hge; have db0 : b < b0 := Nat.lt_of_lt_of_le k.lt hge; replace k := Block.ups k hb; replace hall := hall.tr hb; clear hb; clear hge; refine kl H rfl fun a H => ?_
 refine kR 1 H rfl fun a H => ?_
 refine zA (zB (zC ?_))
 have hall1 := hall
 have hS : BelowOf (BelowTo hall1) _ := Below.drew (Below.refl _ (BelowTo hall1))
 refine region_tree (BelowOf (BelowTo hall1)) 25 (.fl 0 (.fl 1 (.fl 2 (.fl 3 (.fl 4 (.fl 5 (.fl 6 (.fl 7 (.fl 8 (.fl 9 (.fl 10 (.fl 11 (.fl 12 (.fl 13 (.fl 14 (.fl 15 (.fl 16 (.fl 17 (.fl 18 (.fl 19 (.fl 20 (.fl 21 (.one 22 (.fl 23 (.fl 24 .done))))))))))))))))))))))))) (by kernel_rfl) (by kernel_rfl) rfl (by kernel_rfl) hS ?_
 refine kQ 3 H rfl fun a H => ?_
 refine kF H rfl rfl (fun w' hS' => r_ld U3 rfl (H.ev rfl) ((show _ = some (Value.int .i64 (c.state)) from cl_state (c := c) hc1 hc2 (Block.ups k hS')))) rfl fun a H => ?_
 by_cases hcc0 : (c.state) = 3
 ·
  refine kF H rfl rfl (fun w' hS' => r_eq U3 (H.ev rfl) evc (dec_t (hcc0))) rfl fun a H => ?_
  refine kQ 2 H rfl fun a H => ?_
  refine kF H rfl rfl (fun w' hS' => r_ld U3 rfl (H.ev rfl) (pv_cell (Block.ups k0 hS') (fld_at hp (j := 1) (by omega)))) rfl fun a H => ?_
  refine kQ 3 H rfl fun a H => ?_
  refine kF H rfl rfl (fun w' hS' => r_fld (q := 22) fld72_0 (H.ev rfl) rfl) rfl fun a H => ?_
  refine kF H rfl rfl (fun w' hS' => r_ld U3 rfl (H.ev rfl) ((show _ = some (Value.int .i64 (c.id)) from cl_id (c := c) hc1 hc2 (Block.ups k hS')))) rfl fun a H => ?_
  by_cases hcc1 : (p.fld 1) = (c.id)
  ·
   refine kF H rfl rfl (fun w' hS' => r_eq U3 (H.ev rfl) (H.ev rfl) (dec_t (hcc1))) rfl fun a H => ?_
   refine kQ 5 H rfl fun a H => ?_
   refine kF H rfl rfl (fun w' hS' => r_fld (q := 22 + 1) fld72_1 (H.ev rfl) rfl) rfl fun a H => ?_
   refine kF H rfl rfl (fun w' hS' => r_row (cs := (c.key).map u8v) (H.ev rfl) (cl_key (c := c) hc1 (Block.ups k hS') : World.rangeAt _ b 23 ((c.key).map u8v)) (by kernel_rfl) (by rw [List.length_map, hc2]; exact s33a) rfl) rfl fun a H => ?_
   refine kF H rfl rfl (fun w' hS' => run_load_row b0 36 _ _ (H.ev rfl) (Block.ups k0 hS') U36 rfl (s36p hp)) rfl fun a H => ?_
   refine pt_one (fun K hK => ?_)
   refine st_a1 rfl rfl rfl (H.ev rfl) ?_; refine wpo_call _ _ _ (good_any _ c.key p hc2 hp) (r_call2 cf38 (H.ev rfl) (H.ev rfl)) ?_; rintro e w9 ⟨rfl, hb⟩; refine ⟨_, rfl, ?_⟩; replace hS := Below.trans hS (Below.mono hb (Below.size hS)); clear hb; refine hK _ _ ⟨(fun _ => hS), ?_⟩; clear hK; clear K; refine kt H rfl fun a H => ?_
   refine kQ 2 H rfl fun a H => ?_
   refine pt_done (NoPanic.normal ?_)
   replace k := Block.ups k hS
   replace k0 := Block.ups k0 hS
   replace hall := hall.trans (Below.mono hS hall.size)
   clear hS
   refine zB (zF ?_)
   exact k_ret1 H rfl rfl ⟨by rw [ownF, decide_eq_true (⟨by assumption, by assumption⟩ : c.state = 3 ∧ p.fld 1 = c.id), Bool.true_and], hall⟩
  ·
   refine kF H rfl rfl (fun w' hS' => r_eq U3 (H.ev rfl) (H.ev rfl) (dec_f (hcc1))) rfl fun a H => ?_
   refine kQ 8 H rfl fun a H => ?_
   refine pt_one (fun K hK => ?_)
   refine st_n1 rfl rfl rfl (H.ev rfl) ?_; refine hK _ _ ⟨(fun _ => hS), ?_⟩; clear hK; clear K; refine kt H rfl fun a H => ?_
   refine kQ 2 H rfl fun a H => ?_
   refine pt_done (NoPanic.normal ?_)
   replace k := Block.ups k hS
   replace k0 := Block.ups k0 hS
   replace hall := hall.trans (Below.mono hS hall.size)
   clear hS
   refine zB (zF ?_)
   exact k_ret1 H rfl rfl ⟨by rw [ownF, decide_eq_false (by omega), Bool.false_and], hall⟩
 ·
  refine kF H rfl rfl (fun w' hS' => r_eq U3 (H.ev rfl) evc (dec_f (hcc0))) rfl fun a H => ?_
  refine kQ 17 H rfl fun a H => ?_
  refine pt_one (fun K hK => ?_)
  refine st_n1 rfl rfl rfl (H.ev rfl) ?_; refine hK _ _ ⟨(fun _ => hS), ?_⟩; clear hK; clear K; refine kt H rfl fun a H => ?_
  refine kQ 2 H rfl fun a H => ?_
  refine pt_done (NoPanic.normal ?_)
  replace k := Block.ups k hS
  replace k0 := Block.ups k0 hS
  replace hall := hall.trans (Below.mono hS hall.size)
  clear hS
  refine zB (zF ?_)
  exact k_ret1 H rfl rfl ⟨by rw [ownF, decide_eq_false (by omega), Bool.false_and], hall⟩
theorem join_any [Lim] (w : World) (b : Nat) (m : Option Nat) (c : Cl) (h : ClAt w b m c) : Calls Tryz.prog 45 #[.pointer (some ⟨b, 0, none⟩)] w fun e w' => (∃ v, e = .returned v ∧ Outs w' w.heap.size v (joinO c)) ∧ ClAt w' b m (greetC c) ∧ Only b m w w' := by
 obtain ⟨hc, ⟨vi, vo, k, ⟨hri, hfi⟩, hro, hfo⟩, hmp, hmb⟩ := h
 exact (joinB_any w b m c vi vo hc k).mono fun e w' ⟨h1, h2, h3⟩ => ⟨h1, clat_next (greet_ok hc) h2 hri hfi hro hfo hmp hmb h3 rfl rfl rfl, h3.weak⟩
end
end Go.Proofs.YtbnmpoonkjlkjaaGreat
