/- Rows of structs written in place: append within the room, copy, clear (nothing of a program in sight). -/
import Derived.Test.YtpegfbdepgmbjaaG
import Derived.Laws.CopyRow
import Derived.WalkSpells
namespace Go.Proofs.Ytpegfbdepgmbjaa
open Go.RowKit
set_option linter.unusedVariables false
set_option linter.unusedSimpArgs false

section
variable {P : Program} {ops : Array Oper} {rest : List Oper} {d : Option Tmp} {tt : TypeId} {ps : String} {af : Array Edge} {a : Act} {w : World} {Q : Exit → Act → World → Prop}
theorem wl_w {op : Op} (v : Value) (w' : World) (hv : (execOp a.eval ⟨d, op, tt, ps, af, none⟩).run P w = .ok (.value v) w') (h : wpList P ops Q rest (a.put d v) w') : wpList P ops Q (⟨d, op, tt, ps, af, none⟩ :: rest) a w :=
  wpList_plain rfl fun _ hK => by
    unfold Oper.wp
    rw [hv]
    exact hK _ _ h
theorem wpo_w {op : Op} {gd : Option (Nat × Bool)} {K : Act → World → Prop} (v : Value) (w' : World) (hv : (execOp a.eval ⟨d, op, tt, ps, af, gd⟩).run P w = .ok (.value v) w') (h : K (a.put d v) w') : Oper.wp P ⟨d, op, tt, ps, af, gd⟩ a w K Q := by
  unfold Oper.wp
  rw [hv]
  exact h
/-- a call of a builtin -/
theorem run_builtin {b : Builtin} {args : Array Operand} {ats : Array TypeId} {gd : Option (Nat × Bool)} {v : Value} {w w' : World} (vals : Array Value) (hb : args.map a.eval = vals) (hr : ∀ cs, (builtin b ats tt cs vals).run P w = .ok (.value v) w') :
    (execOp a.eval ⟨d, .call { callee := .builtin b, args := args, argTypes := ats }, tt, ps, af, gd⟩).run P w = .ok (.value v) w' := by
  subst hb
  unfold execOp
  simp only [resolve, invoke, Sem.run_bind, Sem.run_pure, Result.andThen_ok]
  exact hr _
theorem run_b1 {b : Builtin} {x : Operand} {ats : Array TypeId} {gd : Option (Nat × Bool)} {v : Value} {w w' : World} (vx : Value) (hx : a.eval x = vx) (hr : ∀ cs, (builtin b ats tt cs #[vx]).run P w = .ok (.value v) w') :
    (execOp a.eval ⟨d, .call { callee := .builtin b, args := #[x], argTypes := ats }, tt, ps, af, gd⟩).run P w = .ok (.value v) w' := run_builtin _ (by simp [hx]) hr
theorem run_b2 {b : Builtin} {x y : Operand} {ats : Array TypeId} {gd : Option (Nat × Bool)} {v : Value} {w w' : World} (vx vy : Value) (hx : a.eval x = vx) (hy : a.eval y = vy) (hr : ∀ cs, (builtin b ats tt cs #[vx, vy]).run P w = .ok (.value v) w') :
    (execOp a.eval ⟨d, .call { callee := .builtin b, args := #[x, y], argTypes := ats }, tt, ps, af, gd⟩).run P w = .ok (.value v) w' := run_builtin _ (by simp [hx, hy]) hr
end
section
variable {P : Program} {ats : Array TypeId} {tt : TypeId} {vals : Array Value} {v : Value} {w w' : World}
theorem b_append (h : (Builtin.append_ ats tt vals).run P w = .ok v w') (cs : Array Bool) : (builtin .append ats tt cs vals).run P w = .ok (.value v) w' := by
  simp only [builtin, Sem.run_bind, Sem.run_pure, Result.andThen_ok, h]
theorem b_copy (h : (Builtin.copy_ ats tt vals).run P w = .ok v w') (cs : Array Bool) : (builtin .copy ats tt cs vals).run P w = .ok (.value v) w' := by
  simp only [builtin, Sem.run_bind, Sem.run_pure, Result.andThen_ok, h]
theorem b_clear (h : (Builtin.clear_ ats tt vals).run P w = .ok v w') (cs : Array Bool) : (builtin .clear ats tt cs vals).run P w = .ok (.value v) w' := by
  simp only [builtin, Sem.run_bind, Sem.run_pure, Result.andThen_ok, h]
end

def spl (cur : Array Value) (o : Nat) (vs : List Value) : Array Value := (cur.toList.take o ++ vs ++ cur.toList.drop (o + vs.length)).toArray
theorem spl_size {cur : Array Value} {o : Nat} {vs : List Value} (h : o + vs.length ≤ cur.size) : (spl cur o vs).size = cur.size := by simp [spl]; omega
theorem run_append_in {P : Program} (w : World) (t ty e : TypeId) (size : Nat) (ht : P.underlying t = some (.slice e)) (hi : (P.info? e).map (·.size) = some size)
    (g sLen sCap : Nat) (cur : Array Value) (hg : Block w g e cur) (A : Option Addr) (m c : Nat) (news : List Value) (hl : news.length = m * size) (hr : Holds w A news) (hp : 0 < size) (h1 : ∀ u ∈ news, u.oneCell' = true)
    (hroom : sLen + m ≤ sCap) (hfit : sLen * size + news.length ≤ cur.size) :
    (Builtin.append_ #[t, t] ty #[.slice (some ⟨g, 0, none⟩) sLen sCap, .slice A m c]).run P w = .ok (.slice (some ⟨g, 0, none⟩) (sLen + m) sCap) (w.setRow g (spl cur (sLen * size) news)) := by
  cases hq : P.info? e with
  | none => simp [hq] at hi
  | some i =>
    have hsz : i.size = size := by simpa [hq] using hi
    subst hsz
    cases A with
    | some ad =>
      exact run_append_room w t ty e i ht hq g sLen sCap cur hg ad m c news hl (fun j u hu => by
        obtain ⟨b, o, he, hc⟩ := hr j (List.getElem?_eq_some_iff.1 hu).1
        injection he with he
        subst he
        rw [add_flat, hc, hu]) h1 hroom hfit
    | none =>
      have hn : news = [] := by
        cases news with
        | nil => rfl
        | cons x l =>
          obtain ⟨b, o, hc, _⟩ := hr 0 (by simp)
          cases hc
      subst hn
      have hm : m = 0 := by
        rcases Nat.eq_zero_or_pos m with h0 | h0
        · exact h0
        · have := Nat.mul_pos h0 hp
          simp at hl; omega
      subst hm
      have hs : spl cur (sLen * i.size) [] = cur := by simp [spl]
      rw [hs, setRow_self w g cur e (0, 0) hg]
      simp [Builtin.append_, run_underlying ht, sizeOf, typeInfo, hq, Builtin.lenOf, Builtin.firstCells, show sLen ≤ sCap by omega, storeCells]
theorem run_copy_in {P : Program} (w : World) (dT sT ty e : TypeId) (size : Nat) (ht : P.underlying dT = some (.slice e)) (hi : (P.info? e).map (·.size) = some size) (hp : 0 < size)
    (g o dLen dCap : Nat) (cur : Array Value) (hg : Block w g e cur) (A : Option Addr) (sLen sCap : Nat) (cs : List Value) (hl : cs.length = Nat.min sLen dLen * size) (hr : Holds w A cs) (h1 : ∀ u ∈ cs, u.oneCell' = true)
    (hfit : o + cs.length ≤ cur.size) :
    (Builtin.copy_ #[dT, sT] ty #[.slice (some ⟨g, o, none⟩) dLen dCap, .slice A sLen sCap]).run P w = .ok (goInt (Nat.min sLen dLen)) (w.setRow g (spl cur o cs)) := by
  cases hq : P.info? e with
  | none => simp [hq] at hi
  | some i =>
    have hsz : i.size = size := by simpa [hq] using hi
    subst hsz
    have hst := run_storeCells_at P g o e cs 0 cur w hg (by simpa using hfit) h1
    cases A with
    | some ad =>
      have hload := run_loadCells_list (P := P) w ad cs (fun j u hu => by
        obtain ⟨b, o, he, hc⟩ := hr j (List.getElem?_eq_some_iff.1 hu).1
        injection he with he
        subst he
        rw [add_flat, hc, hu])
      simp [Builtin.copy_, run_underlying ht, Builtin.lenOf, Builtin.firstCells, sizeOf, typeInfo, hq, ← hl, hload, hst, spl]
    | none =>
      have hn : cs = [] := by
        cases cs with
        | nil => rfl
        | cons x l =>
          obtain ⟨b, o, hc, _⟩ := hr 0 (by simp)
          cases hc
      subst hn
      have hs : spl cur o [] = cur := by simp [spl]
      rw [hs, setRow_self w g cur e (0, 0) hg]
      simp [Builtin.copy_, run_underlying ht, Builtin.lenOf, Builtin.firstCells, sizeOf, typeInfo, hq, storeCells]
theorem run_clear_in {P : Program} (w : World) (t ty e : TypeId) (z : Value) (ht : P.underlying t = some (.slice e)) (hz : ∀ w, (zeroValue e).run P w = .ok z w)
    (g o n cap : Nat) (cur : Array Value) (hg : Block w g e cur) (h1 : ∀ u ∈ Builtin.zeroCells z.cells n, u.oneCell' = true) (hfit : o + (Builtin.zeroCells z.cells n).size ≤ cur.size) (hn : n ≠ 0) :
    (Builtin.clear_ #[t] ty #[.slice (some ⟨g, o, none⟩) n cap]).run P w = .ok (.tuple #[]) (w.setRow g (spl cur o (Builtin.zeroCells z.cells n).toList)) := by
  have hst := run_storeCells_at P g o e (Builtin.zeroCells z.cells n).toList 0 cur w hg (by simpa using hfit) (by simpa using h1)
  obtain ⟨m, rfl⟩ : ∃ m, n = m + 1 := ⟨n - 1, by omega⟩
  simp [Builtin.clear_, run_underlying ht, hz, hst, spl]
theorem setRow_below {w : World} {B g : Nat} {cur : Array Value} (h : B ≤ g) : Below B w (w.setRow g cur) := ⟨rfl, rfl, rfl, by simp, fun k hk => setRow_other w g k _ (by omega)⟩
theorem setRow_block {w : World} {g : Nat} {t : TypeId} {cur cur' : Array Value} (h : Block w g t cur) : Block (w.setRow g cur') g t cur' := setRow_heap w g cur cur' t (0, 0) h
theorem setRow_far {w : World} {g g' : Nat} {t : TypeId} {cur cur' : Array Value} (h : Block w g' t cur) (hne : g' ≠ g) : Block (w.setRow g cur') g' t cur := (setRow_other w g g' _ hne).trans h
/-- the slice expression of three indices -/
theorem run_slice3 {P : Program} {T E : TypeId} {A : Option Addr} {n c size lo hi mx : Nat} {w : World} (hT : P.underlying T = some (.slice E)) (hs : (P.info? E).map (·.size) = some size) (h1 : lo ≤ hi) (h2 : hi ≤ mx) (h3 : mx ≤ c) :
    (Instr.slice T (.slice A n c) (some (.int .i64 lo)) (some (.int .i64 hi)) (some (.int .i64 mx))).run P w = .ok (.slice (slAt A mx lo size) (hi - lo) (mx - lo)) w := by
  cases hq : P.info? E with
  | none => simp [hq] at hs
  | some i =>
    have hsz : i.size = size := by simpa [hq] using hs
    simp [Instr.slice, Instr.sliceBounds, Instr.sliceBound, run_underlying hT, sizeOf, typeInfo, program, hq, hsz, asIntOf, h1, h2, h3, slAt, Sem.run, Sem.run_bind, Sem.run_pure, Result.andThen_ok]
theorem own_empty {w : World} {g base : Nat} {e : TypeId} {size : Nat} (h : Block w g e #[]) (hb : base ≤ g) : w.ownsRow base e size (.slice (some ⟨g, 0, none⟩) 0 0) 0 [] :=
  ⟨by simp, .inr ⟨g, 0, #[], rfl, hb, h, Nat.le_refl _, by simp [maxLen], by simp, by simp⟩⟩
def AnyW (_ : World) : Prop := True
theorem AnyW.any (w : World) : AnyW w := trivial
theorem slAt_some {g o c lo size : Nat} (h : lo ≠ c) : slAt (some ⟨g, o, none⟩) c lo size = some ⟨g, o + lo * size, none⟩ := by
  unfold slAt
  rw [if_neg (fun e => h e.symm)]
  simp [add_flat]
section
variable {P : Program} {ops : Array Oper} {rest : List Oper} {d : Option Tmp} {tt : TypeId} {ps : String} {af : Array Edge} {a : Act} {w : World} {Q : Exit → Act → World → Prop}
/-- an operation that rewrites one row -/
theorem wl_row {op : Op} (v : Value) (g : Nat) (e : TypeId) (cur cur' : Array Value) (hg : Block w g e cur) (hv : (execOp a.eval ⟨d, op, tt, ps, af, none⟩).run P w = .ok (.value v) (w.setRow g cur'))
    (h : ∀ w', Block w' g e cur' → (∀ B, B ≤ g → Below B w w') → (∀ g', g' ≠ g → w'.heap[g']? = w.heap[g']?) → wpList P ops Q rest (a.put d v) w') : wpList P ops Q (⟨d, op, tt, ps, af, none⟩ :: rest) a w :=
  wl_w v _ hv (h _ (setRow_block hg) (fun _ hB => setRow_below hB) (fun g' hne => setRow_other w g g' _ hne))
theorem wpo_row {op : Op} {gd : Option (Nat × Bool)} {K : Act → World → Prop} (v : Value) (g : Nat) (e : TypeId) (cur cur' : Array Value) (hg : Block w g e cur) (hv : (execOp a.eval ⟨d, op, tt, ps, af, gd⟩).run P w = .ok (.value v) (w.setRow g cur'))
    (h : ∀ w', Block w' g e cur' → (∀ B, B ≤ g → Below B w w') → (∀ g', g' ≠ g → w'.heap[g']? = w.heap[g']?) → K (a.put d v) w') : Oper.wp P ⟨d, op, tt, ps, af, gd⟩ a w K Q :=
  wpo_w v _ hv (h _ (setRow_block hg) (fun _ hB => setRow_below hB) (fun g' hne => setRow_other w g g' _ hne))
/-- a slice expression as an operation -/
theorem run_op_slice {T E : TypeId} (hT : P.underlying T = some (.slice E)) {x : Operand} {low high mx : Option Operand} {gd : Option (Nat × Bool)} {v : Value} (vx : Value) (vl vh vm : Option Value) (hx : a.eval x = vx) (hl : low.map a.eval = vl) (hh : high.map a.eval = vh) (hm : mx.map a.eval = vm)
    (hr : (Instr.slice T vx vl vh vm).run P w = .ok v w) : (execOp a.eval ⟨d, .slice T x low high mx, tt, ps, af, gd⟩).run P w = .ok (.value v) w := by
  subst hx hl hh hm
  unfold execOp
  simp only [Instr.sliceAt, Sem.run_bind, Sem.run_pure, Result.andThen_ok, run_underlying hT, hr]
end
theorem spl_take {cur : Array Value} {o : Nat} {vs : List Value} {t : Nat} (ht : t ≤ o) (ho : o ≤ cur.size) : (spl cur o vs).toList.take t = cur.toList.take t := by
  have : t ≤ (cur.toList.take o).length := by simp; omega
  simp only [spl]
  rw [List.append_assoc, List.take_append_of_le_length this, List.take_take, Nat.min_eq_left ht]
theorem spl_upto {cur : Array Value} {o : Nat} {vs : List Value} {t : Nat} (ht : t = o + vs.length) (ho : o ≤ cur.size) : (spl cur o vs).toList.take t = cur.toList.take o ++ vs := by
  subst ht
  have : o + vs.length = (cur.toList.take o ++ vs).length := by simp; omega
  simp only [spl]
  rw [this, List.take_left]
theorem take_le {cur : Array Value} {xs : List Value} {n j : Nat} (h : cur.toList.take n = xs) (hj : j ≤ n) : cur.toList.take j = xs.take j := by
  rw [← h, List.take_take, Nat.min_eq_left hj]
theorem slice_any {P : Program} {T E : TypeId} {A A' : Option Addr} {n c size n' c' : Nat} {w : World} (lo hi : Nat) (hT : P.underlying T = some (.slice E)) (hs : (P.info? E).map (·.size) = some size) (low high : Option Value)
    (hlo : low = none ∧ lo = 0 ∨ low = some (.int .i64 lo)) (hhi : high = none ∧ hi = n ∨ high = some (.int .i64 hi)) (h1 : lo ≤ hi) (h2 : hi ≤ c) (hA : slAt A c lo size = A') (hn : hi - lo = n') (hc : c - lo = c') :
    (Instr.slice T (.slice A n c) low high none).run P w = .ok (.slice A' n' c') w := by
  subst hA hn hc
  exact run_slice_any hT hs low high hlo hhi h1 h2
theorem append_in {P : Program} (w : World) (t ty e : TypeId) (size : Nat) (ht : P.underlying t = some (.slice e)) (hi : (P.info? e).map (·.size) = some size)
    (g sLen sCap tot : Nat) (cur : Array Value) (hg : Block w g e cur) (A : Option Addr) (m c : Nat) (news : List Value) (hl : news.length = m * size) (hr : Holds w A news) (hp : 0 < size) (h1 : ∀ u ∈ news, u.oneCell' = true)
    (htot : sLen + m = tot) (hroom : tot ≤ sCap) (hfit : sLen * size + news.length ≤ cur.size) :
    (Builtin.append_ #[t, t] ty #[.slice (some ⟨g, 0, none⟩) sLen sCap, .slice A m c]).run P w = .ok (.slice (some ⟨g, 0, none⟩) tot sCap) (w.setRow g (spl cur (sLen * size) news)) := by
  subst htot
  exact run_append_in w t ty e size ht hi g sLen sCap cur hg A m c news hl hr hp h1 hroom hfit
end Go.Proofs.Ytpegfbdepgmbjaa
