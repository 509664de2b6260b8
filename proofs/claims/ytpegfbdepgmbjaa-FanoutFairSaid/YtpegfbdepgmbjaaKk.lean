/- Frames as facts: a walk that knows of a frame just some slots (nothing of a program in sight). -/
import Derived.Test.YtpegfbdepgmbjaaKo
import Derived.Test.YtpegfbdepgmbjaaH
namespace Go.Proofs.Ytpegfbdepgmbjaa
open Go.RowKit
set_option linter.unusedVariables false
set_option linter.unusedSimpArgs false

/-- what a list says of slot j: its first word on it -/
def lk : List (Nat × Value) → Nat → Option Value
  | [], _ => none
  | (k, v) :: l, j => match Nat.beq k j with | true => some v | false => lk l j
/-- of the frame a of n slots the list's words are true -/
structure Kn (a : Act) (n : Nat) (l : List (Nat × Value)) : Prop where
  size : a.tmps.size = n
  defers : a.defers = []
  at_ : ∀ k v, lk l k = some v → a.tmps.getD k undef = v
section
variable {a : Act} {n : Nat} {l : List (Nat × Value)}
theorem Kn.ev (h : Kn a n l) {j : Nat} {v : Value} (hj : lk l j = some v) : a.eval (.tmp j) = v := h.at_ j v hj
theorem Kn.put (h : Kn a n l) (k : Nat) (v : Value) (hk : Nat.blt k n = true) : Kn (a.put (some k) v) n ((k, v) :: l) := by
  have hk' : k < a.tmps.size := by rw [h.size]; exact Nat.le_of_ble_eq_true hk
  refine ⟨by simp [Act.put, h.size], by simp [Act.put, h.defers], fun j u hj => ?_⟩
  unfold lk at hj
  cases hb : Nat.beq k j with
  | true =>
    rw [hb] at hj
    have e : k = j := Nat.eq_of_beq_eq_true hb
    subst e
    injection hj with hj
    subst hj
    simp [Act.put, Array.getD, hk']
  | false =>
    rw [hb] at hj
    have e : k ≠ j := Nat.ne_of_beq_eq_false hb
    have := h.at_ j u hj
    rw [← this]
    simp only [Act.put, Array.getD_eq_getD_getElem?]
    rw [Array.getElem?_setIfInBounds_ne e]
theorem Kn.sub (h : Kn a n l) {l' : List (Nat × Value)} (hs : ∀ k v, lk l' k = some v → lk l k = some v) : Kn a n l' := ⟨h.size, h.defers, fun k v hk => h.at_ k v (hs k v hk)⟩
theorem Kn.nil (h : Kn a n l) : Kn a n [] := ⟨h.size, h.defers, fun k v hk => by cases hk⟩
/-- one word more, which the list said already -/
theorem Kn.add {l' : List (Nat × Value)} (h' : Kn a n l') (h : Kn a n l) {k : Nat} {v : Value} (hk : lk l k = some v) : Kn a n ((k, v) :: l') := ⟨h.size, h.defers, fun j u hj => by
  unfold lk at hj
  cases hb : Nat.beq k j with
  | true =>
    rw [hb] at hj
    have e : k = j := Nat.eq_of_beq_eq_true hb
    subst e
    injection hj with hj
    rw [← hj]
    exact h.at_ k v hk
  | false =>
    rw [hb] at hj
    exact h'.at_ j u hj⟩
end
/-- the words on some slots alone -/
def pick (l : List (Nat × Value)) : List Nat → List (Nat × Value)
  | [] => []
  | k :: ks => match lk l k with | some v => (k, v) :: pick l ks | none => pick l ks
theorem Kn.pick {a : Act} {n : Nat} {l : List (Nat × Value)} (h : Kn a n l) : ∀ ks, Kn a n (pick l ks)
  | [] => h.nil
  | k :: ks => by
    unfold Ytpegfbdepgmbjaa.pick
    split
    · rename_i v hv
      exact (Kn.pick h ks).add h hv
    · exact Kn.pick h ks
/-- the arguments of a call -/
def argsL : List Value → Nat → List (Nat × Value)
  | [], _ => []
  | v :: vs, k => (k, v) :: argsL vs (k + 1)
theorem lk_args : ∀ (vs : List Value) (k j : Nat) (v : Value), lk (argsL vs k) j = some v → k ≤ j ∧ vs[j - k]? = some v
  | [], _, _, _, h => by cases h
  | u :: vs, k, j, v, h => by
    unfold argsL lk at h
    cases hb : Nat.beq k j with
    | true =>
      rw [hb] at h
      have e : k = j := Nat.eq_of_beq_eq_true hb
      subst e
      simpa using h
    | false =>
      rw [hb] at h
      have e : k ≠ j := Nat.ne_of_beq_eq_false hb
      obtain ⟨h1, h2⟩ := lk_args vs (k + 1) j v h
      refine ⟨by omega, ?_⟩
      rw [show j - k = (j - (k + 1)) + 1 by omega, List.getElem?_cons_succ]
      exact h2
theorem Kn.args (args : Array Value) (m : Nat) : Kn { tmps := args ++ Array.replicate m undef, defers := [] } (args.size + m) (argsL args.toList 0) :=
  ⟨by simp, rfl, fun k v hk => by
    obtain ⟨_, h⟩ := lk_args _ _ _ _ hk
    rw [Nat.sub_zero] at h
    have hl : k < args.size := by simpa using (List.getElem?_eq_some_iff.1 h).1
    rw [Array.getD_eq_getD_getElem?, Array.getElem?_append_left hl]
    rw [Array.getElem?_toList] at h
    rw [h]; rfl⟩
/-- a function's body, walked -/
theorem K_enter {P : Program} {f : FuncId} {fn : Func} {c : Code} {args : Array Value} {w : World} {R : Ending → World → Prop} (n : Nat) (hf : P.funcs[f]? = some fn) (hb : fn.body = some c) (hn : args.size + (fn.ntmps - args.size) = n)
    (h : ∀ a, Kn a n (argsL args.toList 0) → c.wp P (bodyPost P fn R) a w) : Calls P f args w R :=
  calls_of_wp hf hb (h _ (hn ▸ Kn.args args _))
section
variable {P : Program} {ops : Array Oper} {rest : List Oper} {a : Act} {w : World} {Q : Exit → Act → World → Prop} {n : Nat} {l : List (Nat × Value)}
/-- behind a step the frame is some frame of which one word more is known -/
theorem kl (H : Kn a n l) {k : Nat} {v : Value} (hk : Nat.blt k n = true) (h : ∀ a', Kn a' n ((k, v) :: l) → wpList P ops Q rest a' w) : wpList P ops Q rest (a.put (some k) v) w := h _ (H.put k v hk)
theorem kl0 (H : Kn a n l) {v : Value} (h : ∀ a', Kn a' n l → wpList P ops Q rest a' w) : wpList P ops Q rest (a.put none v) w := h _ H
theorem kp {L : List Oper} {S : World → Prop} {π : List (Nat × Bool)} (H : Kn a n l) {k : Nat} {v : Value} (hk : Nat.blt k n = true) (h : ∀ a', Kn a' n ((k, v) :: l) → wpPi P L Q S π a' w) : wpPi P L Q S π (a.put (some k) v) w := h _ (H.put k v hk)
/-- the operation's guard -/
theorem kg_yes {o : Oper} {j : Nat} {b : Bool} {oj : Oper} {t : Tmp} (hg : o.guard = some (j, b)) (H : Kn a n l) (hj : nthO ops.toList j = some oj) (hd : oj.dst = some t) (hv : lk l t = some (.bool b)) : Region.wanted o (yielded ops a.tmps) = true := by
  have : Region.wanted o (yielded ops.toList.toArray a.tmps) = (b == b) := wanted_some hg hj hd (H.at_ t _ hv)
  simpa using this
theorem kg_no {o : Oper} {j : Nat} {b : Bool} {oj : Oper} {t : Tmp} (hg : o.guard = some (j, b)) (H : Kn a n l) (hj : nthO ops.toList j = some oj) (hd : oj.dst = some t) (hv : lk l t = some (.bool (!b))) : Region.wanted o (yielded ops a.tmps) = false := by
  have : Region.wanted o (yielded ops.toList.toArray a.tmps) = ((!b) == b) := wanted_some hg hj hd (H.at_ t _ hv)
  simpa using this
theorem kg_un {o : Oper} {j : Nat} {b : Bool} {oj : Oper} {t : Tmp} (hg : o.guard = some (j, b)) (H : Kn a n l) (hj : nthO ops.toList j = some oj) (hd : oj.dst = some t) (hv : lk l t = some undef) : Region.wanted o (yielded ops a.tmps) = false := by
  have hi : ops[j]? = some oj := by rw [nthO_get] at hj; simpa using hj
  have hb := H.at_ t _ hv
  simp only [Region.wanted, hg, yielded, hi, Option.bind_some, hd]
  rw [Array.getD_eq_getD_getElem?] at hb
  cases hh : a.tmps[t]? with
  | none => rfl
  | some v =>
    rw [hh] at hb
    simp only [Option.getD_some] at hb
    subst hb
    rfl
/-- from code to code -/
theorem c_next {y : Code} (h : y.wp P Q a w) : Exit.then (y.wp P Q) Q .normal a w := h
theorem n_then {K : Act → World → Prop} (h : K a w) : Exit.then K Q .normal a w := h
theorem e_then {i : Nat} {K : Act → World → Prop} (h : Q (.exit i) a w) : Exit.then K Q (.exit i) a w := h
theorem r_then {K : Act → World → Prop} (h : Q .ret a w) : Exit.then K Q .ret a w := h
theorem r_block {i : Nat} (h : Q .ret a w) : Exit.inBlock i Q .ret a w := h
theorem n_block {i : Nat} (h : Q .normal a w) : Exit.inBlock i Q .normal a w := h
theorem e_here {i : Nat} (h : Q .normal a w) : Exit.inBlock i Q (.exit i) a w := by simp only [Exit.inBlock, if_true]; exact h
theorem e_pass {i j : Nat} (hij : Nat.beq i j = false) (h : Q (.exit i) a w) : Exit.inBlock j Q (.exit i) a w := by
  simp only [Exit.inBlock]
  rw [if_neg (Nat.ne_of_beq_eq_false hij)]
  exact h
theorem c_cond_t {c : Nat} {x y : Code} (H : Kn a n l) (hc : lk l c = some (.bool true)) (h : x.wp P Q a w) : (Code.cond (.tmp c) x y).wp P Q a w := wp_cond_true (H.ev hc) h
theorem c_cond_f {c : Nat} {x y : Code} (H : Kn a n l) (hc : lk l c = some (.bool false)) (h : y.wp P Q a w) : (Code.cond (.tmp c) x y).wp P Q a w := wp_cond_false (H.ev hc) h
/-- a function's end -/
theorem k_ret1 {fn : Func} {R : Ending → World → Prop} {t : Tmp} {v : Value} (H : Kn a n l) (hf : fn.results = #[.tmp t]) (hv : lk l t = some v) (h : R (.returned v) w) : bodyPost P fn R .ret a w :=
  ⟨H.defers, v, by have := H.at_ t v hv; rw [Array.getD_eq_getD_getElem?] at this; simp only [results, hf]; simp [this], h⟩
theorem k_ret2 {fn : Func} {R : Ending → World → Prop} {t u : Tmp} {v x : Value} (H : Kn a n l) (hf : fn.results = #[.tmp t, .tmp u]) (hv : lk l t = some v) (hx : lk l u = some x) (h : R (.returned (.tuple #[v, x])) w) : bodyPost P fn R .ret a w :=
  ⟨H.defers, _, by rw [results_tmp2 hf, H.at_ t v hv, H.at_ u x hx], h⟩
end
end Go.Proofs.Ytpegfbdepgmbjaa
