/- Fanout: rows that lie elsewhere; plain laws of Next. -/
import Derived.Test.YtpegfbdepgmbjaaOs
namespace Go.Proofs.Ytpegfbdepgmbjaa
open Go.RowKit Go.ChangeShapes Go.WideShapes Go.ChangeAt Go.Maps
set_option linter.unusedVariables false
set_option linter.unusedSimpArgs false

/-- the fan's row: it reads as M, and does not lie in block b0 -/
def FRow (w : World) (b0 : Nat) (A : Option Addr) (M : List Mk) (c : Nat) : Prop := MRow w (.slice A M.length c) M ∧ ∀ b o, A = some ⟨b, o, none⟩ → M ≠ [] → b ≠ b0 ∧ b < w.heap.size
section
variable {w w' : World} {b0 c : Nat} {A : Option Addr} {M : List Mk}
theorem frow_lt (h : MRow w (.slice A M.length c) M) {b o : Nat} (e : A = some ⟨b, o, none⟩) (hne : M ≠ []) : b < w.heap.size := by
  obtain ⟨A', c', e1, _, _, _, hh⟩ := h
  injection e1 with e1 e2 e3
  subst e1
  exact Holds.lt hh e (by rw [FV_len encM_len]; have := List.length_pos_iff.2 hne; omega)
theorem frow_keep (h : MRow w (.slice A M.length c) M) (hk : ∀ b o, A = some ⟨b, o, none⟩ → M ≠ [] → w'.heap[b]? = w.heap[b]?) : MRow w' (.slice A M.length c) M := by
  obtain ⟨A', c', e, a1, a2, a3, hh⟩ := h
  injection e with e1 e2 e3
  subst e1 e3
  refine ⟨_, _, rfl, a1, a2, a3, fun j hj => ?_⟩
  obtain ⟨b, o, he, hc⟩ := hh j hj
  refine ⟨b, o, he, ?_⟩
  rw [← hc]
  unfold World.cell?
  rw [hk b o he (fun e => by subst e; simp [FV, IV] at hj)]
theorem FRow.up (h : FRow w b0 A M c) (hb : Below w.heap.size w w') : FRow w' b0 A M c := ⟨Row.up h.1 hb, fun b o e hne => ⟨(h.2 b o e hne).1, Nat.lt_of_lt_of_le (h.2 b o e hne).2 hb.size⟩⟩
theorem FRow.st {B : Nat} (h : FRow w b0 A M c) (hb : Below B w w') (ho : ∀ g, g ≠ b0 → w'.heap[g]? = w.heap[g]?) : FRow w' b0 A M c :=
  ⟨frow_keep h.1 fun b o e hne => ho b (h.2 b o e hne).1, fun b o e hne => ⟨(h.2 b o e hne).1, Nat.lt_of_lt_of_le (h.2 b o e hne).2 hb.size⟩⟩
theorem FRow.lt {b : Nat} (h : FRow w b0 A M c) (hge : w.heap.size ≤ b) : ∀ q o, A = some ⟨q, o, none⟩ → M ≠ [] → q < b := fun q o e hne => Nat.lt_of_lt_of_le (h.2 q o e hne).2 hge
theorem FRow.far {b : Nat} (h : FRow w b0 A M c) (hq : ∀ q o, A = some ⟨q, o, none⟩ → M ≠ [] → q < b) (hb : Below b w w') : FRow w' b0 A M c :=
  ⟨frow_keep h.1 fun q o e hne => hb.block q (hq q o e hne), fun b o e hne => ⟨(h.2 b o e hne).1, Nat.lt_of_lt_of_le (h.2 b o e hne).2 hb.size⟩⟩
theorem FRow.own {B : Nat} (h : MOwn w B (.slice A M.length c) M) (hB : b0 < B) : FRow w b0 A M c :=
  ⟨MOwn.row h, fun b o e hne => by
    subst e
    have := h.lt (q := b) rfl
    exact ⟨by omega, this.2⟩⟩
theorem FRow.arg {W : World} (h : MRow W (.slice A M.length c) M) (hb : Below W.heap.size W w) (hg : W.heap.size ≤ b0) : FRow w b0 A M c :=
  ⟨Row.up h hb, fun b o e hne => by
    have := frow_lt h e hne
    exact ⟨by omega, Nat.lt_of_lt_of_le this hb.size⟩⟩
end
theorem irow_at {w : World} {A : Option Addr} {c k : Nat} {R : List Int} (h : IRow w (.slice A R.length c) R) (hk : k < R.length) : ∃ b o, A = some ⟨b, o, none⟩ ∧ w.cell? ⟨b, o + k, none⟩ = some (.int .i64 R[k]) := by
  obtain ⟨A', c', e, _, _, _, hh⟩ := h
  injection e with e1 e2 e3
  subst e1
  obtain ⟨b, o, he, hc⟩ := hh k (by simpa using hk)
  exact ⟨b, o, he, by rw [hc]; simp [hk]⟩
theorem frow_at {w : World} {b0 c k : Nat} {A : Option Addr} {M : List Mk} (h : FRow w b0 A M c) (hk : k < M.length) : ∃ b o, A = some ⟨b, o, none⟩ ∧ w.rangeAt b (o + k * 2) (IV (encM M[k])) := by
  obtain ⟨A', c', e, _, _, _, hh⟩ := h.1
  injection e with e1 e2 e3
  subst e1
  obtain ⟨b, o, hA, hr⟩ := flat_some encM_len hh (by omega) hk
  exact ⟨b, o, hA, hr⟩
theorem irow_nil {w : World} : IRow w (.slice none 0 0) [] := ⟨none, 0, rfl, Nat.le_refl _, by simp [maxLen], fun _ => rfl, fun j hj => by simp at hj⟩
/-- R has no s up to place k -/
def NoI (R : List Int) (s : Int) (k : Nat) : Prop := ∀ j : Nat, j < k → R[j]? ≠ some s
theorem noi_next {R : List Int} {s x : Int} {k : Nat} (h : NoI R s k) (hx : R[k]? = some x) (hn : ¬ x = s) : NoI R s (k + 1) := by
  intro j hj
  by_cases e : j = k
  · subst e; rw [hx]; intro e; injection e with e; exact hn e
  · exact h j (by omega)
theorem noi_mem {R : List Int} {s : Int} (h : NoI R s R.length) : s ∉ R := fun hm => by
  obtain ⟨j, hj, e⟩ := List.mem_iff_getElem.1 hm
  exact h j hj (by rw [List.getElem?_eq_getElem hj, e])
/-- what Next tells, in plain words -/
theorem next_facts {M M2 : List Mk} {t tt m1 m2 : Int} {R : List Int} {b : Bool} (hx : nextF M t R = ((M2, tt), ((m1, m2), b))) :
    (b = false ∧ M2 = M ∧ tt = t ∧ m1 = 0 ∧ m2 = 0 ∧ idsF M R = []) ∨
    (b = true ∧ ∃ j : Nat, M[j]? = some (m1, m2) ∧ M2 = M.eraseIdx j ∧ tt = m1 ∧ m1 ∈ R ∧ (∀ (i : Nat) (y : Mk), i < j → M[i]? = some y → ¬ y.1 = m1) ∧ IsTurn (idsF M R) t m1) := by
  unfold nextF at hx
  by_cases he : idsF M R = []
  · rw [if_pos he] at hx
    injection hx with e1 e2
    injection e1 with e3 e4
    injection e2 with e5 e6
    injection e5 with e7 e8
    exact .inl ⟨e6.symm, e3.symm, e4.symm, e7.symm, e8.symm, he⟩
  · rw [if_neg he] at hx
    have hs := turn_spec (t := t) he
    generalize turnF (idsF M R) t = z at *
    injection hx with e1 e2
    injection e1 with e3 e4
    injection e2 with e5 e6
    obtain ⟨y, hy, hyz, hc⟩ := ids_mem hs.1
    have hp : (fun y : Mk => decide (y.1 = z)) y = true := by simpa using hyz
    have hlt : M.findIdx (fun y => decide (y.1 = z)) < M.length := List.findIdx_lt_length.2 ⟨y, hy, hp⟩
    have hat := List.findIdx_getElem (w := hlt)
    generalize hj : M.findIdx (fun y => decide (y.1 = z)) = j at *
    have hg : M[j]? = some M[j] := List.getElem?_eq_getElem hlt
    rw [List.getD_eq_getElem?_getD, hg] at e5
    simp only [Option.getD_some] at e5
    have hz : M[j].1 = z := by simpa using hat
    rw [e5] at hz hg
    simp only at hz
    subst hz
    refine .inr ⟨e6.symm, j, hg, e3.symm, e4.symm, ?_, fun i y hi hiy => ?_, hs⟩
    · simpa using hc
    · have := List.not_of_lt_findIdx (p := fun y : Mk => decide (y.1 = m1)) (xs := M) (i := i) (by omega)
      obtain ⟨hil, rfl⟩ := List.getElem?_eq_some_iff.1 hiy
      simpa using this
theorem erase_mem {M : List Mk} {j : Nat} {y : Mk} (h : y ∈ M.eraseIdx j) : y ∈ M := List.mem_of_mem_eraseIdx h
theorem keep_erase (p : Mk → Bool) : ∀ {M : List Mk} {j : Nat} {y : Mk}, M[j]? = some y → p y = false → (keepF p (M.eraseIdx j)).length + 1 = (keepF p M).length
  | [], j, y, h, _ => by cases h
  | a :: M, 0, y, h, hp => by
    have : a = y := by simpa using h
    subst this
    unfold keepF
    simp [List.filter_cons, hp]
  | a :: M, j + 1, y, h, hp => by
    rw [List.getElem?_cons_succ] at h
    have ih := keep_erase p h hp
    rw [List.eraseIdx_cons_succ]
    unfold keepF at ih ⊢
    rw [List.filter_cons, List.filter_cons]
    split
    · simp only [List.length_cons]; omega
    · exact ih
theorem erase_len {M : List Mk} {j : Nat} {y : Mk} (h : M[j]? = some y) : (M.eraseIdx j).length + 1 = M.length := by
  have := (List.getElem?_eq_some_iff.1 h).1
  rw [List.length_eraseIdx_of_lt this]
  omega
/-- one turn: who is not ready keeps its marks -/
theorem waits_step {M M2 : List Mk} {t tt m1 m2 s nd : Int} {R : List Int} {b : Bool} (hx : nextF M t R = ((M2, tt), ((m1, m2), b))) (hs : s ∉ R) (hw : ∀ y ∈ M, MWF y) (ht : -9223372036854775808 ≤ t ∧ t ≤ 9223372036854775807)
    (hnd : ((M.length : Nat) : Int) - (((keepF (fun y => decide (y.1 = s)) M).length : Nat) : Int) = nd) :
    (b = true → ¬ m1 = s) ∧ M2.length ≤ M.length ∧ (∀ y ∈ M2, MWF y) ∧ (-9223372036854775808 ≤ tt ∧ tt ≤ 9223372036854775807) ∧ ((M2.length : Nat) : Int) - (((keepF (fun y => decide (y.1 = s)) M2).length : Nat) : Int) = nd := by
  rcases next_facts hx with ⟨rfl, rfl, rfl, rfl, rfl, _⟩ | ⟨rfl, j, hj, rfl, rfl, hR, _, _⟩
  · exact ⟨fun e => (by cases e), Nat.le_refl _, hw, ht, hnd⟩
  · have hne : ¬ tt = s := fun e => hs (e ▸ hR)
    have h1 := keep_erase (fun y => decide (y.1 = s)) hj (by simpa using hne)
    have h2 := erase_len hj
    refine ⟨fun _ => hne, by omega, fun y hy => hw y (erase_mem hy), ?_, by omega⟩
    exact wf_int (hw _ (List.mem_of_getElem? hj)).1

end Go.Proofs.Ytpegfbdepgmbjaa
