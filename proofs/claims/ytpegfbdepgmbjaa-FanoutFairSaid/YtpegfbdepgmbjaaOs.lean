/- Fanout: a struct of a slice and an int, as it came in. -/
import Derived.Test.YtpegfbdepgmbjaaSm
import Derived.ChangeSame
import Derived.ChangeOld
namespace Go.Proofs.Ytpegfbdepgmbjaa
open Go.ChangeShapes Go.WideShapes Go.ChangeAt Go.RowKit Go.Deep
set_option linter.unusedVariables false
set_option linter.unusedSimpArgs false

section
variable {H : Type} {enc : TypeId × Value → H} {P : Program} {w : World} {base : Nat} {spare : Nat → Bool} {held : Bool}
theorem open_slice_trod {t e : TypeId} {v : Value} {x : DataW H × List MemPlace} {fuel : Nat} (d k : Nat) (ht : P.underlying t = some (.slice e)) (hd : intTy P d e = true) (hC : P.cellsOf e = k) (hk : 0 < k)
    (hf' : DataW.trod enc P w base spare held fuel t [v] = some x) :
    ∃ (A : Option Addr) (n c : Nat) (B : List Int), v = .slice A n c ∧ B.length = n * k ∧ WF B ∧ n ≤ c ∧ c ≤ maxLen ∧ Holds w A (B.map (Value.int .i64)) ∧ (A = none → c = 0) := by
  rcases open_slice ht hf' with ⟨hcs, _⟩ | ⟨ad, len, cap, m, n', D, Pl, hcs, hb, hl, hm, hmm, hx, hi⟩
  · simp at hcs
    subst hcs
    exact ⟨none, 0, 0, [], rfl, by simp, fun x hx => by simp at hx, Nat.le_refl _, by simp [maxLen], fun j hj => by simp at hj, fun _ => rfl⟩
  · simp at hcs
    subst hcs
    have hlm : len ≤ m := by rw [hmm]; split <;> omega
    rw [hC] at hi
    -- the cells of all elements
    have hcell : ∀ i, i < len → ∀ j, j < k → ∃ u, w.cell? (ad.add (i * k + j)) = some u ∧ IsInt u := by
      intro i hi' j hj
      obtain ⟨cs', hc, ht'⟩ := hi i (by omega)
      obtain ⟨_, hcl, hat⟩ := World.cells?_some hc
      have h1 := hat j (by omega)
      have hlen : cs'.length = k := hcl
      refine ⟨cs'[j]'(by omega), ?_, trod_ints d e _ _ _ hd ht' _ (List.getElem_mem _)⟩
      rw [← Go.Deep.add_add, h1]
      exact List.getElem?_eq_getElem (by omega)
    have hall : ∀ q, q < len * k → ∃ u, w.cell? (ad.add q) = some u ∧ IsInt u := by
      intro q hq
      have := hcell (q / k) (by rw [Nat.div_lt_iff_lt_mul hk]; exact hq) (q % k) (Nat.mod_lt _ hk)
      rwa [Nat.mul_comm, Nat.div_add_mod] at this
    obtain ⟨B, hB, hw⟩ := ints_of ((List.range (len * k)).map fun q => (w.cell? (ad.add q)).getD undef) (by
      intro u hu
      obtain ⟨q, hq, rfl⟩ := List.mem_map.1 hu
      obtain ⟨u, hc, hint⟩ := hall q (List.mem_range.1 hq)
      rw [hc]; exact hint)
    have hlen : B.length = len * k := by have := congrArg List.length hB; simpa using this.symm
    refine ⟨some ad, len, cap, B, rfl, hlen, hw, hl, hm, fun j hj => ?_, fun e => by cases e⟩
    have hj' : j < len * k := by simpa [hlen] using hj
    obtain ⟨u, hc, _⟩ := hall j hj'
    obtain ⟨b, o, sp⟩ := ad
    have hsp : sp = none := by
      obtain ⟨u0, hc0, _⟩ := hall 0 (by omega)
      have := World.cell?_spot hc0
      simpa [Addr.add] using this
    subst hsp
    refine ⟨b, o, rfl, ?_⟩
    have hadd : (⟨b, o, none⟩ : Addr).add j = ⟨b, o + j, none⟩ := by unfold Addr.add; split <;> simp_all
    rw [hadd] at hc
    rw [hc, ← hB, List.getElem?_map, List.getElem?_range hj']
    simp [hadd, hc]

/-- a struct of a slice of aggregates of ints and an int -/
theorem open_si {r : Reach} {b0 : Nat} {t ti t1 e : TypeId} {f0 f1 : Field} {v : Value} {dd : DataW H} {p : List MemPlace} (d k : Nat) (ht : P.underlying t = some (.struct #[f0, f1])) (h1 : f1.type = ti) (o1 : f1.offset = 1) (hti : P.underlying ti = some (.int .i64)) (hci : P.cellsOf ti = 1)
    (h0 : f0.type = t1) (o0 : f0.offset = 0) (hc1 : P.cellsOf t1 = 1) (hct : P.cellsOf t = 2) (ht1 : P.underlying t1 = some (.slice e)) (hd : intTy P d e = true) (hC : P.cellsOf e = k) (hk : 0 < k)
    (hv : Value.okWide P w r b0 t v) (h : DataW.Trod enc P w base spare held t v dd p) :
    ∃ (m : Int) (A : Option Addr) (n c : Nat) (B : List Int), v = .agg #[.slice A n c, .int .i64 m] ∧ (Lit.int .i64 m).wf = true ∧ B.length = n * k ∧ WF B ∧ n ≤ c ∧ c ≤ maxLen ∧ Holds w A (B.map (Value.int .i64)) ∧ (A = none → c = 0) := by
  have hv' : ∃ cs, v = .agg cs ∧ cs.size = P.cellsOf t := by
    unfold Value.okWide at hv
    simp only [ht] at hv
    obtain ⟨cs, h1, h2, _⟩ := hv
    exact ⟨cs, h1, h2⟩
  obtain ⟨cs, rfl, hsz⟩ := hv'
  obtain ⟨fuel, hf⟩ := h
  have hf' : DataW.trod enc P w base spare held fuel t cs.toList = some (dd, p) := hf
  obtain ⟨y0, y1, q, _, hl, ha, hb⟩ := trod_struct2 ht hf'
  rw [hct] at hsz
  obtain ⟨c0, c1, rfl⟩ : ∃ c0 c1, cs = #[c0, c1] := by
    obtain ⟨l⟩ := cs
    match l, hsz with
    | [a, b], _ => exact ⟨a, b, rfl⟩
  rw [h0, o0, hc1] at ha
  rw [h1, o1, hci] at hb
  simp only [List.drop_zero, List.take_succ_cons, List.take_zero, List.drop_succ_cons] at ha hb
  obtain ⟨m, e1, _, hw⟩ := DataW.trod_int hti hb
  injection e1 with e1
  subst e1
  obtain ⟨A, n, c, B, rfl, a1, a2, a3, a4, a5, a6⟩ := open_slice_trod d k ht1 hd hC hk ha
  exact ⟨m, A, n, c, B, rfl, hw, a1, a2, a3, a4, a5, a6⟩
end
theorem own : ownKnob Try.prog.godebug = none := by kernel_rfl
theorem it29 : intTy Try.prog 2 29 = true := by kernel_rfl
theorem co29 : Try.prog.cellsOf 29 = 2 := by kernel_rfl
theorem co24 : Try.prog.cellsOf 24 = 2 := by kernel_rfl
theorem co22 : Try.prog.cellsOf 22 = 1 := by kernel_rfl
theorem co3 : Try.prog.cellsOf 3 = 1 := by kernel_rfl
def decM (l : List Int) : Mk := (l.getD 0 0, l.getD 1 0)
theorem decM_enc (l : List Int) (h : l.length = 2) : encM (decM l) = l := by
  match l, h with
  | [a, b], _ => rfl
theorem wf_int {m : Int} (hw : (Lit.int .i64 m).wf = true) : -9223372036854775808 ≤ m ∧ m ≤ 9223372036854775807 := by
  have h1 : IntKind.i64.min = -9223372036854775808 := by decide
  have h2 : IntKind.i64.max = 9223372036854775807 := by decide
  simp only [Lit.wf, h1, h2, Bool.and_eq_true, decide_eq_true_eq] at hw
  exact hw
theorem mflat_wf {L : List Mk} (h : WF (flat encM L)) : ∀ y ∈ L, MWF y := by
  intro y hy
  have hs : ∀ x ∈ encM y, x ∈ flat encM L := fun x hx => by unfold flat; exact List.mem_flatMap.2 ⟨y, hy, hx⟩
  exact ⟨h _ (hs _ (by simp)), h _ (hs _ (by simp))⟩
theorem mrow_in {w : World} {A : Option Addr} {n c : Nat} {B : List Int} (hB : B.length = n * 2) (hw : WF B) (hnc : n ≤ c) (hc : c ≤ maxLen) (hh : Holds w A (B.map (Value.int .i64))) (hz : A = none → c = 0) :
    ∃ L : List Mk, MRow w (.slice A n c) L ∧ L.length = n ∧ ∀ y ∈ L, MWF y := by
  obtain ⟨L, rfl, rfl⟩ := unflat decM decM_enc n B hB
  exact ⟨L, ⟨A, c, rfl, hnc, hc, hz, hh⟩, rfl, mflat_wf hw⟩
theorem mwf_max {L : List Mk} (h : ∀ y ∈ L, MWF y) : ∀ y ∈ L, y.1 ≤ 9223372036854775807 := fun y hy => (wf_int (h y hy).1).2
end Go.Proofs.Ytpegfbdepgmbjaa
