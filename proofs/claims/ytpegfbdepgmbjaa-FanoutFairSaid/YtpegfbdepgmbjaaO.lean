import Derived.Test.YtpegfbdepgmbjaaL
import Derived.ProofKit
import Derived.OpenShut
import Derived.Deep.Slices
namespace Go.Proofs.Ytpegfbdepgmbjaa
open Go.ChangeShapes Go.WideShapes Go.ChangeAt Go.RowKit Go.Deep
set_option linter.unusedVariables false
set_option linter.unusedSimpArgs false

/-- a type all of whose cells are ints -/
def intTy (P : Program) : Nat → TypeId → Bool
  | 0, _ => false
  | d + 1, t => match P.underlying t with
    | some (.int .i64) => P.cellsOf t == 1
    | some (.struct fs) => fs.all (fun f => intTy P d f.type) && (List.range (P.cellsOf t)).all fun i => fs.any fun f => decide (f.offset ≤ i) && decide (i < f.offset + P.cellsOf f.type)
    | some (.array n e) => intTy P d e && decide (P.cellsOf t = n * P.cellsOf e) && decide (0 < P.cellsOf e)
    | _ => false

def IsInt (u : Value) : Prop := ∃ n, u = .int .i64 n ∧ (Lit.int .i64 n).wf = true
def WF (B : List Int) : Prop := ∀ x ∈ B, (Lit.int .i64 x).wf = true

theorem ints_of : ∀ (cs : List Value), (∀ u ∈ cs, IsInt u) → ∃ B : List Int, cs = B.map (Value.int .i64) ∧ WF B
  | [], _ => ⟨[], rfl, fun x hx => by simp at hx⟩
  | u :: cs, h => by
    obtain ⟨n, rfl, hn⟩ := h u (by simp)
    obtain ⟨B, rfl, hB⟩ := ints_of cs fun v hv => h v (by simp [hv])
    refine ⟨n :: B, rfl, fun x hx => ?_⟩
    rcases List.mem_cons.1 hx with rfl | hx
    · exact hn
    · exact hB x hx

section
variable {H : Type} {enc : TypeId × Value → H} {P : Program} {w : World} {base : Nat} {spare : Nat → Bool} {held : Bool}

theorem trod_ints : ∀ (d : Nat) (t : TypeId) (fuel : Nat) (cs : List Value) (x : DataW H × List MemPlace), intTy P d t = true → DataW.trod enc P w base spare held fuel t cs = some x → ∀ u ∈ cs, IsInt u
  | 0, _, _, _, _, h, _ => by simp [intTy] at h
  | d + 1, t, fuel, cs, x, h, ht => by
    intro u hu
    unfold intTy at h
    split at h
    · rename_i hu'
      obtain ⟨n, rfl, _, hw⟩ := DataW.trod_int hu' ht
      have : u = .int .i64 n := by simpa using hu
      exact ⟨n, this, hw⟩
    · rename_i fs hu'
      obtain ⟨xs, m, _, _, hl, hxl, hf⟩ := DataW.trod_struct hu' ht
      simp only [Bool.and_eq_true] at h
      obtain ⟨i, hi, rfl⟩ := List.getElem_of_mem hu
      have hi2 := List.all_eq_true.1 h.2 i (List.mem_range.2 (by omega))
      obtain ⟨f, hfm, hb⟩ := Array.any_eq_true'.1 hi2
      simp only [Bool.and_eq_true, decide_eq_true_eq] at hb
      obtain ⟨j, hj⟩ := Array.getElem?_of_mem hfm
      have h1 := hf j f hj
      have hjl : j < xs.length := by rw [hxl]; exact (Array.getElem?_eq_some_iff.1 hj).1
      rw [List.getElem?_eq_getElem hjl] at h1
      refine trod_ints d f.type m _ _ (Array.all_eq_true_iff_forall_mem.1 h.1 f hfm) h1 _ ?_
      refine List.mem_of_getElem? (i := i - f.offset) ?_
      rw [List.getElem?_take, if_pos (by omega), List.getElem?_drop, show f.offset + (i - f.offset) = i by omega]
      exact List.getElem?_eq_getElem hi
    · rename_i n e hu'
      obtain ⟨xs, m, _, _, hl, hxl, hf⟩ := DataW.trod_array hu' ht
      simp only [Bool.and_eq_true, decide_eq_true_eq] at h
      obtain ⟨i, hi, rfl⟩ := List.getElem_of_mem hu
      have hq : i / P.cellsOf e < n := by
        rw [Nat.div_lt_iff_lt_mul h.2]; omega
      have h1 := hf (i / P.cellsOf e) hq
      rw [List.getElem?_eq_getElem (by omega)] at h1
      refine trod_ints d e m _ _ h.1.1 h1 _ ?_
      refine List.mem_of_getElem? (i := i % P.cellsOf e) ?_
      rw [List.getElem?_take, if_pos (Nat.mod_lt _ h.2), List.getElem?_drop, Nat.mul_comm, Nat.div_add_mod]
      exact List.getElem?_eq_getElem hi
    · simp at h

/-- an aggregate of ints, by value -/
theorem open_agg_ints {r : Reach} {b0 : Nat} {t : TypeId} {v : Value} {dd : DataW H} {p : List MemPlace} (d k : Nat) (hd : intTy P d t = true)
    (hs : (match P.underlying t with | some (.struct _) | some (.array _ _) => true | _ => false) = true) (hC : P.cellsOf t = k)
    (hv : Value.okWide P w r b0 t v) (h : DataW.Trod enc P w base spare held t v dd p) : ∃ B : List Int, v = .agg (ints B) ∧ B.length = k ∧ WF B := by
  have hv' : ∃ cs, v = .agg cs ∧ cs.size = P.cellsOf t := by
    unfold Value.okWide at hv
    split at hs
    · rename_i hu
      simp only [hu] at hv
      obtain ⟨cs, h1, h2, _⟩ := hv
      exact ⟨cs, h1, h2⟩
    · rename_i hu
      simp only [hu] at hv
      obtain ⟨cs, h1, h2, _⟩ := hv
      exact ⟨cs, h1, h2⟩
    · simp at hs
  obtain ⟨cs, rfl, hsz⟩ := hv'
  obtain ⟨fuel, hf⟩ := h
  have hf' : DataW.trod enc P w base spare held fuel t cs.toList = some (dd, p) := hf
  obtain ⟨B, hB, hw⟩ := ints_of cs.toList (trod_ints d t fuel _ _ hd hf')
  refine ⟨B, ?_, ?_, hw⟩
  · unfold ints
    rw [← hB]
  · have := congrArg List.length hB
    simp at this
    omega

/-- a slice of ints or of aggregates of ints (k cells each), as it came in -/
theorem open_slice_ints {r : Reach} {b0 : Nat} {t e : TypeId} {v : Value} {dd : DataW H} {p : List MemPlace} (d k : Nat) (ht : P.underlying t = some (.slice e)) (hd : intTy P d e = true) (hC : P.cellsOf e = k) (hk : 0 < k)
    (hv : Value.okWide P w r b0 t v) (h : DataW.Trod enc P w base spare held t v dd p) :
    ∃ (A : Option Addr) (n c : Nat) (B : List Int), v = .slice A n c ∧ B.length = n * k ∧ WF B ∧ n ≤ c ∧ c ≤ maxLen ∧ Holds w A (B.map (Value.int .i64)) ∧ (A = none → c = 0) := by
  obtain ⟨A, n, c, rfl⟩ := okWide_slice ht hv
  obtain ⟨fuel, hf⟩ := h
  have hf' : DataW.trod enc P w base spare held fuel t [.slice A n c] = some (dd, p) := by simpa [Value.cells] using hf
  rcases open_slice ht hf' with ⟨hcs, _⟩ | ⟨ad, len, cap, m, n', D, Pl, hcs, hb, hl, hm, hmm, hx, hi⟩
  · simp at hcs
    obtain ⟨rfl, rfl, rfl⟩ := hcs
    exact ⟨none, 0, 0, [], rfl, by simp, fun x hx => by simp at hx, Nat.le_refl _, by simp [maxLen], fun j hj => by simp at hj, fun _ => rfl⟩
  · simp at hcs
    obtain ⟨rfl, rfl, rfl⟩ := hcs
    have hlm : n ≤ m := by rw [hmm]; split <;> omega
    rw [hC] at hi
    -- the cells of all elements
    have hcell : ∀ i, i < n → ∀ j, j < k → ∃ u, w.cell? (ad.add (i * k + j)) = some u ∧ IsInt u := by
      intro i hi' j hj
      obtain ⟨cs', hc, ht'⟩ := hi i (by omega)
      obtain ⟨_, hcl, hat⟩ := World.cells?_some hc
      have h1 := hat j (by omega)
      have hlen : cs'.length = k := hcl
      refine ⟨cs'[j]'(by omega), ?_, trod_ints d e _ _ _ hd ht' _ (List.getElem_mem _)⟩
      rw [← Go.Deep.add_add, h1]
      exact List.getElem?_eq_getElem (by omega)
    have hall : ∀ q, q < n * k → ∃ u, w.cell? (ad.add q) = some u ∧ IsInt u := by
      intro q hq
      have := hcell (q / k) (by rw [Nat.div_lt_iff_lt_mul hk]; exact hq) (q % k) (Nat.mod_lt _ hk)
      rwa [Nat.mul_comm, Nat.div_add_mod] at this
    obtain ⟨B, hB, hw⟩ := ints_of ((List.range (n * k)).map fun q => (w.cell? (ad.add q)).getD undef) (by
      intro u hu
      obtain ⟨q, hq, rfl⟩ := List.mem_map.1 hu
      obtain ⟨u, hc, hint⟩ := hall q (List.mem_range.1 hq)
      rw [hc]; exact hint)
    have hlen : B.length = n * k := by have := congrArg List.length hB; simpa using this.symm
    refine ⟨some ad, n, c, B, rfl, hlen, hw, hl, hm, fun j hj => ?_, fun e => by cases e⟩
    have hj' : j < n * k := by simpa [hlen] using hj
    obtain ⟨u, hc, _⟩ := hall j hj'
    obtain ⟨b, o, sp⟩ := ad
    have hsp : sp = none := by
      obtain ⟨u0, hc0, _⟩ := hall 0 (by omega)
      have := World.cell?_spot hc0
      simpa [Addr.add] using this
    subst hsp
    refine ⟨b, o, rfl, ?_⟩
    have hadd : (⟨b, o, none⟩ : Addr).add j = ⟨b, o + j, none⟩ := by unfold Addr.add; split <;> simp_all
    rw [hadd] at hc
    rw [hc, ← hB, List.getElem?_map, List.getElem?_range hj']
    simp [hadd, hc]
end
end Go.Proofs.Ytpegfbdepgmbjaa
