/- Client: part M of the proof. -/
import Derived.Test.YtbnmpoonkjlkjaaGreatXL
import Derived.Deep.Slices
namespace Go.Proofs.YtbnmpoonkjlkjaaGreat
open Go.RowKit
set_option linter.unusedVariables false
set_option linter.unusedSimpArgs false
set_option maxRecDepth 100000
set_option maxHeartbeats 8000000
section
/-- a row of acts -/
def JC (w : World) (v : Value) (L : List Ac) : Prop := ∃ A c, v = .slice A L.length c ∧ L.length ≤ c ∧ c ≤ maxLen ∧ ∀ (i : Nat) x, L[i]? = some x → Nv x ∧ ∃ b o vb, A = some ⟨b, o, none⟩ ∧ B9 w vb x.b ∧ w.rangeAt b (o + i * 59) (SS x vb)
theorem FY {w w' : World} {b o : Nat} {cs : List Value} (h : w.rangeAt b o cs) (hb : Below w.heap.size w w') : w'.rangeAt b o cs := fun j v hj => by
 have h1 := h j v hj
 have h2 := World.block_lt_of_cell? w _ h1
 rw [← h1]
 unfold World.cell?
 rw [hb.block b h2]
theorem JC.up {w w' : World} {v : Value} {L : List Ac} (h : JC w v L) (hb : Below w.heap.size w w') : JC w' v L := by
 obtain ⟨A, c, h1, h2, h3, h4⟩ := h
 exact ⟨A, c, h1, h2, h3, fun i x hx => by
  obtain ⟨h5, b, o, vb, h6, h7, h8⟩ := h4 i x hx
  exact ⟨h5, b, o, vb, h6, h7.up hb, FY h8 hb⟩⟩
theorem JC.shape {w : World} {v : Value} {L : List Ac} (h : JC w v L) : ∃ A c, v = .slice A L.length c := by
 obtain ⟨A, c, h1, _⟩ := h
 exact ⟨A, c, h1⟩
theorem JC.at {w : World} {A : Option Addr} {n c i : Nat} {L : List Ac} {x : Ac} (h : JC w (.slice A n c) L) (hx : L[i]? = some x) : Nv x ∧ ∃ b o vb, A = some ⟨b, o, none⟩ ∧ B9 w vb x.b ∧ w.rangeAt b (o + i * 59) (SS x vb) := by
 obtain ⟨A', c', h1, h2, h3, h4⟩ := h
 injection h1 with h1
 subst h1
 exact h4 i x hx
theorem XW : (Tryz.prog.info? 38).map (·.size) = some 59 := by kernel_rfl
theorem sJ : Tryz.prog.cellsOf 38 = 59 := by kernel_rfl
section
variable {H : Type} {enc : TypeId × Value → H} {w : World} {base : Nat} {spare : Nat → Bool} {held : Bool}
theorem UK {r : Reach} {b0 : Nat} {v : Value} {dd : DataW H} {p : List MemPlace} (hv : Value.okWide Tryz.prog w r b0 22 v) (h : DataW.Trod enc Tryz.prog w base spare held 22 v dd p) : ∃ L : List Ac, JC w v L := by
 obtain ⟨A, n, c, rfl⟩ := Go.WideShapes.okWide_slice R6 hv
 obtain ⟨fuel, hf⟩ := h
 have hf' : DataW.trod enc Tryz.prog w base spare held fuel 22 [.slice A n c] = some (dd, p) := by simpa [Value.cells] using hf
 rcases Go.Deep.open_slice R6 hf' with ⟨Gu, _⟩ | ⟨ad, len, cap, m, n', D, Pl, Gu, hb, hl, hm, Xm, hx, hi⟩
 ·
  simp at Gu
  obtain ⟨rfl, rfl, rfl⟩ := Gu
  exact ⟨[], none, 0, R, Nat.le_refl _, by simp [maxLen], fun i x hx => by simp at hx⟩
 ·
  simp at Gu
  obtain ⟨rfl, rfl, rfl⟩ := Gu
  have hlm : n ≤ m := by rw [Xm]; split <;> omega
  rw [sJ] at hi
  have Aa : ∀ i, i < n → ∃ x : Ac, Nv x ∧ ∃ b o vb, some ad = some (⟨b, o, none⟩ : Addr) ∧ B9 w vb x.b ∧ w.rangeAt b (o + i * 59) (SS x vb) := by
   intro i Pp
   obtain ⟨cs', hc, zP⟩ := hi i (by omega)
   obtain ⟨_, Be, KA⟩ := World.cells?_some hc
   have J8 : cs'.length = 59 := Be
   obtain ⟨x, vb, YU, XZ, rfl⟩ := eX (w := w) J8 fun j u hj => KU 4 38 n' cs' _ j _ u (cT j (by have := (List.getElem?_eq_some_iff.1 hj).1; omega)) zP hj
   obtain ⟨b, o, sp⟩ := ad
   have pL : sp = none := by
    obtain ⟨cs0, hc0, _⟩ := hi 0 (by omega)
    obtain ⟨_, vC, rC⟩ := World.cells?_some hc0
    have h1 := rC 0 (by omega)
    rw [List.getElem?_eq_getElem (by have : cs0.length = 59 := vC; omega)] at h1
    have := World.cell?_spot h1
    simpa [Addr.add] using this
   subst pL
   refine ⟨x, YU, b, o, vb, R, XZ, fun j u hj => ?_⟩
   have LS : j < 59 := by rw [← J8]; exact (List.getElem?_eq_some_iff.1 hj).1
   have h1 := KA j (by omega)
   rw [CT, CT] at h1
   rw [h1, hj]
  obtain ⟨F, hF⟩ : ∃ F : Nat → Ac, ∀ i, i < n → Nv (F i) ∧ ∃ b o vb, some ad = some (⟨b, o, none⟩ : Addr) ∧ B9 w vb (F i).b ∧ w.rangeAt b (o + i * 59) (SS (F i) vb) := by
   refine ⟨fun i => if h : i < n then Classical.choose (Aa i h) else ⟨0, 0, [], n0, Ec, []⟩, fun i Pp => ?_⟩
   simp only [dif_pos Pp]
   exact Classical.choose_spec (Aa i Pp)
  refine ⟨(List.range n).map F, some ad, c, by simp, by simpa using hl, hm, fun i x hx => ?_⟩
  have Pp : i < n := by have := (List.getElem?_eq_some_iff.1 hx).1; simpa using this
  rw [List.getElem?_map, List.getElem?_range Pp] at hx
  obtain rfl := Option.some.inj hx
  exact hF i Pp
end
theorem Rl {p : AZ} (h : p.ok) : (Rm p).length ≤ 1000000 := by
 unfold Rm
 by_cases hr : Bg p = true
 ·
  rw [if_pos hr]
  exact Nat.le_trans (E7 _ h) (by omega)
 ·
  rw [if_neg hr]
  exact Nat.zero_le _
theorem Oj {x : Ac} (h : Nv x) (hb : x.b.length ≤ 100) : (Fw x).length ≤ 1000000 := by
 unfold Fw
 by_cases h1 : x.d = 1
 ·
  rw [if_pos h1]
  omega
 ·
  rw [if_neg h1]
  by_cases h6 : x.d = 6
  ·
   rw [if_pos h6]
   exact Rl (F6 h.p)
  ·
   rw [if_neg h6]
   exact Rl h.p
def Rfw (W : World) (A : Option Addr) (c : Nat) (L : List Ac) (a : Act) (w : World) : Prop :=
 ∃ i : Nat, Kn a 24 [(0, .slice A L.length c), (3, J (i : Nat))] ∧ i ≤ L.length ∧ i ≤ 500 ∧ (∀ j x, j < i → L[j]? = some x → x.b.length ≤ 100) ∧ Below W.heap.size W w
theorem Zp (w : World) (v : Value) (L : List Ac) (hr : JC w v L) : Calls Tryz.prog 12 #[v] w fun e w' => (∃ r : Bool, e = .returned (.bool r) ∧ (r = true → L.length ≤ 200 ∧ ∀ x ∈ L, x.b.length ≤ 100)) ∧ Below w.heap.size w w' := by
 obtain ⟨A, c, hv⟩ := JC.shape hr
 subst hv
 have Aa := Below.refl w.heap.size w
 refine Az 24 Tryz.func12 R R λ a H => zC (zD (kR 1 H R λ a H => zA (zB (zC (zC (zD (kR 1 H R λ a H => zA (zB (wp_block (wp_loop (Rfw w A c L) (fun a _ => L.length - (intOf (a.eval (.tmp 3))).toNat) ⟨0, H.pick [0, 3], by omega, by omega, (fun j x hj => by omega), Aa⟩ ?_))))))))))
 clear H Aa
 rintro a w' ⟨i, H, hi, hi5, I4, Aa⟩
 have H0 := H
 by_cases CM : i < L.length
 ·
  by_cases h5 : i < 500
  ·
   obtain ⟨x, hx⟩ : ∃ x, L[i]? = some x := ⟨_, List.getElem?_eq_getElem CM⟩
   obtain ⟨YU, b, o, vb, hA, XZ, KO⟩ := JC.at (JC.up hr Aa) hx
   subst hA
   obtain ⟨Ab, cb, pK⟩ := ER XZ
   subst pK
   refine zC (zC (zD (kR 2 H R λ a H => kV H (Ba R6 (H.e R)) R λ a H => kX 2 H (By U3 (H.e R) (H.e R) dT) R λ a H => kY 1 H R (By U3 (H.e R) Am dT) R λ a H => zA (zB (zH H R (zE (zB (zC (wp_block (zC (zD (kR 2 H R λ a H => kV (v := .pointer (some ⟨b, o + i * 59, none⟩)) H (Bq (j := i) (q := o + i * 59) R6 XW (H.e R) (H.e R) CM R) R λ a H => kV (v := .pointer (some ⟨b, o + i * 59 + 2, none⟩)) H (Br (q := o + i * 59 + 2) Zm (H.e R) R) R λ a H => kV (v := .slice Ab x.b.length cb) H (Ai CO R (H.e R) (Bo KO 2 R)) R λ a H => kV H (Ba CO (H.e R)) R λ a H => ?_))))))))))))
   by_cases BE : ((x.b.length : Nat) : Int) > 100
   ·
    exact kV H (CU U3 (H.e R) Am (AE (BE))) R λ a H => zA (zB (zH H R (zC (zD (kR 1 H R λ a H => zA (zB (zF (AS (zJ (zJ (AS (zJ (Ag H R R ⟨⟨false, R, fun h => by cases h⟩, Aa⟩)))))))))))))
   ·
    refine kV H (CU U3 (H.e R) Am (AF (BE))) R λ a H => zA (zB (zG H R (zE (AC (zB (zD (kR 1 H R λ a H => kX 1 H (Bm (q := ((i + 1 : Nat) : Int)) U3 (H.e R) Am) R λ a H => zA ?_)))))))
    refine zI ⟨⟨i + 1, H.pick [0, 3], by omega, by omega, (fun j y hj hy => by
      by_cases e : j = i
      · subst e; rw [hx] at hy; obtain rfl := Option.some.inj hy; omega
      · exact I4 j y (by omega) hy), Aa⟩, ?_⟩
    rw [H.ev (j := 3) rfl, H0.ev (j := 3) rfl]
    simp only [intOf]
    omega
  ·
   refine zC (zC (zD (kR 2 H R λ a H => kV H (Ba R6 (H.e R)) R λ a H => kX 2 H (By U3 (H.e R) (H.e R) dT) R λ a H => kY 1 H R (By U3 (H.e R) Am dF) R λ a H => zA (zB (zG H R (wp_exit (AJ (AJ (BD (zB (zC (zD (kR 1 H R λ a H => kV H (Ba R6 (H.e R)) R λ a H => ?_)))))))))))))
   by_cases Cn : ((L.length : Nat) : Int) ≤ 200
   ·
    refine kX 1 H (Fv U3 (H.e R) Am (AE (Cn))) R λ a H => zA (zB (zF ?_))
    exact Ag H R R ⟨⟨true, R, fun _ => ⟨by omega, fun x hx => by
     obtain ⟨j, hj⟩ := List.getElem?_of_mem hx
     exact I4 j x (by have := (List.getElem?_eq_some_iff.1 hj).1; omega) hj⟩⟩, Aa⟩
   ·
    exact kX 1 H (Fv U3 (H.e R) Am (AF (Cn))) R λ a H => zA (zB (zF (Ag H R R ⟨⟨false, R, fun h => by cases h⟩, Aa⟩)))
 ·
  obtain rfl : i = L.length := by omega
  refine zC (zC (zD (kR 2 H R λ a H => kV H (Ba R6 (H.e R)) R λ a H => kX 4 H (By U3 (H.e R) (H.e R) dF) R λ a H => zA (zB (zG H R (wp_exit (AJ (AJ (BD (zB (zC (zD (kR 1 H R λ a H => kV H (Ba R6 (H.e R)) R λ a H => ?_)))))))))))))
  by_cases CP : ((L.length : Nat) : Int) ≤ 200
  ·
   refine kX 1 H (Fv U3 (H.e R) Am (AE (CP))) R λ a H => zA (zB (zF ?_))
   exact Ag H R R ⟨⟨true, R, fun _ => ⟨by omega, fun x hx => by
    obtain ⟨j, hj⟩ := List.getElem?_of_mem hx
    exact I4 j x (by have := (List.getElem?_eq_some_iff.1 hj).1; omega) hj⟩⟩, Aa⟩
  ·
   exact kX 1 H (Fv U3 (H.e R) Am (AF (CP))) R λ a H => zA (zB (zF (Ag H R R ⟨⟨false, R, fun h => by cases h⟩, Aa⟩)))
end
end Go.Proofs.YtbnmpoonkjlkjaaGreat
