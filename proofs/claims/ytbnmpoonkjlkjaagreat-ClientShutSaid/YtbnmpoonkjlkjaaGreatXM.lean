/- Client: part M of the proof. -/
import Derived.Test.YtbnmpoonkjlkjaaGreatXL
import Derived.Deep.Slices
namespace Go.Proofs.YtbnmpoonkjlkjaaGreat
open Go.RowKit
set_option linter.unusedVariables false
set_option linter.unusedSimpArgs false
section
/-- a row of acts -/
def ARow (w : World) (v : Value) (L : List Ac) : Prop := ∃ A c, v = .slice A L.length c ∧ L.length ≤ c ∧ c ≤ maxLen ∧ ∀ (i : Nat) x, L[i]? = some x → AcOk x ∧ ∃ b o vb, A = some ⟨b, o, none⟩ ∧ BRow w vb x.b ∧ w.rangeAt b (o + i * 59) (acL x vb)
theorem range_up {w w' : World} {b o : Nat} {cs : List Value} (h : w.rangeAt b o cs) (hb : Below w.heap.size w w') : w'.rangeAt b o cs := fun j v hj => by
 have h1 := h j v hj
 have h2 := World.block_lt_of_cell? w _ h1
 rw [← h1]
 unfold World.cell?
 rw [hb.block b h2]
theorem ARow.up {w w' : World} {v : Value} {L : List Ac} (h : ARow w v L) (hb : Below w.heap.size w w') : ARow w' v L := by
 obtain ⟨A, c, h1, h2, h3, h4⟩ := h
 exact ⟨A, c, h1, h2, h3, fun i x hx => by
  obtain ⟨h5, b, o, vb, h6, h7, h8⟩ := h4 i x hx
  exact ⟨h5, b, o, vb, h6, h7.up hb, range_up h8 hb⟩⟩
theorem ARow.shape {w : World} {v : Value} {L : List Ac} (h : ARow w v L) : ∃ A c, v = .slice A L.length c := by
 obtain ⟨A, c, h1, _⟩ := h
 exact ⟨A, c, h1⟩
theorem ARow.at {w : World} {A : Option Addr} {n c i : Nat} {L : List Ac} {x : Ac} (h : ARow w (.slice A n c) L) (hx : L[i]? = some x) : AcOk x ∧ ∃ b o vb, A = some ⟨b, o, none⟩ ∧ BRow w vb x.b ∧ w.rangeAt b (o + i * 59) (acL x vb) := by
 obtain ⟨A', c', h1, h2, h3, h4⟩ := h
 injection h1 with h1
 subst h1
 exact h4 i x hx
theorem s38 : (Tryz.prog.info? 38).map (·.size) = some 59 := by kernel_rfl
theorem co38 : Tryz.prog.cellsOf 38 = 59 := by kernel_rfl
section
variable {H : Type} {enc : TypeId × Value → H} {w : World} {base : Nat} {spare : Nat → Bool} {held : Bool}
set_option maxRecDepth 100000 in
theorem open_acts {r : Reach} {b0 : Nat} {v : Value} {dd : DataW H} {p : List MemPlace} (hv : Value.okWide Tryz.prog w r b0 22 v) (h : DataW.Trod enc Tryz.prog w base spare held 22 v dd p) : ∃ L : List Ac, ARow w v L := by
 obtain ⟨A, n, c, rfl⟩ := Go.WideShapes.okWide_slice U22 hv
 obtain ⟨fuel, hf⟩ := h
 have hf' : DataW.trod enc Tryz.prog w base spare held fuel 22 [.slice A n c] = some (dd, p) := by simpa [Value.cells] using hf
 rcases Go.Deep.open_slice U22 hf' with ⟨hcs, _⟩ | ⟨ad, len, cap, m, n', D, Pl, hcs, hb, hl, hm, hmm, hx, hi⟩
 ·
  simp at hcs
  obtain ⟨rfl, rfl, rfl⟩ := hcs
  exact ⟨[], none, 0, rfl, Nat.le_refl _, by simp [maxLen], fun i x hx => by simp at hx⟩
 ·
  simp at hcs
  obtain ⟨rfl, rfl, rfl⟩ := hcs
  have hlm : n ≤ m := by rw [hmm]; split <;> omega
  rw [co38] at hi
  have hall : ∀ i, i < n → ∃ x : Ac, AcOk x ∧ ∃ b o vb, some ad = some (⟨b, o, none⟩ : Addr) ∧ BRow w vb x.b ∧ w.rangeAt b (o + i * 59) (acL x vb) := by
   intro i hi'
   obtain ⟨cs', hc, ht'⟩ := hi i (by omega)
   obtain ⟨_, hcl, hat⟩ := World.cells?_some hc
   have hlen : cs'.length = 59 := hcl
   obtain ⟨x, vb, hxo, hvb, rfl⟩ := act_of (w := w) hlen fun j u hj => trod_kind 4 38 n' cs' _ j _ u (kind38 j (by have := (List.getElem?_eq_some_iff.1 hj).1; omega)) ht' hj
   obtain ⟨b, o, sp⟩ := ad
   have hsp : sp = none := by
    obtain ⟨cs0, hc0, _⟩ := hi 0 (by omega)
    obtain ⟨_, hl0, hat0⟩ := World.cells?_some hc0
    have h1 := hat0 0 (by omega)
    rw [List.getElem?_eq_getElem (by have : cs0.length = 59 := hl0; omega)] at h1
    have := World.cell?_spot h1
    simpa [Addr.add] using this
   subst hsp
   refine ⟨x, hxo, b, o, vb, rfl, hvb, fun j u hj => ?_⟩
   have hj' : j < 59 := by rw [← hlen]; exact (List.getElem?_eq_some_iff.1 hj).1
   have h1 := hat j (by omega)
   rw [add_flat, add_flat] at h1
   rw [h1, hj]
  obtain ⟨F, hF⟩ : ∃ F : Nat → Ac, ∀ i, i < n → AcOk (F i) ∧ ∃ b o vb, some ad = some (⟨b, o, none⟩ : Addr) ∧ BRow w vb (F i).b ∧ w.rangeAt b (o + i * 59) (acL (F i) vb) := by
   refine ⟨fun i => if h : i < n then Classical.choose (hall i h) else ⟨0, 0, [], n0, pk0, []⟩, fun i hi' => ?_⟩
   simp only [dif_pos hi']
   exact Classical.choose_spec (hall i hi')
  refine ⟨(List.range n).map F, some ad, c, by simp, by simpa using hl, hm, fun i x hx => ?_⟩
  have hi' : i < n := by have := (List.getElem?_eq_some_iff.1 hx).1; simpa using this
  rw [List.getElem?_map, List.getElem?_range hi'] at hx
  obtain rfl := Option.some.inj hx
  exact hF i hi'
end
theorem encB_len {p : Pkt} (h : p.ok) : (encB p).length ≤ 1000000 := by
 unfold encB
 by_cases hr : rightF p = true
 ·
  rw [if_pos hr]
  exact Nat.le_trans (encF_len _ h) (by omega)
 ·
  rw [if_neg hr]
  exact Nat.zero_le _
theorem input_len {x : Ac} (h : AcOk x) (hb : x.b.length ≤ 100) : (inputF x).length ≤ 1000000 := by
 unfold inputF
 by_cases h1 : x.d = 1
 ·
  rw [if_pos h1]
  omega
 ·
  rw [if_neg h1]
  by_cases h6 : x.d = 6
  ·
   rw [if_pos h6]
   exact encB_len (sgn_ok h.p)
  ·
   rw [if_neg h6]
   exact encB_len h.p
def Rfw (W : World) (A : Option Addr) (c : Nat) (L : List Ac) (a : Act) (w : World) : Prop :=
 ∃ i : Nat, Kn a 24 [(0, .slice A L.length c), (3, .int .i64 (i : Nat))] ∧ i ≤ L.length ∧ i ≤ 500 ∧ (∀ j x, j < i → L[j]? = some x → x.b.length ≤ 100) ∧ Below W.heap.size W w
set_option maxRecDepth 100000 in
set_option maxHeartbeats 4000000 in
theorem few_any (w : World) (v : Value) (L : List Ac) (hr : ARow w v L) : Calls Tryz.prog 12 #[v] w fun e w' => (∃ r : Bool, e = .returned (.bool r) ∧ (r = true → L.length ≤ 200 ∧ ∀ x ∈ L, x.b.length ≤ 100)) ∧ Below w.heap.size w w' := by
 obtain ⟨A, c, hv⟩ := ARow.shape hr
 subst hv
 have hall := Below.refl w.heap.size w
 refine K_enter 24 Tryz.func12 rfl rfl fun a H => ?_
 replace H := H.pick [0]
 refine zC (zD ?_)
 refine kR 1 H rfl fun a H => ?_
 refine zA (zB (zC (zC (zD ?_))))
 refine kR 1 H rfl fun a H => ?_
 refine zA (zB ?_)
 refine wp_block ?_
 refine wp_loop (Rfw w A c L) (fun a _ => L.length - (intOf (a.eval (.tmp 3))).toNat) ⟨0, H.pick [0, 3], by omega, by omega, (fun j x hj => by omega), hall⟩ ?_
 clear H hall
 rintro a w' ⟨i, H, hi, hi5, hall0, hall⟩
 have H0 := H
 by_cases hlt : i < L.length
 ·
  by_cases h5 : i < 500
  ·
   obtain ⟨x, hx⟩ : ∃ x, L[i]? = some x := ⟨_, List.getElem?_eq_getElem hlt⟩
   obtain ⟨hxo, b, o, vb, hA, hvb, hrg⟩ := ARow.at (ARow.up hr hall) hx
   subst hA
   obtain ⟨Ab, cb, hvb1⟩ := brow_shape hvb
   subst hvb1
   refine zC (zC (zD ?_))
   refine kR 2 H rfl fun a H => ?_
   refine kV H (r_len U22 (H.ev rfl)) rfl fun a H => ?_
   refine kV H (r_lt U3 (H.ev rfl) (H.ev rfl) (dec_t (by omega))) rfl fun a H => ?_
   refine kR 2 H rfl fun a H => ?_
   refine kW H rfl (r_lt U3 (H.ev rfl) evc (dec_t (by omega))) rfl fun a H => ?_
   refine kR 1 H rfl fun a H => ?_
   refine zA (zB (zH H rfl (zE (zB (zC ?_)))))
   refine wp_block ?_
   refine zC (zD ?_)
   refine kR 2 H rfl fun a H => ?_
   refine kV (v := .pointer (some ⟨b, o + i * 59, none⟩)) H (r_idx (j := i) (q := o + i * 59) U22 s38 (H.ev rfl) (H.ev rfl) hlt rfl) rfl fun a H => ?_
   refine kV (v := .pointer (some ⟨b, o + i * 59 + 2, none⟩)) H (r_fld (q := o + i * 59 + 2) fld38_2 (H.ev rfl) rfl) rfl fun a H => ?_
   refine kV (v := .slice Ab x.b.length cb) H (r_ld U30 rfl (H.ev rfl) (range_cell hrg 2 rfl)) rfl fun a H => ?_
   refine kV H (r_len U30 (H.ev rfl)) rfl fun a H => ?_
   by_cases hcc0 : ((x.b.length : Nat) : Int) > 100
   ·
    refine kV H (r_gt U3 (H.ev rfl) evc (dec_t (hcc0))) rfl fun a H => ?_
    refine zA (zB (zH H rfl (zC (zD ?_))))
    refine kR 1 H rfl fun a H => ?_
    refine zA (zB (zF (r_block (zJ (zJ (r_block (zJ ?_)))))))
    exact k_ret1 H rfl rfl ⟨⟨false, rfl, fun h => by cases h⟩, hall⟩
   ·
    refine kV H (r_gt U3 (H.ev rfl) evc (dec_f (hcc0))) rfl fun a H => ?_
    refine zA (zB (zG H rfl (zE (n_block (zB (zD ?_))))))
    refine kR 1 H rfl fun a H => ?_
    refine kV H (r_add (q := ((i + 1 : Nat) : Int)) U3 (H.ev rfl) evc (by omega) (by omega)) rfl fun a H => ?_
    refine kR 1 H rfl fun a H => ?_
    refine zA ?_
    refine zI ⟨⟨i + 1, H.pick [0, 3], by omega, by omega, (fun j y hj hy => by
      by_cases e : j = i
      · subst e; rw [hx] at hy; obtain rfl := Option.some.inj hy; omega
      · exact hall0 j y (by omega) hy), hall⟩, ?_⟩
    rw [H.ev (j := 3) rfl, H0.ev (j := 3) rfl]
    simp only [intOf]
    omega
  ·
   refine zC (zC (zD ?_))
   refine kR 2 H rfl fun a H => ?_
   refine kV H (r_len U22 (H.ev rfl)) rfl fun a H => ?_
   refine kV H (r_lt U3 (H.ev rfl) (H.ev rfl) (dec_t (by omega))) rfl fun a H => ?_
   refine kR 2 H rfl fun a H => ?_
   refine kW H rfl (r_lt U3 (H.ev rfl) evc (dec_f (by omega))) rfl fun a H => ?_
   refine kR 1 H rfl fun a H => ?_
   refine zA (zB (zG H rfl (wp_exit (e_then (e_then ?_)))))
   refine e_here ?_
   refine zB (zC (zD ?_))
   refine kR 1 H rfl fun a H => ?_
   refine kV H (r_len U22 (H.ev rfl)) rfl fun a H => ?_
   by_cases hcc1 : ((L.length : Nat) : Int) ≤ 200
   ·
    refine kV H (r_le U3 (H.ev rfl) evc (dec_t (hcc1))) rfl fun a H => ?_
    refine kR 1 H rfl fun a H => ?_
    refine zA (zB (zF ?_))
    exact k_ret1 H rfl rfl ⟨⟨true, rfl, fun _ => ⟨by omega, fun x hx => by
     obtain ⟨j, hj⟩ := List.getElem?_of_mem hx
     exact hall0 j x (by have := (List.getElem?_eq_some_iff.1 hj).1; omega) hj⟩⟩, hall⟩
   ·
    refine kV H (r_le U3 (H.ev rfl) evc (dec_f (hcc1))) rfl fun a H => ?_
    refine kR 1 H rfl fun a H => ?_
    refine zA (zB (zF ?_))
    exact k_ret1 H rfl rfl ⟨⟨false, rfl, fun h => by cases h⟩, hall⟩
 ·
  obtain rfl : i = L.length := by omega
  refine zC (zC (zD ?_))
  refine kR 2 H rfl fun a H => ?_
  refine kV H (r_len U22 (H.ev rfl)) rfl fun a H => ?_
  refine kV H (r_lt U3 (H.ev rfl) (H.ev rfl) (dec_f (by omega))) rfl fun a H => ?_
  refine kR 4 H rfl fun a H => ?_
  refine zA (zB (zG H rfl (wp_exit (e_then (e_then ?_)))))
  refine e_here ?_
  refine zB (zC (zD ?_))
  refine kR 1 H rfl fun a H => ?_
  refine kV H (r_len U22 (H.ev rfl)) rfl fun a H => ?_
  by_cases hcc2 : ((L.length : Nat) : Int) ≤ 200
  ·
   refine kV H (r_le U3 (H.ev rfl) evc (dec_t (hcc2))) rfl fun a H => ?_
   refine kR 1 H rfl fun a H => ?_
   refine zA (zB (zF ?_))
   exact k_ret1 H rfl rfl ⟨⟨true, rfl, fun _ => ⟨by omega, fun x hx => by
    obtain ⟨j, hj⟩ := List.getElem?_of_mem hx
    exact hall0 j x (by have := (List.getElem?_eq_some_iff.1 hj).1; omega) hj⟩⟩, hall⟩
  ·
   refine kV H (r_le U3 (H.ev rfl) evc (dec_f (hcc2))) rfl fun a H => ?_
   refine kR 1 H rfl fun a H => ?_
   refine zA (zB (zF ?_))
   exact k_ret1 H rfl rfl ⟨⟨false, rfl, fun h => by cases h⟩, hall⟩
end
end Go.Proofs.YtbnmpoonkjlkjaaGreat
